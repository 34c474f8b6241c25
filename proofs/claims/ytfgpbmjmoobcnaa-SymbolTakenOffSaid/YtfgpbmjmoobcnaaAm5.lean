/- SymbolTakenOff returns true for every input and never panics: layers to which a matrix is applied, equalized by it, are what they were, times the gain; applying a product is applying both; the determinant of a product is the product of both; conditions: none beyond the given statement. -/
import Derived.Test.YtfgpbmjmoobcnaaRows
import Derived.ProofKit
import Derived.Test.YtfgpbmjmoobcnaaAm4
set_option linter.all false
section
open Go Go.Am
open Go.Am.Dat (cells)
namespace Go.Proofs.Ytfgpbmjmoobcnaa
set_option maxHeartbeats 4000000
set_option linter.unusedSimpArgs false
theorem modulated_c (n : Int) (l : List Int) : FC Try.prog 24 [enc n, enc l] [] (.tup [enc (if modErr n l = 0 then modS n.toNat l (l.length / n.toNat) else []), enc (modErr n l)]) [] := by
  refine fc_introC [] is24 (by simp) trivial trivial trivial trivial (fun cx hcx hl _ => S_run [e95, e98, e80, e99] 800 ?_)
  by_cases hf : firstS [orderErrS n, bitsErrS l] = 0
  · have ho : orderErrS n = 0 := by simp only [firstS] at hf; grind
    have hbe : bitsErrS l = 0 := by simp only [firstS] at hf; grind
    have hn : n = 2 ∨ n = 4 ∨ n = 6 := by unfold orderErrS at ho; grind
    obtain ⟨m, rfl⟩ : ∃ m : Nat, n = (m : Int) := ⟨n.toNat, by omega⟩
    have hm : 0 < m := by omega
    have hmne : ¬ (m : Int) = 0 := by omega
    obtain ⟨hl0, hl4, hbits⟩ := bitsErrS_ok hbe
    have htm : (l.length : Int).tmod (m : Int) = ((l.length % m : Nat) : Int) := by
      rw [Int.tmod_eq_emod_of_nonneg (by omega)]; push_cast; rfl
    have hem : (l.length : Int) % (m : Int) = ((l.length % m : Nat) : Int) := by push_cast; rfl
    by_cases hr : l.length % m = 0
    · have hr2 : ((l.length % m : Nat) : Int) = 0 := by omega
      have hme : modErr m l = 0 := by unfold modErr; rw [if_neg (fun h => h ho), if_neg (fun h => h hbe), hem, if_neg (fun h => h hr2)]
      delta c24
      simp (maxSteps := 4000000) -implicitDefEqProofs only [rv24, e95, e98, e80, e99, hf, htm, hr2, hme, Int.toNat_natCast, InR, Ent.of0, Ent.of1, Ent.of2, Ent.of3, V, cr, bE, bh, bU, cM, c6, gt, lk, bS, cz, cI, bX, cg, cj, cj.subCs, cL, bt, bq, cD, aK, bf, a9, aF, aZ, bm, aM, a6, aV, cd, cO, cP, ar, aN, bZ, cJ, cH, cY, cQ, aQ, ag, ca, bK, zC, argS, be, ce, cU, cZ, ap, aO, ax, aw, bV, leC, cb, cC, bY, cV, cB, aL, aP, cN, aq, cF, bA, bA.viewCs, bF, bF.flatCs, aW, aW.LensOks, Value.oneCell', ↓reduceIte, ite_true, ite_false, if_true, if_false, Nat.reduceAdd, Nat.reduceSub, Nat.reduceMul, Nat.reduceEqDiff, Nat.reduceLT, Nat.reduceLeDiff, reduceCtorEq, Int.reduceToNat, forall_const, implies_true, a5, Ent.mk3, bk, bu, bH, bo, br, bL, a7, bv, bJ, bI, bg, co, bD, cT, rn, cc, cc.renCs, aJ, aG, aI, aI.viewOks, aA, bn, bn.flatBs, ay, au, aH, ah, aX, bG, bG.keysBs, aT, ai, a8, bW, bj, cu, af, af.passKs, av, aY, ae, ae.lendKs, bT, cn, bM, bz, setInn, an, cW, cS, aR, bC, bN, cq, aC, az, Glob.gl, aU, cm, a0, bR, bl, ak, cG, cR, b0, cK, bO, am, am.ptrOnlys, aj, aD, bQ, aB, bp, bw, bP, aE, bB, cp, Nat.reduceBEq, undef]
      refine ⟨hmne, by omega, ?_⟩
      obtain ⟨N, hN⟩ : ∃ N, l.length / m = N := ⟨_, rfl⟩
      have hlN : l.length = N * m := by rw [← hN]; exact (Nat.div_mul_cancel (Nat.dvd_of_mod_eq_zero hr)).symm
      have hN0 : 0 < N := by rcases Nat.eq_zero_or_pos N with e | e; (rw [e, Nat.zero_mul] at hlN; omega); exact e
      have hNl : N ≤ 400 := by
        have := Nat.le_mul_of_pos_right N hm
        omega
      rw [hN]
      refine S_sh 200000 (by rw [hcx.2.2]; exact Nat.le_refl _) (by rfl) ?_
      simp (maxSteps := 4000000) -implicitDefEqProofs only [Ent.of0, Ent.of1, Ent.of2, Ent.of3, V, cr, bE, bh, bU, cM, c6, gt, lk, bS, cz, cI, bX, cg, cj, cj.subCs, cL, bt, bq, cD, aK, bf, a9, aF, aZ, bm, aM, a6, aV, cd, cO, cP, ar, aN, bZ, cJ, cH, cY, cQ, aQ, ag, ca, bK, zC, argS, be, ce, cU, cZ, ap, aO, ax, aw, bV, leC, cb, cC, bY, cV, cB, aL, aP, cN, aq, cF, bA, bA.viewCs, bF, bF.flatCs, aW, aW.LensOks, Value.oneCell', ↓reduceIte, ite_true, ite_false, if_true, if_false, Nat.reduceAdd, Nat.reduceSub, Nat.reduceMul, Nat.reduceEqDiff, Nat.reduceLT, Nat.reduceLeDiff, reduceCtorEq, Int.reduceToNat, forall_const, implies_true, a5, Ent.mk3, bk, bu, bH, bo, br, bL, a7, bv, bJ, bI, bg, co, bD, cT, rn, cc, cc.renCs, aJ, aG, aI, aI.viewOks, aA, bn, bn.flatBs, ay, au, aH, ah, aX, bG, bG.keysBs, aT, ai, a8, bW, bj, cu, af, af.passKs, av, aY, ae, ae.lendKs, bT, cn, bM, bz, setInn, an, cW, cS, aR, bC, bN, cq, aC, az, Glob.gl, aU, cm, a0, bR, bl, ak, cG, cR, b0, cK, bO, am, am.ptrOnlys, aj, aD, bQ, aB, bp, bw, bP, aE, bB, cp, Nat.reduceBEq, undef]
      have hcells : ∀ i, i ≠ 0 → (if i = 0 then C.s (.slice none 0 0) else C.isl 2 48 ((modS m l i).map cells)) = C.isl 2 48 ((modS m l i).map cells) := fun i hi => if_neg hi
      refine S_rangeFunc (f := 130) (first := []) (caps := [.ptr 200025 0, .ptr 201025 0]) (ich := [(200025, .box [.sl 1 (l.map cells)]), (201025, .box [.s (.int .i64 (m : Int))])]) (kr := 100000) (vals := chunkV l m) (N := N) (fin := true) [200007]
        (fun i => [(200007, .box [if i = 0 then .s (.slice none 0 0) else .isl 2 48 ((modS m l i).map cells)])])
        hcx.2.1 rfl (chunk_c l m N hm hN0 hlN (by omega)) ⟨?_, ?_⟩ ⟨fun c hc => ?_, fun k c hc => ?_⟩ ?_ (fun i hi => ?_) (fun k hk => ?_) (fun i hi => ?_) (fun i hi cx' _ hcx' => S_run [] 800 ?_) (fun _ => ?_)
      · simp (maxSteps := 4000000) -implicitDefEqProofs only [Ent.of0, Ent.of1, Ent.of2, Ent.of3, V, cr, bE, bh, bU, cM, c6, gt, lk, bS, cz, cI, bX, cg, cj, cj.subCs, cL, bt, bq, cD, aK, bf, a9, aF, aZ, bm, aM, a6, aV, cd, cO, cP, ar, aN, bZ, cJ, cH, cY, cQ, aQ, ag, ca, bK, zC, argS, be, ce, cU, cZ, ap, aO, ax, aw, bV, leC, cb, cC, bY, cV, cB, aL, aP, cN, aq, cF, bA, bA.viewCs, bF, bF.flatCs, aW, aW.LensOks, Value.oneCell', ↓reduceIte, ite_true, ite_false, if_true, if_false, Nat.reduceAdd, Nat.reduceSub, Nat.reduceMul, Nat.reduceEqDiff, Nat.reduceLT, Nat.reduceLeDiff, reduceCtorEq, Int.reduceToNat, forall_const, implies_true, a5, Ent.mk3, bk, bu, bH, bo, br, bL, a7, bv, bJ, bI, bg, co, bD, cT, rn, cc, cc.renCs, aJ, aG, aI, aI.viewOks, aA, bn, bn.flatBs, ay, au, aH, ah, aX, bG, bG.keysBs, aT, ai, a8, bW, bj, cu, af, af.passKs, av, aY, ae, ae.lendKs, bT, cn, bM, bz, setInn, an, cW, cS, aR, bC, bN, cq, aC, az, Glob.gl, aU, cm, a0, bR, bl, ak, cG, cR, b0, cK, bO, am, am.ptrOnlys, aj, aD, bQ, aB, bp, bw, bP, aE, bB, cp, Nat.reduceBEq, undef]
      · simp (maxSteps := 4000000) -implicitDefEqProofs only [Ent.of0, Ent.of1, Ent.of2, Ent.of3, V, cr, bE, bh, bU, cM, c6, gt, lk, bS, cz, cI, bX, cg, cj, cj.subCs, cL, bt, bq, cD, aK, bf, a9, aF, aZ, bm, aM, a6, aV, cd, cO, cP, ar, aN, bZ, cJ, cH, cY, cQ, aQ, ag, ca, bK, zC, argS, be, ce, cU, cZ, ap, aO, ax, aw, bV, leC, cb, cC, bY, cV, cB, aL, aP, cN, aq, cF, bA, bA.viewCs, bF, bF.flatCs, aW, aW.LensOks, Value.oneCell', ↓reduceIte, ite_true, ite_false, if_true, if_false, Nat.reduceAdd, Nat.reduceSub, Nat.reduceMul, Nat.reduceEqDiff, Nat.reduceLT, Nat.reduceLeDiff, reduceCtorEq, Int.reduceToNat, forall_const, implies_true, a5, Ent.mk3, bk, bu, bH, bo, br, bL, a7, bv, bJ, bI, bg, co, bD, cT, rn, cc, cc.renCs, aJ, aG, aI, aI.viewOks, aA, bn, bn.flatBs, ay, au, aH, ah, aX, bG, bG.keysBs, aT, ai, a8, bW, bj, cu, af, af.passKs, av, aY, ae, ae.lendKs, bT, cn, bM, bz, setInn, an, cW, cS, aR, bC, bN, cq, aC, az, Glob.gl, aU, cm, a0, bR, bl, ak, cG, cR, b0, cK, bO, am, am.ptrOnlys, aj, aD, bQ, aB, bp, bw, bP, aE, bB, cp, Nat.reduceBEq, undef]
      · simp only [List.nil_append, List.mem_cons, List.not_mem_nil, or_false] at hc
        rcases hc with rfl | rfl <;> simp [keysIn, aP]
      · simp only [List.mem_cons, Prod.mk.injEq, List.not_mem_nil, or_false] at hc
        rcases hc with ⟨rfl, rfl⟩ | ⟨rfl, rfl⟩ <;> exact ⟨trivial, trivial⟩
      · simp (maxSteps := 4000000) -implicitDefEqProofs only [Ent.of0, Ent.of1, Ent.of2, Ent.of3, V, cr, bE, bh, bU, cM, c6, gt, lk, bS, cz, cI, bX, cg, cj, cj.subCs, cL, bt, bq, cD, aK, bf, a9, aF, aZ, bm, aM, a6, aV, cd, cO, cP, ar, aN, bZ, cJ, cH, cY, cQ, aQ, ag, ca, bK, zC, argS, be, ce, cU, cZ, ap, aO, ax, aw, bV, leC, cb, cC, bY, cV, cB, aL, aP, cN, aq, cF, bA, bA.viewCs, bF, bF.flatCs, aW, aW.LensOks, Value.oneCell', ↓reduceIte, ite_true, ite_false, if_true, if_false, Nat.reduceAdd, Nat.reduceSub, Nat.reduceMul, Nat.reduceEqDiff, Nat.reduceLT, Nat.reduceLeDiff, reduceCtorEq, Int.reduceToNat, forall_const, implies_true, a5, Ent.mk3, bk, bu, bH, bo, br, bL, a7, bv, bJ, bI, bg, co, bD, cT, rn, cc, cc.renCs, aJ, aG, aI, aI.viewOks, aA, bn, bn.flatBs, ay, au, aH, ah, aX, bG, bG.keysBs, aT, ai, a8, bW, bj, cu, af, af.passKs, av, aY, ae, ae.lendKs, bT, cn, bM, bz, setInn, an, cW, cS, aR, bC, bN, cq, aC, az, Glob.gl, aU, cm, a0, bR, bl, ak, cG, cR, b0, cK, bO, am, am.ptrOnlys, aj, aD, bQ, aB, bp, bw, bP, aE, bB, cp, Nat.reduceBEq, undef]
      · simp (maxSteps := 4000000) -implicitDefEqProofs only [Ent.of0, Ent.of1, Ent.of2, Ent.of3, V, cr, bE, bh, bU, cM, c6, gt, lk, bS, cz, cI, bX, cg, cj, cj.subCs, cL, bt, bq, cD, aK, bf, a9, aF, aZ, bm, aM, a6, aV, cd, cO, cP, ar, aN, bZ, cJ, cH, cY, cQ, aQ, ag, ca, bK, zC, argS, be, ce, cU, cZ, ap, aO, ax, aw, bV, leC, cb, cC, bY, cV, cB, aL, aP, cN, aq, cF, bA, bA.viewCs, bF, bF.flatCs, aW, aW.LensOks, Value.oneCell', ↓reduceIte, ite_true, ite_false, if_true, if_false, Nat.reduceAdd, Nat.reduceSub, Nat.reduceMul, Nat.reduceEqDiff, Nat.reduceLT, Nat.reduceLeDiff, reduceCtorEq, Int.reduceToNat, forall_const, implies_true, a5, Ent.mk3, bk, bu, bH, bo, br, bL, a7, bv, bJ, bI, bg, co, bD, cT, rn, cc, cc.renCs, aJ, aG, aI, aI.viewOks, aA, bn, bn.flatBs, ay, au, aH, ah, aX, bG, bG.keysBs, aT, ai, a8, bW, bj, cu, af, af.passKs, av, aY, ae, ae.lendKs, bT, cn, bM, bz, setInn, an, cW, cS, aR, bC, bN, cq, aC, az, Glob.gl, aU, cm, a0, bR, bl, ak, cG, cR, b0, cK, bO, am, am.ptrOnlys, aj, aD, bQ, aB, bp, bw, bP, aE, bB, cp, Nat.reduceBEq, undef]
        simp
      · rw [hcx.2.2]
        simp only [List.mem_cons, List.not_mem_nil, or_false] at hk
        omega
      · refine ⟨rfl, fun c hc => ?_⟩
        simp only [chunkV, List.mem_singleton] at hc; subst hc; trivial
      · simp (maxSteps := 4000000) -implicitDefEqProofs only [chunkV, Ent.of0, Ent.of1, Ent.of2, Ent.of3, V, cr, bE, bh, bU, cM, c6, gt, lk, bS, cz, cI, bX, cg, cj, cj.subCs, cL, bt, bq, cD, aK, bf, a9, aF, aZ, bm, aM, a6, aV, cd, cO, cP, ar, aN, bZ, cJ, cH, cY, cQ, aQ, ag, ca, bK, zC, argS, be, ce, cU, cZ, ap, aO, ax, aw, bV, leC, cb, cC, bY, cV, cB, aL, aP, cN, aq, cF, bA, bA.viewCs, bF, bF.flatCs, aW, aW.LensOks, Value.oneCell', ↓reduceIte, ite_true, ite_false, if_true, if_false, Nat.reduceAdd, Nat.reduceSub, Nat.reduceMul, Nat.reduceEqDiff, Nat.reduceLT, Nat.reduceLeDiff, reduceCtorEq, Int.reduceToNat, forall_const, implies_true, a5, Ent.mk3, bk, bu, bH, bo, br, bL, a7, bv, bJ, bI, bg, co, bD, cT, rn, cc, cc.renCs, aJ, aG, aI, aI.viewOks, aA, bn, bn.flatBs, ay, au, aH, ah, aX, bG, bG.keysBs, aT, ai, a8, bW, bj, cu, af, af.passKs, av, aY, ae, ae.lendKs, bT, cn, bM, bz, setInn, an, cW, cS, aR, bC, bN, cq, aC, az, Glob.gl, aU, cm, a0, bR, bl, ak, cG, cR, b0, cK, bO, am, am.ptrOnlys, aj, aD, bQ, aB, bp, bw, bP, aE, bB, cp, Nat.reduceBEq, undef]
        intro cx'' _ _
        refine S_run [e96] 800 ?_
        obtain ⟨g1, g2⟩ := chunk_ok hlN hbits hi
        have g3 : (chunkAt l m i).length = 2 ∨ (chunkAt l m i).length = 4 ∨ (chunkAt l m i).length = 6 := by omega
        cases i with
        | zero =>
          have h1 : [[C.s (.int .i64 (pointS (chunkAt l m 0)).re), C.s (.int .i64 (pointS (chunkAt l m 0)).im)]] = (modS m l 1).map cells := by simp [modS, List.range_succ, cells_gs]
          have hl1 := modS_length m l 1
          delta c24r1
          simp (maxSteps := 4000000) -implicitDefEqProofs only [e96, g2, g3, h1, InR, Ent.of0, Ent.of1, Ent.of2, Ent.of3, V, cr, bE, bh, bU, cM, c6, gt, lk, bS, cz, cI, bX, cg, cj, cj.subCs, cL, bt, bq, cD, aK, bf, a9, aF, aZ, bm, aM, a6, aV, cd, cO, cP, ar, aN, bZ, cJ, cH, cY, cQ, aQ, ag, ca, bK, zC, argS, be, ce, cU, cZ, ap, aO, ax, aw, bV, leC, cb, cC, bY, cV, cB, aL, aP, cN, aq, cF, bA, bA.viewCs, bF, bF.flatCs, aW, aW.LensOks, Value.oneCell', ↓reduceIte, ite_true, ite_false, if_true, if_false, Nat.reduceAdd, Nat.reduceSub, Nat.reduceMul, Nat.reduceEqDiff, Nat.reduceLT, Nat.reduceLeDiff, reduceCtorEq, Int.reduceToNat, forall_const, implies_true, a5, Ent.mk3, bk, bu, bH, bo, br, bL, a7, bv, bJ, bI, bg, co, bD, cT, rn, cc, cc.renCs, aJ, aG, aI, aI.viewOks, aA, bn, bn.flatBs, ay, au, aH, ah, aX, bG, bG.keysBs, aT, ai, a8, bW, bj, cu, af, af.passKs, av, aY, ae, ae.lendKs, bT, cn, bM, bz, setInn, an, cW, cS, aR, bC, bN, cq, aC, az, Glob.gl, aU, cm, a0, bR, bl, ak, cG, cR, b0, cK, bO, am, am.ptrOnlys, aj, aD, bQ, aB, bp, bw, bP, aE, bB, cp, Nat.reduceBEq, undef]
          exact ⟨⟨by omega, by omega⟩, by decide, .inr trivial⟩
        | succ i =>
          have h1 : (modS m l (i + 1)).map cells ++ [[C.s (.int .i64 (pointS (chunkAt l m (i + 1))).re), C.s (.int .i64 (pointS (chunkAt l m (i + 1))).im)]] = (modS m l (i + 1 + 1)).map cells := by rw [modS_succ m l (i + 1), List.map_append]; rfl
          have h2 := modS_length m l (i + 1)
          delta c24r1
          simp (maxSteps := 4000000) -implicitDefEqProofs only [e96, g2, g3, h1, h2, Nat.succ_ne_zero, InR, Ent.of0, Ent.of1, Ent.of2, Ent.of3, V, cr, bE, bh, bU, cM, c6, gt, lk, bS, cz, cI, bX, cg, cj, cj.subCs, cL, bt, bq, cD, aK, bf, a9, aF, aZ, bm, aM, a6, aV, cd, cO, cP, ar, aN, bZ, cJ, cH, cY, cQ, aQ, ag, ca, bK, zC, argS, be, ce, cU, cZ, ap, aO, ax, aw, bV, leC, cb, cC, bY, cV, cB, aL, aP, cN, aq, cF, bA, bA.viewCs, bF, bF.flatCs, aW, aW.LensOks, Value.oneCell', ↓reduceIte, ite_true, ite_false, if_true, if_false, Nat.reduceAdd, Nat.reduceSub, Nat.reduceMul, Nat.reduceEqDiff, Nat.reduceLT, Nat.reduceLeDiff, reduceCtorEq, Int.reduceToNat, forall_const, implies_true, a5, Ent.mk3, bk, bu, bH, bo, br, bL, a7, bv, bJ, bI, bg, co, bD, cT, rn, cc, cc.renCs, aJ, aG, aI, aI.viewOks, aA, bn, bn.flatBs, ay, au, aH, ah, aX, bG, bG.keysBs, aT, ai, a8, bW, bj, cu, af, af.passKs, av, aY, ae, ae.lendKs, bT, cn, bM, bz, setInn, an, cW, cS, aR, bC, bN, cq, aC, az, Glob.gl, aU, cm, a0, bR, bl, ak, cG, cR, b0, cK, bO, am, am.ptrOnlys, aj, aD, bQ, aB, bp, bw, bP, aE, bB, cp, Nat.reduceBEq, undef]
          exact ⟨⟨by decide, by omega, by omega⟩, by decide, .inr trivial⟩
      · rw [if_neg (by omega : ¬ N = 0)]
        refine S_fzb 200007 rfl (S_run [] 800 ?_)
        simp (maxSteps := 4000000) -implicitDefEqProofs only [rv24, hme, Ent.of0, Ent.of1, Ent.of2, Ent.of3, V, cr, bE, bh, bU, cM, c6, gt, lk, bS, cz, cI, bX, cg, cj, cj.subCs, cL, bt, bq, cD, aK, bf, a9, aF, aZ, bm, aM, a6, aV, cd, cO, cP, ar, aN, bZ, cJ, cH, cY, cQ, aQ, ag, ca, bK, zC, argS, be, ce, cU, cZ, ap, aO, ax, aw, bV, leC, cb, cC, bY, cV, cB, aL, aP, cN, aq, cF, bA, bA.viewCs, bF, bF.flatCs, aW, aW.LensOks, Value.oneCell', ↓reduceIte, ite_true, ite_false, if_true, if_false, Nat.reduceAdd, Nat.reduceSub, Nat.reduceMul, Nat.reduceEqDiff, Nat.reduceLT, Nat.reduceLeDiff, reduceCtorEq, Int.reduceToNat, forall_const, implies_true, a5, Ent.mk3, bk, bu, bH, bo, br, bL, a7, bv, bJ, bI, bg, co, bD, cT, rn, cc, cc.renCs, aJ, aG, aI, aI.viewOks, aA, bn, bn.flatBs, ay, au, aH, ah, aX, bG, bG.keysBs, aT, ai, a8, bW, bj, cu, af, af.passKs, av, aY, ae, ae.lendKs, bT, cn, bM, bz, setInn, an, cW, cS, aR, bC, bN, cq, aC, az, Glob.gl, aU, cm, a0, bR, bl, ak, cG, cR, b0, cK, bO, am, am.ptrOnlys, aj, aD, bQ, aB, bp, bw, bP, aE, bB, cp, Nat.reduceBEq, undef]
    · have hr2 : ¬ ((l.length % m : Nat) : Int) = 0 := by omega
      have hme : modErr m l = 10 := by unfold modErr; rw [if_neg (fun h => h ho), if_neg (fun h => h hbe), hem, if_pos hr2]
      have h10 : ¬ (10 : Int) = 0 := by decide
      delta c24
      simp (maxSteps := 4000000) -implicitDefEqProofs only [rv24, e95, e98, e80, e99, hf, htm, hr2, hme, h10, InR, Ent.of0, Ent.of1, Ent.of2, Ent.of3, V, cr, bE, bh, bU, cM, c6, gt, lk, bS, cz, cI, bX, cg, cj, cj.subCs, cL, bt, bq, cD, aK, bf, a9, aF, aZ, bm, aM, a6, aV, cd, cO, cP, ar, aN, bZ, cJ, cH, cY, cQ, aQ, ag, ca, bK, zC, argS, be, ce, cU, cZ, ap, aO, ax, aw, bV, leC, cb, cC, bY, cV, cB, aL, aP, cN, aq, cF, bA, bA.viewCs, bF, bF.flatCs, aW, aW.LensOks, Value.oneCell', ↓reduceIte, ite_true, ite_false, if_true, if_false, Nat.reduceAdd, Nat.reduceSub, Nat.reduceMul, Nat.reduceEqDiff, Nat.reduceLT, Nat.reduceLeDiff, reduceCtorEq, Int.reduceToNat, forall_const, implies_true, a5, Ent.mk3, bk, bu, bH, bo, br, bL, a7, bv, bJ, bI, bg, co, bD, cT, rn, cc, cc.renCs, aJ, aG, aI, aI.viewOks, aA, bn, bn.flatBs, ay, au, aH, ah, aX, bG, bG.keysBs, aT, ai, a8, bW, bj, cu, af, af.passKs, av, aY, ae, ae.lendKs, bT, cn, bM, bz, setInn, an, cW, cS, aR, bC, bN, cq, aC, az, Glob.gl, aU, cm, a0, bR, bl, ak, cG, cR, b0, cK, bO, am, am.ptrOnlys, aj, aD, bQ, aB, bp, bw, bP, aE, bB, cp, Nat.reduceBEq, undef]
      exact hmne
  · have hme : modErr n l = firstS [orderErrS n, bitsErrS l] := by
      unfold modErr; simp only [firstS] at hf ⊢; grind
    delta c24
    simp (maxSteps := 4000000) -implicitDefEqProofs only [rv24, e95, e98, e80, e99, hf, hme, InR, Ent.of0, Ent.of1, Ent.of2, Ent.of3, V, cr, bE, bh, bU, cM, c6, gt, lk, bS, cz, cI, bX, cg, cj, cj.subCs, cL, bt, bq, cD, aK, bf, a9, aF, aZ, bm, aM, a6, aV, cd, cO, cP, ar, aN, bZ, cJ, cH, cY, cQ, aQ, ag, ca, bK, zC, argS, be, ce, cU, cZ, ap, aO, ax, aw, bV, leC, cb, cC, bY, cV, cB, aL, aP, cN, aq, cF, bA, bA.viewCs, bF, bF.flatCs, aW, aW.LensOks, Value.oneCell', ↓reduceIte, ite_true, ite_false, if_true, if_false, Nat.reduceAdd, Nat.reduceSub, Nat.reduceMul, Nat.reduceEqDiff, Nat.reduceLT, Nat.reduceLeDiff, reduceCtorEq, Int.reduceToNat, forall_const, implies_true, a5, Ent.mk3, bk, bu, bH, bo, br, bL, a7, bv, bJ, bI, bg, co, bD, cT, rn, cc, cc.renCs, aJ, aG, aI, aI.viewOks, aA, bn, bn.flatBs, ay, au, aH, ah, aX, bG, bG.keysBs, aT, ai, a8, bW, bj, cu, af, af.passKs, av, aY, ae, ae.lendKs, bT, cn, bM, bz, setInn, an, cW, cS, aR, bC, bN, cq, aC, az, Glob.gl, aU, cm, a0, bR, bl, ak, cG, cR, b0, cK, bO, am, am.ptrOnlys, aj, aD, bQ, aB, bp, bw, bP, aE, bB, cp, Nat.reduceBEq, undef]
def e24 : Ent Try.prog := .of2 24 (fun _ _ => True) (fun (n : Int) (l : List Int) => .tup [enc (if modErr n l = 0 then modS n.toNat l (l.length / n.toNat) else []), enc (modErr n l)]) (fun _ _ => ⟨trivial, trivial, trivial⟩) (fun n l _ => modulated_c n l)
end Go.Proofs.Ytfgpbmjmoobcnaa
end
section
open Go Go.Am
open Go.Am.Dat (cells)
namespace Go.Proofs.Ytfgpbmjmoobcnaa
set_option maxHeartbeats 4000000
set_option maxRecDepth 100000
set_option linter.unusedSimpArgs false
def ofLevelI (c : Nat) (n : Int) : Option Nat := (List.range (2 ^ c)).find? fun i => decide (levelS (bitsOfS i c c) = n)
def ofLevelC (c : Nat) (n : Int) : C := match ofLevelI c n with | some i => enc (bitsOfS i c c) | none => .s (.slice none 0 0)
theorem ofLevel_c (c : Nat) (n : Int) (hc : 1 ≤ c ∧ c ≤ 6) : FC Try.prog 104 [enc (c : Int), enc n] [] (ofLevelC c n) [] := by
  have hp : 2 ^ c ≤ 2 ^ 6 := Nat.pow_le_pow_right (by decide) hc.2
  refine fc_intro' is104 (by simp) (fun cx hl => S_run [] 800 ?_)
  have hm : min c IntKind.i64.bits = c := Nat.min_eq_left (by show c ≤ 64; omega)
  have hpc : (1 : Int) * 2 ^ c = ((2 ^ c : Nat) : Int) := by push_cast; rw [Int.one_mul]
  have hq1 : (0 : Int) < 2 ^ c := Int.pow_pos (by decide)
  have hq2 : (2 : Int) ^ c ≤ 64 := by exact_mod_cast hp
  delta c104
  simp (maxSteps := 4000000) -implicitDefEqProofs only [rv104, hm, hpc, InR, Ent.of0, Ent.of1, Ent.of2, Ent.of3, V, cr, bE, bh, bU, cM, c6, gt, lk, bS, cz, cI, bX, cg, cj, cj.subCs, cL, bt, bq, cD, aK, bf, a9, aF, aZ, bm, aM, a6, aV, cd, cO, cP, ar, aN, bZ, cJ, cH, cY, cQ, aQ, ag, ca, bK, zC, argS, be, ce, cU, cZ, ap, aO, ax, aw, bV, leC, cb, cC, bY, cV, cB, aL, aP, cN, aq, cF, bA, bA.viewCs, bF, bF.flatCs, aW, aW.LensOks, Value.oneCell', ↓reduceIte, ite_true, ite_false, if_true, if_false, Nat.reduceAdd, Nat.reduceSub, Nat.reduceMul, Nat.reduceEqDiff, Nat.reduceLT, Nat.reduceLeDiff, reduceCtorEq, Int.reduceToNat, forall_const, implies_true, a5, Ent.mk3, bk, bu, bH, bo, br, bL, a7, bv, bJ, bI, bg, co, bD, cT, rn, cc, cc.renCs, aJ, aG, aI, aI.viewOks, aA, bn, bn.flatBs, ay, au, aH, ah, aX, bG, bG.keysBs, aT, ai, a8, bW, bj, cu, af, af.passKs, av, aY, ae, ae.lendKs, bT, cn, bM, bz, setInn, an, cW, cS, aR, bC, bN, cq, aC, az, Glob.gl, aU, cm, a0, bR, bl, ak, cG, cR, b0, cK, bO, am, am.ptrOnlys, aj, aD, bQ, aB, bp, bw, bP, aE, bB, cp, Nat.reduceBEq, undef]
  refine ⟨by omega, ?_⟩
  refine S_forU (2 ^ c) (fun i => [(9, .s (.int .i64 (i : Int)))]) (fun _ => []) (fun i => ∀ j, j < i → ¬ levelS (bitsOfS j c c) = n) (by omega) ?_ (fun i hi hv => S_run [e97, e106] 800 ?_)
  · simp (maxSteps := 4000000) -implicitDefEqProofs only [Ent.of0, Ent.of1, Ent.of2, Ent.of3, V, cr, bE, bh, bU, cM, c6, gt, lk, bS, cz, cI, bX, cg, cj, cj.subCs, cL, bt, bq, cD, aK, bf, a9, aF, aZ, bm, aM, a6, aV, cd, cO, cP, ar, aN, bZ, cJ, cH, cY, cQ, aQ, ag, ca, bK, zC, argS, be, ce, cU, cZ, ap, aO, ax, aw, bV, leC, cb, cC, bY, cV, cB, aL, aP, cN, aq, cF, bA, bA.viewCs, bF, bF.flatCs, aW, aW.LensOks, Value.oneCell', ↓reduceIte, ite_true, ite_false, if_true, if_false, Nat.reduceAdd, Nat.reduceSub, Nat.reduceMul, Nat.reduceEqDiff, Nat.reduceLT, Nat.reduceLeDiff, reduceCtorEq, Int.reduceToNat, forall_const, implies_true, a5, Ent.mk3, bk, bu, bH, bo, br, bL, a7, bv, bJ, bI, bg, co, bD, cT, rn, cc, cc.renCs, aJ, aG, aI, aI.viewOks, aA, bn, bn.flatBs, ay, au, aH, ah, aX, bG, bG.keysBs, aT, ai, a8, bW, bj, cu, af, af.passKs, av, aY, ae, ae.lendKs, bT, cn, bM, bz, setInn, an, cW, cS, aR, bC, bN, cq, aC, az, Glob.gl, aU, cm, a0, bR, bl, ak, cG, cR, b0, cK, bO, am, am.ptrOnlys, aj, aD, bQ, aB, bp, bw, bP, aE, bB, cp, Nat.reduceBEq, undef]; simp
  · by_cases h : i < 2 ^ c
    · have hi2 : (i : Int) < ((2 ^ c : Nat) : Int) := by omega
      have hlen := bitsOfS_length i c c
      have hok := bitsOfS_ok i c c
      delta c104l1
      simp (maxSteps := 4000000) -implicitDefEqProofs only [rv104, hi2, h, e97, e106, Int.toNat_natCast, hlen, hok, InR, Ent.of0, Ent.of1, Ent.of2, Ent.of3, V, cr, bE, bh, bU, cM, c6, gt, lk, bS, cz, cI, bX, cg, cj, cj.subCs, cL, bt, bq, cD, aK, bf, a9, aF, aZ, bm, aM, a6, aV, cd, cO, cP, ar, aN, bZ, cJ, cH, cY, cQ, aQ, ag, ca, bK, zC, argS, be, ce, cU, cZ, ap, aO, ax, aw, bV, leC, cb, cC, bY, cV, cB, aL, aP, cN, aq, cF, bA, bA.viewCs, bF, bF.flatCs, aW, aW.LensOks, Value.oneCell', ↓reduceIte, ite_true, ite_false, if_true, if_false, Nat.reduceAdd, Nat.reduceSub, Nat.reduceMul, Nat.reduceEqDiff, Nat.reduceLT, Nat.reduceLeDiff, reduceCtorEq, Int.reduceToNat, forall_const, implies_true, a5, Ent.mk3, bk, bu, bH, bo, br, bL, a7, bv, bJ, bI, bg, co, bD, cT, rn, cc, cc.renCs, aJ, aG, aI, aI.viewOks, aA, bn, bn.flatBs, ay, au, aH, ah, aX, bG, bG.keysBs, aT, ai, a8, bW, bj, cu, af, af.passKs, av, aY, ae, ae.lendKs, bT, cn, bM, bz, setInn, an, cW, cS, aR, bC, bN, cq, aC, az, Glob.gl, aU, cm, a0, bR, bl, ak, cG, cR, b0, cK, bO, am, am.ptrOnlys, aj, aD, bQ, aB, bp, bw, bP, aE, bB, cp, Nat.reduceBEq, undef]
      refine ⟨by omega, by omega, ?_⟩
      split
      · rename_i he
        have hn : ofLevelI c n = some i := by
          unfold ofLevelI
          rw [List.find?_range_eq_some]
          exact ⟨by simpa using he, List.mem_range.2 h, fun j hj => by simpa using hv j hj⟩
        simp only [ofLevelC, hn, enc_list, sz_int]
      · rename_i he
        refine ⟨by omega, fun j hj => ?_, by push_cast; rfl⟩
        by_cases hj2 : j = i
        · rw [hj2]; exact he
        · exact hv j (by omega)
    · have hi2 : ¬ (i : Int) < ((2 ^ c : Nat) : Int) := by omega
      have hn : ofLevelI c n = none := by
        unfold ofLevelI
        rw [List.find?_eq_none]
        intro x hx
        simpa using hv x (by have := List.mem_range.1 hx; omega)
      delta c104l1
      simp (maxSteps := 4000000) -implicitDefEqProofs only [rv104, hi2, ofLevelC, hn, InR, Ent.of0, Ent.of1, Ent.of2, Ent.of3, V, cr, bE, bh, bU, cM, c6, gt, lk, bS, cz, cI, bX, cg, cj, cj.subCs, cL, bt, bq, cD, aK, bf, a9, aF, aZ, bm, aM, a6, aV, cd, cO, cP, ar, aN, bZ, cJ, cH, cY, cQ, aQ, ag, ca, bK, zC, argS, be, ce, cU, cZ, ap, aO, ax, aw, bV, leC, cb, cC, bY, cV, cB, aL, aP, cN, aq, cF, bA, bA.viewCs, bF, bF.flatCs, aW, aW.LensOks, Value.oneCell', ↓reduceIte, ite_true, ite_false, if_true, if_false, Nat.reduceAdd, Nat.reduceSub, Nat.reduceMul, Nat.reduceEqDiff, Nat.reduceLT, Nat.reduceLeDiff, reduceCtorEq, Int.reduceToNat, forall_const, implies_true, a5, Ent.mk3, bk, bu, bH, bo, br, bL, a7, bv, bJ, bI, bg, co, bD, cT, rn, cc, cc.renCs, aJ, aG, aI, aI.viewOks, aA, bn, bn.flatBs, ay, au, aH, ah, aX, bG, bG.keysBs, aT, ai, a8, bW, bj, cu, af, af.passKs, av, aY, ae, ae.lendKs, bT, cn, bM, bz, setInn, an, cW, cS, aR, bC, bN, cq, aC, az, Glob.gl, aU, cm, a0, bR, bl, ak, cG, cR, b0, cK, bO, am, am.ptrOnlys, aj, aD, bQ, aB, bp, bw, bP, aE, bB, cp, Nat.reduceBEq, undef]
def minS : List Int → Int
  | [] => 0
  | x :: l => l.foldl (fun a b => if b < a then b else a) x
theorem min_c (l : List Int) (h0 : 0 < l.length) : FC Try.prog 139 [enc l] [] (enc (minS l)) [] := by
  obtain ⟨x, t, rfl⟩ : ∃ x t, l = x :: t := by cases l with | nil => simp at h0 | cons x t => exact ⟨x, t, rfl⟩
  refine fc_intro' is139 (by simp) (fun cx hl => S_run [] 800 ?_)
  simp only [V, cr, bE, bh, bU, cM, c6, gt, lk, bS, cz, cI, bX, cg, cj, cj.subCs, cL, bt, bq, cD, aK, bf, a9, aF, aZ, bm, aM, a6, aV, cd, cO, cP, ar, aN, bZ, cJ, cH, cY, cQ, aQ, ag, ca, bK, zC, argS, be, ce, cU, cZ, ap, aO, ax, aw, bV, leC, cb, cC, bY, cV, cB, aL, aP, cN, aq, cF, bA, bA.viewCs, bF, bF.flatCs, aW, aW.LensOks, Value.oneCell', ↓reduceIte, ite_true, ite_false, if_true, if_false, Nat.reduceAdd, Nat.reduceSub, Nat.reduceMul, Nat.reduceEqDiff, Nat.reduceLT, Nat.reduceLeDiff, reduceCtorEq, Int.reduceToNat, forall_const, implies_true, a5, Ent.mk3, bk, bu, bH, bo, br, bL, a7, bv, bJ, bI, bg, co, bD, cT, rn, cc, cc.renCs, aJ, aG, aI, aI.viewOks, aA, bn, bn.flatBs, ay, au, aH, ah, aX, bG, bG.keysBs, aT, ai, a8, bW, bj, cu, af, af.passKs, av, aY, ae, ae.lendKs, bT, cn, bM, bz, setInn, an, cW, cS, aR, bC, bN, cq, aC, az, Glob.gl, aU, cm, a0, bR, bl, ak, cG, cR, b0, cK, bO, am, am.ptrOnlys, aj, aD, bQ, aB, bp, bw, bP, aE, bB, cp, Nat.reduceBEq, undef] at hl
  have hlen := hl.list (l := x :: t)
  have h1 : ¬ ((t.length + 1 : Nat) : Int) < 1 := by omega
  delta c139
  simp (maxSteps := 4000000) -implicitDefEqProofs only [rv139, h1, Ent.of0, Ent.of1, Ent.of2, Ent.of3, V, cr, bE, bh, bU, cM, c6, gt, lk, bS, cz, cI, bX, cg, cj, cj.subCs, cL, bt, bq, cD, aK, bf, a9, aF, aZ, bm, aM, a6, aV, cd, cO, cP, ar, aN, bZ, cJ, cH, cY, cQ, aQ, ag, ca, bK, zC, argS, be, ce, cU, cZ, ap, aO, ax, aw, bV, leC, cb, cC, bY, cV, cB, aL, aP, cN, aq, cF, bA, bA.viewCs, bF, bF.flatCs, aW, aW.LensOks, Value.oneCell', ↓reduceIte, ite_true, ite_false, if_true, if_false, Nat.reduceAdd, Nat.reduceSub, Nat.reduceMul, Nat.reduceEqDiff, Nat.reduceLT, Nat.reduceLeDiff, reduceCtorEq, Int.reduceToNat, forall_const, implies_true, a5, Ent.mk3, bk, bu, bH, bo, br, bL, a7, bv, bJ, bI, bg, co, bD, cT, rn, cc, cc.renCs, aJ, aG, aI, aI.viewOks, aA, bn, bn.flatBs, ay, au, aH, ah, aX, bG, bG.keysBs, aT, ai, a8, bW, bj, cu, af, af.passKs, av, aY, ae, ae.lendKs, bT, cn, bM, bz, setInn, an, cW, cS, aR, bC, bN, cq, aC, az, Glob.gl, aU, cm, a0, bR, bl, ak, cG, cR, b0, cK, bO, am, am.ptrOnlys, aj, aD, bQ, aB, bp, bw, bP, aE, bB, cp, Nat.reduceBEq, undef]
  refine ⟨by omega, ?_⟩
  refine S_loopU (α := Nat × Int) (fun v => [(4, .s (.int .i64 ((v.1 : Int) + 1))), (3, .s (.int .i64 v.2))]) (fun _ => []) (fun v => v.1 ≤ t.length ∧ minS (x :: t) = (t.drop v.1).foldl (fun a b => if b < a then b else a) v.2) (fun v => t.length - v.1) (0, x) ⟨Nat.zero_le _, rfl⟩ ?_ (fun v hv => S_run [] 800 ?_)
  · simp (maxSteps := 4000000) -implicitDefEqProofs only [Ent.of0, Ent.of1, Ent.of2, Ent.of3, V, cr, bE, bh, bU, cM, c6, gt, lk, bS, cz, cI, bX, cg, cj, cj.subCs, cL, bt, bq, cD, aK, bf, a9, aF, aZ, bm, aM, a6, aV, cd, cO, cP, ar, aN, bZ, cJ, cH, cY, cQ, aQ, ag, ca, bK, zC, argS, be, ce, cU, cZ, ap, aO, ax, aw, bV, leC, cb, cC, bY, cV, cB, aL, aP, cN, aq, cF, bA, bA.viewCs, bF, bF.flatCs, aW, aW.LensOks, Value.oneCell', ↓reduceIte, ite_true, ite_false, if_true, if_false, Nat.reduceAdd, Nat.reduceSub, Nat.reduceMul, Nat.reduceEqDiff, Nat.reduceLT, Nat.reduceLeDiff, reduceCtorEq, Int.reduceToNat, forall_const, implies_true, a5, Ent.mk3, bk, bu, bH, bo, br, bL, a7, bv, bJ, bI, bg, co, bD, cT, rn, cc, cc.renCs, aJ, aG, aI, aI.viewOks, aA, bn, bn.flatBs, ay, au, aH, ah, aX, bG, bG.keysBs, aT, ai, a8, bW, bj, cu, af, af.passKs, av, aY, ae, ae.lendKs, bT, cn, bM, bz, setInn, an, cW, cS, aR, bC, bN, cq, aC, az, Glob.gl, aU, cm, a0, bR, bl, ak, cG, cR, b0, cK, bO, am, am.ptrOnlys, aj, aD, bQ, aB, bp, bw, bP, aE, bB, cp, Nat.reduceBEq, undef]; simp
  · obtain ⟨i, m⟩ := v
    obtain ⟨hv1, hv2⟩ := hv
    simp only at hv1 hv2
    have ht : ((i : Int) + 1).toNat = i + 1 := by omega
    by_cases h : i < t.length
    · have hi2 : (i : Int) + 1 < ((t.length + 1 : Nat) : Int) := by omega
      rw [drop_getD 0 h, List.foldl_cons] at hv2
      delta c139l1
      simp (maxSteps := 4000000) -implicitDefEqProofs only [rv139, hi2, h, ht, cO, cP, InR, Ent.of0, Ent.of1, Ent.of2, Ent.of3, V, cr, bE, bh, bU, cM, c6, gt, lk, bS, cz, cI, bX, cg, cj, cj.subCs, cL, bt, bq, cD, aK, bf, a9, aF, aZ, bm, aM, a6, aV, cd, cO, cP, ar, aN, bZ, cJ, cH, cY, cQ, aQ, ag, ca, bK, zC, argS, be, ce, cU, cZ, ap, aO, ax, aw, bV, leC, cb, cC, bY, cV, cB, aL, aP, cN, aq, cF, bA, bA.viewCs, bF, bF.flatCs, aW, aW.LensOks, Value.oneCell', ↓reduceIte, ite_true, ite_false, if_true, if_false, Nat.reduceAdd, Nat.reduceSub, Nat.reduceMul, Nat.reduceEqDiff, Nat.reduceLT, Nat.reduceLeDiff, reduceCtorEq, Int.reduceToNat, forall_const, implies_true, a5, Ent.mk3, bk, bu, bH, bo, br, bL, a7, bv, bJ, bI, bg, co, bD, cT, rn, cc, cc.renCs, aJ, aG, aI, aI.viewOks, aA, bn, bn.flatBs, ay, au, aH, ah, aX, bG, bG.keysBs, aT, ai, a8, bW, bj, cu, af, af.passKs, av, aY, ae, ae.lendKs, bT, cn, bM, bz, setInn, an, cW, cS, aR, bC, bN, cq, aC, az, Glob.gl, aU, cm, a0, bR, bl, ak, cG, cR, b0, cK, bO, am, am.ptrOnlys, aj, aD, bQ, aB, bp, bw, bP, aE, bB, cp, Nat.reduceBEq, undef]
      simp only [List.length_cons] at hlen
      exact ⟨by omega, by omega, (i + 1, if t.getD i 0 < m then t.getD i 0 else m), ⟨h, hv2⟩, by simp only; omega, rfl, by push_cast; rfl⟩
    · have hi2 : ¬ (i : Int) + 1 < ((t.length + 1 : Nat) : Int) := by omega
      rw [List.drop_eq_nil_of_le (by omega)] at hv2
      delta c139l1
      simp (maxSteps := 4000000) -implicitDefEqProofs only [rv139, hi2, ht, InR, Ent.of0, Ent.of1, Ent.of2, Ent.of3, V, cr, bE, bh, bU, cM, c6, gt, lk, bS, cz, cI, bX, cg, cj, cj.subCs, cL, bt, bq, cD, aK, bf, a9, aF, aZ, bm, aM, a6, aV, cd, cO, cP, ar, aN, bZ, cJ, cH, cY, cQ, aQ, ag, ca, bK, zC, argS, be, ce, cU, cZ, ap, aO, ax, aw, bV, leC, cb, cC, bY, cV, cB, aL, aP, cN, aq, cF, bA, bA.viewCs, bF, bF.flatCs, aW, aW.LensOks, Value.oneCell', ↓reduceIte, ite_true, ite_false, if_true, if_false, Nat.reduceAdd, Nat.reduceSub, Nat.reduceMul, Nat.reduceEqDiff, Nat.reduceLT, Nat.reduceLeDiff, reduceCtorEq, Int.reduceToNat, forall_const, implies_true, a5, Ent.mk3, bk, bu, bH, bo, br, bL, a7, bv, bJ, bI, bg, co, bD, cT, rn, cc, cc.renCs, aJ, aG, aI, aI.viewOks, aA, bn, bn.flatBs, ay, au, aH, ah, aX, bG, bG.keysBs, aT, ai, a8, bW, bj, cu, af, af.passKs, av, aY, ae, ae.lendKs, bT, cn, bM, bz, setInn, an, cW, cS, aR, bC, bN, cq, aC, az, Glob.gl, aU, cm, a0, bR, bl, ak, cG, cR, b0, cK, bO, am, am.ptrOnlys, aj, aD, bQ, aB, bp, bw, bP, aE, bB, cp, Nat.reduceBEq, undef]
      rw [hv2]; rfl
def e139 : Ent Try.prog := .of1 139 (fun l => 0 < l.length) (fun l : List Int => enc (minS l)) (fun _ => trivial) (fun l h => min_c l h)
theorem countOf_c (l : List Int) (c : Nat) (hc : 1 ≤ c ∧ c ≤ 3) (hl : l.length = 2 ^ c) : FC Try.prog 137 [enc l] [] (enc (c : Int)) [] := by
  have : c = 1 ∨ c = 2 ∨ c = 3 := by omega
  rcases this with rfl | rfl | rfl
  all_goals
    have m0 : min 0 64 = 0 := rfl
    have m1 : min 1 64 = 1 := rfl
    have m2 : min 2 64 = 2 := rfl
    have m3 : min 3 64 = 3 := rfl
    refine fc_intro' is137 (by simp) (fun cx _ => S_runU [] 300 ?_)
    delta c137 c137l1
    simp (maxSteps := 4000000) -implicitDefEqProofs only [rv137, hl, IntKind.bits, m0, m1, m2, m3, InR, Int.cast_ofNat_Int, Int.natCast_one, Int.natCast_zero, Int.reduceAdd, Int.reduceSub, Int.reduceMul, Int.reduceLT, Int.reduceLE, Int.reduceTMod, Int.reduceTDiv, Int.reduceNeg, Int.reduceEq, Nat.reducePow, Int.reducePow, ne_eq, not_false_eq_true, Ent.of0, Ent.of1, Ent.of2, Ent.of3, V, cr, bE, bh, bU, cM, c6, gt, lk, bS, cz, cI, bX, cg, cj, cj.subCs, cL, bt, bq, cD, aK, bf, a9, aF, aZ, bm, aM, a6, aV, cd, cO, cP, ar, aN, bZ, cJ, cH, cY, cQ, aQ, ag, ca, bK, zC, argS, be, ce, cU, cZ, ap, aO, ax, aw, bV, leC, cb, cC, bY, cV, cB, aL, aP, cN, aq, cF, bA, bA.viewCs, bF, bF.flatCs, aW, aW.LensOks, Value.oneCell', ↓reduceIte, ite_true, ite_false, if_true, if_false, Nat.reduceAdd, Nat.reduceSub, Nat.reduceMul, Nat.reduceEqDiff, Nat.reduceLT, Nat.reduceLeDiff, reduceCtorEq, Int.reduceToNat, forall_const, implies_true, a5, Ent.mk3, bk, bu, bH, bo, br, bL, a7, bv, bJ, bI, bg, co, bD, cT, rn, cc, cc.renCs, aJ, aG, aI, aI.viewOks, aA, bn, bn.flatBs, ay, au, aH, ah, aX, bG, bG.keysBs, aT, ai, a8, bW, bj, cu, af, af.passKs, av, aY, ae, ae.lendKs, bT, cn, bM, bz, setInn, an, cW, cS, aR, bC, bN, cq, aC, az, Glob.gl, aU, cm, a0, bR, bl, ak, cG, cR, b0, cK, bO, am, am.ptrOnlys, aj, aD, bQ, aB, bp, bw, bP, aE, bB, cp, Nat.reduceBEq, undef]
end Go.Proofs.Ytfgpbmjmoobcnaa
end
section
open Go Go.Am
open Go.Am.Dat (cells)
namespace Go.Proofs.Ytfgpbmjmoobcnaa
set_option maxHeartbeats 4000000
set_option maxRecDepth 100000
set_option linter.unusedSimpArgs false
def e104 : Ent Try.prog where
  id := 104
  sp := fun args chs => match args, chs with
    | [.s (.int .i64 c), .s (.int .i64 n)], [] => some (1 ≤ c ∧ c ≤ 6, ofLevelC c.toNat n, [], [])
    | _, _ => none
  ok := by
    intro args chs p r chs' nk hs hp
    split at hs
    · simp only [Option.some.injEq, Prod.mk.injEq] at hs
      obtain ⟨rfl, rfl, rfl, rfl⟩ := hs
      rename_i c n
      have := ofLevel_c c.toNat n (by omega)
      rw [Int.toNat_of_nonneg (by omega)] at this
      refine ⟨this, .plain ?_⟩
      unfold ofLevelC
      split <;> trivial
    · cases hs
def lvls (c : Nat) : List Int := (List.range (2 ^ c)).map fun (k : Nat) => 2 * (k : Int) - (2 ^ c - 1)
def nearS (c i : Nat) (b : Int) (sq : List Int) : List Int :=
  ((List.range (2 ^ c)).filter fun (k : Nat) => decide (((ofLevelI c (2 * (k : Int) - (2 ^ c - 1))).map fun m => (bitsOfS m c c).getD i 0) = some b)).map fun k => sq.getD k 0
def softS (c : Nat) (sq : List Int) : List Int := (List.range c).map fun i => minS (nearS c i 1 sq) - minS (nearS c i 0 sq)
theorem minS_mem : ∀ (l : List Int) (x : Int), l.foldl (fun a b => if b < a then b else a) x ∈ x :: l
  | [], x => by simp
  | y :: l, x => by
    simp only [List.foldl_cons]
    have := minS_mem l (if y < x then y else x)
    rcases List.mem_cons.1 this with h | h
    · rw [h]; split <;> simp
    · exact List.mem_cons_of_mem _ (List.mem_cons_of_mem _ h)
theorem minS_bd {l : List Int} {B : Int} (h0 : 0 < l.length) (h : ∀ x ∈ l, 0 ≤ x ∧ x ≤ B) : 0 ≤ minS l ∧ minS l ≤ B := by
  cases l with
  | nil => simp at h0
  | cons x t => exact h _ (minS_mem t x)
def ctE (c : Nat) (hc : 1 ≤ c ∧ c ≤ 3) : Ent Try.prog := .of1 137 (fun l => l.length = 2 ^ c) (fun _ : List Int => enc (c : Int)) (fun _ => trivial) (fun l h => countOf_c l c hc h)
end Go.Proofs.Ytfgpbmjmoobcnaa
end
section
open Go Go.Am
open Go.Am.Dat (cells)
namespace Go.Proofs.Ytfgpbmjmoobcnaa
set_option maxHeartbeats 4000000
set_option maxRecDepth 100000
set_option linter.unusedSimpArgs false
theorem soft1_c (s0 s1 : Int) (h : ∀ s ∈ [s0, s1], 0 ≤ s ∧ s ≤ 4611686018427387903) : FC Try.prog 117 [enc (lvls 1), enc [s0, s1]] [] (enc (softS 1 [s0, s1])) [] := by
  have l0 : ofLevelC 1 (-1) = .sl 1 [[.s (.int .i64 1)]] := by rfl
  have l1 : ofLevelC 1 1 = .sl 1 [[.s (.int .i64 0)]] := by rfl
  have hl : lvls 1 = [-1, 1] := by decide
  have ht : Int.toNat 1 = 1 := rfl
  have hs : softS 1 [s0, s1] = [minS [s0] - minS [s1]] := by rfl
  have q00 := minS_bd (l := [s1]) (by simp) (fun x hx => h x (by simp at hx ⊢; grind))
  have q01 := minS_bd (l := [s0]) (by simp) (fun x hx => h x (by simp at hx ⊢; grind))
  rw [hl, hs]
  refine fc_intro' is117 (by simp) (fun cx _ => S_runU [ctE 1 (by decide), e104, e139] 4000 ?_)
  delta c117 c117l1 c117l2
  simp (maxSteps := 4000000) -implicitDefEqProofs only [rv117, ctE, e104, e139, ht, l0, l1, InR, Int.cast_ofNat_Int, Int.natCast_one, Int.natCast_zero, Int.reduceAdd, Int.reduceSub, Int.reduceMul, Int.reduceLT, Int.reduceLE, Int.reduceTMod, Int.reduceTDiv, Int.reduceNeg, Int.reduceEq, Nat.reducePow, Int.reducePow, ne_eq, not_false_eq_true, Ent.of0, Ent.of1, Ent.of2, Ent.of3, V, cr, bE, bh, bU, cM, c6, gt, lk, bS, cz, cI, bX, cg, cj, cj.subCs, cL, bt, bq, cD, aK, bf, a9, aF, aZ, bm, aM, a6, aV, cd, cO, cP, ar, aN, bZ, cJ, cH, cY, cQ, aQ, ag, ca, bK, zC, argS, be, ce, cU, cZ, ap, aO, ax, aw, bV, leC, cb, cC, bY, cV, cB, aL, aP, cN, aq, cF, bA, bA.viewCs, bF, bF.flatCs, aW, aW.LensOks, Value.oneCell', ↓reduceIte, ite_true, ite_false, if_true, if_false, Nat.reduceAdd, Nat.reduceSub, Nat.reduceMul, Nat.reduceEqDiff, Nat.reduceLT, Nat.reduceLeDiff, reduceCtorEq, Int.reduceToNat, forall_const, implies_true, a5, Ent.mk3, bk, bu, bH, bo, br, bL, a7, bv, bJ, bI, bg, co, bD, cT, rn, cc, cc.renCs, aJ, aG, aI, aI.viewOks, aA, bn, bn.flatBs, ay, au, aH, ah, aX, bG, bG.keysBs, aT, ai, a8, bW, bj, cu, af, af.passKs, av, aY, ae, ae.lendKs, bT, cn, bM, bz, setInn, an, cW, cS, aR, bC, bN, cq, aC, az, Glob.gl, aU, cm, a0, bR, bl, ak, cG, cR, b0, cK, bO, am, am.ptrOnlys, aj, aD, bQ, aB, bp, bw, bP, aE, bB, cp, Nat.reduceBEq, undef]
  omega
theorem soft2_c (s0 s1 s2 s3 : Int) (h : ∀ s ∈ [s0, s1, s2, s3], 0 ≤ s ∧ s ≤ 4611686018427387903) : FC Try.prog 117 [enc (lvls 2), enc [s0, s1, s2, s3]] [] (enc (softS 2 [s0, s1, s2, s3])) [] := by
  have l0 : ofLevelC 2 (-3) = .sl 1 [[.s (.int .i64 1)], [.s (.int .i64 1)]] := by rfl
  have l1 : ofLevelC 2 (-1) = .sl 1 [[.s (.int .i64 1)], [.s (.int .i64 0)]] := by rfl
  have l2 : ofLevelC 2 1 = .sl 1 [[.s (.int .i64 0)], [.s (.int .i64 0)]] := by rfl
  have l3 : ofLevelC 2 3 = .sl 1 [[.s (.int .i64 0)], [.s (.int .i64 1)]] := by rfl
  have hl : lvls 2 = [-3, -1, 1, 3] := by decide
  have ht : Int.toNat 2 = 2 := rfl
  have hs : softS 2 [s0, s1, s2, s3] = [minS [s0, s1] - minS [s2, s3], minS [s0, s3] - minS [s1, s2]] := by rfl
  have q00 := minS_bd (l := [s2, s3]) (by simp) (fun x hx => h x (by simp at hx ⊢; grind))
  have q01 := minS_bd (l := [s0, s1]) (by simp) (fun x hx => h x (by simp at hx ⊢; grind))
  have q10 := minS_bd (l := [s1, s2]) (by simp) (fun x hx => h x (by simp at hx ⊢; grind))
  have q11 := minS_bd (l := [s0, s3]) (by simp) (fun x hx => h x (by simp at hx ⊢; grind))
  rw [hl, hs]
  refine fc_intro' is117 (by simp) (fun cx _ => S_runU [ctE 2 (by decide), e104, e139] 4000 ?_)
  delta c117 c117l1 c117l2
  simp (maxSteps := 4000000) -implicitDefEqProofs only [rv117, ctE, e104, e139, ht, l0, l1, l2, l3, InR, Int.cast_ofNat_Int, Int.natCast_one, Int.natCast_zero, Int.reduceAdd, Int.reduceSub, Int.reduceMul, Int.reduceLT, Int.reduceLE, Int.reduceTMod, Int.reduceTDiv, Int.reduceNeg, Int.reduceEq, Nat.reducePow, Int.reducePow, ne_eq, not_false_eq_true, Ent.of0, Ent.of1, Ent.of2, Ent.of3, V, cr, bE, bh, bU, cM, c6, gt, lk, bS, cz, cI, bX, cg, cj, cj.subCs, cL, bt, bq, cD, aK, bf, a9, aF, aZ, bm, aM, a6, aV, cd, cO, cP, ar, aN, bZ, cJ, cH, cY, cQ, aQ, ag, ca, bK, zC, argS, be, ce, cU, cZ, ap, aO, ax, aw, bV, leC, cb, cC, bY, cV, cB, aL, aP, cN, aq, cF, bA, bA.viewCs, bF, bF.flatCs, aW, aW.LensOks, Value.oneCell', ↓reduceIte, ite_true, ite_false, if_true, if_false, Nat.reduceAdd, Nat.reduceSub, Nat.reduceMul, Nat.reduceEqDiff, Nat.reduceLT, Nat.reduceLeDiff, reduceCtorEq, Int.reduceToNat, forall_const, implies_true, a5, Ent.mk3, bk, bu, bH, bo, br, bL, a7, bv, bJ, bI, bg, co, bD, cT, rn, cc, cc.renCs, aJ, aG, aI, aI.viewOks, aA, bn, bn.flatBs, ay, au, aH, ah, aX, bG, bG.keysBs, aT, ai, a8, bW, bj, cu, af, af.passKs, av, aY, ae, ae.lendKs, bT, cn, bM, bz, setInn, an, cW, cS, aR, bC, bN, cq, aC, az, Glob.gl, aU, cm, a0, bR, bl, ak, cG, cR, b0, cK, bO, am, am.ptrOnlys, aj, aD, bQ, aB, bp, bw, bP, aE, bB, cp, Nat.reduceBEq, undef]
  omega
theorem soft3_c (s0 s1 s2 s3 s4 s5 s6 s7 : Int) (h : ∀ s ∈ [s0, s1, s2, s3, s4, s5, s6, s7], 0 ≤ s ∧ s ≤ 4611686018427387903) : FC Try.prog 117 [enc (lvls 3), enc [s0, s1, s2, s3, s4, s5, s6, s7]] [] (enc (softS 3 [s0, s1, s2, s3, s4, s5, s6, s7])) [] := by
  have l0 : ofLevelC 3 (-7) = .sl 1 [[.s (.int .i64 1)], [.s (.int .i64 1)], [.s (.int .i64 1)]] := by rfl
  have l1 : ofLevelC 3 (-5) = .sl 1 [[.s (.int .i64 1)], [.s (.int .i64 1)], [.s (.int .i64 0)]] := by rfl
  have l2 : ofLevelC 3 (-3) = .sl 1 [[.s (.int .i64 1)], [.s (.int .i64 0)], [.s (.int .i64 0)]] := by rfl
  have l3 : ofLevelC 3 (-1) = .sl 1 [[.s (.int .i64 1)], [.s (.int .i64 0)], [.s (.int .i64 1)]] := by rfl
  have l4 : ofLevelC 3 1 = .sl 1 [[.s (.int .i64 0)], [.s (.int .i64 0)], [.s (.int .i64 1)]] := by rfl
  have l5 : ofLevelC 3 3 = .sl 1 [[.s (.int .i64 0)], [.s (.int .i64 0)], [.s (.int .i64 0)]] := by rfl
  have l6 : ofLevelC 3 5 = .sl 1 [[.s (.int .i64 0)], [.s (.int .i64 1)], [.s (.int .i64 0)]] := by rfl
  have l7 : ofLevelC 3 7 = .sl 1 [[.s (.int .i64 0)], [.s (.int .i64 1)], [.s (.int .i64 1)]] := by rfl
  have hl : lvls 3 = [-7, -5, -3, -1, 1, 3, 5, 7] := by decide
  have ht : Int.toNat 3 = 3 := rfl
  have hs : softS 3 [s0, s1, s2, s3, s4, s5, s6, s7] = [minS [s0, s1, s2, s3] - minS [s4, s5, s6, s7], minS [s0, s1, s6, s7] - minS [s2, s3, s4, s5], minS [s0, s3, s4, s7] - minS [s1, s2, s5, s6]] := by rfl
  have q00 := minS_bd (l := [s4, s5, s6, s7]) (by simp) (fun x hx => h x (by simp at hx ⊢; grind))
  have q01 := minS_bd (l := [s0, s1, s2, s3]) (by simp) (fun x hx => h x (by simp at hx ⊢; grind))
  have q10 := minS_bd (l := [s2, s3, s4, s5]) (by simp) (fun x hx => h x (by simp at hx ⊢; grind))
  have q11 := minS_bd (l := [s0, s1, s6, s7]) (by simp) (fun x hx => h x (by simp at hx ⊢; grind))
  have q20 := minS_bd (l := [s1, s2, s5, s6]) (by simp) (fun x hx => h x (by simp at hx ⊢; grind))
  have q21 := minS_bd (l := [s0, s3, s4, s7]) (by simp) (fun x hx => h x (by simp at hx ⊢; grind))
  rw [hl, hs]
  refine fc_intro' is117 (by simp) (fun cx _ => S_runU [ctE 3 (by decide), e104, e139] 4000 ?_)
  delta c117 c117l1 c117l2
  simp (maxSteps := 4000000) -implicitDefEqProofs only [rv117, ctE, e104, e139, ht, l0, l1, l2, l3, l4, l5, l6, l7, InR, Int.cast_ofNat_Int, Int.natCast_one, Int.natCast_zero, Int.reduceAdd, Int.reduceSub, Int.reduceMul, Int.reduceLT, Int.reduceLE, Int.reduceTMod, Int.reduceTDiv, Int.reduceNeg, Int.reduceEq, Nat.reducePow, Int.reducePow, ne_eq, not_false_eq_true, Ent.of0, Ent.of1, Ent.of2, Ent.of3, V, cr, bE, bh, bU, cM, c6, gt, lk, bS, cz, cI, bX, cg, cj, cj.subCs, cL, bt, bq, cD, aK, bf, a9, aF, aZ, bm, aM, a6, aV, cd, cO, cP, ar, aN, bZ, cJ, cH, cY, cQ, aQ, ag, ca, bK, zC, argS, be, ce, cU, cZ, ap, aO, ax, aw, bV, leC, cb, cC, bY, cV, cB, aL, aP, cN, aq, cF, bA, bA.viewCs, bF, bF.flatCs, aW, aW.LensOks, Value.oneCell', ↓reduceIte, ite_true, ite_false, if_true, if_false, Nat.reduceAdd, Nat.reduceSub, Nat.reduceMul, Nat.reduceEqDiff, Nat.reduceLT, Nat.reduceLeDiff, reduceCtorEq, Int.reduceToNat, forall_const, implies_true, a5, Ent.mk3, bk, bu, bH, bo, br, bL, a7, bv, bJ, bI, bg, co, bD, cT, rn, cc, cc.renCs, aJ, aG, aI, aI.viewOks, aA, bn, bn.flatBs, ay, au, aH, ah, aX, bG, bG.keysBs, aT, ai, a8, bW, bj, cu, af, af.passKs, av, aY, ae, ae.lendKs, bT, cn, bM, bz, setInn, an, cW, cS, aR, bC, bN, cq, aC, az, Glob.gl, aU, cm, a0, bR, bl, ak, cG, cR, b0, cK, bO, am, am.ptrOnlys, aj, aD, bQ, aB, bp, bw, bP, aE, bB, cp, Nat.reduceBEq, undef]
  omega
theorem soft_c (c : Nat) (hc : c = 1 ∨ c = 2 ∨ c = 3) (sq : List Int) (hl : sq.length = 2 ^ c) (hb : ∀ s ∈ sq, 0 ≤ s ∧ s ≤ 4611686018427387903) : FC Try.prog 117 [enc (lvls c), enc sq] [] (enc (softS c sq)) [] := by
  rcases hc with rfl | rfl | rfl
  · match sq, hl with
    | [a, b], _ => exact soft1_c a b hb
  · match sq, hl with
    | [a, b, c, d], _ => exact soft2_c a b c d hb
  · match sq, hl with
    | [a, b, c, d, e, f, g, h], _ => exact soft3_c a b c d e f g h hb
end Go.Proofs.Ytfgpbmjmoobcnaa
end
section
open Go Go.Am
open Go.Am.Dat (cells)
namespace Go.Proofs.Ytfgpbmjmoobcnaa
set_option maxHeartbeats 4000000
set_option maxRecDepth 100000
set_option linter.unusedSimpArgs false
structure Recv where
  order : Int
  gain : Int
  symbols : List Gs
instance : DatL Recv where
  sz := 3
  agg := true
  cells g := [.s (.int .i64 g.order), .s (.int .i64 g.gain), .sl 2 (g.symbols.map cells)]
  dec | [.s (.int .i64 a), .s (.int .i64 b), .sl 2 t] => (decL t).map fun t' => ⟨a, b, t'⟩ | _ => none
  ok := by
    intro l a h
    split at h
    · simp only [Option.map_eq_some_iff] at h
      obtain ⟨t', h1, rfl⟩ := h
      rw [decL_ok h1]
    · cases h
  data := fun a => rfl
  one := fun h => by cases h
  dec_cells := fun a => by simp [decL_map]
theorem enc_recv (g : Recv) : enc g = .agg [.s (.int .i64 g.order), .s (.int .i64 g.gain), .sl 2 (g.symbols.map cells)] := rfl
theorem decV_recv (a b : Int) (t : List (List C)) : decV (.agg [C.s (.int .i64 a), .s (.int .i64 b), .sl 2 t]) = (decL t).map fun t' => (⟨a, b, t'⟩ : Recv) := rfl
def recvErr (x : Recv) : Int := firstS [orderErrS x.order, if 1 ≤ x.gain ∧ x.gain ≤ 10000000 then 0 else 2, symErr x.symbols]
theorem receivedErr_c (x : Recv) : FC Try.prog 114 [enc x] [] (enc (recvErr x)) [] := by
  obtain ⟨o, g, l⟩ := x
  refine fc_intro' is114 (by simp) (fun cx hl => S_run [e95, e103, e82, e118, e80] 800 ?_)
  delta c114
  simp (maxSteps := 4000000) -implicitDefEqProofs only [rv114, e95, e103, e82, e118, e80, enc_recv, Ent.of0, Ent.of1, Ent.of2, Ent.of3, V, cr, bE, bh, bU, cM, c6, gt, lk, bS, cz, cI, bX, cg, cj, cj.subCs, cL, bt, bq, cD, aK, bf, a9, aF, aZ, bm, aM, a6, aV, cd, cO, cP, ar, aN, bZ, cJ, cH, cY, cQ, aQ, ag, ca, bK, zC, argS, be, ce, cU, cZ, ap, aO, ax, aw, bV, leC, cb, cC, bY, cV, cB, aL, aP, cN, aq, cF, bA, bA.viewCs, bF, bF.flatCs, aW, aW.LensOks, Value.oneCell', ↓reduceIte, ite_true, ite_false, if_true, if_false, Nat.reduceAdd, Nat.reduceSub, Nat.reduceMul, Nat.reduceEqDiff, Nat.reduceLT, Nat.reduceLeDiff, reduceCtorEq, Int.reduceToNat, forall_const, implies_true, a5, Ent.mk3, bk, bu, bH, bo, br, bL, a7, bv, bJ, bI, bg, co, bD, cT, rn, cc, cc.renCs, aJ, aG, aI, aI.viewOks, aA, bn, bn.flatBs, ay, au, aH, ah, aX, bG, bG.keysBs, aT, ai, a8, bW, bj, cu, af, af.passKs, av, aY, ae, ae.lendKs, bT, cn, bM, bz, setInn, an, cW, cS, aR, bC, bN, cq, aC, az, Glob.gl, aU, cm, a0, bR, bl, ak, cG, cR, b0, cK, bO, am, am.ptrOnlys, aj, aD, bQ, aB, bp, bw, bP, aE, bB, cp, Nat.reduceBEq, undef]
  rfl
def e114 : Ent Try.prog := .of1 114 (fun _ => True) (fun x : Recv => enc (recvErr x)) (fun _ => trivial) (fun x _ => receivedErr_c x)
def sqS (c : Nat) (gain n : Int) : List Int := (lvls c).map fun l => (n - l * gain) * (n - l * gain)
end Go.Proofs.Ytfgpbmjmoobcnaa
end
section
open Go Go.Am
open Go.Am.Dat (cells)
namespace Go.Proofs.Ytfgpbmjmoobcnaa
set_option maxHeartbeats 4000000
set_option maxRecDepth 100000
set_option linter.unusedSimpArgs false
theorem lvls_bd {c : Nat} (hc : c = 1 ∨ c = 2 ∨ c = 3) : ∀ l ∈ lvls c, -7 ≤ l ∧ l ≤ 7 := by
  rcases hc with rfl | rfl | rfl <;> decide
theorem lvls_length (c : Nat) : (lvls c).length = 2 ^ c := by simp [lvls]
theorem sq_bd {d B : Int} (h : -B ≤ d ∧ d ≤ B) : 0 ≤ d * d ∧ d * d ≤ B * B := by
  have h1 := Int.mul_nonneg (show 0 ≤ B - d by omega) (show 0 ≤ B + d by omega)
  rw [Int.sub_mul, Int.mul_add, Int.mul_add, Int.mul_comm d B] at h1
  refine ⟨?_, by omega⟩
  rcases Int.le_total 0 d with h0 | h0
  · exact Int.mul_nonneg h0 h0
  · exact Int.mul_nonneg_of_nonpos_of_nonpos h0 h0
theorem lg_bd {t g : Int} (ht : -7 ≤ t ∧ t ≤ 7) (hg : 1 ≤ g ∧ g ≤ 10000000) : -70000000 ≤ t * g ∧ t * g ≤ 70000000 := by
  have : t = -7 ∨ t = -6 ∨ t = -5 ∨ t = -4 ∨ t = -3 ∨ t = -2 ∨ t = -1 ∨ t = 0 ∨ t = 1 ∨ t = 2 ∨ t = 3 ∨ t = 4 ∨ t = 5 ∨ t = 6 ∨ t = 7 := by omega
  rcases this with rfl | rfl | rfl | rfl | rfl | rfl | rfl | rfl | rfl | rfl | rfl | rfl | rfl | rfl | rfl <;> omega
theorem part_c (f : FuncId) (T : List Int → List Int) (c : Nat) (hc : c = 1 ∨ c = 2 ∨ c = 3) (hf : ∀ sq : List Int, sq.length = 2 ^ c → (∀ s ∈ sq, 0 ≤ s ∧ s ≤ 4611686018427387903) → FC Try.prog f [enc (lvls c), enc sq] [] (enc (T sq)) [])
    (x : Recv) (n : Int) (hg : 1 ≤ x.gain ∧ x.gain ≤ 10000000) (hn : -100000000 ≤ n ∧ n ≤ 100000000) :
    FC Try.prog 136 [enc n, .ptr 100000 0, .ptr 100001 0, .ptr 100002 0] [(100000, .box [enc (lvls c)]), (100001, .box (cells x)), (100002, .box [.fn (.func f) [] []])] (enc (T (sqS c x.gain n))) [(100000, .box [enc (lvls c)]), (100001, .box (cells x)), (100002, .box [.fn (.func f) [] []])] := by
  obtain ⟨o, g, l⟩ := x
  simp only at hg
  have hcl : cells (⟨o, g, l⟩ : Recv) = [.s (.int .i64 o), .s (.int .i64 g), .sl 2 (l.map cells)] := rfl
  rw [hcl]
  have hll := lvls_length c
  have hlb := lvls_bd hc
  have hp : 2 ^ c ≤ 8 := by rcases hc with rfl | rfl | rfl <;> decide
  have hsq : sqS c g n = (lvls c).map fun l => (n - l * g) * (n - l * g) := rfl
  generalize lvls c = L at *
  refine fc_introC [] is136 (by simp) (by simp [cG]) (by simp [aL, aP, cD]) (by simp [aL, aP, cD]) (by simp [ak, lk]) (fun cx _ _ _ => S_run [] 800 ?_)
  delta c136
  simp (maxSteps := 4000000) -implicitDefEqProofs only [rv136, InR, Ent.of0, Ent.of1, Ent.of2, Ent.of3, V, cr, bE, bh, bU, cM, c6, gt, lk, bS, cz, cI, bX, cg, cj, cj.subCs, cL, bt, bq, cD, aK, bf, a9, aF, aZ, bm, aM, a6, aV, cd, cO, cP, ar, aN, bZ, cJ, cH, cY, cQ, aQ, ag, ca, bK, zC, argS, be, ce, cU, cZ, ap, aO, ax, aw, bV, leC, cb, cC, bY, cV, cB, aL, aP, cN, aq, cF, bA, bA.viewCs, bF, bF.flatCs, aW, aW.LensOks, Value.oneCell', ↓reduceIte, ite_true, ite_false, if_true, if_false, Nat.reduceAdd, Nat.reduceSub, Nat.reduceMul, Nat.reduceEqDiff, Nat.reduceLT, Nat.reduceLeDiff, reduceCtorEq, Int.reduceToNat, forall_const, implies_true, a5, Ent.mk3, bk, bu, bH, bo, br, bL, a7, bv, bJ, bI, bg, co, bD, cT, rn, cc, cc.renCs, aJ, aG, aI, aI.viewOks, aA, bn, bn.flatBs, ay, au, aH, ah, aX, bG, bG.keysBs, aT, ai, a8, bW, bj, cu, af, af.passKs, av, aY, ae, ae.lendKs, bT, cn, bM, bz, setInn, an, cW, cS, aR, bC, bN, cq, aC, az, Glob.gl, aU, cm, a0, bR, bl, ak, cG, cR, b0, cK, bO, am, am.ptrOnlys, aj, aD, bQ, aB, bp, bw, bP, aE, bB, cp, Nat.reduceBEq, undef]
  refine S_forU L.length (fun i => [(11, .s (.int .i64 (i : Int)))]) (fun i => [(6, .row 1 3 (((L.take i).map fun l => (n - l * g) * (n - l * g)).map cells))]) (fun _ => True) trivial ?_ (fun i hi _ => S_run [.of2 f (fun a b => a = L ∧ b.length = 2 ^ c ∧ ∀ s ∈ b, 0 ≤ s ∧ s ≤ 4611686018427387903) (fun _ b => enc (T b)) (fun _ _ => trivial) (fun a b h => by obtain ⟨rfl, h1, h2⟩ := h; exact hf b h1 h2)] 800 ?_)
  · simp (maxSteps := 4000000) -implicitDefEqProofs only [Ent.of0, Ent.of1, Ent.of2, Ent.of3, V, cr, bE, bh, bU, cM, c6, gt, lk, bS, cz, cI, bX, cg, cj, cj.subCs, cL, bt, bq, cD, aK, bf, a9, aF, aZ, bm, aM, a6, aV, cd, cO, cP, ar, aN, bZ, cJ, cH, cY, cQ, aQ, ag, ca, bK, zC, argS, be, ce, cU, cZ, ap, aO, ax, aw, bV, leC, cb, cC, bY, cV, cB, aL, aP, cN, aq, cF, bA, bA.viewCs, bF, bF.flatCs, aW, aW.LensOks, Value.oneCell', ↓reduceIte, ite_true, ite_false, if_true, if_false, Nat.reduceAdd, Nat.reduceSub, Nat.reduceMul, Nat.reduceEqDiff, Nat.reduceLT, Nat.reduceLeDiff, reduceCtorEq, Int.reduceToNat, forall_const, implies_true, a5, Ent.mk3, bk, bu, bH, bo, br, bL, a7, bv, bJ, bI, bg, co, bD, cT, rn, cc, cc.renCs, aJ, aG, aI, aI.viewOks, aA, bn, bn.flatBs, ay, au, aH, ah, aX, bG, bG.keysBs, aT, ai, a8, bW, bj, cu, af, af.passKs, av, aY, ae, ae.lendKs, bT, cn, bM, bz, setInn, an, cW, cS, aR, bC, bN, cq, aC, az, Glob.gl, aU, cm, a0, bR, bl, ak, cG, cR, b0, cK, bO, am, am.ptrOnlys, aj, aD, bQ, aB, bp, bw, bP, aE, bB, cp, Nat.reduceBEq, undef]; simp
  · by_cases h : i < L.length
    · have hi2 : (i : Int) < (L.length : Int) := by omega
      have hm : L.getD i 0 ∈ L := by rw [List.getD_eq_getElem?_getD, List.getElem?_eq_getElem h]; exact List.getElem_mem _
      have b1 := lg_bd (hlb _ hm) hg
      have b2 := sq_bd (d := n - L.getD i 0 * g) (B := 170000000) (by omega)
      have htk : ((L.take i).map fun l => (n - l * g) * (n - l * g)).map cells ++ [[C.s (.int .i64 ((n - L.getD i 0 * g) * (n - L.getD i 0 * g)))]] = ((L.take (i + 1)).map fun l => (n - l * g) * (n - l * g)).map cells := by
        rw [take_getD 0 h, List.map_append, List.map_append]; rfl
      have htl : (L.take i).length = i := by rw [List.length_take]; omega
      delta c136l1
      simp (maxSteps := 4000000) -implicitDefEqProofs only [hi2, h, htk, InR, Ent.of0, Ent.of1, Ent.of2, Ent.of3, V, cr, bE, bh, bU, cM, c6, gt, lk, bS, cz, cI, bX, cg, cj, cj.subCs, cL, bt, bq, cD, aK, bf, a9, aF, aZ, bm, aM, a6, aV, cd, cO, cP, ar, aN, bZ, cJ, cH, cY, cQ, aQ, ag, ca, bK, zC, argS, be, ce, cU, cZ, ap, aO, ax, aw, bV, leC, cb, cC, bY, cV, cB, aL, aP, cN, aq, cF, bA, bA.viewCs, bF, bF.flatCs, aW, aW.LensOks, Value.oneCell', ↓reduceIte, ite_true, ite_false, if_true, if_false, Nat.reduceAdd, Nat.reduceSub, Nat.reduceMul, Nat.reduceEqDiff, Nat.reduceLT, Nat.reduceLeDiff, reduceCtorEq, Int.reduceToNat, forall_const, implies_true, a5, Ent.mk3, bk, bu, bH, bo, br, bL, a7, bv, bJ, bI, bg, co, bD, cT, rn, cc, cc.renCs, aJ, aG, aI, aI.viewOks, aA, bn, bn.flatBs, ay, au, aH, ah, aX, bG, bG.keysBs, aT, ai, a8, bW, bj, cu, af, af.passKs, av, aY, ae, ae.lendKs, bT, cn, bM, bz, setInn, an, cW, cS, aR, bC, bN, cq, aC, az, Glob.gl, aU, cm, a0, bR, bl, ak, cG, cR, b0, cK, bO, am, am.ptrOnlys, aj, aD, bQ, aB, bp, bw, bP, aE, bB, cp, Nat.reduceBEq, undef]
      exact ⟨by omega, by omega, by omega, by omega, by omega, by omega, by omega, by omega, by push_cast; rfl⟩
    · have hi2 : ¬ (i : Int) < (L.length : Int) := by omega
      have hie : i = L.length := by omega
      subst hie
      have htk : L.take L.length = L := List.take_length
      delta c136l1
      simp (maxSteps := 4000000) -implicitDefEqProofs only [hi2, rv136, htk, hsq, InR, Ent.of0, Ent.of1, Ent.of2, Ent.of3, V, cr, bE, bh, bU, cM, c6, gt, lk, bS, cz, cI, bX, cg, cj, cj.subCs, cL, bt, bq, cD, aK, bf, a9, aF, aZ, bm, aM, a6, aV, cd, cO, cP, ar, aN, bZ, cJ, cH, cY, cQ, aQ, ag, ca, bK, zC, argS, be, ce, cU, cZ, ap, aO, ax, aw, bV, leC, cb, cC, bY, cV, cB, aL, aP, cN, aq, cF, bA, bA.viewCs, bF, bF.flatCs, aW, aW.LensOks, Value.oneCell', ↓reduceIte, ite_true, ite_false, if_true, if_false, Nat.reduceAdd, Nat.reduceSub, Nat.reduceMul, Nat.reduceEqDiff, Nat.reduceLT, Nat.reduceLeDiff, reduceCtorEq, Int.reduceToNat, forall_const, implies_true, a5, Ent.mk3, bk, bu, bH, bo, br, bL, a7, bv, bJ, bI, bg, co, bD, cT, rn, cc, cc.renCs, aJ, aG, aI, aI.viewOks, aA, bn, bn.flatBs, ay, au, aH, ah, aX, bG, bG.keysBs, aT, ai, a8, bW, bj, cu, af, af.passKs, av, aY, ae, ae.lendKs, bT, cn, bM, bz, setInn, an, cW, cS, aR, bC, bN, cq, aC, az, Glob.gl, aU, cm, a0, bR, bl, ak, cG, cR, b0, cK, bO, am, am.ptrOnlys, aj, aD, bQ, aB, bp, bw, bP, aE, bB, cp, Nat.reduceBEq, undef]
      refine ⟨hll, fun s hs => ?_⟩
      obtain ⟨t, ht, rfl⟩ := List.mem_map.1 hs
      have b1 := lg_bd (hlb _ ht) hg
      have b2 := sq_bd (d := n - t * g) (B := 170000000) (by omega)
      omega
end Go.Proofs.Ytfgpbmjmoobcnaa
end
section
open Go Go.Am
open Go.Am.Dat (cells)
namespace Go.Proofs.Ytfgpbmjmoobcnaa
set_option maxHeartbeats 4000000
set_option maxRecDepth 20000
set_option linter.unusedSimpArgs false
def RepR (a : List Fz) (r : List Gs) : Prop := a.length = r.length ∧ ∀ i, i < r.length → IsC (a.getD i ⟨0, 0⟩) (r.getD i ⟨0, 0⟩)
def RepM (a : List (List Fz)) (m : List (List Gs)) : Prop := a.length = m.length ∧ ∀ i, i < m.length → RepR (a.getD i []) (m.getD i [])
def gridS (m : List (List Gs)) : List (List Fz) := m.map fun r => r.map toW
theorem getD_map' {α β : Type} (f : α → β) (l : List α) (i : Nat) (d : α) (e : β) (h : i < l.length) : (l.map f).getD i e = f (l.getD i d) := by
  rw [List.getD_eq_getElem?_getD, List.getD_eq_getElem?_getD, List.getElem?_map, List.getElem?_eq_getElem h]; rfl
theorem grid_rep {m : List (List Gs)} (h : ∀ r ∈ m, ∀ g ∈ r, bd g 9007199254740991) : RepM (gridS m) m := by
  refine ⟨by simp [gridS], fun i hi => ?_⟩
  rw [gridS, getD_map' _ m i [] [] hi]
  refine ⟨by simp, fun j hj => ?_⟩
  rw [getD_map' _ _ j ⟨0, 0⟩ _ hj]
  exact isC_toW (h _ (getD_mem [] hi) _ (getD_mem _ hj))
theorem gridOf_c (m : List (List Gs)) (hm : m.length ≤ 1000) (hr : ∀ r ∈ m, r.length ≤ 1000000) : FC Try.prog 84 [enc m] [] (enc (gridS m)) [] := by
  refine fc_intro' is84 (by simp) (fun cx hl => S_run [] 800 ?_)
  delta c84
  simp (maxSteps := 4000000) -implicitDefEqProofs only [rv84, Ent.of0, Ent.of1, Ent.of2, Ent.of3, V, cr, bE, bh, bU, cM, c6, gt, lk, bS, cz, cI, bX, cg, cj, cj.subCs, cL, bt, bq, cD, aK, bf, a9, aF, aZ, bm, aM, a6, aV, cd, cO, cP, ar, aN, bZ, cJ, cH, cY, cQ, aQ, ag, ca, bK, zC, argS, be, ce, cU, cZ, ap, aO, ax, aw, bV, leC, cb, cC, bY, cV, cB, aL, aP, cN, aq, cF, bA, bA.viewCs, bF, bF.flatCs, aW, aW.LensOks, Value.oneCell', ↓reduceIte, ite_true, ite_false, if_true, if_false, Nat.reduceAdd, Nat.reduceSub, Nat.reduceMul, Nat.reduceEqDiff, Nat.reduceLT, Nat.reduceLeDiff, reduceCtorEq, Int.reduceToNat, forall_const, implies_true, a5, Ent.mk3, bk, bu, bH, bo, br, bL, a7, bv, bJ, bI, bg, co, bD, cT, rn, cc, cc.renCs, aJ, aG, aI, aI.viewOks, aA, bn, bn.flatBs, ay, au, aH, ah, aX, bG, bG.keysBs, aT, ai, a8, bW, bj, cu, af, af.passKs, av, aY, ae, ae.lendKs, bT, cn, bM, bz, setInn, an, cW, cS, aR, bC, bN, cq, aC, az, Glob.gl, aU, cm, a0, bR, bl, ak, cG, cR, b0, cK, bO, am, am.ptrOnlys, aj, aD, bQ, aB, bp, bw, bP, aE, bB, cp, Nat.reduceBEq, undef]
  refine S_forU m.length (fun i => [(11, .s (.int .i64 i))]) (fun i => [(3, .row 1 152 ((gridS (m.take i)).map cells))]) (fun _ => True) trivial ?_ (fun i hi _ => S_run [] 800 ?_)
  · simp (maxSteps := 4000000) -implicitDefEqProofs only [gridS, Ent.of0, Ent.of1, Ent.of2, Ent.of3, V, cr, bE, bh, bU, cM, c6, gt, lk, bS, cz, cI, bX, cg, cj, cj.subCs, cL, bt, bq, cD, aK, bf, a9, aF, aZ, bm, aM, a6, aV, cd, cO, cP, ar, aN, bZ, cJ, cH, cY, cQ, aQ, ag, ca, bK, zC, argS, be, ce, cU, cZ, ap, aO, ax, aw, bV, leC, cb, cC, bY, cV, cB, aL, aP, cN, aq, cF, bA, bA.viewCs, bF, bF.flatCs, aW, aW.LensOks, Value.oneCell', ↓reduceIte, ite_true, ite_false, if_true, if_false, Nat.reduceAdd, Nat.reduceSub, Nat.reduceMul, Nat.reduceEqDiff, Nat.reduceLT, Nat.reduceLeDiff, reduceCtorEq, Int.reduceToNat, forall_const, implies_true, a5, Ent.mk3, bk, bu, bH, bo, br, bL, a7, bv, bJ, bI, bg, co, bD, cT, rn, cc, cc.renCs, aJ, aG, aI, aI.viewOks, aA, bn, bn.flatBs, ay, au, aH, ah, aX, bG, bG.keysBs, aT, ai, a8, bW, bj, cu, af, af.passKs, av, aY, ae, ae.lendKs, bT, cn, bM, bz, setInn, an, cW, cS, aR, bC, bN, cq, aC, az, Glob.gl, aU, cm, a0, bR, bl, ak, cG, cR, b0, cK, bO, am, am.ptrOnlys, aj, aD, bQ, aB, bp, bw, bP, aE, bB, cp, Nat.reduceBEq, undef]; simp
  · by_cases h : i < m.length
    · have hi2 : (i : Int) < (m.length : Int) := by omega
      have hrl := hr _ (getD_mem [] h)
      delta c84l2
      simp (maxSteps := 4000000) -implicitDefEqProofs only [hi2, getD_list, h, Ent.of0, Ent.of1, Ent.of2, Ent.of3, V, cr, bE, bh, bU, cM, c6, gt, lk, bS, cz, cI, bX, cg, cj, cj.subCs, cL, bt, bq, cD, aK, bf, a9, aF, aZ, bm, aM, a6, aV, cd, cO, cP, ar, aN, bZ, cJ, cH, cY, cQ, aQ, ag, ca, bK, zC, argS, be, ce, cU, cZ, ap, aO, ax, aw, bV, leC, cb, cC, bY, cV, cB, aL, aP, cN, aq, cF, bA, bA.viewCs, bF, bF.flatCs, aW, aW.LensOks, Value.oneCell', ↓reduceIte, ite_true, ite_false, if_true, if_false, Nat.reduceAdd, Nat.reduceSub, Nat.reduceMul, Nat.reduceEqDiff, Nat.reduceLT, Nat.reduceLeDiff, reduceCtorEq, Int.reduceToNat, forall_const, implies_true, a5, Ent.mk3, bk, bu, bH, bo, br, bL, a7, bv, bJ, bI, bg, co, bD, cT, rn, cc, cc.renCs, aJ, aG, aI, aI.viewOks, aA, bn, bn.flatBs, ay, au, aH, ah, aX, bG, bG.keysBs, aT, ai, a8, bW, bj, cu, af, af.passKs, av, aY, ae, ae.lendKs, bT, cn, bM, bz, setInn, an, cW, cS, aR, bC, bN, cq, aC, az, Glob.gl, aU, cm, a0, bR, bl, ak, cG, cR, b0, cK, bO, am, am.ptrOnlys, aj, aD, bQ, aB, bp, bw, bP, aE, bB, cp, Nat.reduceBEq, undef]
      refine ⟨by omega, ?_⟩
      generalize hR : m.getD i [] = R at *
      refine S_forU R.length (fun j => [(17, .s (.int .i64 j))]) (fun j => [(6, .row 1 153 (((R.take j).map toW).map cells))]) (fun _ => True) trivial ?_ (fun j hj _ => S_run [] 800 ?_)
      · simp (maxSteps := 4000000) -implicitDefEqProofs only [Ent.of0, Ent.of1, Ent.of2, Ent.of3, V, cr, bE, bh, bU, cM, c6, gt, lk, bS, cz, cI, bX, cg, cj, cj.subCs, cL, bt, bq, cD, aK, bf, a9, aF, aZ, bm, aM, a6, aV, cd, cO, cP, ar, aN, bZ, cJ, cH, cY, cQ, aQ, ag, ca, bK, zC, argS, be, ce, cU, cZ, ap, aO, ax, aw, bV, leC, cb, cC, bY, cV, cB, aL, aP, cN, aq, cF, bA, bA.viewCs, bF, bF.flatCs, aW, aW.LensOks, Value.oneCell', ↓reduceIte, ite_true, ite_false, if_true, if_false, Nat.reduceAdd, Nat.reduceSub, Nat.reduceMul, Nat.reduceEqDiff, Nat.reduceLT, Nat.reduceLeDiff, reduceCtorEq, Int.reduceToNat, forall_const, implies_true, a5, Ent.mk3, bk, bu, bH, bo, br, bL, a7, bv, bJ, bI, bg, co, bD, cT, rn, cc, cc.renCs, aJ, aG, aI, aI.viewOks, aA, bn, bn.flatBs, ay, au, aH, ah, aX, bG, bG.keysBs, aT, ai, a8, bW, bj, cu, af, af.passKs, av, aY, ae, ae.lendKs, bT, cn, bM, bz, setInn, an, cW, cS, aR, bC, bN, cq, aC, az, Glob.gl, aU, cm, a0, bR, bl, ak, cG, cR, b0, cK, bO, am, am.ptrOnlys, aj, aD, bQ, aB, bp, bw, bP, aE, bB, cp, Nat.reduceBEq, undef]; simp
      · by_cases hjl : j < R.length
        · have hj2 : (j : Int) < (R.length : Int) := by omega
          have htk : ((R.take j).map toW).map cells ++ [[C.s (.complex .f64 (FloatKind.f64.nearest (R.getD j ⟨0, 0⟩).re) (FloatKind.f64.nearest (R.getD j ⟨0, 0⟩).im))]] = ((R.take (j + 1)).map toW).map cells := by
            rw [take_getD ⟨0, 0⟩ hjl, List.map_append, List.map_append]; rfl
          have htl : (R.take j).length = j := by rw [List.length_take]; omega
          delta c84l1
          simp (maxSteps := 4000000) -implicitDefEqProofs only [hj2, hjl, cd, htk, htl, InR, Ent.of0, Ent.of1, Ent.of2, Ent.of3, V, cr, bE, bh, bU, cM, c6, gt, lk, bS, cz, cI, bX, cg, cj, cj.subCs, cL, bt, bq, cD, aK, bf, a9, aF, aZ, bm, aM, a6, aV, cd, cO, cP, ar, aN, bZ, cJ, cH, cY, cQ, aQ, ag, ca, bK, zC, argS, be, ce, cU, cZ, ap, aO, ax, aw, bV, leC, cb, cC, bY, cV, cB, aL, aP, cN, aq, cF, bA, bA.viewCs, bF, bF.flatCs, aW, aW.LensOks, Value.oneCell', ↓reduceIte, ite_true, ite_false, if_true, if_false, Nat.reduceAdd, Nat.reduceSub, Nat.reduceMul, Nat.reduceEqDiff, Nat.reduceLT, Nat.reduceLeDiff, reduceCtorEq, Int.reduceToNat, forall_const, implies_true, a5, Ent.mk3, bk, bu, bH, bo, br, bL, a7, bv, bJ, bI, bg, co, bD, cT, rn, cc, cc.renCs, aJ, aG, aI, aI.viewOks, aA, bn, bn.flatBs, ay, au, aH, ah, aX, bG, bG.keysBs, aT, ai, a8, bW, bj, cu, af, af.passKs, av, aY, ae, ae.lendKs, bT, cn, bM, bz, setInn, an, cW, cS, aR, bC, bN, cq, aC, az, Glob.gl, aU, cm, a0, bR, bl, ak, cG, cR, b0, cK, bO, am, am.ptrOnlys, aj, aD, bQ, aB, bp, bw, bP, aE, bB, cp, Nat.reduceBEq, undef]
          and_intros <;> first | omega | rfl | trivial
        · have : j = R.length := by omega
          subst this
          have hj2 : ¬ (R.length : Int) < (R.length : Int) := by omega
          have htk : (gridS (m.take i)).map cells ++ [[C.sl 1 ((R.map toW).map cells)]] = (gridS (m.take (i + 1))).map cells := by
            rw [take_getD [] h, hR, gridS, gridS, List.map_append, List.map_append]; rfl
          have htl : (gridS (m.take i)).length = i := by rw [gridS, List.length_map, List.length_take]; omega
          delta c84l1
          simp (maxSteps := 4000000) -implicitDefEqProofs only [hj2, List.take_length, htk, htl, InR, Ent.of0, Ent.of1, Ent.of2, Ent.of3, V, cr, bE, bh, bU, cM, c6, gt, lk, bS, cz, cI, bX, cg, cj, cj.subCs, cL, bt, bq, cD, aK, bf, a9, aF, aZ, bm, aM, a6, aV, cd, cO, cP, ar, aN, bZ, cJ, cH, cY, cQ, aQ, ag, ca, bK, zC, argS, be, ce, cU, cZ, ap, aO, ax, aw, bV, leC, cb, cC, bY, cV, cB, aL, aP, cN, aq, cF, bA, bA.viewCs, bF, bF.flatCs, aW, aW.LensOks, Value.oneCell', ↓reduceIte, ite_true, ite_false, if_true, if_false, Nat.reduceAdd, Nat.reduceSub, Nat.reduceMul, Nat.reduceEqDiff, Nat.reduceLT, Nat.reduceLeDiff, reduceCtorEq, Int.reduceToNat, forall_const, implies_true, a5, Ent.mk3, bk, bu, bH, bo, br, bL, a7, bv, bJ, bI, bg, co, bD, cT, rn, cc, cc.renCs, aJ, aG, aI, aI.viewOks, aA, bn, bn.flatBs, ay, au, aH, ah, aX, bG, bG.keysBs, aT, ai, a8, bW, bj, cu, af, af.passKs, av, aY, ae, ae.lendKs, bT, cn, bM, bz, setInn, an, cW, cS, aR, bC, bN, cq, aC, az, Glob.gl, aU, cm, a0, bR, bl, ak, cG, cR, b0, cK, bO, am, am.ptrOnlys, aj, aD, bQ, aB, bp, bw, bP, aE, bB, cp, Nat.reduceBEq, undef]
          and_intros <;> first | omega | rfl | trivial
    · have : i = m.length := by omega
      subst this
      have hi2 : ¬ (m.length : Int) < (m.length : Int) := by omega
      delta c84l2
      simp (maxSteps := 4000000) -implicitDefEqProofs only [hi2, rv84, List.take_length, Ent.of0, Ent.of1, Ent.of2, Ent.of3, V, cr, bE, bh, bU, cM, c6, gt, lk, bS, cz, cI, bX, cg, cj, cj.subCs, cL, bt, bq, cD, aK, bf, a9, aF, aZ, bm, aM, a6, aV, cd, cO, cP, ar, aN, bZ, cJ, cH, cY, cQ, aQ, ag, ca, bK, zC, argS, be, ce, cU, cZ, ap, aO, ax, aw, bV, leC, cb, cC, bY, cV, cB, aL, aP, cN, aq, cF, bA, bA.viewCs, bF, bF.flatCs, aW, aW.LensOks, Value.oneCell', ↓reduceIte, ite_true, ite_false, if_true, if_false, Nat.reduceAdd, Nat.reduceSub, Nat.reduceMul, Nat.reduceEqDiff, Nat.reduceLT, Nat.reduceLeDiff, reduceCtorEq, Int.reduceToNat, forall_const, implies_true, a5, Ent.mk3, bk, bu, bH, bo, br, bL, a7, bv, bJ, bI, bg, co, bD, cT, rn, cc, cc.renCs, aJ, aG, aI, aI.viewOks, aA, bn, bn.flatBs, ay, au, aH, ah, aX, bG, bG.keysBs, aT, ai, a8, bW, bj, cu, af, af.passKs, av, aY, ae, ae.lendKs, bT, cn, bM, bz, setInn, an, cW, cS, aR, bC, bN, cq, aC, az, Glob.gl, aU, cm, a0, bR, bl, ak, cG, cR, b0, cK, bO, am, am.ptrOnlys, aj, aD, bQ, aB, bp, bw, bP, aE, bB, cp, Nat.reduceBEq, undef]
def e84 : Ent Try.prog := .of1 84 (fun m => m.length ≤ 1000 ∧ ∀ r ∈ m, r.length ≤ 1000000) (fun m : List (List Gs) => enc (gridS m)) (fun _ => trivial) (fun m h => gridOf_c m h.1 h.2)
end Go.Proofs.Ytfgpbmjmoobcnaa
end
section
open Go Go.Am
open Go.Am.Dat (cells)
namespace Go.Proofs.Ytfgpbmjmoobcnaa
set_option maxHeartbeats 4000000
set_option maxRecDepth 20000
set_option linter.unusedSimpArgs false
def dotW (row : List Fz) (o : List (List Fz)) (i : Nat) : Nat → Fz
  | 0 => ⟨0, 0⟩
  | k + 1 => addW (dotW row o i k) (mulW (row.getD k ⟨0, 0⟩) ((o.getD k []).getD i ⟨0, 0⟩))
def rowW (o : List (List Fz)) (row : List Fz) : List Fz := (List.range (o.getD 0 []).length).map fun i => dotW row o i o.length
def timesW (a o : List (List Fz)) : List (List Fz) := a.map (rowW o)
def sumW (row : List Fz) (o : List (List Fz)) (n k j : Nat) : List Fz := (List.range n).map fun i => if i < j then dotW row o i (k + 1) else dotW row o i k
theorem sumW_get {row : List Fz} {o : List (List Fz)} {n k j : Nat} (h : j < n) : (sumW row o n k j).getD j ⟨0, 0⟩ = dotW row o j k := by
  simp [sumW, h]
theorem sumW_set {row : List Fz} {o : List (List Fz)} {n k j : Nat} (h : j < n) : ((sumW row o n k j).map cells).set j [C.s (.complex .f64 (dotW row o j (k + 1)).x (dotW row o j (k + 1)).y)] = (sumW row o n k (j + 1)).map cells := by
  have e : [C.s (.complex .f64 (dotW row o j (k + 1)).x (dotW row o j (k + 1)).y)] = cells (dotW row o j (k + 1)) := rfl
  rw [e, ← List.map_set]
  congr 1
  apply List.ext_getElem?
  intro i
  simp only [sumW, List.getElem?_set, List.getElem?_map, List.length_map, List.length_range]
  by_cases hi : j = i
  · subst hi; simp [h]
  · rw [if_neg hi]
    by_cases hin : i < n
    · simp only [List.getElem?_range hin, Option.map_some, Option.some.injEq]
      have : (i < j + 1) = (i < j) := by apply propext; omega
      simp only [this]
    · rw [List.getElem?_eq_none (by simpa using hin)]; rfl
theorem sumW_next (row : List Fz) (o : List (List Fz)) (n k : Nat) : sumW row o n k n = sumW row o n (k + 1) 0 := by
  unfold sumW
  refine List.map_congr_left fun i hi => ?_
  have : i < n := by simpa using hi
  simp [this]
theorem rng_getD {α : Type} {n i : Nat} (f : Nat → α) (d : α) (h : i < n) : ((List.range n).map f).getD i d = f i := by
  rw [List.getD_eq_getElem?_getD, List.getElem?_map, List.getElem?_range h]; rfl
theorem sumW_zero (row : List Fz) (o : List (List Fz)) (n : Nat) : (sumW row o n 0 0).map cells = List.replicate n [C.s (.complex .f64 0 0)] := by
  unfold sumW
  rw [List.map_map, List.eq_replicate_iff]
  refine ⟨by simp, fun b hb => ?_⟩
  obtain ⟨i, _, rfl⟩ := List.mem_map.1 hb
  simp [dotW, cells_fz]
theorem dot_c {a o : List (List Fz)} {m ls : List (List Gs)} {A B : Nat} (hf : Fits m ls A B) (hs : 8 * (A * B) ≤ 9007199254740991) (ha : RepM a m) (ho : RepM o ls) {r i : Nat} (hr : r < m.length) (hi : i < (ls.getD 0 []).length) : ∀ k, k ≤ ls.length → IsC (dotW (a.getD r []) o i k) (dotS (m.getD r []) ls i k) ∧
    (k < ls.length → aN .mul ((a.getD r []).getD k ⟨0, 0⟩).x ((a.getD r []).getD k ⟨0, 0⟩).y ((o.getD k []).getD i ⟨0, 0⟩).x ((o.getD k []).getD i ⟨0, 0⟩).y = some ((mulW ((a.getD r []).getD k ⟨0, 0⟩) ((o.getD k []).getD i ⟨0, 0⟩)).x, (mulW ((a.getD r []).getD k ⟨0, 0⟩) ((o.getD k []).getD i ⟨0, 0⟩)).y) ∧
      aN .add (dotW (a.getD r []) o i k).x (dotW (a.getD r []) o i k).y (mulW ((a.getD r []).getD k ⟨0, 0⟩) ((o.getD k []).getD i ⟨0, 0⟩)).x (mulW ((a.getD r []).getD k ⟨0, 0⟩) ((o.getD k []).getD i ⟨0, 0⟩)).y = some ((dotW (a.getD r []) o i (k + 1)).x, (dotW (a.getD r []) o i (k + 1)).y) ∧
      IsC (dotW (a.getD r []) o i (k + 1)) (dotS (m.getD r []) ls i (k + 1))) := by
  have hrm : m.getD r [] ∈ m := getD_mem [] hr
  have hcol := hf.cols _ hrm
  have step : ∀ k, k < ls.length → IsC (dotW (a.getD r []) o i k) (dotS (m.getD r []) ls i k) → (aN .mul ((a.getD r []).getD k ⟨0, 0⟩).x ((a.getD r []).getD k ⟨0, 0⟩).y ((o.getD k []).getD i ⟨0, 0⟩).x ((o.getD k []).getD i ⟨0, 0⟩).y = some ((mulW ((a.getD r []).getD k ⟨0, 0⟩) ((o.getD k []).getD i ⟨0, 0⟩)).x, (mulW ((a.getD r []).getD k ⟨0, 0⟩) ((o.getD k []).getD i ⟨0, 0⟩)).y) ∧
      aN .add (dotW (a.getD r []) o i k).x (dotW (a.getD r []) o i k).y (mulW ((a.getD r []).getD k ⟨0, 0⟩) ((o.getD k []).getD i ⟨0, 0⟩)).x (mulW ((a.getD r []).getD k ⟨0, 0⟩) ((o.getD k []).getD i ⟨0, 0⟩)).y = some ((dotW (a.getD r []) o i (k + 1)).x, (dotW (a.getD r []) o i (k + 1)).y) ∧
      IsC (dotW (a.getD r []) o i (k + 1)) (dotS (m.getD r []) ls i (k + 1))) := fun k hk hd => by
    have hik : i < (ls.getD k []).length := by rw [hf.len _ (getD_mem [] hk)]; exact hi
    have b1 := hf.ma _ hrm _ (getD_mem ⟨0, 0⟩ (by omega : k < (m.getD r []).length))
    have b2 := hf.mb _ (getD_mem [] hk) _ (getD_mem ⟨0, 0⟩ hik)
    have b3 := bd_dot hf hrm hi k (by omega)
    have hle := hf.le
    obtain ⟨m1, m2⟩ := mulW_c ((ha.2 r hr).2 k (by omega)) ((ho.2 k hk).2 i hik) b1 b2 (by omega)
    have b4 := bd_gmul b1 b2
    obtain ⟨a1, a2⟩ := addW_c hd m2 b3 b4 (by
      have : k * (2 * (A * B)) ≤ 3 * (2 * (A * B)) := Nat.mul_le_mul_right _ (by omega)
      omega)
    exact ⟨m1, a1, a2⟩
  intro k
  induction k with
  | zero => intro _; exact ⟨isC_zero, fun h => step 0 h isC_zero⟩
  | succ k ih =>
    intro hk
    have := ((ih (by omega)).2 (by omega)).2.2
    exact ⟨this, fun h => step (k + 1) h this⟩
theorem times_rep {a o : List (List Fz)} {m ls : List (List Gs)} {A B : Nat} (hf : Fits m ls A B) (hs : 8 * (A * B) ≤ 9007199254740991) (ha : RepM a m) (ho : RepM o ls) : RepM (timesW a o) (applS m ls) := by
  have hp := hf.pos
  refine ⟨by simp [timesW, applS, ha.1], fun r hr => ?_⟩
  have hr' : r < m.length := by simpa [applS] using hr
  rw [timesW, applS, getD_map' _ a r [] [] (by rw [ha.1]; exact hr'), getD_map' _ m r [] [] hr']
  have hl : (o.getD 0 []).length = (ls.getD 0 []).length := (ho.2 0 hp).1
  refine ⟨by simp only [rowW, rowS', List.length_map, List.length_range, hl], fun i hi => ?_⟩
  have hi' : i < (ls.getD 0 []).length := by simpa [rowS'] using hi
  have := (dot_c hf hs ha ho hr' hi' ls.length (Nat.le_refl _)).1
  have e1 : (rowW o (a.getD r [])).getD i ⟨0, 0⟩ = dotW (a.getD r []) o i ls.length := by rw [rowW, hl, ho.1, rng_getD _ _ hi']
  have e2 : (rowS' ls (m.getD r [])).getD i ⟨0, 0⟩ = dotS (m.getD r []) ls i ls.length := by rw [rowS', rng_getD _ _ hi']
  rw [e1, e2]; exact this
theorem gridTimes_c (a o : List (List Fz)) (m ls : List (List Gs)) (A B : Nat) (hf : Fits m ls A B) (hs : 8 * (A * B) ≤ 9007199254740991) (ha : RepM a m) (ho : RepM o ls) : FC Try.prog 86 [enc a, enc o] [] (enc (timesW a o)) [] := by
  refine fc_intro' is86 (by simp) (fun cx hl => S_run [] 800 ?_)
  have hp := hf.pos
  have hle := hf.le
  have hmle := hf.mle
  have hsh := hf.short
  have hoL := ho.1
  have haL := ha.1
  have hn0 : (o.getD 0 []).length = (ls.getD 0 []).length := (ho.2 0 hp).1
  generalize hn : (ls.getD 0 []).length = n at *
  have ho0 : 0 < o.length := by omega
  delta c86
  simp (maxSteps := 4000000) -implicitDefEqProofs only [rv86, Ent.of0, Ent.of1, Ent.of2, Ent.of3, V, cr, bE, bh, bU, cM, c6, gt, lk, bS, cz, cI, bX, cg, cj, cj.subCs, cL, bt, bq, cD, aK, bf, a9, aF, aZ, bm, aM, a6, aV, cd, cO, cP, ar, aN, bZ, cJ, cH, cY, cQ, aQ, ag, ca, bK, zC, argS, be, ce, cU, cZ, ap, aO, ax, aw, bV, leC, cb, cC, bY, cV, cB, aL, aP, cN, aq, cF, bA, bA.viewCs, bF, bF.flatCs, aW, aW.LensOks, Value.oneCell', ↓reduceIte, ite_true, ite_false, if_true, if_false, Nat.reduceAdd, Nat.reduceSub, Nat.reduceMul, Nat.reduceEqDiff, Nat.reduceLT, Nat.reduceLeDiff, reduceCtorEq, Int.reduceToNat, forall_const, implies_true, a5, Ent.mk3, bk, bu, bH, bo, br, bL, a7, bv, bJ, bI, bg, co, bD, cT, rn, cc, cc.renCs, aJ, aG, aI, aI.viewOks, aA, bn, bn.flatBs, ay, au, aH, ah, aX, bG, bG.keysBs, aT, ai, a8, bW, bj, cu, af, af.passKs, av, aY, ae, ae.lendKs, bT, cn, bM, bz, setInn, an, cW, cS, aR, bC, bN, cq, aC, az, Glob.gl, aU, cm, a0, bR, bl, ak, cG, cR, b0, cK, bO, am, am.ptrOnlys, aj, aD, bQ, aB, bp, bw, bP, aE, bB, cp, Nat.reduceBEq, undef]
  refine S_forU a.length (fun i => [(15, .s (.int .i64 i))]) (fun i => [(5, .row 1 152 ((timesW (a.take i) o).map cells))]) (fun _ => True) trivial ?_ (fun i hi _ => S_run [] 800 ?_)
  · simp (maxSteps := 4000000) -implicitDefEqProofs only [timesW, Ent.of0, Ent.of1, Ent.of2, Ent.of3, V, cr, bE, bh, bU, cM, c6, gt, lk, bS, cz, cI, bX, cg, cj, cj.subCs, cL, bt, bq, cD, aK, bf, a9, aF, aZ, bm, aM, a6, aV, cd, cO, cP, ar, aN, bZ, cJ, cH, cY, cQ, aQ, ag, ca, bK, zC, argS, be, ce, cU, cZ, ap, aO, ax, aw, bV, leC, cb, cC, bY, cV, cB, aL, aP, cN, aq, cF, bA, bA.viewCs, bF, bF.flatCs, aW, aW.LensOks, Value.oneCell', ↓reduceIte, ite_true, ite_false, if_true, if_false, Nat.reduceAdd, Nat.reduceSub, Nat.reduceMul, Nat.reduceEqDiff, Nat.reduceLT, Nat.reduceLeDiff, reduceCtorEq, Int.reduceToNat, forall_const, implies_true, a5, Ent.mk3, bk, bu, bH, bo, br, bL, a7, bv, bJ, bI, bg, co, bD, cT, rn, cc, cc.renCs, aJ, aG, aI, aI.viewOks, aA, bn, bn.flatBs, ay, au, aH, ah, aX, bG, bG.keysBs, aT, ai, a8, bW, bj, cu, af, af.passKs, av, aY, ae, ae.lendKs, bT, cn, bM, bz, setInn, an, cW, cS, aR, bC, bN, cq, aC, az, Glob.gl, aU, cm, a0, bR, bl, ak, cG, cR, b0, cK, bO, am, am.ptrOnlys, aj, aD, bQ, aB, bp, bw, bP, aE, bB, cp, Nat.reduceBEq, undef]; simp
  · by_cases h : i < a.length
    · have hi2 : (i : Int) < (a.length : Int) := by omega
      have him : i < m.length := by omega
      have hcol : (a.getD i []).length = ls.length := by rw [(ha.2 i him).1]; exact hf.cols _ (getD_mem [] him)
      delta c86l3
      simp (maxSteps := 4000000) -implicitDefEqProofs only [sz_fz, hi2, getD_list, h, ho0, hn0, Int.toNat_natCast, InR, Ent.of0, Ent.of1, Ent.of2, Ent.of3, V, cr, bE, bh, bU, cM, c6, gt, lk, bS, cz, cI, bX, cg, cj, cj.subCs, cL, bt, bq, cD, aK, bf, a9, aF, aZ, bm, aM, a6, aV, cd, cO, cP, ar, aN, bZ, cJ, cH, cY, cQ, aQ, ag, ca, bK, zC, argS, be, ce, cU, cZ, ap, aO, ax, aw, bV, leC, cb, cC, bY, cV, cB, aL, aP, cN, aq, cF, bA, bA.viewCs, bF, bF.flatCs, aW, aW.LensOks, Value.oneCell', ↓reduceIte, ite_true, ite_false, if_true, if_false, Nat.reduceAdd, Nat.reduceSub, Nat.reduceMul, Nat.reduceEqDiff, Nat.reduceLT, Nat.reduceLeDiff, reduceCtorEq, Int.reduceToNat, forall_const, implies_true, a5, Ent.mk3, bk, bu, bH, bo, br, bL, a7, bv, bJ, bI, bg, co, bD, cT, rn, cc, cc.renCs, aJ, aG, aI, aI.viewOks, aA, bn, bn.flatBs, ay, au, aH, ah, aX, bG, bG.keysBs, aT, ai, a8, bW, bj, cu, af, af.passKs, av, aY, ae, ae.lendKs, bT, cn, bM, bz, setInn, an, cW, cS, aR, bC, bN, cq, aC, az, Glob.gl, aU, cm, a0, bR, bl, ak, cG, cR, b0, cK, bO, am, am.ptrOnlys, aj, aD, bQ, aB, bp, bw, bP, aE, bB, cp, Nat.reduceBEq, undef]
      refine ⟨by omega, by omega, by omega, ?_⟩
      generalize hR : a.getD i [] = R at *
      refine S_forU R.length (fun k => [(26, .s (.int .i64 k))]) (fun k => [(23, .row 1 153 ((sumW R o n k 0).map cells))]) (fun _ => True) trivial ?_ (fun k hk _ => S_run [] 800 ?_)
      · simp (maxSteps := 4000000) -implicitDefEqProofs only [sumW_zero, Ent.of0, Ent.of1, Ent.of2, Ent.of3, V, cr, bE, bh, bU, cM, c6, gt, lk, bS, cz, cI, bX, cg, cj, cj.subCs, cL, bt, bq, cD, aK, bf, a9, aF, aZ, bm, aM, a6, aV, cd, cO, cP, ar, aN, bZ, cJ, cH, cY, cQ, aQ, ag, ca, bK, zC, argS, be, ce, cU, cZ, ap, aO, ax, aw, bV, leC, cb, cC, bY, cV, cB, aL, aP, cN, aq, cF, bA, bA.viewCs, bF, bF.flatCs, aW, aW.LensOks, Value.oneCell', ↓reduceIte, ite_true, ite_false, if_true, if_false, Nat.reduceAdd, Nat.reduceSub, Nat.reduceMul, Nat.reduceEqDiff, Nat.reduceLT, Nat.reduceLeDiff, reduceCtorEq, Int.reduceToNat, forall_const, implies_true, a5, Ent.mk3, bk, bu, bH, bo, br, bL, a7, bv, bJ, bI, bg, co, bD, cT, rn, cc, cc.renCs, aJ, aG, aI, aI.viewOks, aA, bn, bn.flatBs, ay, au, aH, ah, aX, bG, bG.keysBs, aT, ai, a8, bW, bj, cu, af, af.passKs, av, aY, ae, ae.lendKs, bT, cn, bM, bz, setInn, an, cW, cS, aR, bC, bN, cq, aC, az, Glob.gl, aU, cm, a0, bR, bl, ak, cG, cR, b0, cK, bO, am, am.ptrOnlys, aj, aD, bQ, aB, bp, bw, bP, aE, bB, cp, Nat.reduceBEq, undef]; simp
      · by_cases hkl : k < R.length
        · have hk2 : (k : Int) < (R.length : Int) := by omega
          have hko : k < o.length := by omega
          have hkn : (o.getD k []).length = n := by rw [(ho.2 k (by omega)).1, ← hn]; exact hf.len _ (getD_mem [] (by omega))
          delta c86l2
          simp (maxSteps := 4000000) -implicitDefEqProofs only [hk2, hkl, hko, getD_list, getD_fz, sz_fz, Ent.of0, Ent.of1, Ent.of2, Ent.of3, V, cr, bE, bh, bU, cM, c6, gt, lk, bS, cz, cI, bX, cg, cj, cj.subCs, cL, bt, bq, cD, aK, bf, a9, aF, aZ, bm, aM, a6, aV, cd, cO, cP, ar, aN, bZ, cJ, cH, cY, cQ, aQ, ag, ca, bK, zC, argS, be, ce, cU, cZ, ap, aO, ax, aw, bV, leC, cb, cC, bY, cV, cB, aL, aP, cN, aq, cF, bA, bA.viewCs, bF, bF.flatCs, aW, aW.LensOks, Value.oneCell', ↓reduceIte, ite_true, ite_false, if_true, if_false, Nat.reduceAdd, Nat.reduceSub, Nat.reduceMul, Nat.reduceEqDiff, Nat.reduceLT, Nat.reduceLeDiff, reduceCtorEq, Int.reduceToNat, forall_const, implies_true, a5, Ent.mk3, bk, bu, bH, bo, br, bL, a7, bv, bJ, bI, bg, co, bD, cT, rn, cc, cc.renCs, aJ, aG, aI, aI.viewOks, aA, bn, bn.flatBs, ay, au, aH, ah, aX, bG, bG.keysBs, aT, ai, a8, bW, bj, cu, af, af.passKs, av, aY, ae, ae.lendKs, bT, cn, bM, bz, setInn, an, cW, cS, aR, bC, bN, cq, aC, az, Glob.gl, aU, cm, a0, bR, bl, ak, cG, cR, b0, cK, bO, am, am.ptrOnlys, aj, aD, bQ, aB, bp, bw, bP, aE, bB, cp, Nat.reduceBEq, undef]
          refine ⟨by omega, by omega, ?_⟩
          refine S_forU n (fun j => [(36, .s (.int .i64 j))]) (fun j => [(23, .row 1 153 ((sumW R o n k j).map cells))]) (fun _ => True) trivial ?_ (fun j hj _ => S_run [] 800 ?_)
          · simp (maxSteps := 4000000) -implicitDefEqProofs only [Ent.of0, Ent.of1, Ent.of2, Ent.of3, V, cr, bE, bh, bU, cM, c6, gt, lk, bS, cz, cI, bX, cg, cj, cj.subCs, cL, bt, bq, cD, aK, bf, a9, aF, aZ, bm, aM, a6, aV, cd, cO, cP, ar, aN, bZ, cJ, cH, cY, cQ, aQ, ag, ca, bK, zC, argS, be, ce, cU, cZ, ap, aO, ax, aw, bV, leC, cb, cC, bY, cV, cB, aL, aP, cN, aq, cF, bA, bA.viewCs, bF, bF.flatCs, aW, aW.LensOks, Value.oneCell', ↓reduceIte, ite_true, ite_false, if_true, if_false, Nat.reduceAdd, Nat.reduceSub, Nat.reduceMul, Nat.reduceEqDiff, Nat.reduceLT, Nat.reduceLeDiff, reduceCtorEq, Int.reduceToNat, forall_const, implies_true, a5, Ent.mk3, bk, bu, bH, bo, br, bL, a7, bv, bJ, bI, bg, co, bD, cT, rn, cc, cc.renCs, aJ, aG, aI, aI.viewOks, aA, bn, bn.flatBs, ay, au, aH, ah, aX, bG, bG.keysBs, aT, ai, a8, bW, bj, cu, af, af.passKs, av, aY, ae, ae.lendKs, bT, cn, bM, bz, setInn, an, cW, cS, aR, bC, bN, cq, aC, az, Glob.gl, aU, cm, a0, bR, bl, ak, cG, cR, b0, cK, bO, am, am.ptrOnlys, aj, aD, bQ, aB, bp, bw, bP, aE, bB, cp, Nat.reduceBEq, undef]; simp
          · by_cases hjl : j < n
            · have hj2 : (j : Int) < (n : Int) := by omega
              have hjk : j < (o.getD k []).length := by omega
              obtain ⟨d1, d2⟩ := dot_c hf hs ha ho him (by omega : j < (ls.getD 0 []).length) k (by omega)
              rw [hR] at d1 d2
              obtain ⟨d3, d4, d5⟩ := d2 (by omega)
              have hsl : (sumW R o n k j).length = n := by simp [sumW]
              have hsg := sumW_get (row := R) (o := o) (k := k) hjl
              have hsg' : ((sumW R o n k j).map cells).getD j [] = [C.s (.complex .f64 (dotW R o j k).x (dotW R o j k).y)] := by rw [getD_map' cells _ j ⟨0, 0⟩ _ (by omega), hsg]; rfl
              have hss := sumW_set (row := R) (o := o) (k := k) hjl
              simp only [aN] at d3 d4
              delta c86l1
              simp (maxSteps := 4000000) -implicitDefEqProofs only [sz_fz, hj2, hjl, hjk, hkn, cd, getD_fz, hsg, d3, d4, hsl, hsg', hss, aF, InR, Ent.of0, Ent.of1, Ent.of2, Ent.of3, V, cr, bE, bh, bU, cM, c6, gt, lk, bS, cz, cI, bX, cg, cj, cj.subCs, cL, bt, bq, cD, aK, bf, a9, aF, aZ, bm, aM, a6, aV, cd, cO, cP, ar, aN, bZ, cJ, cH, cY, cQ, aQ, ag, ca, bK, zC, argS, be, ce, cU, cZ, ap, aO, ax, aw, bV, leC, cb, cC, bY, cV, cB, aL, aP, cN, aq, cF, bA, bA.viewCs, bF, bF.flatCs, aW, aW.LensOks, Value.oneCell', ↓reduceIte, ite_true, ite_false, if_true, if_false, Nat.reduceAdd, Nat.reduceSub, Nat.reduceMul, Nat.reduceEqDiff, Nat.reduceLT, Nat.reduceLeDiff, reduceCtorEq, Int.reduceToNat, forall_const, implies_true, a5, Ent.mk3, bk, bu, bH, bo, br, bL, a7, bv, bJ, bI, bg, co, bD, cT, rn, cc, cc.renCs, aJ, aG, aI, aI.viewOks, aA, bn, bn.flatBs, ay, au, aH, ah, aX, bG, bG.keysBs, aT, ai, a8, bW, bj, cu, af, af.passKs, av, aY, ae, ae.lendKs, bT, cn, bM, bz, setInn, an, cW, cS, aR, bC, bN, cq, aC, az, Glob.gl, aU, cm, a0, bR, bl, ak, cG, cR, b0, cK, bO, am, am.ptrOnlys, aj, aD, bQ, aB, bp, bw, bP, aE, bB, cp, Nat.reduceBEq, undef]
              and_intros <;> first | omega | rfl | trivial
            · have : j = n := by omega
              subst this
              have hj2 : ¬ (j : Int) < (j : Int) := by omega
              have hsn := sumW_next R o j k
              delta c86l1
              simp (maxSteps := 4000000) -implicitDefEqProofs only [hj2, hkn, hsn, InR, Ent.of0, Ent.of1, Ent.of2, Ent.of3, V, cr, bE, bh, bU, cM, c6, gt, lk, bS, cz, cI, bX, cg, cj, cj.subCs, cL, bt, bq, cD, aK, bf, a9, aF, aZ, bm, aM, a6, aV, cd, cO, cP, ar, aN, bZ, cJ, cH, cY, cQ, aQ, ag, ca, bK, zC, argS, be, ce, cU, cZ, ap, aO, ax, aw, bV, leC, cb, cC, bY, cV, cB, aL, aP, cN, aq, cF, bA, bA.viewCs, bF, bF.flatCs, aW, aW.LensOks, Value.oneCell', ↓reduceIte, ite_true, ite_false, if_true, if_false, Nat.reduceAdd, Nat.reduceSub, Nat.reduceMul, Nat.reduceEqDiff, Nat.reduceLT, Nat.reduceLeDiff, reduceCtorEq, Int.reduceToNat, forall_const, implies_true, a5, Ent.mk3, bk, bu, bH, bo, br, bL, a7, bv, bJ, bI, bg, co, bD, cT, rn, cc, cc.renCs, aJ, aG, aI, aI.viewOks, aA, bn, bn.flatBs, ay, au, aH, ah, aX, bG, bG.keysBs, aT, ai, a8, bW, bj, cu, af, af.passKs, av, aY, ae, ae.lendKs, bT, cn, bM, bz, setInn, an, cW, cS, aR, bC, bN, cq, aC, az, Glob.gl, aU, cm, a0, bR, bl, ak, cG, cR, b0, cK, bO, am, am.ptrOnlys, aj, aD, bQ, aB, bp, bw, bP, aE, bB, cp, Nat.reduceBEq, undef]
              and_intros <;> first | omega | rfl | trivial
        · have : k = R.length := by omega
          subst this
          have hk2 : ¬ (R.length : Int) < (R.length : Int) := by omega
          have hrow : rowW o R = sumW R o n R.length 0 := by
            rw [rowW, hn0, hcol, ← hoL, sumW]
            refine List.map_congr_left fun i _ => ?_
            simp
          have htk : (timesW (a.take i) o).map cells ++ [[C.sl 1 ((sumW R o n R.length 0).map cells)]] = (timesW (a.take (i + 1)) o).map cells := by
            rw [take_getD [] h, hR, timesW, timesW, List.map_append, List.map_append, ← hrow]; rfl
          have htl : (timesW (a.take i) o).length = i := by rw [timesW, List.length_map, List.length_take]; omega
          delta c86l2
          simp (maxSteps := 4000000) -implicitDefEqProofs only [hk2, htk, htl, InR, Ent.of0, Ent.of1, Ent.of2, Ent.of3, V, cr, bE, bh, bU, cM, c6, gt, lk, bS, cz, cI, bX, cg, cj, cj.subCs, cL, bt, bq, cD, aK, bf, a9, aF, aZ, bm, aM, a6, aV, cd, cO, cP, ar, aN, bZ, cJ, cH, cY, cQ, aQ, ag, ca, bK, zC, argS, be, ce, cU, cZ, ap, aO, ax, aw, bV, leC, cb, cC, bY, cV, cB, aL, aP, cN, aq, cF, bA, bA.viewCs, bF, bF.flatCs, aW, aW.LensOks, Value.oneCell', ↓reduceIte, ite_true, ite_false, if_true, if_false, Nat.reduceAdd, Nat.reduceSub, Nat.reduceMul, Nat.reduceEqDiff, Nat.reduceLT, Nat.reduceLeDiff, reduceCtorEq, Int.reduceToNat, forall_const, implies_true, a5, Ent.mk3, bk, bu, bH, bo, br, bL, a7, bv, bJ, bI, bg, co, bD, cT, rn, cc, cc.renCs, aJ, aG, aI, aI.viewOks, aA, bn, bn.flatBs, ay, au, aH, ah, aX, bG, bG.keysBs, aT, ai, a8, bW, bj, cu, af, af.passKs, av, aY, ae, ae.lendKs, bT, cn, bM, bz, setInn, an, cW, cS, aR, bC, bN, cq, aC, az, Glob.gl, aU, cm, a0, bR, bl, ak, cG, cR, b0, cK, bO, am, am.ptrOnlys, aj, aD, bQ, aB, bp, bw, bP, aE, bB, cp, Nat.reduceBEq, undef]
          and_intros <;> first | omega | rfl | trivial
    · have : i = a.length := by omega
      subst this
      have hi2 : ¬ (a.length : Int) < (a.length : Int) := by omega
      delta c86l3
      simp (maxSteps := 4000000) -implicitDefEqProofs only [hi2, rv86, List.take_length, Ent.of0, Ent.of1, Ent.of2, Ent.of3, V, cr, bE, bh, bU, cM, c6, gt, lk, bS, cz, cI, bX, cg, cj, cj.subCs, cL, bt, bq, cD, aK, bf, a9, aF, aZ, bm, aM, a6, aV, cd, cO, cP, ar, aN, bZ, cJ, cH, cY, cQ, aQ, ag, ca, bK, zC, argS, be, ce, cU, cZ, ap, aO, ax, aw, bV, leC, cb, cC, bY, cV, cB, aL, aP, cN, aq, cF, bA, bA.viewCs, bF, bF.flatCs, aW, aW.LensOks, Value.oneCell', ↓reduceIte, ite_true, ite_false, if_true, if_false, Nat.reduceAdd, Nat.reduceSub, Nat.reduceMul, Nat.reduceEqDiff, Nat.reduceLT, Nat.reduceLeDiff, reduceCtorEq, Int.reduceToNat, forall_const, implies_true, a5, Ent.mk3, bk, bu, bH, bo, br, bL, a7, bv, bJ, bI, bg, co, bD, cT, rn, cc, cc.renCs, aJ, aG, aI, aI.viewOks, aA, bn, bn.flatBs, ay, au, aH, ah, aX, bG, bG.keysBs, aT, ai, a8, bW, bj, cu, af, af.passKs, av, aY, ae, ae.lendKs, bT, cn, bM, bz, setInn, an, cW, cS, aR, bC, bN, cq, aC, az, Glob.gl, aU, cm, a0, bR, bl, ak, cG, cR, b0, cK, bO, am, am.ptrOnlys, aj, aD, bQ, aB, bp, bw, bP, aE, bB, cp, Nat.reduceBEq, undef]
end Go.Proofs.Ytfgpbmjmoobcnaa
end
section
open Go Go.Am
open Go.Am.Dat (cells)
namespace Go.Proofs.Ytfgpbmjmoobcnaa
set_option maxHeartbeats 4000000
set_option maxRecDepth 20000
set_option linter.unusedSimpArgs false
def ofM (w : List (List Fz)) : List (List Gs) := w.map fun r => r.map ofW
theorem ofW_c {z : Fz} {g : Gs} (h : IsC z g) : ofW z = g := by
  unfold ofW
  rw [(ofF_c h.1).2, (ofF_c h.2).2]
theorem ofM_c {w : List (List Fz)} {m : List (List Gs)} (h : RepM w m) : ofM w = m := by
  apply List.ext_getElem
  · simpa [ofM] using h.1
  · intro i h1 h2
    have h3 := h.2 i h2
    have hw : i < w.length := by rw [h.1]; exact h2
    have e1 : (ofM w)[i] = (w.getD i []).map ofW := by simp [ofM, List.getD_eq_getElem?_getD, List.getElem?_eq_getElem hw]
    have e2 : m[i] = m.getD i [] := by rw [List.getD_eq_getElem?_getD, List.getElem?_eq_getElem h2]; rfl
    rw [e1, e2]
    apply List.ext_getElem
    · simpa using h3.1
    · intro j j1 j2
      have h4 := h3.2 j j2
      have hwj : j < (w.getD i []).length := by rw [h3.1]; exact j2
      have e3 : ((w.getD i []).map ofW)[j] = ofW ((w.getD i []).getD j ⟨0, 0⟩) := by
        rw [List.getElem_map]; congr 1
        rw [List.getD_eq_getElem?_getD (l := w.getD i []), List.getElem?_eq_getElem hwj]; rfl
      have e4 : (m.getD i [])[j] = (m.getD i []).getD j ⟨0, 0⟩ := by rw [List.getD_eq_getElem?_getD (l := m.getD i []), List.getElem?_eq_getElem j2]; rfl
      rw [e3, e4]; exact ofW_c h4
structure RowsOk (w : List (List Fz)) (m : List (List Gs)) : Prop where
  rep : RepM w m
  short : m.length ≤ 1000
  shorts : ∀ r ∈ m, r.length ≤ 1000000
  small : ∀ r ∈ m, ∀ g ∈ r, bd g 9007199254740991
theorem rows_c (w : List (List Fz)) (m : List (List Gs)) (h : RowsOk w m) : FC Try.prog 87 [enc w] [] (enc m) [] := by
  refine fc_intro' is87 (by simp) (fun cx hl => S_run [] 800 ?_)
  obtain ⟨hrep, hm, hr, hb⟩ := h
  have hwm := hrep.1
  delta c87
  simp (maxSteps := 4000000) -implicitDefEqProofs only [rv87, Ent.of0, Ent.of1, Ent.of2, Ent.of3, V, cr, bE, bh, bU, cM, c6, gt, lk, bS, cz, cI, bX, cg, cj, cj.subCs, cL, bt, bq, cD, aK, bf, a9, aF, aZ, bm, aM, a6, aV, cd, cO, cP, ar, aN, bZ, cJ, cH, cY, cQ, aQ, ag, ca, bK, zC, argS, be, ce, cU, cZ, ap, aO, ax, aw, bV, leC, cb, cC, bY, cV, cB, aL, aP, cN, aq, cF, bA, bA.viewCs, bF, bF.flatCs, aW, aW.LensOks, Value.oneCell', ↓reduceIte, ite_true, ite_false, if_true, if_false, Nat.reduceAdd, Nat.reduceSub, Nat.reduceMul, Nat.reduceEqDiff, Nat.reduceLT, Nat.reduceLeDiff, reduceCtorEq, Int.reduceToNat, forall_const, implies_true, a5, Ent.mk3, bk, bu, bH, bo, br, bL, a7, bv, bJ, bI, bg, co, bD, cT, rn, cc, cc.renCs, aJ, aG, aI, aI.viewOks, aA, bn, bn.flatBs, ay, au, aH, ah, aX, bG, bG.keysBs, aT, ai, a8, bW, bj, cu, af, af.passKs, av, aY, ae, ae.lendKs, bT, cn, bM, bz, setInn, an, cW, cS, aR, bC, bN, cq, aC, az, Glob.gl, aU, cm, a0, bR, bl, ak, cG, cR, b0, cK, bO, am, am.ptrOnlys, aj, aD, bQ, aB, bp, bw, bP, aE, bB, cp, Nat.reduceBEq, undef]
  refine S_forU w.length (fun i => [(11, .s (.int .i64 i))]) (fun i => [(3, .row 1 35 ((m.take i).map cells))]) (fun _ => True) trivial ?_ (fun i hi _ => S_run [] 800 ?_)
  · simp (maxSteps := 4000000) -implicitDefEqProofs only [Ent.of0, Ent.of1, Ent.of2, Ent.of3, V, cr, bE, bh, bU, cM, c6, gt, lk, bS, cz, cI, bX, cg, cj, cj.subCs, cL, bt, bq, cD, aK, bf, a9, aF, aZ, bm, aM, a6, aV, cd, cO, cP, ar, aN, bZ, cJ, cH, cY, cQ, aQ, ag, ca, bK, zC, argS, be, ce, cU, cZ, ap, aO, ax, aw, bV, leC, cb, cC, bY, cV, cB, aL, aP, cN, aq, cF, bA, bA.viewCs, bF, bF.flatCs, aW, aW.LensOks, Value.oneCell', ↓reduceIte, ite_true, ite_false, if_true, if_false, Nat.reduceAdd, Nat.reduceSub, Nat.reduceMul, Nat.reduceEqDiff, Nat.reduceLT, Nat.reduceLeDiff, reduceCtorEq, Int.reduceToNat, forall_const, implies_true, a5, Ent.mk3, bk, bu, bH, bo, br, bL, a7, bv, bJ, bI, bg, co, bD, cT, rn, cc, cc.renCs, aJ, aG, aI, aI.viewOks, aA, bn, bn.flatBs, ay, au, aH, ah, aX, bG, bG.keysBs, aT, ai, a8, bW, bj, cu, af, af.passKs, av, aY, ae, ae.lendKs, bT, cn, bM, bz, setInn, an, cW, cS, aR, bC, bN, cq, aC, az, Glob.gl, aU, cm, a0, bR, bl, ak, cG, cR, b0, cK, bO, am, am.ptrOnlys, aj, aD, bQ, aB, bp, bw, bP, aE, bB, cp, Nat.reduceBEq, undef]; simp
  · by_cases h : i < w.length
    · have hi2 : (i : Int) < (w.length : Int) := by omega
      have him : i < m.length := by omega
      have hrl := hr _ (getD_mem [] him)
      have hbl := hb _ (getD_mem [] him)
      obtain ⟨q1, q2⟩ := hrep.2 i him
      have htkm : (m.take i).map cells ++ [[C.sl 2 ((m.getD i []).map cells)]] = (m.take (i + 1)).map cells := by
        rw [take_getD [] him, List.map_append]; rfl
      have htlm : (m.take i).length = i := by rw [List.length_take]; omega
      delta c87l2
      simp (maxSteps := 4000000) -implicitDefEqProofs only [sz_fz, hi2, getD_list, h, Ent.of0, Ent.of1, Ent.of2, Ent.of3, V, cr, bE, bh, bU, cM, c6, gt, lk, bS, cz, cI, bX, cg, cj, cj.subCs, cL, bt, bq, cD, aK, bf, a9, aF, aZ, bm, aM, a6, aV, cd, cO, cP, ar, aN, bZ, cJ, cH, cY, cQ, aQ, ag, ca, bK, zC, argS, be, ce, cU, cZ, ap, aO, ax, aw, bV, leC, cb, cC, bY, cV, cB, aL, aP, cN, aq, cF, bA, bA.viewCs, bF, bF.flatCs, aW, aW.LensOks, Value.oneCell', ↓reduceIte, ite_true, ite_false, if_true, if_false, Nat.reduceAdd, Nat.reduceSub, Nat.reduceMul, Nat.reduceEqDiff, Nat.reduceLT, Nat.reduceLeDiff, reduceCtorEq, Int.reduceToNat, forall_const, implies_true, a5, Ent.mk3, bk, bu, bH, bo, br, bL, a7, bv, bJ, bI, bg, co, bD, cT, rn, cc, cc.renCs, aJ, aG, aI, aI.viewOks, aA, bn, bn.flatBs, ay, au, aH, ah, aX, bG, bG.keysBs, aT, ai, a8, bW, bj, cu, af, af.passKs, av, aY, ae, ae.lendKs, bT, cn, bM, bz, setInn, an, cW, cS, aR, bC, bN, cq, aC, az, Glob.gl, aU, cm, a0, bR, bl, ak, cG, cR, b0, cK, bO, am, am.ptrOnlys, aj, aD, bQ, aB, bp, bw, bP, aE, bB, cp, Nat.reduceBEq, undef]
      refine ⟨by omega, ?_⟩
      generalize hR : w.getD i [] = R at *
      generalize hG : m.getD i [] = G at *
      refine S_forU R.length (fun j => [(17, .s (.int .i64 j))]) (fun j => [(6, .row 2 48 ((G.take j).map cells))]) (fun _ => True) trivial ?_ (fun j hj _ => S_run [] 800 ?_)
      · simp (maxSteps := 4000000) -implicitDefEqProofs only [Ent.of0, Ent.of1, Ent.of2, Ent.of3, V, cr, bE, bh, bU, cM, c6, gt, lk, bS, cz, cI, bX, cg, cj, cj.subCs, cL, bt, bq, cD, aK, bf, a9, aF, aZ, bm, aM, a6, aV, cd, cO, cP, ar, aN, bZ, cJ, cH, cY, cQ, aQ, ag, ca, bK, zC, argS, be, ce, cU, cZ, ap, aO, ax, aw, bV, leC, cb, cC, bY, cV, cB, aL, aP, cN, aq, cF, bA, bA.viewCs, bF, bF.flatCs, aW, aW.LensOks, Value.oneCell', ↓reduceIte, ite_true, ite_false, if_true, if_false, Nat.reduceAdd, Nat.reduceSub, Nat.reduceMul, Nat.reduceEqDiff, Nat.reduceLT, Nat.reduceLeDiff, reduceCtorEq, Int.reduceToNat, forall_const, implies_true, a5, Ent.mk3, bk, bu, bH, bo, br, bL, a7, bv, bJ, bI, bg, co, bD, cT, rn, cc, cc.renCs, aJ, aG, aI, aI.viewOks, aA, bn, bn.flatBs, ay, au, aH, ah, aX, bG, bG.keysBs, aT, ai, a8, bW, bj, cu, af, af.passKs, av, aY, ae, ae.lendKs, bT, cn, bM, bz, setInn, an, cW, cS, aR, bC, bN, cq, aC, az, Glob.gl, aU, cm, a0, bR, bl, ak, cG, cR, b0, cK, bO, am, am.ptrOnlys, aj, aD, bQ, aB, bp, bw, bP, aE, bB, cp, Nat.reduceBEq, undef]; simp
      · by_cases hjl : j < R.length
        · have hj2 : (j : Int) < (R.length : Int) := by omega
          have hjG : j < G.length := by omega
          have htk : (G.take j).map cells ++ [[C.s (.int .i64 (G.getD j ⟨0, 0⟩).re), C.s (.int .i64 (G.getD j ⟨0, 0⟩).im)]] = (G.take (j + 1)).map cells := by
            rw [take_getD ⟨0, 0⟩ hjG, List.map_append]; rfl
          have htl : (G.take j).length = j := by rw [List.length_take]; omega
          obtain ⟨z1, z2⟩ := q2 j hjG
          have t1 := toInt_F z1
          have t2 := toInt_F z2
          obtain ⟨b1, b2⟩ := hbl _ (getD_mem ⟨0, 0⟩ hjG)
          delta c87l1
          simp (maxSteps := 4000000) -implicitDefEqProofs only [hj2, hjl, cd, getD_fz, t1, t2, htk, htl, IntKind.min, IntKind.max, IntKind.signed, IntKind.bits, InR, Ent.of0, Ent.of1, Ent.of2, Ent.of3, V, cr, bE, bh, bU, cM, c6, gt, lk, bS, cz, cI, bX, cg, cj, cj.subCs, cL, bt, bq, cD, aK, bf, a9, aF, aZ, bm, aM, a6, aV, cd, cO, cP, ar, aN, bZ, cJ, cH, cY, cQ, aQ, ag, ca, bK, zC, argS, be, ce, cU, cZ, ap, aO, ax, aw, bV, leC, cb, cC, bY, cV, cB, aL, aP, cN, aq, cF, bA, bA.viewCs, bF, bF.flatCs, aW, aW.LensOks, Value.oneCell', ↓reduceIte, ite_true, ite_false, if_true, if_false, Nat.reduceAdd, Nat.reduceSub, Nat.reduceMul, Nat.reduceEqDiff, Nat.reduceLT, Nat.reduceLeDiff, reduceCtorEq, Int.reduceToNat, forall_const, implies_true, a5, Ent.mk3, bk, bu, bH, bo, br, bL, a7, bv, bJ, bI, bg, co, bD, cT, rn, cc, cc.renCs, aJ, aG, aI, aI.viewOks, aA, bn, bn.flatBs, ay, au, aH, ah, aX, bG, bG.keysBs, aT, ai, a8, bW, bj, cu, af, af.passKs, av, aY, ae, ae.lendKs, bT, cn, bM, bz, setInn, an, cW, cS, aR, bC, bN, cq, aC, az, Glob.gl, aU, cm, a0, bR, bl, ak, cG, cR, b0, cK, bO, am, am.ptrOnlys, aj, aD, bQ, aB, bp, bw, bP, aE, bB, cp, Nat.reduceBEq, undef]
          simp only [Int.reducePow] at *
          and_intros <;> first | omega | rfl | trivial
        · have : j = R.length := by omega
          subst this
          have hj2 : ¬ (R.length : Int) < (R.length : Int) := by omega
          have hG2 : G.take R.length = G := by rw [q1]; exact List.take_length
          delta c87l1
          simp (maxSteps := 4000000) -implicitDefEqProofs only [hj2, hG2, htkm, htlm, InR, Ent.of0, Ent.of1, Ent.of2, Ent.of3, V, cr, bE, bh, bU, cM, c6, gt, lk, bS, cz, cI, bX, cg, cj, cj.subCs, cL, bt, bq, cD, aK, bf, a9, aF, aZ, bm, aM, a6, aV, cd, cO, cP, ar, aN, bZ, cJ, cH, cY, cQ, aQ, ag, ca, bK, zC, argS, be, ce, cU, cZ, ap, aO, ax, aw, bV, leC, cb, cC, bY, cV, cB, aL, aP, cN, aq, cF, bA, bA.viewCs, bF, bF.flatCs, aW, aW.LensOks, Value.oneCell', ↓reduceIte, ite_true, ite_false, if_true, if_false, Nat.reduceAdd, Nat.reduceSub, Nat.reduceMul, Nat.reduceEqDiff, Nat.reduceLT, Nat.reduceLeDiff, reduceCtorEq, Int.reduceToNat, forall_const, implies_true, a5, Ent.mk3, bk, bu, bH, bo, br, bL, a7, bv, bJ, bI, bg, co, bD, cT, rn, cc, cc.renCs, aJ, aG, aI, aI.viewOks, aA, bn, bn.flatBs, ay, au, aH, ah, aX, bG, bG.keysBs, aT, ai, a8, bW, bj, cu, af, af.passKs, av, aY, ae, ae.lendKs, bT, cn, bM, bz, setInn, an, cW, cS, aR, bC, bN, cq, aC, az, Glob.gl, aU, cm, a0, bR, bl, ak, cG, cR, b0, cK, bO, am, am.ptrOnlys, aj, aD, bQ, aB, bp, bw, bP, aE, bB, cp, Nat.reduceBEq, undef]
          and_intros <;> first | omega | rfl | trivial
    · have : i = w.length := by omega
      subst this
      have hi2 : ¬ (w.length : Int) < (w.length : Int) := by omega
      have hm2 : m.take w.length = m := by rw [hwm]; exact List.take_length
      delta c87l2
      simp (maxSteps := 4000000) -implicitDefEqProofs only [hi2, rv87, hm2, Ent.of0, Ent.of1, Ent.of2, Ent.of3, V, cr, bE, bh, bU, cM, c6, gt, lk, bS, cz, cI, bX, cg, cj, cj.subCs, cL, bt, bq, cD, aK, bf, a9, aF, aZ, bm, aM, a6, aV, cd, cO, cP, ar, aN, bZ, cJ, cH, cY, cQ, aQ, ag, ca, bK, zC, argS, be, ce, cU, cZ, ap, aO, ax, aw, bV, leC, cb, cC, bY, cV, cB, aL, aP, cN, aq, cF, bA, bA.viewCs, bF, bF.flatCs, aW, aW.LensOks, Value.oneCell', ↓reduceIte, ite_true, ite_false, if_true, if_false, Nat.reduceAdd, Nat.reduceSub, Nat.reduceMul, Nat.reduceEqDiff, Nat.reduceLT, Nat.reduceLeDiff, reduceCtorEq, Int.reduceToNat, forall_const, implies_true, a5, Ent.mk3, bk, bu, bH, bo, br, bL, a7, bv, bJ, bI, bg, co, bD, cT, rn, cc, cc.renCs, aJ, aG, aI, aI.viewOks, aA, bn, bn.flatBs, ay, au, aH, ah, aX, bG, bG.keysBs, aT, ai, a8, bW, bj, cu, af, af.passKs, av, aY, ae, ae.lendKs, bT, cn, bM, bz, setInn, an, cW, cS, aR, bC, bN, cq, aC, az, Glob.gl, aU, cm, a0, bR, bl, ak, cG, cR, b0, cK, bO, am, am.ptrOnlys, aj, aD, bQ, aB, bp, bw, bP, aE, bB, cp, Nat.reduceBEq, undef]
end Go.Proofs.Ytfgpbmjmoobcnaa
end
section
open Go Go.Am
open Go.Am.Dat (cells)
namespace Go.Proofs.Ytfgpbmjmoobcnaa
set_option maxHeartbeats 4000000
set_option maxRecDepth 100000
set_option linter.unusedSimpArgs false
def turnsS (c : Nat) (a b : List Int) : List Int := (List.range c).flatMap fun i => [a.getD i 0, b.getD i 0]
theorem turnsS_succ (c : Nat) (a b : List Int) : turnsS (c + 1) a b = turnsS c a b ++ [a.getD c 0, b.getD c 0] := by simp [turnsS, List.range_succ]
theorem turnsS_length (a b : List Int) : ∀ c, (turnsS c a b).length = 2 * c
  | 0 => rfl
  | c + 1 => by rw [turnsS_succ, List.length_append, turnsS_length a b c]; simp; omega
def judgedS (c : Nat) (T : List Int → List Int) (gain : Int) (l : List Gs) : List Int := l.flatMap fun g => turnsS c (T (sqS c gain g.re)) (T (sqS c gain g.im))
def e136 (f : FuncId) (T : List Int → List Int) (c : Nat) (hc : c = 1 ∨ c = 2 ∨ c = 3) (hf : ∀ sq : List Int, sq.length = 2 ^ c → (∀ s ∈ sq, 0 ≤ s ∧ s ≤ 4611686018427387903) → FC Try.prog f [enc (lvls c), enc sq] [] (enc (T sq)) []) : Ent Try.prog where
  id := 136
  sp := fun _ _ => none
  ok := by intro _ _ _ _ _ _ h; cases h
  kp := fun args chs => match args, chs with
    | [.s (.int .i64 n), .ptr k1 o1, .ptr k2 o2, .ptr k3 o3], [(k1', .box [.sl 1 L]), (k2', .box [.s (.int .i64 o), .s (.int .i64 g), .sl 2 l]), (k3', .box [.fn (.func f') [] []])] =>
      some ((k1 = 100000 ∧ o1 = 0 ∧ k2 = 100001 ∧ o2 = 0 ∧ k3 = 100002 ∧ o3 = 0 ∧ k1' = 100000 ∧ k2' = 100001 ∧ k3' = 100002 ∧ f' = f ∧ L = (lvls c).map cells ∧ ∃ l' : List Gs, l = l'.map cells) ∧ (1 ≤ g ∧ g ≤ 10000000) ∧ -100000000 ≤ n ∧ n ≤ 100000000, enc (T (sqS c g n)))
    | _, _ => none
  kpok := by
    intro args chs p r hs hp
    split at hs
    · rename_i n k1 o1 k2 o2 k3 o3 k1' L k2' o g l k3' f'
      simp only [Option.some.injEq, Prod.mk.injEq] at hs
      obtain ⟨rfl, rfl⟩ := hs
      obtain ⟨⟨rfl, rfl, rfl, rfl, rfl, rfl, rfl, rfl, rfl, hff, rfl, l', rfl⟩, hg, hn⟩ := hp
      subst hff
      exact ⟨part_c f' T c hc hf ⟨o, g, l'⟩ n hg hn, rfl, trivial⟩
    · cases hs
theorem judged_c (f : FuncId) (T : List Int → List Int) (c : Nat) (hc : c = 1 ∨ c = 2 ∨ c = 3) (hf : ∀ sq : List Int, sq.length = 2 ^ c → (∀ s ∈ sq, 0 ≤ s ∧ s ≤ 4611686018427387903) → FC Try.prog f [enc (lvls c), enc sq] [] (enc (T sq)) [])
    (hT : ∀ sq : List Int, sq.length = 2 ^ c → (T sq).length = c) (g : Int) (l : List Gs) (hg : 1 ≤ g ∧ g ≤ 10000000) (hn : ∀ s ∈ l, (-100000000 ≤ s.re ∧ s.re ≤ 100000000) ∧ -100000000 ≤ s.im ∧ s.im ≤ 100000000) (hll : l.length ≤ 1000) :
    FC Try.prog 115 [enc (⟨2 * (c : Int), g, l⟩ : Recv), .fn (.func f) [] []] [] (enc (judgedS c T g l)) [] := by
  have hlc := lvls_length c
  have hq : (2 * (c : Int)).tdiv 2 = (c : Int) := by rw [Int.mul_comm]; exact Int.mul_tdiv_cancel _ (by decide)
  have hmin : min c IntKind.i64.bits = c := by rcases hc with rfl | rfl | rfl <;> decide
  have hP : (2 : Int) ^ c = ((2 ^ c : Nat) : Int) := by push_cast; rfl
  have hPb : 2 ≤ 2 ^ c ∧ 2 ^ c ≤ 8 := by rcases hc with rfl | rfl | rfl <;> decide
  have hget : ∀ i, i < 2 ^ c → (lvls c).getD i 0 = 2 * (i : Int) - ((2 ^ c : Nat) - 1) := fun i hi => by
    have hi' : i < (lvls c).length := by omega
    rw [List.getD_eq_getElem?_getD, List.getElem?_eq_getElem hi']
    simp [lvls]
  refine fc_introC [] is115 (by simp) trivial trivial trivial trivial (fun cx hcx hl _ => S_run [] 800 ?_)
  delta c115
  simp (maxSteps := 4000000) -implicitDefEqProofs only [rv115, enc_recv, hq, hmin, hP, Int.one_mul, InR, Ent.of0, Ent.of1, Ent.of2, Ent.of3, V, cr, bE, bh, bU, cM, c6, gt, lk, bS, cz, cI, bX, cg, cj, cj.subCs, cL, bt, bq, cD, aK, bf, a9, aF, aZ, bm, aM, a6, aV, cd, cO, cP, ar, aN, bZ, cJ, cH, cY, cQ, aQ, ag, ca, bK, zC, argS, be, ce, cU, cZ, ap, aO, ax, aw, bV, leC, cb, cC, bY, cV, cB, aL, aP, cN, aq, cF, bA, bA.viewCs, bF, bF.flatCs, aW, aW.LensOks, Value.oneCell', ↓reduceIte, ite_true, ite_false, if_true, if_false, Nat.reduceAdd, Nat.reduceSub, Nat.reduceMul, Nat.reduceEqDiff, Nat.reduceLT, Nat.reduceLeDiff, reduceCtorEq, Int.reduceToNat, forall_const, implies_true, a5, Ent.mk3, bk, bu, bH, bo, br, bL, a7, bv, bJ, bI, bg, co, bD, cT, rn, cc, cc.renCs, aJ, aG, aI, aI.viewOks, aA, bn, bn.flatBs, ay, au, aH, ah, aX, bG, bG.keysBs, aT, ai, a8, bW, bj, cu, af, af.passKs, av, aY, ae, ae.lendKs, bT, cn, bM, bz, setInn, an, cW, cS, aR, bC, bN, cq, aC, az, Glob.gl, aU, cm, a0, bR, bl, ak, cG, cR, b0, cK, bO, am, am.ptrOnlys, aj, aD, bQ, aB, bp, bw, bP, aE, bB, cp, Nat.reduceBEq, undef]
  refine ⟨by omega, by omega, by omega, ?_⟩
  refine S_forU (2 ^ c) (fun i => [(7, .s (.int .i64 (2 * (i : Int) - ((2 ^ c : Nat) - 1))))]) (fun i => [(6, .box [if i = 0 then .s (.slice none 0 0) else .isl 1 3 (((lvls c).take i).map cells)])]) (fun _ => True) trivial ?_ (fun i hi _ => ?_)
  · simp (maxSteps := 4000000) -implicitDefEqProofs only [Ent.of0, Ent.of1, Ent.of2, Ent.of3, V, cr, bE, bh, bU, cM, c6, gt, lk, bS, cz, cI, bX, cg, cj, cj.subCs, cL, bt, bq, cD, aK, bf, a9, aF, aZ, bm, aM, a6, aV, cd, cO, cP, ar, aN, bZ, cJ, cH, cY, cQ, aQ, ag, ca, bK, zC, argS, be, ce, cU, cZ, ap, aO, ax, aw, bV, leC, cb, cC, bY, cV, cB, aL, aP, cN, aq, cF, bA, bA.viewCs, bF, bF.flatCs, aW, aW.LensOks, Value.oneCell', ↓reduceIte, ite_true, ite_false, if_true, if_false, Nat.reduceAdd, Nat.reduceSub, Nat.reduceMul, Nat.reduceEqDiff, Nat.reduceLT, Nat.reduceLeDiff, reduceCtorEq, Int.reduceToNat, forall_const, implies_true, a5, Ent.mk3, bk, bu, bH, bo, br, bL, a7, bv, bJ, bI, bg, co, bD, cT, rn, cc, cc.renCs, aJ, aG, aI, aI.viewOks, aA, bn, bn.flatBs, ay, au, aH, ah, aX, bG, bG.keysBs, aT, ai, a8, bW, bj, cu, af, af.passKs, av, aY, ae, ae.lendKs, bT, cn, bM, bz, setInn, an, cW, cS, aR, bC, bN, cq, aC, az, Glob.gl, aU, cm, a0, bR, bl, ak, cG, cR, b0, cK, bO, am, am.ptrOnlys, aj, aD, bQ, aB, bp, bw, bP, aE, bB, cp, Nat.reduceBEq, undef]; omega
  · by_cases h : i < 2 ^ c
    · have htk : ((lvls c).take i).map cells ++ [[C.s (.int .i64 (2 * (i : Int) - ((2 ^ c : Nat) - 1)))]] = ((lvls c).take (i + 1)).map cells := by
        rw [take_getD 0 (by omega : i < (lvls c).length), List.map_append, hget i h]; rfl
      have hlt : ((lvls c).take i).length = i := by rw [List.length_take]; omega
      have hlt2 : 2 * (i : Int) - (((2 ^ c : Nat) : Int) - 1) < ((2 ^ c : Nat) : Int) := by omega
      refine S_run [] 800 ?_
      cases i with
      | zero =>
        delta c115l1
        simp (maxSteps := 4000000) -implicitDefEqProofs only [hq, hmin, hP, Int.one_mul, hlt2, h, InR, Ent.of0, Ent.of1, Ent.of2, Ent.of3, V, cr, bE, bh, bU, cM, c6, gt, lk, bS, cz, cI, bX, cg, cj, cj.subCs, cL, bt, bq, cD, aK, bf, a9, aF, aZ, bm, aM, a6, aV, cd, cO, cP, ar, aN, bZ, cJ, cH, cY, cQ, aQ, ag, ca, bK, zC, argS, be, ce, cU, cZ, ap, aO, ax, aw, bV, leC, cb, cC, bY, cV, cB, aL, aP, cN, aq, cF, bA, bA.viewCs, bF, bF.flatCs, aW, aW.LensOks, Value.oneCell', ↓reduceIte, ite_true, ite_false, if_true, if_false, Nat.reduceAdd, Nat.reduceSub, Nat.reduceMul, Nat.reduceEqDiff, Nat.reduceLT, Nat.reduceLeDiff, reduceCtorEq, Int.reduceToNat, forall_const, implies_true, a5, Ent.mk3, bk, bu, bH, bo, br, bL, a7, bv, bJ, bI, bg, co, bD, cT, rn, cc, cc.renCs, aJ, aG, aI, aI.viewOks, aA, bn, bn.flatBs, ay, au, aH, ah, aX, bG, bG.keysBs, aT, ai, a8, bW, bj, cu, af, af.passKs, av, aY, ae, ae.lendKs, bT, cn, bM, bz, setInn, an, cW, cS, aR, bC, bN, cq, aC, az, Glob.gl, aU, cm, a0, bR, bl, ak, cG, cR, b0, cK, bO, am, am.ptrOnlys, aj, aD, bQ, aB, bp, bw, bP, aE, bB, cp, Nat.reduceBEq, undef]
        refine ⟨by omega, by omega, by omega, by push_cast; omega, ?_⟩
        rw [← htk]; rfl
      | succ i =>
        delta c115l1
        simp (maxSteps := 4000000) -implicitDefEqProofs only [hq, hmin, hP, Int.one_mul, hlt, hlt2, h, htk, Nat.succ_ne_zero, InR, Ent.of0, Ent.of1, Ent.of2, Ent.of3, V, cr, bE, bh, bU, cM, c6, gt, lk, bS, cz, cI, bX, cg, cj, cj.subCs, cL, bt, bq, cD, aK, bf, a9, aF, aZ, bm, aM, a6, aV, cd, cO, cP, ar, aN, bZ, cJ, cH, cY, cQ, aQ, ag, ca, bK, zC, argS, be, ce, cU, cZ, ap, aO, ax, aw, bV, leC, cb, cC, bY, cV, cB, aL, aP, cN, aq, cF, bA, bA.viewCs, bF, bF.flatCs, aW, aW.LensOks, Value.oneCell', ↓reduceIte, ite_true, ite_false, if_true, if_false, Nat.reduceAdd, Nat.reduceSub, Nat.reduceMul, Nat.reduceEqDiff, Nat.reduceLT, Nat.reduceLeDiff, reduceCtorEq, Int.reduceToNat, forall_const, implies_true, a5, Ent.mk3, bk, bu, bH, bo, br, bL, a7, bv, bJ, bI, bg, co, bD, cT, rn, cc, cc.renCs, aJ, aG, aI, aI.viewOks, aA, bn, bn.flatBs, ay, au, aH, ah, aX, bG, bG.keysBs, aT, ai, a8, bW, bj, cu, af, af.passKs, av, aY, ae, ae.lendKs, bT, cn, bM, bz, setInn, an, cW, cS, aR, bC, bN, cq, aC, az, Glob.gl, aU, cm, a0, bR, bl, ak, cG, cR, b0, cK, bO, am, am.ptrOnlys, aj, aD, bQ, aB, bp, bw, bP, aE, bB, cp, Nat.reduceBEq, undef]
        exact ⟨by omega, by omega, by omega, by omega, by push_cast; omega⟩
    · have hlt2 : ¬ 2 * (i : Int) - (((2 ^ c : Nat) : Int) - 1) < ((2 ^ c : Nat) : Int) := by omega
      have hie : i = 2 ^ c := by omega
      subst hie
      have hi0 : 2 ^ c ≠ 0 := by omega
      have htk : (lvls c).take (2 ^ c) = lvls c := by rw [← hlc]; exact List.take_length
      refine S_run [] 800 ?_
      delta c115l1
      simp (maxSteps := 4000000) -implicitDefEqProofs only [hq, hmin, hP, Int.one_mul, hlt2, hi0, htk, InR, Ent.of0, Ent.of1, Ent.of2, Ent.of3, V, cr, bE, bh, bU, cM, c6, gt, lk, bS, cz, cI, bX, cg, cj, cj.subCs, cL, bt, bq, cD, aK, bf, a9, aF, aZ, bm, aM, a6, aV, cd, cO, cP, ar, aN, bZ, cJ, cH, cY, cQ, aQ, ag, ca, bK, zC, argS, be, ce, cU, cZ, ap, aO, ax, aw, bV, leC, cb, cC, bY, cV, cB, aL, aP, cN, aq, cF, bA, bA.viewCs, bF, bF.flatCs, aW, aW.LensOks, Value.oneCell', ↓reduceIte, ite_true, ite_false, if_true, if_false, Nat.reduceAdd, Nat.reduceSub, Nat.reduceMul, Nat.reduceEqDiff, Nat.reduceLT, Nat.reduceLeDiff, reduceCtorEq, Int.reduceToNat, forall_const, implies_true, a5, Ent.mk3, bk, bu, bH, bo, br, bL, a7, bv, bJ, bI, bg, co, bD, cT, rn, cc, cc.renCs, aJ, aG, aI, aI.viewOks, aA, bn, bn.flatBs, ay, au, aH, ah, aX, bG, bG.keysBs, aT, ai, a8, bW, bj, cu, af, af.passKs, av, aY, ae, ae.lendKs, bT, cn, bM, bz, setInn, an, cW, cS, aR, bC, bN, cq, aC, az, Glob.gl, aU, cm, a0, bR, bl, ak, cG, cR, b0, cK, bO, am, am.ptrOnlys, aj, aD, bQ, aB, bp, bw, bP, aE, bB, cp, Nat.reduceBEq, undef]
      refine ⟨by omega, S_fzb 6 rfl ?_⟩
      simp (maxSteps := 4000000) -implicitDefEqProofs only [Ent.of0, Ent.of1, Ent.of2, Ent.of3, V, cr, bE, bh, bU, cM, c6, gt, lk, bS, cz, cI, bX, cg, cj, cj.subCs, cL, bt, bq, cD, aK, bf, a9, aF, aZ, bm, aM, a6, aV, cd, cO, cP, ar, aN, bZ, cJ, cH, cY, cQ, aQ, ag, ca, bK, zC, argS, be, ce, cU, cZ, ap, aO, ax, aw, bV, leC, cb, cC, bY, cV, cB, aL, aP, cN, aq, cF, bA, bA.viewCs, bF, bF.flatCs, aW, aW.LensOks, Value.oneCell', ↓reduceIte, ite_true, ite_false, if_true, if_false, Nat.reduceAdd, Nat.reduceSub, Nat.reduceMul, Nat.reduceEqDiff, Nat.reduceLT, Nat.reduceLeDiff, reduceCtorEq, Int.reduceToNat, forall_const, implies_true, a5, Ent.mk3, bk, bu, bH, bo, br, bL, a7, bv, bJ, bI, bg, co, bD, cT, rn, cc, cc.renCs, aJ, aG, aI, aI.viewOks, aA, bn, bn.flatBs, ay, au, aH, ah, aX, bG, bG.keysBs, aT, ai, a8, bW, bj, cu, af, af.passKs, av, aY, ae, ae.lendKs, bT, cn, bM, bz, setInn, an, cW, cS, aR, bC, bN, cq, aC, az, Glob.gl, aU, cm, a0, bR, bl, ak, cG, cR, b0, cK, bO, am, am.ptrOnlys, aj, aD, bQ, aB, bp, bw, bP, aE, bB, cp, Nat.reduceBEq, undef]
      refine S_forU l.length (fun i => [(35, .s (.int .i64 (i : Int)))]) (fun i => [(9, .row 1 3 ((judgedS c T g (l.take i)).map cells))]) (fun _ => True) trivial ?_ (fun i hi _ => S_run [e136 f T c hc hf] 800 ?_)
      · simp (maxSteps := 4000000) -implicitDefEqProofs only [judgedS, Ent.of0, Ent.of1, Ent.of2, Ent.of3, V, cr, bE, bh, bU, cM, c6, gt, lk, bS, cz, cI, bX, cg, cj, cj.subCs, cL, bt, bq, cD, aK, bf, a9, aF, aZ, bm, aM, a6, aV, cd, cO, cP, ar, aN, bZ, cJ, cH, cY, cQ, aQ, ag, ca, bK, zC, argS, be, ce, cU, cZ, ap, aO, ax, aw, bV, leC, cb, cC, bY, cV, cB, aL, aP, cN, aq, cF, bA, bA.viewCs, bF, bF.flatCs, aW, aW.LensOks, Value.oneCell', ↓reduceIte, ite_true, ite_false, if_true, if_false, Nat.reduceAdd, Nat.reduceSub, Nat.reduceMul, Nat.reduceEqDiff, Nat.reduceLT, Nat.reduceLeDiff, reduceCtorEq, Int.reduceToNat, forall_const, implies_true, a5, Ent.mk3, bk, bu, bH, bo, br, bL, a7, bv, bJ, bI, bg, co, bD, cT, rn, cc, cc.renCs, aJ, aG, aI, aI.viewOks, aA, bn, bn.flatBs, ay, au, aH, ah, aX, bG, bG.keysBs, aT, ai, a8, bW, bj, cu, af, af.passKs, av, aY, ae, ae.lendKs, bT, cn, bM, bz, setInn, an, cW, cS, aR, bC, bN, cq, aC, az, Glob.gl, aU, cm, a0, bR, bl, ak, cG, cR, b0, cK, bO, am, am.ptrOnlys, aj, aD, bQ, aB, bp, bw, bP, aE, bB, cp, Nat.reduceBEq, undef]
        exact ⟨rfl, rfl⟩
      · by_cases h : i < l.length
        · have hi2 : (i : Int) < (l.length : Int) := by omega
          have hgm : l.getD i ⟨0, 0⟩ ∈ l := getD_mem _ h
          have hn1 := hn _ hgm
          have hsql : ∀ n, (sqS c g n).length = 2 ^ c := fun n => by rw [sqS, List.length_map, hlc]
          have hT1 := hT _ (hsql (l.getD i ⟨0, 0⟩).re)
          have hT2 := hT _ (hsql (l.getD i ⟨0, 0⟩).im)
          delta c115l3
          simp (maxSteps := 4000000) -implicitDefEqProofs only [hi2, h, e136, hT1, InR, Ent.of0, Ent.of1, Ent.of2, Ent.of3, V, cr, bE, bh, bU, cM, c6, gt, lk, bS, cz, cI, bX, cg, cj, cj.subCs, cL, bt, bq, cD, aK, bf, a9, aF, aZ, bm, aM, a6, aV, cd, cO, cP, ar, aN, bZ, cJ, cH, cY, cQ, aQ, ag, ca, bK, zC, argS, be, ce, cU, cZ, ap, aO, ax, aw, bV, leC, cb, cC, bY, cV, cB, aL, aP, cN, aq, cF, bA, bA.viewCs, bF, bF.flatCs, aW, aW.LensOks, Value.oneCell', ↓reduceIte, ite_true, ite_false, if_true, if_false, Nat.reduceAdd, Nat.reduceSub, Nat.reduceMul, Nat.reduceEqDiff, Nat.reduceLT, Nat.reduceLeDiff, reduceCtorEq, Int.reduceToNat, forall_const, implies_true, a5, Ent.mk3, bk, bu, bH, bo, br, bL, a7, bv, bJ, bI, bg, co, bD, cT, rn, cc, cc.renCs, aJ, aG, aI, aI.viewOks, aA, bn, bn.flatBs, ay, au, aH, ah, aX, bG, bG.keysBs, aT, ai, a8, bW, bj, cu, af, af.passKs, av, aY, ae, ae.lendKs, bT, cn, bM, bz, setInn, an, cW, cS, aR, bC, bN, cq, aC, az, Glob.gl, aU, cm, a0, bR, bl, ak, cG, cR, b0, cK, bO, am, am.ptrOnlys, aj, aD, bQ, aB, bp, bw, bP, aE, bB, cp, Nat.reduceBEq, undef]
          refine ⟨by omega, ⟨⟨l, rfl⟩, hg, hn1.1⟩, ⟨⟨l, rfl⟩, hg, hn1.2⟩, ?_⟩
          have hjs : judgedS c T g (l.take (i + 1)) = judgedS c T g (l.take i) ++ turnsS c (T (sqS c g (l.getD i ⟨0, 0⟩).re)) (T (sqS c g (l.getD i ⟨0, 0⟩).im)) := by
            rw [take_getD ⟨0, 0⟩ h, judgedS, judgedS, List.flatMap_append]; simp
          have hjl : (judgedS c T g (l.take i)).length ≤ 6000 := by
            have e : ∀ (m : List Gs), (judgedS c T g m).length ≤ 6 * m.length := fun m => by
              induction m with
              | nil => simp [judgedS]
              | cons x m ih =>
                have : judgedS c T g (x :: m) = turnsS c (T (sqS c g x.re)) (T (sqS c g x.im)) ++ judgedS c T g m := by simp [judgedS]
                rw [this, List.length_append, List.length_cons]
                have h2 : (turnsS c (T (sqS c g x.re)) (T (sqS c g x.im))).length ≤ 6 := by
                  rcases hc with rfl | rfl | rfl <;> simp [turnsS, List.range_succ]
                omega
            have := e (l.take i)
            rw [List.length_take] at this
            omega
          generalize T (sqS c g (l.getD i ⟨0, 0⟩).re) = X at *
          generalize T (sqS c g (l.getD i ⟨0, 0⟩).im) = Y at *
          generalize judgedS c T g (l.take i) = J at *
          refine S_forU c (fun j => [(49, .s (.int .i64 (j : Int)))]) (fun j => [(9, .row 1 3 ((J ++ turnsS j X Y).map cells))]) (fun _ => True) trivial ?_ (fun j hj _ => S_run [] 800 ?_)
          · simp (maxSteps := 4000000) -implicitDefEqProofs only [Ent.of0, Ent.of1, Ent.of2, Ent.of3, V, cr, bE, bh, bU, cM, c6, gt, lk, bS, cz, cI, bX, cg, cj, cj.subCs, cL, bt, bq, cD, aK, bf, a9, aF, aZ, bm, aM, a6, aV, cd, cO, cP, ar, aN, bZ, cJ, cH, cY, cQ, aQ, ag, ca, bK, zC, argS, be, ce, cU, cZ, ap, aO, ax, aw, bV, leC, cb, cC, bY, cV, cB, aL, aP, cN, aq, cF, bA, bA.viewCs, bF, bF.flatCs, aW, aW.LensOks, Value.oneCell', ↓reduceIte, ite_true, ite_false, if_true, if_false, Nat.reduceAdd, Nat.reduceSub, Nat.reduceMul, Nat.reduceEqDiff, Nat.reduceLT, Nat.reduceLeDiff, reduceCtorEq, Int.reduceToNat, forall_const, implies_true, a5, Ent.mk3, bk, bu, bH, bo, br, bL, a7, bv, bJ, bI, bg, co, bD, cT, rn, cc, cc.renCs, aJ, aG, aI, aI.viewOks, aA, bn, bn.flatBs, ay, au, aH, ah, aX, bG, bG.keysBs, aT, ai, a8, bW, bj, cu, af, af.passKs, av, aY, ae, ae.lendKs, bT, cn, bM, bz, setInn, an, cW, cS, aR, bC, bN, cq, aC, az, Glob.gl, aU, cm, a0, bR, bl, ak, cG, cR, b0, cK, bO, am, am.ptrOnlys, aj, aD, bQ, aB, bp, bw, bP, aE, bB, cp, Nat.reduceBEq, undef]
            exact ⟨rfl, by simp [turnsS]⟩
          · have htl := turnsS_length X Y j
            by_cases hjc : j < c
            · have hj2 : (j : Int) < (c : Int) := by omega
              have hj3 : j < X.length := by omega
              have hj4 : j < Y.length := by omega
              have htk : (J ++ turnsS j X Y).map cells ++ [[C.s (.int .i64 (X.getD j 0))], [C.s (.int .i64 (Y.getD j 0))]] = (J ++ turnsS (j + 1) X Y).map cells := by
                rw [turnsS_succ, ← List.append_assoc, List.map_append (l₁ := J ++ turnsS j X Y)]; rfl
              have hll : (J ++ turnsS j X Y).length ≤ 6012 := by rw [List.length_append]; omega
              delta c115l2
              simp (maxSteps := 4000000) -implicitDefEqProofs only [hj2, hj3, hj4, htk, InR, Ent.of0, Ent.of1, Ent.of2, Ent.of3, V, cr, bE, bh, bU, cM, c6, gt, lk, bS, cz, cI, bX, cg, cj, cj.subCs, cL, bt, bq, cD, aK, bf, a9, aF, aZ, bm, aM, a6, aV, cd, cO, cP, ar, aN, bZ, cJ, cH, cY, cQ, aQ, ag, ca, bK, zC, argS, be, ce, cU, cZ, ap, aO, ax, aw, bV, leC, cb, cC, bY, cV, cB, aL, aP, cN, aq, cF, bA, bA.viewCs, bF, bF.flatCs, aW, aW.LensOks, Value.oneCell', ↓reduceIte, ite_true, ite_false, if_true, if_false, Nat.reduceAdd, Nat.reduceSub, Nat.reduceMul, Nat.reduceEqDiff, Nat.reduceLT, Nat.reduceLeDiff, reduceCtorEq, Int.reduceToNat, forall_const, implies_true, a5, Ent.mk3, bk, bu, bH, bo, br, bL, a7, bv, bJ, bI, bg, co, bD, cT, rn, cc, cc.renCs, aJ, aG, aI, aI.viewOks, aA, bn, bn.flatBs, ay, au, aH, ah, aX, bG, bG.keysBs, aT, ai, a8, bW, bj, cu, af, af.passKs, av, aY, ae, ae.lendKs, bT, cn, bM, bz, setInn, an, cW, cS, aR, bC, bN, cq, aC, az, Glob.gl, aU, cm, a0, bR, bl, ak, cG, cR, b0, cK, bO, am, am.ptrOnlys, aj, aD, bQ, aB, bp, bw, bP, aE, bB, cp, Nat.reduceBEq, undef]
              and_intros <;> first | omega | rfl | trivial
            · have hj2 : ¬ (j : Int) < (c : Int) := by omega
              have hjc : j = c := by omega
              subst hjc
              delta c115l2
              simp (maxSteps := 4000000) -implicitDefEqProofs only [hj2, hjs, InR, Ent.of0, Ent.of1, Ent.of2, Ent.of3, V, cr, bE, bh, bU, cM, c6, gt, lk, bS, cz, cI, bX, cg, cj, cj.subCs, cL, bt, bq, cD, aK, bf, a9, aF, aZ, bm, aM, a6, aV, cd, cO, cP, ar, aN, bZ, cJ, cH, cY, cQ, aQ, ag, ca, bK, zC, argS, be, ce, cU, cZ, ap, aO, ax, aw, bV, leC, cb, cC, bY, cV, cB, aL, aP, cN, aq, cF, bA, bA.viewCs, bF, bF.flatCs, aW, aW.LensOks, Value.oneCell', ↓reduceIte, ite_true, ite_false, if_true, if_false, Nat.reduceAdd, Nat.reduceSub, Nat.reduceMul, Nat.reduceEqDiff, Nat.reduceLT, Nat.reduceLeDiff, reduceCtorEq, Int.reduceToNat, forall_const, implies_true, a5, Ent.mk3, bk, bu, bH, bo, br, bL, a7, bv, bJ, bI, bg, co, bD, cT, rn, cc, cc.renCs, aJ, aG, aI, aI.viewOks, aA, bn, bn.flatBs, ay, au, aH, ah, aX, bG, bG.keysBs, aT, ai, a8, bW, bj, cu, af, af.passKs, av, aY, ae, ae.lendKs, bT, cn, bM, bz, setInn, an, cW, cS, aR, bC, bN, cq, aC, az, Glob.gl, aU, cm, a0, bR, bl, ak, cG, cR, b0, cK, bO, am, am.ptrOnlys, aj, aD, bQ, aB, bp, bw, bP, aE, bB, cp, Nat.reduceBEq, undef]
              and_intros <;> first | omega | rfl | trivial
        · have hi2 : ¬ (i : Int) < (l.length : Int) := by omega
          have hie : i = l.length := by omega
          subst hie
          delta c115l3
          simp (maxSteps := 4000000) -implicitDefEqProofs only [hi2, rv115, List.take_length, InR, Ent.of0, Ent.of1, Ent.of2, Ent.of3, V, cr, bE, bh, bU, cM, c6, gt, lk, bS, cz, cI, bX, cg, cj, cj.subCs, cL, bt, bq, cD, aK, bf, a9, aF, aZ, bm, aM, a6, aV, cd, cO, cP, ar, aN, bZ, cJ, cH, cY, cQ, aQ, ag, ca, bK, zC, argS, be, ce, cU, cZ, ap, aO, ax, aw, bV, leC, cb, cC, bY, cV, cB, aL, aP, cN, aq, cF, bA, bA.viewCs, bF, bF.flatCs, aW, aW.LensOks, Value.oneCell', ↓reduceIte, ite_true, ite_false, if_true, if_false, Nat.reduceAdd, Nat.reduceSub, Nat.reduceMul, Nat.reduceEqDiff, Nat.reduceLT, Nat.reduceLeDiff, reduceCtorEq, Int.reduceToNat, forall_const, implies_true, a5, Ent.mk3, bk, bu, bH, bo, br, bL, a7, bv, bJ, bI, bg, co, bD, cT, rn, cc, cc.renCs, aJ, aG, aI, aI.viewOks, aA, bn, bn.flatBs, ay, au, aH, ah, aX, bG, bG.keysBs, aT, ai, a8, bW, bj, cu, af, af.passKs, av, aY, ae, ae.lendKs, bT, cn, bM, bz, setInn, an, cW, cS, aR, bC, bN, cq, aC, az, Glob.gl, aU, cm, a0, bR, bl, ak, cG, cR, b0, cK, bO, am, am.ptrOnlys, aj, aD, bQ, aB, bp, bw, bP, aE, bB, cp, Nat.reduceBEq, undef]
end Go.Proofs.Ytfgpbmjmoobcnaa
end
section
open Go Go.Am
open Go.Am.Dat (cells)
namespace Go.Proofs.Ytfgpbmjmoobcnaa
set_option maxHeartbeats 4000000
set_option maxRecDepth 100000
set_option linter.unusedSimpArgs false
theorem softS_length (c : Nat) (sq : List Int) : (softS c sq).length = c := by simp [softS]
def e115 (f : FuncId) (T : Nat → List Int → List Int) (hj : ∀ (c : Nat) (g : Int) (l : List Gs), (c = 1 ∨ c = 2 ∨ c = 3) → 1 ≤ g ∧ g ≤ 10000000 → (∀ s ∈ l, (-100000000 ≤ s.re ∧ s.re ≤ 100000000) ∧ -100000000 ≤ s.im ∧ s.im ≤ 100000000) → l.length ≤ 1000 →
    FC Try.prog 115 [enc (⟨2 * (c : Int), g, l⟩ : Recv), .fn (.func f) [] []] [] (enc (judgedS c (T c) g l)) []) : Ent Try.prog := .mk3 115 (fun args chs => match args, chs with
    | [.agg [.s (.int .i64 o), .s (.int .i64 g), .sl 2 t], .fn (.func f') [] []], [] => (decL t : Option (List Gs)).bind fun l => some (f' = f ∧ recvErr ⟨o, g, l⟩ = 0, enc (judgedS (o.toNat / 2) (T (o.toNat / 2)) g l), [], [])
    | _, _ => none) (by
  intro args chs p r chs' nk hs hp
  split at hs
  · rename_i o g t f'
    simp only [Option.bind_eq_some_iff, Option.some.injEq, Prod.mk.injEq] at hs
    obtain ⟨l, hl, rfl, rfl, rfl, rfl⟩ := hs
    obtain ⟨hff, hr⟩ := hp
    have := decL_ok hl
    subst this
    have hz := firstS_zero hr
    have z1 : orderErrS o = 0 := hz _ (by simp [recvErr])
    have z2 : (if 1 ≤ g ∧ g ≤ 10000000 then (0 : Int) else 2) = 0 := hz _ (by simp)
    have z3 : symErr l = 0 := hz _ (by simp)
    have ho : o = 2 ∨ o = 4 ∨ o = 6 := by
      unfold orderErrS at z1
      split at z1
      · assumption
      · cases z1
    have hg : 1 ≤ g ∧ g ≤ 10000000 := by
      split at z2
      · assumption
      · cases z2
    have hl2 : l.length ≤ 1000 := by
      unfold symErr at z3
      grind
    have hn : ∀ s ∈ l, (-100000000 ≤ s.re ∧ s.re ≤ 100000000) ∧ -100000000 ≤ s.im ∧ s.im ≤ 100000000 := by
      have : l.all (smallG · 100000000) = true := by
        unfold symErr at z3
        grind
      intro s hs
      have := List.all_eq_true.1 this s hs
      simpa [smallG] using this
    have e : o = 2 * ((o.toNat / 2 : Nat) : Int) := by rcases ho with rfl | rfl | rfl <;> rfl
    have := hj (o.toNat / 2) g l (by rcases ho with rfl | rfl | rfl <;> simp) hg hn hl2
    rw [← e] at this
    subst hff
    exact ⟨this, .plain trivial⟩
  · cases hs)
def judgeAll (T : Nat → List Int → List Int) (x : Recv) : List Int := judgedS (x.order.toNat / 2) (T (x.order.toNat / 2)) x.gain x.symbols
theorem Soft_c (x : Recv) : FC Try.prog 58 [enc x] [] (.tup [enc (if recvErr x = 0 then judgeAll softS x else []), enc (recvErr x)]) [] := by
  refine fc_intro' is58 (by simp) (fun cx hl => S_run [e114, e115 117 softS (fun c g l hc hg hn hl => judged_c 117 (softS c) c hc (fun sq h1 h2 => soft_c c hc sq h1 h2) (fun sq _ => softS_length c sq) g l hg hn hl)] 800 ?_)
  obtain ⟨o, g, l⟩ := x
  delta c58
  simp (maxSteps := 4000000) -implicitDefEqProofs only [rv58, e114, e115, enc_recv, decV_recv, Ent.of0, Ent.of1, Ent.of2, Ent.of3, V, cr, bE, bh, bU, cM, c6, gt, lk, bS, cz, cI, bX, cg, cj, cj.subCs, cL, bt, bq, cD, aK, bf, a9, aF, aZ, bm, aM, a6, aV, cd, cO, cP, ar, aN, bZ, cJ, cH, cY, cQ, aQ, ag, ca, bK, zC, argS, be, ce, cU, cZ, ap, aO, ax, aw, bV, leC, cb, cC, bY, cV, cB, aL, aP, cN, aq, cF, bA, bA.viewCs, bF, bF.flatCs, aW, aW.LensOks, Value.oneCell', ↓reduceIte, ite_true, ite_false, if_true, if_false, Nat.reduceAdd, Nat.reduceSub, Nat.reduceMul, Nat.reduceEqDiff, Nat.reduceLT, Nat.reduceLeDiff, reduceCtorEq, Int.reduceToNat, forall_const, implies_true, a5, Ent.mk3, bk, bu, bH, bo, br, bL, a7, bv, bJ, bI, bg, co, bD, cT, rn, cc, cc.renCs, aJ, aG, aI, aI.viewOks, aA, bn, bn.flatBs, ay, au, aH, ah, aX, bG, bG.keysBs, aT, ai, a8, bW, bj, cu, af, af.passKs, av, aY, ae, ae.lendKs, bT, cn, bM, bz, setInn, an, cW, cS, aR, bC, bN, cq, aC, az, Glob.gl, aU, cm, a0, bR, bl, ak, cG, cR, b0, cK, bO, am, am.ptrOnlys, aj, aD, bQ, aB, bp, bw, bP, aE, bB, cp, Nat.reduceBEq, undef]
  by_cases h : recvErr ⟨o, g, l⟩ = 0
  · simp only [h, if_true, decide_true, judgeAll, Bool.false_eq_true, if_false, not_true_eq_false, decide_false, true_and]
  · rw [if_pos h, if_neg h]; trivial
def e58 : Ent Try.prog := .of1 58 (fun _ => True) (fun x : Recv => .tup [enc (if recvErr x = 0 then judgeAll softS x else []), enc (recvErr x)]) (fun _ => ⟨trivial, trivial, trivial⟩) (fun x _ => Soft_c x)
end Go.Proofs.Ytfgpbmjmoobcnaa
end
section
open Go Go.Am
open Go.Am.Dat (cells)
namespace Go.Proofs.Ytfgpbmjmoobcnaa
set_option maxHeartbeats 4000000
set_option maxRecDepth 20000
set_option linter.unusedSimpArgs false
theorem rowsD_c (w : List (List Fz)) (m : List (List Gs)) (h : RowsOk w m) : FC Try.prog 87 [enc w] [] (.own 3) [(3, .deep 2 48 35 none (m.map fun r => r.map cells))] := by
  refine fc_introC [3] D.is87 (by simp) trivial trivial (by simp [aL, aP, cD]) trivial (fun cx _ hl _ => S_run [] 800 ?_)
  obtain ⟨hrep, hm, hr, hb⟩ := h
  have hwm := hrep.1
  delta D.c87
  simp (maxSteps := 4000000) -implicitDefEqProofs only [D.rv87, Ent.of0, Ent.of1, Ent.of2, Ent.of3, V, cr, bE, bh, bU, cM, c6, gt, lk, bS, cz, cI, bX, cg, cj, cj.subCs, cL, bt, bq, cD, aK, bf, a9, aF, aZ, bm, aM, a6, aV, cd, cO, cP, ar, aN, bZ, cJ, cH, cY, cQ, aQ, ag, ca, bK, zC, argS, be, ce, cU, cZ, ap, aO, ax, aw, bV, leC, cb, cC, bY, cV, cB, aL, aP, cN, aq, cF, bA, bA.viewCs, bF, bF.flatCs, aW, aW.LensOks, Value.oneCell', ↓reduceIte, ite_true, ite_false, if_true, if_false, Nat.reduceAdd, Nat.reduceSub, Nat.reduceMul, Nat.reduceEqDiff, Nat.reduceLT, Nat.reduceLeDiff, reduceCtorEq, Int.reduceToNat, forall_const, implies_true, a5, Ent.mk3, bk, bu, bH, bo, br, bL, a7, bv, bJ, bI, bg, co, bD, cT, rn, cc, cc.renCs, aJ, aG, aI, aI.viewOks, aA, bn, bn.flatBs, ay, au, aH, ah, aX, bG, bG.keysBs, aT, ai, a8, bW, bj, cu, af, af.passKs, av, aY, ae, ae.lendKs, bT, cn, bM, bz, setInn, an, cW, cS, aR, bC, bN, cq, aC, az, Glob.gl, aU, cm, a0, bR, bl, ak, cG, cR, b0, cK, bO, am, am.ptrOnlys, aj, aD, bQ, aB, bp, bw, bP, aE, bB, cp, Nat.reduceBEq, undef]
  refine ⟨by simp, ?_⟩
  refine S_forU w.length (fun i => [(11, .s (.int .i64 i))]) (fun i => [(3, .deep 2 48 35 none ((m.take i).map fun r => r.map cells))]) (fun _ => True) trivial ?_ (fun i hi _ => S_run [] 800 ?_)
  · simp (maxSteps := 4000000) -implicitDefEqProofs only [Ent.of0, Ent.of1, Ent.of2, Ent.of3, V, cr, bE, bh, bU, cM, c6, gt, lk, bS, cz, cI, bX, cg, cj, cj.subCs, cL, bt, bq, cD, aK, bf, a9, aF, aZ, bm, aM, a6, aV, cd, cO, cP, ar, aN, bZ, cJ, cH, cY, cQ, aQ, ag, ca, bK, zC, argS, be, ce, cU, cZ, ap, aO, ax, aw, bV, leC, cb, cC, bY, cV, cB, aL, aP, cN, aq, cF, bA, bA.viewCs, bF, bF.flatCs, aW, aW.LensOks, Value.oneCell', ↓reduceIte, ite_true, ite_false, if_true, if_false, Nat.reduceAdd, Nat.reduceSub, Nat.reduceMul, Nat.reduceEqDiff, Nat.reduceLT, Nat.reduceLeDiff, reduceCtorEq, Int.reduceToNat, forall_const, implies_true, a5, Ent.mk3, bk, bu, bH, bo, br, bL, a7, bv, bJ, bI, bg, co, bD, cT, rn, cc, cc.renCs, aJ, aG, aI, aI.viewOks, aA, bn, bn.flatBs, ay, au, aH, ah, aX, bG, bG.keysBs, aT, ai, a8, bW, bj, cu, af, af.passKs, av, aY, ae, ae.lendKs, bT, cn, bM, bz, setInn, an, cW, cS, aR, bC, bN, cq, aC, az, Glob.gl, aU, cm, a0, bR, bl, ak, cG, cR, b0, cK, bO, am, am.ptrOnlys, aj, aD, bQ, aB, bp, bw, bP, aE, bB, cp, Nat.reduceBEq, undef]; simp
  · delta D.c87l2
    by_cases h : i < w.length
    · have hi2 : (i : Int) < (w.length : Int) := by omega
      have him : i < m.length := by omega
      have hrl := hr _ (getD_mem [] him)
      have hbl := hb _ (getD_mem [] him)
      obtain ⟨q1, q2⟩ := hrep.2 i him
      have htkm : ((m.take i).map fun r => r.map cells) ++ [(m.getD i []).map cells] = (m.take (i + 1)).map fun r => r.map cells := by
        rw [take_getD [] him, List.map_append]; rfl
      have htlm : (m.take i).length = i := by rw [List.length_take]; omega
      simp (maxSteps := 4000000) -implicitDefEqProofs only [sz_fz, hi2, getD_list, h, Ent.of0, Ent.of1, Ent.of2, Ent.of3, V, cr, bE, bh, bU, cM, c6, gt, lk, bS, cz, cI, bX, cg, cj, cj.subCs, cL, bt, bq, cD, aK, bf, a9, aF, aZ, bm, aM, a6, aV, cd, cO, cP, ar, aN, bZ, cJ, cH, cY, cQ, aQ, ag, ca, bK, zC, argS, be, ce, cU, cZ, ap, aO, ax, aw, bV, leC, cb, cC, bY, cV, cB, aL, aP, cN, aq, cF, bA, bA.viewCs, bF, bF.flatCs, aW, aW.LensOks, Value.oneCell', ↓reduceIte, ite_true, ite_false, if_true, if_false, Nat.reduceAdd, Nat.reduceSub, Nat.reduceMul, Nat.reduceEqDiff, Nat.reduceLT, Nat.reduceLeDiff, reduceCtorEq, Int.reduceToNat, forall_const, implies_true, a5, Ent.mk3, bk, bu, bH, bo, br, bL, a7, bv, bJ, bI, bg, co, bD, cT, rn, cc, cc.renCs, aJ, aG, aI, aI.viewOks, aA, bn, bn.flatBs, ay, au, aH, ah, aX, bG, bG.keysBs, aT, ai, a8, bW, bj, cu, af, af.passKs, av, aY, ae, ae.lendKs, bT, cn, bM, bz, setInn, an, cW, cS, aR, bC, bN, cq, aC, az, Glob.gl, aU, cm, a0, bR, bl, ak, cG, cR, b0, cK, bO, am, am.ptrOnlys, aj, aD, bQ, aB, bp, bw, bP, aE, bB, cp, Nat.reduceBEq, undef]
      refine ⟨by omega, ?_⟩
      generalize hR : w.getD i [] = R at *
      generalize hG : m.getD i [] = G at *
      refine S_forU R.length (fun j => [(17, .s (.int .i64 j))]) (fun j => [(6, .row 2 48 ((G.take j).map cells))]) (fun _ => True) trivial ?_ (fun j hj _ => S_run [] 800 ?_)
      · simp (maxSteps := 4000000) -implicitDefEqProofs only [Ent.of0, Ent.of1, Ent.of2, Ent.of3, V, cr, bE, bh, bU, cM, c6, gt, lk, bS, cz, cI, bX, cg, cj, cj.subCs, cL, bt, bq, cD, aK, bf, a9, aF, aZ, bm, aM, a6, aV, cd, cO, cP, ar, aN, bZ, cJ, cH, cY, cQ, aQ, ag, ca, bK, zC, argS, be, ce, cU, cZ, ap, aO, ax, aw, bV, leC, cb, cC, bY, cV, cB, aL, aP, cN, aq, cF, bA, bA.viewCs, bF, bF.flatCs, aW, aW.LensOks, Value.oneCell', ↓reduceIte, ite_true, ite_false, if_true, if_false, Nat.reduceAdd, Nat.reduceSub, Nat.reduceMul, Nat.reduceEqDiff, Nat.reduceLT, Nat.reduceLeDiff, reduceCtorEq, Int.reduceToNat, forall_const, implies_true, a5, Ent.mk3, bk, bu, bH, bo, br, bL, a7, bv, bJ, bI, bg, co, bD, cT, rn, cc, cc.renCs, aJ, aG, aI, aI.viewOks, aA, bn, bn.flatBs, ay, au, aH, ah, aX, bG, bG.keysBs, aT, ai, a8, bW, bj, cu, af, af.passKs, av, aY, ae, ae.lendKs, bT, cn, bM, bz, setInn, an, cW, cS, aR, bC, bN, cq, aC, az, Glob.gl, aU, cm, a0, bR, bl, ak, cG, cR, b0, cK, bO, am, am.ptrOnlys, aj, aD, bQ, aB, bp, bw, bP, aE, bB, cp, Nat.reduceBEq, undef]; simp
      · delta D.c87l1
        by_cases hjl : j < R.length
        · have hj2 : (j : Int) < (R.length : Int) := by omega
          have hjG : j < G.length := by omega
          have htk : (G.take j).map cells ++ [[C.s (.int .i64 (G.getD j ⟨0, 0⟩).re), C.s (.int .i64 (G.getD j ⟨0, 0⟩).im)]] = (G.take (j + 1)).map cells := by
            rw [take_getD ⟨0, 0⟩ hjG, List.map_append]; rfl
          have htl : (G.take j).length = j := by rw [List.length_take]; omega
          obtain ⟨z1, z2⟩ := q2 j hjG
          have t1 := toInt_F z1
          have t2 := toInt_F z2
          obtain ⟨b1, b2⟩ := hbl _ (getD_mem ⟨0, 0⟩ hjG)
          simp (maxSteps := 4000000) -implicitDefEqProofs only [hj2, hjl, cd, getD_fz, t1, t2, htk, htl, IntKind.min, IntKind.max, IntKind.signed, IntKind.bits, InR, Ent.of0, Ent.of1, Ent.of2, Ent.of3, V, cr, bE, bh, bU, cM, c6, gt, lk, bS, cz, cI, bX, cg, cj, cj.subCs, cL, bt, bq, cD, aK, bf, a9, aF, aZ, bm, aM, a6, aV, cd, cO, cP, ar, aN, bZ, cJ, cH, cY, cQ, aQ, ag, ca, bK, zC, argS, be, ce, cU, cZ, ap, aO, ax, aw, bV, leC, cb, cC, bY, cV, cB, aL, aP, cN, aq, cF, bA, bA.viewCs, bF, bF.flatCs, aW, aW.LensOks, Value.oneCell', ↓reduceIte, ite_true, ite_false, if_true, if_false, Nat.reduceAdd, Nat.reduceSub, Nat.reduceMul, Nat.reduceEqDiff, Nat.reduceLT, Nat.reduceLeDiff, reduceCtorEq, Int.reduceToNat, forall_const, implies_true, a5, Ent.mk3, bk, bu, bH, bo, br, bL, a7, bv, bJ, bI, bg, co, bD, cT, rn, cc, cc.renCs, aJ, aG, aI, aI.viewOks, aA, bn, bn.flatBs, ay, au, aH, ah, aX, bG, bG.keysBs, aT, ai, a8, bW, bj, cu, af, af.passKs, av, aY, ae, ae.lendKs, bT, cn, bM, bz, setInn, an, cW, cS, aR, bC, bN, cq, aC, az, Glob.gl, aU, cm, a0, bR, bl, ak, cG, cR, b0, cK, bO, am, am.ptrOnlys, aj, aD, bQ, aB, bp, bw, bP, aE, bB, cp, Nat.reduceBEq, undef]
          simp only [Int.reducePow] at *
          and_intros <;> first | omega | rfl | trivial
        · have : j = R.length := by omega
          subst this
          have hj2 : ¬ (R.length : Int) < (R.length : Int) := by omega
          have hG2 : G.take R.length = G := by rw [q1]; exact List.take_length
          simp (maxSteps := 4000000) -implicitDefEqProofs only [hj2, hG2, htkm, htlm, InR, Ent.of0, Ent.of1, Ent.of2, Ent.of3, V, cr, bE, bh, bU, cM, c6, gt, lk, bS, cz, cI, bX, cg, cj, cj.subCs, cL, bt, bq, cD, aK, bf, a9, aF, aZ, bm, aM, a6, aV, cd, cO, cP, ar, aN, bZ, cJ, cH, cY, cQ, aQ, ag, ca, bK, zC, argS, be, ce, cU, cZ, ap, aO, ax, aw, bV, leC, cb, cC, bY, cV, cB, aL, aP, cN, aq, cF, bA, bA.viewCs, bF, bF.flatCs, aW, aW.LensOks, Value.oneCell', ↓reduceIte, ite_true, ite_false, if_true, if_false, Nat.reduceAdd, Nat.reduceSub, Nat.reduceMul, Nat.reduceEqDiff, Nat.reduceLT, Nat.reduceLeDiff, reduceCtorEq, Int.reduceToNat, forall_const, implies_true, a5, Ent.mk3, bk, bu, bH, bo, br, bL, a7, bv, bJ, bI, bg, co, bD, cT, rn, cc, cc.renCs, aJ, aG, aI, aI.viewOks, aA, bn, bn.flatBs, ay, au, aH, ah, aX, bG, bG.keysBs, aT, ai, a8, bW, bj, cu, af, af.passKs, av, aY, ae, ae.lendKs, bT, cn, bM, bz, setInn, an, cW, cS, aR, bC, bN, cq, aC, az, Glob.gl, aU, cm, a0, bR, bl, ak, cG, cR, b0, cK, bO, am, am.ptrOnlys, aj, aD, bQ, aB, bp, bw, bP, aE, bB, cp, Nat.reduceBEq, undef]
          and_intros <;> first | omega | rfl | trivial
    · have : i = w.length := by omega
      subst this
      have hi2 : ¬ (w.length : Int) < (w.length : Int) := by omega
      have hm2 : m.take w.length = m := by rw [hwm]; exact List.take_length
      simp (maxSteps := 4000000) -implicitDefEqProofs only [hi2, D.rv87, hm2, Ent.of0, Ent.of1, Ent.of2, Ent.of3, V, cr, bE, bh, bU, cM, c6, gt, lk, bS, cz, cI, bX, cg, cj, cj.subCs, cL, bt, bq, cD, aK, bf, a9, aF, aZ, bm, aM, a6, aV, cd, cO, cP, ar, aN, bZ, cJ, cH, cY, cQ, aQ, ag, ca, bK, zC, argS, be, ce, cU, cZ, ap, aO, ax, aw, bV, leC, cb, cC, bY, cV, cB, aL, aP, cN, aq, cF, bA, bA.viewCs, bF, bF.flatCs, aW, aW.LensOks, Value.oneCell', ↓reduceIte, ite_true, ite_false, if_true, if_false, Nat.reduceAdd, Nat.reduceSub, Nat.reduceMul, Nat.reduceEqDiff, Nat.reduceLT, Nat.reduceLeDiff, reduceCtorEq, Int.reduceToNat, forall_const, implies_true, a5, Ent.mk3, bk, bu, bH, bo, br, bL, a7, bv, bJ, bI, bg, co, bD, cT, rn, cc, cc.renCs, aJ, aG, aI, aI.viewOks, aA, bn, bn.flatBs, ay, au, aH, ah, aX, bG, bG.keysBs, aT, ai, a8, bW, bj, cu, af, af.passKs, av, aY, ae, ae.lendKs, bT, cn, bM, bz, setInn, an, cW, cS, aR, bC, bN, cq, aC, az, Glob.gl, aU, cm, a0, bR, bl, ak, cG, cR, b0, cK, bO, am, am.ptrOnlys, aj, aD, bQ, aB, bp, bw, bP, aE, bB, cp, Nat.reduceBEq, undef]
def adjS (m : List (List Gs)) : List (List Gs) :=
  match m with
  | [[_]] => [[⟨1, 0⟩]]
  | [[a, b], [c, d]] => [[d, gsub ⟨0, 0⟩ b], [gsub ⟨0, 0⟩ c, a]]
  | _ => []
theorem zadd {b : Gs} (hb : bd b 1000) : addOk ⟨0, 0⟩ b := ⟨0, 1000, ⟨by simp, by simp⟩, hb, by omega⟩
theorem adj1_c (a : Gs) : FC Try.prog 85 [enc [[a]]] [] (enc (adjS [[a]])) [] := by
  refine fc_intro' is85 (by simp) (fun cx hl => S_run [e113] 800 ?_)
  delta c85
  simp (maxSteps := 4000000) -implicitDefEqProofs only [rv85, e113, adjS, Int.cast_ofNat_Int, Int.natCast_one, Int.natCast_zero, Int.reduceAdd, Int.reduceSub, Int.reduceMul, Int.reduceLT, Int.reduceLE, Int.reduceTMod, Int.reduceTDiv, Int.reduceNeg, Int.reduceEq, Nat.reducePow, Int.reducePow, ne_eq, not_false_eq_true, Ent.of0, Ent.of1, Ent.of2, Ent.of3, V, cr, bE, bh, bU, cM, c6, gt, lk, bS, cz, cI, bX, cg, cj, cj.subCs, cL, bt, bq, cD, aK, bf, a9, aF, aZ, bm, aM, a6, aV, cd, cO, cP, ar, aN, bZ, cJ, cH, cY, cQ, aQ, ag, ca, bK, zC, argS, be, ce, cU, cZ, ap, aO, ax, aw, bV, leC, cb, cC, bY, cV, cB, aL, aP, cN, aq, cF, bA, bA.viewCs, bF, bF.flatCs, aW, aW.LensOks, Value.oneCell', ↓reduceIte, ite_true, ite_false, if_true, if_false, Nat.reduceAdd, Nat.reduceSub, Nat.reduceMul, Nat.reduceEqDiff, Nat.reduceLT, Nat.reduceLeDiff, reduceCtorEq, Int.reduceToNat, forall_const, implies_true, a5, Ent.mk3, bk, bu, bH, bo, br, bL, a7, bv, bJ, bI, bg, co, bD, cT, rn, cc, cc.renCs, aJ, aG, aI, aI.viewOks, aA, bn, bn.flatBs, ay, au, aH, ah, aX, bG, bG.keysBs, aT, ai, a8, bW, bj, cu, af, af.passKs, av, aY, ae, ae.lendKs, bT, cn, bM, bz, setInn, an, cW, cS, aR, bC, bN, cq, aC, az, Glob.gl, aU, cm, a0, bR, bl, ak, cG, cR, b0, cK, bO, am, am.ptrOnlys, aj, aD, bQ, aB, bp, bw, bP, aE, bB, cp, Nat.reduceBEq, undef]
theorem adj2_c (a b c d : Gs) (h1 : bd b 1000) (h2 : bd c 1000) : FC Try.prog 85 [enc [[a, b], [c, d]]] [] (enc (adjS [[a, b], [c, d]])) [] := by
  have m1 := zadd h1
  have m2 := zadd h2
  refine fc_intro' is85 (by simp) (fun cx hl => S_run [e113] 800 ?_)
  delta c85
  simp (maxSteps := 4000000) -implicitDefEqProofs only [rv85, e113, adjS, m1, m2, gs_eta, Int.cast_ofNat_Int, Int.natCast_one, Int.natCast_zero, Int.reduceAdd, Int.reduceSub, Int.reduceMul, Int.reduceLT, Int.reduceLE, Int.reduceTMod, Int.reduceTDiv, Int.reduceNeg, Int.reduceEq, Nat.reducePow, Int.reducePow, ne_eq, not_false_eq_true, Ent.of0, Ent.of1, Ent.of2, Ent.of3, V, cr, bE, bh, bU, cM, c6, gt, lk, bS, cz, cI, bX, cg, cj, cj.subCs, cL, bt, bq, cD, aK, bf, a9, aF, aZ, bm, aM, a6, aV, cd, cO, cP, ar, aN, bZ, cJ, cH, cY, cQ, aQ, ag, ca, bK, zC, argS, be, ce, cU, cZ, ap, aO, ax, aw, bV, leC, cb, cC, bY, cV, cB, aL, aP, cN, aq, cF, bA, bA.viewCs, bF, bF.flatCs, aW, aW.LensOks, Value.oneCell', ↓reduceIte, ite_true, ite_false, if_true, if_false, Nat.reduceAdd, Nat.reduceSub, Nat.reduceMul, Nat.reduceEqDiff, Nat.reduceLT, Nat.reduceLeDiff, reduceCtorEq, Int.reduceToNat, forall_const, implies_true, a5, Ent.mk3, bk, bu, bH, bo, br, bL, a7, bv, bJ, bI, bg, co, bD, cT, rn, cc, cc.renCs, aJ, aG, aI, aI.viewOks, aA, bn, bn.flatBs, ay, au, aH, ah, aX, bG, bG.keysBs, aT, ai, a8, bW, bj, cu, af, af.passKs, av, aY, ae, ae.lendKs, bT, cn, bM, bz, setInn, an, cW, cS, aR, bC, bN, cq, aC, az, Glob.gl, aU, cm, a0, bR, bl, ak, cG, cR, b0, cK, bO, am, am.ptrOnlys, aj, aD, bQ, aB, bp, bw, bP, aE, bB, cp, Nat.reduceBEq, undef]
end Go.Proofs.Ytfgpbmjmoobcnaa
end
section
open Go Go.Am
open Go.Am.Dat (cells)
namespace Go.Proofs.Ytfgpbmjmoobcnaa
set_option maxHeartbeats 4000000
set_option maxRecDepth 20000
set_option linter.unusedSimpArgs false
def xjC (F : Gs → Gs) (x : List Gs) (j : Nat) : List (List C) := ((x.take j).map F ++ x.drop j).map cells
def riC (F : Gs → Gs) (O : List (List Gs)) (i : Nat) : List (List (List C)) := ((O.take i).map (fun x => x.map F) ++ O.drop i).map fun r => r.map cells
def rjC (F : Gs → Gs) (O : List (List Gs)) (i j : Nat) : List (List (List C)) := ((O.take i).map fun x => (x.map F).map cells) ++ xjC F (O.getD i []) j :: (O.drop (i + 1)).map fun r => r.map cells
variable {F : Gs → Gs} {O : List (List Gs)} {x : List Gs} {i j : Nat}
theorem xjC_length (h : j ≤ x.length) : (xjC F x j).length = x.length := by
  simp [xjC]; omega
theorem xjC_get (h : j < x.length) (d : List C) : (xjC F x j).getD j d = cells (x.getD j ⟨0, 0⟩) := by
  have e : x.drop j = x.getD j ⟨0, 0⟩ :: x.drop (j + 1) := drop_getD _ h
  have hl : ((x.take j).map F).length = j := by simp; omega
  rw [xjC, e, List.map_append, List.getD_eq_getElem?_getD, List.getElem?_append_right (by simp; omega)]
  simp [Nat.min_eq_left (Nat.le_of_lt h)]
theorem xjC_set (h : j < x.length) : (xjC F x j).set j (cells (F (x.getD j ⟨0, 0⟩))) = xjC F x (j + 1) := by
  have e : x.drop j = x.getD j ⟨0, 0⟩ :: x.drop (j + 1) := drop_getD _ h
  have hl : ((x.take j).map F).length = j := by simp; omega
  rw [xjC, xjC, e, take_getD ⟨0, 0⟩ h]
  simp only [List.map_append, List.map_cons, List.map_nil, List.append_assoc, List.cons_append, List.nil_append]
  rw [List.set_append_right _ _ (by simp; omega)]
  simp [Nat.min_eq_left (Nat.le_of_lt h)]
theorem xjC_get' (h : j < x.length) (d : List C) : (xjC F x (j + 1)).getD j d = cells (F (x.getD j ⟨0, 0⟩)) := by
  rw [← xjC_set h, List.getD_eq_getElem?_getD, List.getElem?_set_self (by rw [xjC_length (by omega)]; exact h)]; rfl
theorem rjC_length (h : i < O.length) : (rjC F O i j).length = O.length := by
  simp [rjC]; omega
theorem rjC_get (h : i < O.length) (d : List (List C)) : (rjC F O i j).getD i d = xjC F (O.getD i []) j := by
  rw [rjC, List.getD_eq_getElem?_getD, List.getElem?_append_right (by simp; omega)]
  simp [Nat.min_eq_left (Nat.le_of_lt h)]
theorem rjC_set (h : i < O.length) : (rjC F O i j).set i (xjC F (O.getD i []) (j + 1)) = rjC F O i (j + 1) := by
  rw [rjC, rjC, List.set_append_right _ _ (by simp; omega)]
  simp [Nat.min_eq_left (Nat.le_of_lt h)]
theorem riC_rj (h : i < O.length) : riC F O i = rjC F O i 0 := by
  have e : O.drop i = O.getD i [] :: O.drop (i + 1) := drop_getD _ h
  rw [riC, rjC, e, List.map_append, List.map_map]
  simp [xjC, Function.comp_def]
theorem rjC_ri (h : i < O.length) : rjC F O i (O.getD i []).length = riC F O (i + 1) := by
  rw [riC, rjC, take_getD [] h]
  simp [xjC, Function.comp_def]
theorem riC_zero : riC F O 0 = O.map fun r => r.map cells := by simp [riC]
theorem riC_all : riC F O O.length = (O.map fun x => x.map F).map fun r => r.map cells := by simp [riC]
end Go.Proofs.Ytfgpbmjmoobcnaa
end
section
open Go Go.Am
open Go.Am.Dat (cells)
namespace Go.Proofs.Ytfgpbmjmoobcnaa
set_option maxHeartbeats 4000000
set_option maxRecDepth 20000
set_option linter.unusedSimpArgs false
def adjOk (m : List (List Gs)) : Prop := (∃ a, m = [[a]]) ∨ ∃ a b c d, m = [[a, b], [c, d]] ∧ bd b 1000 ∧ bd c 1000
def e85 : Ent Try.prog := .of1 85 adjOk (fun m : List (List Gs) => enc (adjS m)) (fun _ => trivial) (fun m h => by
  rcases h with ⟨a, rfl⟩ | ⟨a, b, c, d, rfl, h1, h2⟩
  · exact adj1_c a
  · exact adj2_c a b c d h1 h2)
def timesOk (a o : List (List Fz)) : Prop := ∃ m ls A B, Fits m ls A B ∧ 8 * (A * B) ≤ 9007199254740991 ∧ RepM a m ∧ RepM o ls
def e86 : Ent Try.prog := .of2 86 timesOk (fun a o : List (List Fz) => enc (timesW a o)) (fun _ _ => trivial) (fun a o h => by
  obtain ⟨m, ls, A, B, h1, h2, h3, h4⟩ := h
  exact gridTimes_c a o m ls A B h1 h2 h3 h4)
def e87 : Ent Try.prog := .of1 87 (fun w => RowsOk w (ofM w)) (fun w : List (List Fz) => enc (ofM w)) (fun _ => trivial) (fun w h => rows_c w _ h)
def e87D : Ent Try.prog := .mk3 87 (fun args chs => match args, chs with
    | [.sl 1 t], [] => (decL t : Option (List (List Fz))).bind fun w => some (RowsOk w (ofM w), .own 3, [(3, .deep 2 48 35 none ((ofM w).map fun r => r.map cells))], [3])
    | _, _ => none) (by
  intro args chs p r chs' nk hs hp
  split at hs
  · simp only [Option.bind_eq_some_iff, Option.some.injEq, Prod.mk.injEq] at hs
    obtain ⟨w, hw, rfl, rfl, rfl, rfl⟩ := hs
    have := decL_ok hw
    subst this
    refine ⟨rowsD_c w _ hp, ⟨fun k c h => .inl ?_, fun k cs h => by simp at h, by simp [keysIn], fun k c h => ?_⟩⟩
    · simp only [List.mem_singleton, Prod.mk.injEq] at h; rw [h.1]; exact List.mem_singleton.2 rfl
    · simp only [List.mem_singleton, Prod.mk.injEq] at h; rw [h.2]; trivial
  · cases hs)
theorem sym_of {l : List Gs} (h : symErr l = 0) : 0 < l.length ∧ l.length ≤ 200 ∧ ∀ g ∈ l, bd g 100000000 := by
  unfold symErr at h
  split at h
  · cases h
  · split at h
    · cases h
    · split at h
      · rename_i h1 h2 h3
        exact ⟨by omega, by omega, fun g hg => smallG_bd (by simpa using List.all_eq_true.1 h3 g hg)⟩
      · cases h
theorem lay_of {r : List (List Gs)} (h : layErr r = 0) : 0 < r.length ∧ r.length ≤ 4 ∧ ∀ x ∈ r, x.length = (r.getD 0 []).length ∧ 0 < x.length ∧ x.length ≤ 200 ∧ ∀ g ∈ x, bd g 100000000 := by
  unfold layErr at h
  split at h
  · cases h
  · split at h
    · cases h
    · refine ⟨by omega, by omega, fun x hx => ?_⟩
      have := firstS_zero h _ (List.mem_map.2 ⟨x, hx, rfl⟩)
      by_cases h1 : symErr x = 0
      · rw [if_neg (by simpa using h1)] at this
        obtain ⟨q1, q2, q3⟩ := sym_of h1
        refine ⟨?_, q1, q2, q3⟩
        split at this
        · cases this
        · omega
      · rw [if_pos h1] at this; exact absurd this h1
theorem det_of {m : List (List Gs)} (h : symDetE m = 0) : adjOk m ∧ (∀ x ∈ m, x.length = m.length ∧ ∀ g ∈ x, bd g 1000) ∧ 0 < m.length ∧ m.length ≤ 2 := by
  unfold symDetE at h
  by_cases h1 : matErr m = 0
  · rw [if_neg (by simpa using h1)] at h
    have hr := right_of h1
    unfold detE at h
    split at h
    · cases h
    · split at h
      · cases h
      · rename_i h2 h3
        have hb : ∀ x ∈ m, x.length = m.length ∧ ∀ g ∈ x, bd g 1000 := fun x hx => ⟨by have := (hr.row x hx).1; omega, fun g hg => smallG_bd ((hr.row x hx).2.2.2 g hg)⟩
        refine ⟨?_, hb, hr.pos, by omega⟩
        match m, hb, hr.pos, h3 with
        | [x], hb, _, _ =>
          obtain ⟨q1, q2⟩ := hb x (by simp)
          match x, q1 with
          | [a], _ => exact .inl ⟨a, rfl⟩
        | [x, y], hb, _, _ =>
          obtain ⟨q1, q2⟩ := hb x (by simp)
          obtain ⟨q3, q4⟩ := hb y (by simp)
          match x, y, q1, q3, q2, q4 with
          | [a, b], [c, d], _, _, q2, q4 => exact .inr ⟨a, b, c, d, rfl, q2 b (by simp), q4 c (by simp)⟩
        | _ :: _ :: _ :: _, _, _, h3 => simp at h3
  · rw [if_pos h1] at h; exact absurd h h1
theorem adjS_length {m : List (List Gs)} (ha : adjOk m) : (adjS m).length = m.length ∧ ∀ x ∈ adjS m, x.length = m.length := by
  rcases ha with ⟨a, rfl⟩ | ⟨a, b, c, d, rfl, _, _⟩ <;> simp [adjS]
theorem adj_fits {m r : List (List Gs)} (ha : adjOk m) (hm : ∀ x ∈ m, x.length = m.length ∧ ∀ g ∈ x, bd g 1000) (hl : layErr r = 0) (hrm : r.length = m.length) : Fits (adjS m) r 1000 100000000 := by
  obtain ⟨h1, h2, h3⟩ := lay_of hl
  obtain ⟨g1, g2⟩ := adjS_length ha
  refine ⟨h1, h2, by omega, fun x hx => (h3 x hx).1, ?_, fun x hx => by rw [g2 x hx, hrm], ?_, fun x hx g hg => (h3 x hx).2.2.2 g hg, by omega⟩
  · have := (h3 _ (getD_mem [] h1)).2.2.1; omega
  · rcases ha with ⟨a, rfl⟩ | ⟨a, b, c, d, rfl, h1, h2⟩
    · intro x hx g hg
      simp [adjS] at hx; subst hx; simp at hg; subst hg
      constructor <;> simp
    · have ha := (hm [a, b] (by simp)).2 a (by simp)
      have hd := (hm [c, d] (by simp)).2 d (by simp)
      intro x hx g hg
      simp only [bd] at *
      simp only [adjS, List.mem_cons, List.not_mem_nil, or_false] at hx
      rcases hx with rfl | rfl <;> simp only [List.mem_cons, List.not_mem_nil, or_false] at hg <;> rcases hg with rfl | rfl <;> (try simp only [gsub]) <;> omega
def eqErr (m r : List (List Gs)) : Int := firstS [symDetE m, layErr r, if r.length = m.length then 0 else 13, if symDetS m = ⟨0, 0⟩ then 27 else 0]
def gainS (m : List (List Gs)) : Int := (gmul (symDetS m) (gconj (symDetS m))).re
def eqOut (m r : List (List Gs)) : List (List Gs) := (applS (adjS m) r).map fun x => x.map (gmul (gconj (symDetS m)))
def eqE (m r : List (List Gs)) : Int := if eqErr m r ≠ 0 then eqErr m r else if gainS m > 10000000 then 8 else if (eqOut m r).all fun x => x.all (smallG · 100000000) then 0 else 8
theorem Equalized_c (m r : List (List Gs)) : FC Try.prog 17 [enc m, enc r] [] (.tup [enc (if eqE m r = 0 then eqOut m r else []), enc (if eqE m r = 0 then gainS m else 0), enc (eqE m r)]) [] := by
  refine fc_introC [] D.is17 (by simp) trivial trivial trivial trivial (fun cx _ hl _ => S_run [e49, e81, e82, e80, e83, e84, e85, e86, e87D] 800 ?_)
  have hEq : firstS [symDetE m, layErr r, if (r.length : Int) = (m.length : Int) then 0 else 13, if (decide ((symDetS m).re = 0) && decide ((symDetS m).im = 0)) = false then 0 else 27] = eqErr m r := by
    have e1 : (if (r.length : Int) = (m.length : Int) then (0 : Int) else 13) = if r.length = m.length then 0 else 13 := by
      by_cases h : r.length = m.length
      · simp [h]
      · rw [if_neg h, if_neg (by omega)]
    have e2 : (if (decide ((symDetS m).re = 0) && decide ((symDetS m).im = 0)) = false then (0 : Int) else 27) = if symDetS m = ⟨0, 0⟩ then 27 else 0 := by
      by_cases h : symDetS m = ⟨0, 0⟩
      · rw [h]; simp
      · rw [if_neg h, if_pos]
        rw [Bool.and_eq_false_iff]
        by_cases h1 : (symDetS m).re = 0
        · right
          simp only [decide_eq_false_iff_not]
          intro h2
          apply h
          cases hq : symDetS m
          rw [hq] at h1 h2
          simp only at h1 h2
          rw [h1, h2]
        · left; simpa using h1
    rw [e1, e2]; rfl
  by_cases he : eqErr m r = 0
  · have hz := firstS_zero he
    have z1 : symDetE m = 0 := hz _ (by simp)
    have z2 : layErr r = 0 := hz _ (by simp)
    have z3 : r.length = m.length := by
      have : (if r.length = m.length then (0 : Int) else 13) = 0 := hz _ (by simp)
      split at this
      · assumption
      · cases this
    obtain ⟨d1, d2, d3, d4⟩ := det_of z1
    have hf := adj_fits d1 d2 z2 z3
    obtain ⟨l1, l2, l3⟩ := lay_of z2
    have hga : RepM (gridS (adjS m)) (adjS m) := grid_rep fun x hx g hg => by
      have := hf.ma x hx g hg
      simp only [bd] at *; omega
    have hgr : RepM (gridS r) r := grid_rep fun x hx g hg => by
      have := hf.mb x hx g hg
      simp only [bd] at *; omega
    have hrep := times_rep hf (by omega) hga hgr
    have hO := ofM_c hrep
    have hOl : (applS (adjS m) r).length = m.length := by simp [applS, (adjS_length d1).1]
    rw [he] at hEq
    delta D.c17
    simp (maxSteps := 4000000) -implicitDefEqProofs only [D.rv17, e49, e81, e82, e80, e83, e84, e85, e86, e87D, hEq, hO, Ent.of0, Ent.of1, Ent.of2, Ent.of3, V, cr, bE, bh, bU, cM, c6, gt, lk, bS, cz, cI, bX, cg, cj, cj.subCs, cL, bt, bq, cD, aK, bf, a9, aF, aZ, bm, aM, a6, aV, cd, cO, cP, ar, aN, bZ, cJ, cH, cY, cQ, aQ, ag, ca, bK, zC, argS, be, ce, cU, cZ, ap, aO, ax, aw, bV, leC, cb, cC, bY, cV, cB, aL, aP, cN, aq, cF, bA, bA.viewCs, bF, bF.flatCs, aW, aW.LensOks, Value.oneCell', ↓reduceIte, ite_true, ite_false, if_true, if_false, Nat.reduceAdd, Nat.reduceSub, Nat.reduceMul, Nat.reduceEqDiff, Nat.reduceLT, Nat.reduceLeDiff, reduceCtorEq, Int.reduceToNat, forall_const, implies_true, a5, Ent.mk3, bk, bu, bH, bo, br, bL, a7, bv, bJ, bI, bg, co, bD, cT, rn, cc, cc.renCs, aJ, aG, aI, aI.viewOks, aA, bn, bn.flatBs, ay, au, aH, ah, aX, bG, bG.keysBs, aT, ai, a8, bW, bj, cu, af, af.passKs, av, aY, ae, ae.lendKs, bT, cn, bM, bz, setInn, an, cW, cS, aR, bC, bN, cq, aC, az, Glob.gl, aU, cm, a0, bR, bl, ak, cG, cR, b0, cK, bO, am, am.ptrOnlys, aj, aD, bQ, aB, bp, bw, bP, aE, bB, cp, Nat.reduceBEq, undef]
    have hbd : bd (symDetS m) 4000000 := by
      have e : symDetS m = detS m := by unfold symDetS symDetE at *; split at z1 <;> simp_all
      rw [e]
      rcases d1 with ⟨a, rfl⟩ | ⟨a, b, c, d, rfl, _, _⟩
      · have := (d2 [a] (by simp)).2 a (by simp)
        simp only [detS, bd] at *; omega
      · have ha := (d2 [a, b] (by simp)).2 a (by simp)
        have hb := (d2 [a, b] (by simp)).2 b (by simp)
        have hc := (d2 [c, d] (by simp)).2 c (by simp)
        have hd := (d2 [c, d] (by simp)).2 d (by simp)
        have q1 := bd_gmul ha hd
        have q2 := bd_gmul hb hc
        simp only [detS, bd, gsub] at *
        omega
    have hgc : gconj (symDetS m) = ⟨(symDetS m).re, -(symDetS m).im⟩ := rfl
    have hgain : gainS m = (gmul (symDetS m) ⟨(symDetS m).re, -(symDetS m).im⟩).re := rfl
    have hgain2 : gainS m = (symDetS m).re * (symDetS m).re + (symDetS m).im * (symDetS m).im := by
      rw [hgain]; simp only [gmul]; rw [Int.mul_neg]; omega
    have heE : eqE m r = if gainS m > 10000000 then 8 else if (eqOut m r).all fun x => x.all (smallG · 100000000) then 0 else 8 := by unfold eqE; rw [if_neg (by simpa using he)]
    have hout : eqOut m r = (applS (adjS m) r).map fun x => x.map (gmul (gconj (symDetS m))) := rfl
    refine ⟨by simp only [bd, InR] at *; omega, ⟨4000000, 4000000, hbd, by simp only [bd] at *; omega, by omega⟩, ?_⟩
    rw [← hgain]
    by_cases hG : gainS m > 10000000
    · rw [if_pos hG, heE, if_pos hG]
      exact ⟨trivial, rfl, rfl⟩
    · rw [if_neg hG]
      rw [if_neg hG] at heE
      have hal := adjS_length d1
      have hrows : ∀ x ∈ applS (adjS m) r, x.length ≤ 1000000 ∧ ∀ g ∈ x, bd g 800000000000 := fun x hx => by
        obtain ⟨row, hrow, rfl⟩ := List.mem_map.1 hx
        refine ⟨by simp only [rowS', List.length_map, List.length_range]; exact hf.short, fun g hg => ?_⟩
        obtain ⟨k, hk, rfl⟩ := List.mem_map.1 hg
        have := bd_dot hf hrow (by simpa using hk) r.length (Nat.le_refl _)
        have h4 : r.length * (2 * (1000 * 100000000)) ≤ 4 * (2 * (1000 * 100000000)) := Nat.mul_le_mul_right _ l2
        simp only [bd] at *; omega
      refine ⟨d1, ⟨by omega, fun x hx => by rw [hal.2 x hx]; omega⟩, ⟨by omega, fun x hx => by have := (l3 x hx).2.2.1; omega⟩, ⟨_, _, _, _, hf, by omega, hga, hgr⟩, ⟨hrep, by omega, fun x hx => (hrows x hx).1, fun x hx g hg => by have := (hrows x hx).2 g hg; simp only [bd] at *; omega⟩, ?_⟩
      have hback : bd (gconj (symDetS m)) 4000 := by
        have sq : ∀ a b : Int, a * a + b * b ≤ 10000000 → a.natAbs ≤ 4000 := fun a b h => by
          rcases Nat.lt_or_ge 4000 a.natAbs with h1 | h1
          · have h2 : 4001 * 4001 ≤ a.natAbs * a.natAbs := Nat.mul_le_mul h1 h1
            have h3 : ((a.natAbs * a.natAbs : Nat) : Int) = a * a := by rw [← Int.natAbs_mul_self]
            have h4 : (0 : Int) ≤ b * b := by rw [← Int.natAbs_mul_self]; omega
            omega
          · exact h1
        have q1 := sq (symDetS m).re (symDetS m).im (by omega)
        have q2 := sq (symDetS m).im (symDetS m).re (by omega)
        simp only [bd, gconj] at *; omega
      generalize hF : gmul (gconj (symDetS m)) = F at *
      generalize hOO : applS (adjS m) r = O at *
      rw [hgc] at hF hback
      have hFg : ∀ g, gmul ⟨(symDetS m).re, -(symDetS m).im⟩ g = F g := fun g => by rw [← hF]
      generalize hB : (⟨(symDetS m).re, -(symDetS m).im⟩ : Gs) = B at *
      generalize (symDetS m).re = Dr at *
      generalize (symDetS m).im = Di at *
      generalize eqE m r = E at *
      generalize eqOut m r = Out at *
      generalize gainS m = n at *
      clear hF hgain hgain2 hgc hbd hEq he hz z1 z2 z3 d1 d2 hf l3 hga hgr hrep hO hal hOO hG
      subst hB
      refine S_forU O.length (fun i => [(60, .s (.int .i64 (i : Int)))]) (fun i => [(57, .deep 2 48 35 none (riC F O i))]) (fun i => ((O.take i).all fun x => x.all fun g => smallG (F g) 100000000) = true) (by simp) ?_ (fun i hi hv => S_run [e83, e88] 800 ?_)
      · simp (maxSteps := 4000000) -implicitDefEqProofs only [riC_zero, Ent.of0, Ent.of1, Ent.of2, Ent.of3, V, cr, bE, bh, bU, cM, c6, gt, lk, bS, cz, cI, bX, cg, cj, cj.subCs, cL, bt, bq, cD, aK, bf, a9, aF, aZ, bm, aM, a6, aV, cd, cO, cP, ar, aN, bZ, cJ, cH, cY, cQ, aQ, ag, ca, bK, zC, argS, be, ce, cU, cZ, ap, aO, ax, aw, bV, leC, cb, cC, bY, cV, cB, aL, aP, cN, aq, cF, bA, bA.viewCs, bF, bF.flatCs, aW, aW.LensOks, Value.oneCell', ↓reduceIte, ite_true, ite_false, if_true, if_false, Nat.reduceAdd, Nat.reduceSub, Nat.reduceMul, Nat.reduceEqDiff, Nat.reduceLT, Nat.reduceLeDiff, reduceCtorEq, Int.reduceToNat, forall_const, implies_true, a5, Ent.mk3, bk, bu, bH, bo, br, bL, a7, bv, bJ, bI, bg, co, bD, cT, rn, cc, cc.renCs, aJ, aG, aI, aI.viewOks, aA, bn, bn.flatBs, ay, au, aH, ah, aX, bG, bG.keysBs, aT, ai, a8, bW, bj, cu, af, af.passKs, av, aY, ae, ae.lendKs, bT, cn, bM, bz, setInn, an, cW, cS, aR, bC, bN, cq, aC, az, Glob.gl, aU, cm, a0, bR, bl, ak, cG, cR, b0, cK, bO, am, am.ptrOnlys, aj, aD, bQ, aB, bp, bw, bP, aE, bB, cp, Nat.reduceBEq, undef]
        rfl
      · delta D.c17l2
        by_cases h : i < O.length
        · have hi2 : (i : Int) < (O.length : Int) := by omega
          have r1 : (rjC F O i 0).length = O.length := rjC_length h
          have r2 : (rjC F O i 0).getD i [] = xjC F (O.getD i []) 0 := rjC_get h []
          have r3 : (xjC F (O.getD i []) 0).length = (O.getD i []).length := xjC_length (by omega)
          rw [riC_rj h]
          simp (maxSteps := 4000000) -implicitDefEqProofs only [hi2, r1, r2, r3, h, InR, Ent.of0, Ent.of1, Ent.of2, Ent.of3, V, cr, bE, bh, bU, cM, c6, gt, lk, bS, cz, cI, bX, cg, cj, cj.subCs, cL, bt, bq, cD, aK, bf, a9, aF, aZ, bm, aM, a6, aV, cd, cO, cP, ar, aN, bZ, cJ, cH, cY, cQ, aQ, ag, ca, bK, zC, argS, be, ce, cU, cZ, ap, aO, ax, aw, bV, leC, cb, cC, bY, cV, cB, aL, aP, cN, aq, cF, bA, bA.viewCs, bF, bF.flatCs, aW, aW.LensOks, Value.oneCell', ↓reduceIte, ite_true, ite_false, if_true, if_false, Nat.reduceAdd, Nat.reduceSub, Nat.reduceMul, Nat.reduceEqDiff, Nat.reduceLT, Nat.reduceLeDiff, reduceCtorEq, Int.reduceToNat, forall_const, implies_true, a5, Ent.mk3, bk, bu, bH, bo, br, bL, a7, bv, bJ, bI, bg, co, bD, cT, rn, cc, cc.renCs, aJ, aG, aI, aI.viewOks, aA, bn, bn.flatBs, ay, au, aH, ah, aX, bG, bG.keysBs, aT, ai, a8, bW, bj, cu, af, af.passKs, av, aY, ae, ae.lendKs, bT, cn, bM, bz, setInn, an, cW, cS, aR, bC, bN, cq, aC, az, Glob.gl, aU, cm, a0, bR, bl, ak, cG, cR, b0, cK, bO, am, am.ptrOnlys, aj, aD, bQ, aB, bp, bw, bP, aE, bB, cp, Nat.reduceBEq, undef]
          refine ⟨by omega, by simp, by simp, ?_⟩
          have hXm := hrows _ (getD_mem [] h)
          have htk : O.take (i + 1) = O.take i ++ [O.getD i []] := take_getD [] h
          have hXmem : O.getD i [] ∈ O := getD_mem [] h
          have rn := rjC_ri (F := F) h
          have g1 : ∀ j, (rjC F O i j).length = O.length := fun j => rjC_length h
          have g2 : ∀ j, (rjC F O i j).getD i [] = xjC F (O.getD i []) j := fun j => rjC_get h []
          have g3 : ∀ j, (rjC F O i j).set i (xjC F (O.getD i []) (j + 1)) = rjC F O i (j + 1) := fun j => rjC_set h
          generalize hX : O.getD i [] = X at *
          refine S_forU X.length (fun j => [(66, .s (.int .i64 (j : Int)))]) (fun j => [(57, .deep 2 48 35 none (rjC F O i j))]) (fun j => ((X.take j).all fun g => smallG (F g) 100000000) = true) (by simp) ?_ (fun j hj hw => S_run [e83, e88] 800 ?_)
          · simp (maxSteps := 4000000) -implicitDefEqProofs only [Ent.of0, Ent.of1, Ent.of2, Ent.of3, V, cr, bE, bh, bU, cM, c6, gt, lk, bS, cz, cI, bX, cg, cj, cj.subCs, cL, bt, bq, cD, aK, bf, a9, aF, aZ, bm, aM, a6, aV, cd, cO, cP, ar, aN, bZ, cJ, cH, cY, cQ, aQ, ag, ca, bK, zC, argS, be, ce, cU, cZ, ap, aO, ax, aw, bV, leC, cb, cC, bY, cV, cB, aL, aP, cN, aq, cF, bA, bA.viewCs, bF, bF.flatCs, aW, aW.LensOks, Value.oneCell', ↓reduceIte, ite_true, ite_false, if_true, if_false, Nat.reduceAdd, Nat.reduceSub, Nat.reduceMul, Nat.reduceEqDiff, Nat.reduceLT, Nat.reduceLeDiff, reduceCtorEq, Int.reduceToNat, forall_const, implies_true, a5, Ent.mk3, bk, bu, bH, bo, br, bL, a7, bv, bJ, bI, bg, co, bD, cT, rn, cc, cc.renCs, aJ, aG, aI, aI.viewOks, aA, bn, bn.flatBs, ay, au, aH, ah, aX, bG, bG.keysBs, aT, ai, a8, bW, bj, cu, af, af.passKs, av, aY, ae, ae.lendKs, bT, cn, bM, bz, setInn, an, cW, cS, aR, bC, bN, cq, aC, az, Glob.gl, aU, cm, a0, bR, bl, ak, cG, cR, b0, cK, bO, am, am.ptrOnlys, aj, aD, bQ, aB, bp, bw, bP, aE, bB, cp, Nat.reduceBEq, undef]; rfl
          · delta D.c17l1
            by_cases hjl : j < X.length
            · have hj2 : (j : Int) < (X.length : Int) := by omega
              have g4 : (xjC F X j).length = X.length := xjC_length (by omega)
              have g4' : (xjC F X (j + 1)).length = X.length := xjC_length (by omega)
              have g5 : (xjC F X j).getD j [] = [.s (.int .i64 (X.getD j ⟨0, 0⟩).re), .s (.int .i64 (X.getD j ⟨0, 0⟩).im)] := xjC_get hjl []
              have g6 : (xjC F X (j + 1)).getD j [] = [.s (.int .i64 (F (X.getD j ⟨0, 0⟩)).re), .s (.int .i64 (F (X.getD j ⟨0, 0⟩)).im)] := xjC_get' hjl []
              have g7 : (xjC F X j).set j [.s (.int .i64 (F (X.getD j ⟨0, 0⟩)).re), .s (.int .i64 (F (X.getD j ⟨0, 0⟩)).im)] = xjC F X (j + 1) := xjC_set hjl
              have hgm := getD_mem ⟨0, 0⟩ hjl
              have hm1 : mulOk ⟨Dr, -Di⟩ (X.getD j ⟨0, 0⟩) := ⟨4000, 800000000000, hback, hXm.2 _ hgm, by omega⟩
              have htk2 : X.take (j + 1) = X.take j ++ [X.getD j ⟨0, 0⟩] := take_getD _ hjl
              simp (maxSteps := 4000000) -implicitDefEqProofs only [hj2, g1, g2, g3, g4, g4', g5, g6, g7, h, hjl, gs_eta, hFg, hm1, e83, e88, aF, D.rv17, InR, Ent.of0, Ent.of1, Ent.of2, Ent.of3, V, cr, bE, bh, bU, cM, c6, gt, lk, bS, cz, cI, bX, cg, cj, cj.subCs, cL, bt, bq, cD, aK, bf, a9, aF, aZ, bm, aM, a6, aV, cd, cO, cP, ar, aN, bZ, cJ, cH, cY, cQ, aQ, ag, ca, bK, zC, argS, be, ce, cU, cZ, ap, aO, ax, aw, bV, leC, cb, cC, bY, cV, cB, aL, aP, cN, aq, cF, bA, bA.viewCs, bF, bF.flatCs, aW, aW.LensOks, Value.oneCell', ↓reduceIte, ite_true, ite_false, if_true, if_false, Nat.reduceAdd, Nat.reduceSub, Nat.reduceMul, Nat.reduceEqDiff, Nat.reduceLT, Nat.reduceLeDiff, reduceCtorEq, Int.reduceToNat, forall_const, implies_true, a5, Ent.mk3, bk, bu, bH, bo, br, bL, a7, bv, bJ, bI, bg, co, bD, cT, rn, cc, cc.renCs, aJ, aG, aI, aI.viewOks, aA, bn, bn.flatBs, ay, au, aH, ah, aX, bG, bG.keysBs, aT, ai, a8, bW, bj, cu, af, af.passKs, av, aY, ae, ae.lendKs, bT, cn, bM, bz, setInn, an, cW, cS, aR, bC, bN, cq, aC, az, Glob.gl, aU, cm, a0, bR, bl, ak, cG, cR, b0, cK, bO, am, am.ptrOnlys, aj, aD, bQ, aB, bp, bw, bP, aE, bB, cp, Nat.reduceBEq, undef]
              have hne : (none : Option Nat) ≠ some i := by simp
              have hj0 : (0 : Int) ≤ (j : Int) := by omega
              refine ⟨⟨hne, hj0⟩, hne, ⟨hne, hj0⟩, hne, ⟨hne, hj0⟩, hne, by omega, ?_⟩
              by_cases hs : smallG (F (X.getD j ⟨0, 0⟩)) 100000000 = false
              · rw [if_pos hs]
                have hE8 : E = 8 := by
                  rw [heE, if_neg]
                  rw [hout]
                  intro ha
                  have h1 := List.all_eq_true.1 ha _ (List.mem_map.2 ⟨X, hXmem, rfl⟩)
                  have h2 := List.all_eq_true.1 h1 _ (List.mem_map.2 ⟨_, hgm, rfl⟩)
                  rw [hs] at h2; cases h2
                rw [hE8]
                exact ⟨trivial, rfl, rfl⟩
              · rw [if_neg hs]
                refine ⟨by omega, ?_, by omega⟩
                rw [htk2, List.all_append, hw]
                simpa using hs
            · have hje : j = X.length := by omega
              subst hje
              have hj2 : ¬ (X.length : Int) < (X.length : Int) := by omega
              simp (maxSteps := 4000000) -implicitDefEqProofs only [hj2, rn, h, htk, InR, Ent.of0, Ent.of1, Ent.of2, Ent.of3, V, cr, bE, bh, bU, cM, c6, gt, lk, bS, cz, cI, bX, cg, cj, cj.subCs, cL, bt, bq, cD, aK, bf, a9, aF, aZ, bm, aM, a6, aV, cd, cO, cP, ar, aN, bZ, cJ, cH, cY, cQ, aQ, ag, ca, bK, zC, argS, be, ce, cU, cZ, ap, aO, ax, aw, bV, leC, cb, cC, bY, cV, cB, aL, aP, cN, aq, cF, bA, bA.viewCs, bF, bF.flatCs, aW, aW.LensOks, Value.oneCell', ↓reduceIte, ite_true, ite_false, if_true, if_false, Nat.reduceAdd, Nat.reduceSub, Nat.reduceMul, Nat.reduceEqDiff, Nat.reduceLT, Nat.reduceLeDiff, reduceCtorEq, Int.reduceToNat, forall_const, implies_true, a5, Ent.mk3, bk, bu, bH, bo, br, bL, a7, bv, bJ, bI, bg, co, bD, cT, rn, cc, cc.renCs, aJ, aG, aI, aI.viewOks, aA, bn, bn.flatBs, ay, au, aH, ah, aX, bG, bG.keysBs, aT, ai, a8, bW, bj, cu, af, af.passKs, av, aY, ae, ae.lendKs, bT, cn, bM, bz, setInn, an, cW, cS, aR, bC, bN, cq, aC, az, Glob.gl, aU, cm, a0, bR, bl, ak, cG, cR, b0, cK, bO, am, am.ptrOnlys, aj, aD, bQ, aB, bp, bw, bP, aE, bB, cp, Nat.reduceBEq, undef]
              rw [List.take_length] at hw
              refine ⟨by omega, ?_, by omega⟩
              rw [List.all_append, hv]
              simp only [List.all_cons, List.all_nil, Bool.and_true, Bool.true_and]
              exact hw
        · have hie : i = O.length := by omega
          subst hie
          have hi2 : ¬ (O.length : Int) < (O.length : Int) := by omega
          rw [riC_all]
          simp (maxSteps := 4000000) -implicitDefEqProofs only [hi2, D.rv17, InR, Ent.of0, Ent.of1, Ent.of2, Ent.of3, V, cr, bE, bh, bU, cM, c6, gt, lk, bS, cz, cI, bX, cg, cj, cj.subCs, cL, bt, bq, cD, aK, bf, a9, aF, aZ, bm, aM, a6, aV, cd, cO, cP, ar, aN, bZ, cJ, cH, cY, cQ, aQ, ag, ca, bK, zC, argS, be, ce, cU, cZ, ap, aO, ax, aw, bV, leC, cb, cC, bY, cV, cB, aL, aP, cN, aq, cF, bA, bA.viewCs, bF, bF.flatCs, aW, aW.LensOks, Value.oneCell', ↓reduceIte, ite_true, ite_false, if_true, if_false, Nat.reduceAdd, Nat.reduceSub, Nat.reduceMul, Nat.reduceEqDiff, Nat.reduceLT, Nat.reduceLeDiff, reduceCtorEq, Int.reduceToNat, forall_const, implies_true, a5, Ent.mk3, bk, bu, bH, bo, br, bL, a7, bv, bJ, bI, bg, co, bD, cT, rn, cc, cc.renCs, aJ, aG, aI, aI.viewOks, aA, bn, bn.flatBs, ay, au, aH, ah, aX, bG, bG.keysBs, aT, ai, a8, bW, bj, cu, af, af.passKs, av, aY, ae, ae.lendKs, bT, cn, bM, bz, setInn, an, cW, cS, aR, bC, bN, cq, aC, az, Glob.gl, aU, cm, a0, bR, bl, ak, cG, cR, b0, cK, bO, am, am.ptrOnlys, aj, aD, bQ, aB, bp, bw, bP, aE, bB, cp, Nat.reduceBEq, undef]
          rw [List.take_length] at hv
          have hE0 : E = 0 := by
            rw [heE, if_pos]
            rw [hout, List.all_map]
            simpa [Function.comp_def, List.all_map] using hv
          rw [hE0, if_pos rfl, if_pos rfl, hout]
          refine ⟨?_, rfl, rfl⟩
          simp only [List.map_map]
          rfl
  · have hE : eqE m r = eqErr m r := by unfold eqE; rw [if_pos he]
    delta D.c17
    simp (maxSteps := 4000000) -implicitDefEqProofs only [D.rv17, e49, e81, e82, e80, e83, Ent.of0, Ent.of1, Ent.of2, Ent.of3, V, cr, bE, bh, bU, cM, c6, gt, lk, bS, cz, cI, bX, cg, cj, cj.subCs, cL, bt, bq, cD, aK, bf, a9, aF, aZ, bm, aM, a6, aV, cd, cO, cP, ar, aN, bZ, cJ, cH, cY, cQ, aQ, ag, ca, bK, zC, argS, be, ce, cU, cZ, ap, aO, ax, aw, bV, leC, cb, cC, bY, cV, cB, aL, aP, cN, aq, cF, bA, bA.viewCs, bF, bF.flatCs, aW, aW.LensOks, Value.oneCell', ↓reduceIte, ite_true, ite_false, if_true, if_false, Nat.reduceAdd, Nat.reduceSub, Nat.reduceMul, Nat.reduceEqDiff, Nat.reduceLT, Nat.reduceLeDiff, reduceCtorEq, Int.reduceToNat, forall_const, implies_true, a5, Ent.mk3, bk, bu, bH, bo, br, bL, a7, bv, bJ, bI, bg, co, bD, cT, rn, cc, cc.renCs, aJ, aG, aI, aI.viewOks, aA, bn, bn.flatBs, ay, au, aH, ah, aX, bG, bG.keysBs, aT, ai, a8, bW, bj, cu, af, af.passKs, av, aY, ae, ae.lendKs, bT, cn, bM, bz, setInn, an, cW, cS, aR, bC, bN, cq, aC, az, Glob.gl, aU, cm, a0, bR, bl, ak, cG, cR, b0, cK, bO, am, am.ptrOnlys, aj, aD, bQ, aB, bp, bw, bP, aE, bB, cp, Nat.reduceBEq, undef]
    rw [hEq, if_pos he, hE, if_neg he, if_neg he]
    exact ⟨trivial, rfl, rfl⟩
def e17 : Ent Try.prog := .of2 17 (fun _ _ => True) (fun m r : List (List Gs) => .tup [enc (if eqE m r = 0 then eqOut m r else []), enc (if eqE m r = 0 then gainS m else 0), enc (eqE m r)]) (fun _ _ => ⟨trivial, trivial, trivial, trivial⟩) (fun m r _ => Equalized_c m r)
end Go.Proofs.Ytfgpbmjmoobcnaa
end
section
open Go Go.Am
open Go.Am.Dat (cells)
namespace Go.Proofs.Ytfgpbmjmoobcnaa
set_option maxHeartbeats 4000000
set_option maxRecDepth 100000
set_option linter.unusedSimpArgs false
def regX : Reg := ⟨3, [0, 1], [1, 0, 0]⟩
theorem Register_c : FC Try.prog 79 [] [] (enc regX) [] := by
  refine fc_intro' is79 (by simp) (fun cx hl => S_run [] 800 ?_)
  delta c79
  simp (maxSteps := 4000000) -implicitDefEqProofs only [rv79, regX, enc_reg, aF, Ent.of0, Ent.of1, Ent.of2, Ent.of3, V, cr, bE, bh, bU, cM, c6, gt, lk, bS, cz, cI, bX, cg, cj, cj.subCs, cL, bt, bq, cD, aK, bf, a9, aF, aZ, bm, aM, a6, aV, cd, cO, cP, ar, aN, bZ, cJ, cH, cY, cQ, aQ, ag, ca, bK, zC, argS, be, ce, cU, cZ, ap, aO, ax, aw, bV, leC, cb, cC, bY, cV, cB, aL, aP, cN, aq, cF, bA, bA.viewCs, bF, bF.flatCs, aW, aW.LensOks, Value.oneCell', ↓reduceIte, ite_true, ite_false, if_true, if_false, Nat.reduceAdd, Nat.reduceSub, Nat.reduceMul, Nat.reduceEqDiff, Nat.reduceLT, Nat.reduceLeDiff, reduceCtorEq, Int.reduceToNat, forall_const, implies_true, a5, Ent.mk3, bk, bu, bH, bo, br, bL, a7, bv, bJ, bI, bg, co, bD, cT, rn, cc, cc.renCs, aJ, aG, aI, aI.viewOks, aA, bn, bn.flatBs, ay, au, aH, ah, aX, bG, bG.keysBs, aT, ai, a8, bW, bj, cu, af, af.passKs, av, aY, ae, ae.lendKs, bT, cn, bM, bz, setInn, an, cW, cS, aR, bC, bN, cq, aC, az, Glob.gl, aU, cm, a0, bR, bl, ak, cG, cR, b0, cK, bO, am, am.ptrOnlys, aj, aD, bQ, aB, bp, bw, bP, aE, bB, cp, Nat.reduceBEq, undef]
def e79 : Ent Try.prog := .of0 79 (enc regX) (by simp [enc_reg, regX, keysIn, keysIn.keysIns]) Register_c
def mX : List (List Gs) := [[⟨1, 0⟩, ⟨0, 1⟩], [⟨0, 0⟩, ⟨2, 0⟩]]
def rX : List (List Gs) := [[⟨2, 1⟩], [⟨2, 2⟩]]
theorem eqX : FC Try.prog 17 [enc mX, enc rX] [] (.tup [enc [[(⟨12, 0⟩ : Gs)], [⟨4, 4⟩]], enc (4 : Int), enc (0 : Int)]) [] := by
  have s7 : eqE mX rX = 0 := by decide +kernel
  have s8 : eqOut mX rX = [[⟨12, 0⟩], [⟨4, 4⟩]] := by decide +kernel
  have s9 : gainS mX = 4 := by decide +kernel
  have := Equalized_c mX rX
  rwa [s7, if_pos rfl, if_pos rfl, s8, s9] at this
def e17X : Ent Try.prog := .mk3 17 (fun args chs => match chs with | [] => some (args = [enc mX, enc rX], .tup [enc [[(⟨12, 0⟩ : Gs)], [⟨4, 4⟩]], enc (4 : Int), enc (0 : Int)], [], []) | _ => none) (by
  intro args chs p r chs' nk hs hp
  split at hs
  · simp only [Option.some.injEq, Prod.mk.injEq] at hs
    obtain ⟨rfl, rfl, rfl, rfl⟩ := hs
    subst hp
    exact ⟨eqX, .plain (by simp [enc_list, enc_int, keysIn, keysIn.keysIns])⟩
  · cases hs)
theorem awake_c : FC Try.prog 15 [] [] (enc true) [] := by
  have s1 : sequenceErr ⟨3, [0, 1], [1, 0, 0]⟩ 7 = 0 := by decide +kernel
  have s2 : seqS (wireW ⟨3, [0, 1], [1, 0, 0]⟩) 7 = [1, 0, 0, 1, 0, 1, 1] := by decide +kernel
  have s3 : modErr 4 [0, 1, 1, 0] = 0 := by decide +kernel
  have s4 : modS 4 [0, 1, 1, 0] 1 = [⟨3, -1⟩] := by decide +kernel
  have s5 : recvErr ⟨4, 2, [⟨5, 1⟩]⟩ = 0 := by decide +kernel
  have s6 : judgeAll softS ⟨4, 2, [⟨5, 1⟩]⟩ = [48, 8, -8, 24] := by decide +kernel
  have t7 : Int.toNat 7 = 7 := rfl
  have t4 : Int.toNat 4 = 4 := rfl
  have d1 : (4 : Nat) / 4 = 1 := rfl
  refine fc_intro' is15 (by simp) (fun cx hl => S_run [e79, e72, e24] 800 ?_)
  delta c15
  simp (maxSteps := 4000000) -implicitDefEqProofs only [rv15, e79, regX, e72, e24, enc_reg, decV_reg, s1, s2, s3, s4, t7, t4, d1, Int.cast_ofNat_Int, Int.natCast_one, Int.natCast_zero, Int.reduceAdd, Int.reduceSub, Int.reduceMul, Int.reduceLT, Int.reduceLE, Int.reduceTMod, Int.reduceTDiv, Int.reduceNeg, Int.reduceEq, Nat.reducePow, Int.reducePow, ne_eq, not_false_eq_true, Ent.of0, Ent.of1, Ent.of2, Ent.of3, V, cr, bE, bh, bU, cM, c6, gt, lk, bS, cz, cI, bX, cg, cj, cj.subCs, cL, bt, bq, cD, aK, bf, a9, aF, aZ, bm, aM, a6, aV, cd, cO, cP, ar, aN, bZ, cJ, cH, cY, cQ, aQ, ag, ca, bK, zC, argS, be, ce, cU, cZ, ap, aO, ax, aw, bV, leC, cb, cC, bY, cV, cB, aL, aP, cN, aq, cF, bA, bA.viewCs, bF, bF.flatCs, aW, aW.LensOks, Value.oneCell', ↓reduceIte, ite_true, ite_false, if_true, if_false, Nat.reduceAdd, Nat.reduceSub, Nat.reduceMul, Nat.reduceEqDiff, Nat.reduceLT, Nat.reduceLeDiff, reduceCtorEq, Int.reduceToNat, forall_const, implies_true, a5, Ent.mk3, bk, bu, bH, bo, br, bL, a7, bv, bJ, bI, bg, co, bD, cT, rn, cc, cc.renCs, aJ, aG, aI, aI.viewOks, aA, bn, bn.flatBs, ay, au, aH, ah, aX, bG, bG.keysBs, aT, ai, a8, bW, bj, cu, af, af.passKs, av, aY, ae, ae.lendKs, bT, cn, bM, bz, setInn, an, cW, cS, aR, bC, bN, cq, aC, az, Glob.gl, aU, cm, a0, bR, bl, ak, cG, cR, b0, cK, bO, am, am.ptrOnlys, aj, aD, bQ, aB, bp, bw, bP, aE, bB, cp, Nat.reduceBEq, undef]
  refine D_run [e58] 800 ?_
  simp (maxSteps := 4000000) -implicitDefEqProofs only [e58, enc_recv, decV_recv, s5, s6, Int.cast_ofNat_Int, Int.natCast_one, Int.natCast_zero, Int.reduceAdd, Int.reduceSub, Int.reduceMul, Int.reduceLT, Int.reduceLE, Int.reduceTMod, Int.reduceTDiv, Int.reduceNeg, Int.reduceEq, Nat.reducePow, Int.reducePow, ne_eq, not_false_eq_true, Ent.of0, Ent.of1, Ent.of2, Ent.of3, V, cr, bE, bh, bU, cM, c6, gt, lk, bS, cz, cI, bX, cg, cj, cj.subCs, cL, bt, bq, cD, aK, bf, a9, aF, aZ, bm, aM, a6, aV, cd, cO, cP, ar, aN, bZ, cJ, cH, cY, cQ, aQ, ag, ca, bK, zC, argS, be, ce, cU, cZ, ap, aO, ax, aw, bV, leC, cb, cC, bY, cV, cB, aL, aP, cN, aq, cF, bA, bA.viewCs, bF, bF.flatCs, aW, aW.LensOks, Value.oneCell', ↓reduceIte, ite_true, ite_false, if_true, if_false, Nat.reduceAdd, Nat.reduceSub, Nat.reduceMul, Nat.reduceEqDiff, Nat.reduceLT, Nat.reduceLeDiff, reduceCtorEq, Int.reduceToNat, forall_const, implies_true, a5, Ent.mk3, bk, bu, bH, bo, br, bL, a7, bv, bJ, bI, bg, co, bD, cT, rn, cc, cc.renCs, aJ, aG, aI, aI.viewOks, aA, bn, bn.flatBs, ay, au, aH, ah, aX, bG, bG.keysBs, aT, ai, a8, bW, bj, cu, af, af.passKs, av, aY, ae, ae.lendKs, bT, cn, bM, bz, setInn, an, cW, cS, aR, bC, bN, cq, aC, az, Glob.gl, aU, cm, a0, bR, bl, ak, cG, cR, b0, cK, bO, am, am.ptrOnlys, aj, aD, bQ, aB, bp, bw, bP, aE, bB, cp, Nat.reduceBEq, undef]
  refine D_run [e17X] 800 ?_
  simp (maxSteps := 4000000) -implicitDefEqProofs only [e17X, mX, rX, Int.cast_ofNat_Int, Int.natCast_one, Int.natCast_zero, Int.reduceAdd, Int.reduceSub, Int.reduceMul, Int.reduceLT, Int.reduceLE, Int.reduceTMod, Int.reduceTDiv, Int.reduceNeg, Int.reduceEq, Nat.reducePow, Int.reducePow, ne_eq, not_false_eq_true, Ent.of0, Ent.of1, Ent.of2, Ent.of3, V, cr, bE, bh, bU, cM, c6, gt, lk, bS, cz, cI, bX, cg, cj, cj.subCs, cL, bt, bq, cD, aK, bf, a9, aF, aZ, bm, aM, a6, aV, cd, cO, cP, ar, aN, bZ, cJ, cH, cY, cQ, aQ, ag, ca, bK, zC, argS, be, ce, cU, cZ, ap, aO, ax, aw, bV, leC, cb, cC, bY, cV, cB, aL, aP, cN, aq, cF, bA, bA.viewCs, bF, bF.flatCs, aW, aW.LensOks, Value.oneCell', ↓reduceIte, ite_true, ite_false, if_true, if_false, Nat.reduceAdd, Nat.reduceSub, Nat.reduceMul, Nat.reduceEqDiff, Nat.reduceLT, Nat.reduceLeDiff, reduceCtorEq, Int.reduceToNat, forall_const, implies_true, a5, Ent.mk3, bk, bu, bH, bo, br, bL, a7, bv, bJ, bI, bg, co, bD, cT, rn, cc, cc.renCs, aJ, aG, aI, aI.viewOks, aA, bn, bn.flatBs, ay, au, aH, ah, aX, bG, bG.keysBs, aT, ai, a8, bW, bj, cu, af, af.passKs, av, aY, ae, ae.lendKs, bT, cn, bM, bz, setInn, an, cW, cS, aR, bC, bN, cq, aC, az, Glob.gl, aU, cm, a0, bR, bl, ak, cG, cR, b0, cK, bO, am, am.ptrOnlys, aj, aD, bQ, aB, bp, bw, bP, aE, bB, cp, Nat.reduceBEq, undef]
  refine D_run [e37, e27, e21] 800 ?_
  simp (maxSteps := 4000000) -implicitDefEqProofs only [e37, e27, e21, rv15, Int.cast_ofNat_Int, Int.natCast_one, Int.natCast_zero, Int.reduceAdd, Int.reduceSub, Int.reduceMul, Int.reduceLT, Int.reduceLE, Int.reduceTMod, Int.reduceTDiv, Int.reduceNeg, Int.reduceEq, Nat.reducePow, Int.reducePow, ne_eq, not_false_eq_true, Ent.of0, Ent.of1, Ent.of2, Ent.of3, V, cr, bE, bh, bU, cM, c6, gt, lk, bS, cz, cI, bX, cg, cj, cj.subCs, cL, bt, bq, cD, aK, bf, a9, aF, aZ, bm, aM, a6, aV, cd, cO, cP, ar, aN, bZ, cJ, cH, cY, cQ, aQ, ag, ca, bK, zC, argS, be, ce, cU, cZ, ap, aO, ax, aw, bV, leC, cb, cC, bY, cV, cB, aL, aP, cN, aq, cF, bA, bA.viewCs, bF, bF.flatCs, aW, aW.LensOks, Value.oneCell', ↓reduceIte, ite_true, ite_false, if_true, if_false, Nat.reduceAdd, Nat.reduceSub, Nat.reduceMul, Nat.reduceEqDiff, Nat.reduceLT, Nat.reduceLeDiff, reduceCtorEq, Int.reduceToNat, forall_const, implies_true, a5, Ent.mk3, bk, bu, bH, bo, br, bL, a7, bv, bJ, bI, bg, co, bD, cT, rn, cc, cc.renCs, aJ, aG, aI, aI.viewOks, aA, bn, bn.flatBs, ay, au, aH, ah, aX, bG, bG.keysBs, aT, ai, a8, bW, bj, cu, af, af.passKs, av, aY, ae, ae.lendKs, bT, cn, bM, bz, setInn, an, cW, cS, aR, bC, bN, cq, aC, az, Glob.gl, aU, cm, a0, bR, bl, ak, cG, cR, b0, cK, bO, am, am.ptrOnlys, aj, aD, bQ, aB, bp, bw, bP, aE, bB, cp, Nat.reduceBEq, undef]
def e15 : Ent Try.prog := .of0 15 (enc true) trivial awake_c
end Go.Proofs.Ytfgpbmjmoobcnaa
end
section
open Go Go.Am
open Go.Am.Dat (cells)
namespace Go.Proofs.Ytfgpbmjmoobcnaa
set_option maxHeartbeats 4000000
set_option maxRecDepth 100000
set_option linter.unusedSimpArgs false
theorem closure135_c (m : Int) (hm : InR .i64 (-m)) (g : Gs) : FC Try.prog 135 [enc g, .ptr 100000 0] [(100000, .box [.s (.int .i64 m)])] (enc (!smallG g m)) [(100000, .box [.s (.int .i64 m)])] := by
  refine fc_introC [] is135 (by simp) (by simp [cG]) (by simp [aL, aP, cD]) (by simp [aL, aP, cD]) (by simp [ak, lk]) (fun cx _ _ _ => S_run [e88] 800 ?_)
  delta c135
  simp (maxSteps := 4000000) -implicitDefEqProofs only [rv135, e88, hm, Ent.of0, Ent.of1, Ent.of2, Ent.of3, V, cr, bE, bh, bU, cM, c6, gt, lk, bS, cz, cI, bX, cg, cj, cj.subCs, cL, bt, bq, cD, aK, bf, a9, aF, aZ, bm, aM, a6, aV, cd, cO, cP, ar, aN, bZ, cJ, cH, cY, cQ, aQ, ag, ca, bK, zC, argS, be, ce, cU, cZ, ap, aO, ax, aw, bV, leC, cb, cC, bY, cV, cB, aL, aP, cN, aq, cF, bA, bA.viewCs, bF, bF.flatCs, aW, aW.LensOks, Value.oneCell', ↓reduceIte, ite_true, ite_false, if_true, if_false, Nat.reduceAdd, Nat.reduceSub, Nat.reduceMul, Nat.reduceEqDiff, Nat.reduceLT, Nat.reduceLeDiff, reduceCtorEq, Int.reduceToNat, forall_const, implies_true, a5, Ent.mk3, bk, bu, bH, bo, br, bL, a7, bv, bJ, bI, bg, co, bD, cT, rn, cc, cc.renCs, aJ, aG, aI, aI.viewOks, aA, bn, bn.flatBs, ay, au, aH, ah, aX, bG, bG.keysBs, aT, ai, a8, bW, bj, cu, af, af.passKs, av, aY, ae, ae.lendKs, bT, cn, bM, bz, setInn, an, cW, cS, aR, bC, bN, cq, aC, az, Glob.gl, aU, cm, a0, bR, bl, ak, cG, cR, b0, cK, bO, am, am.ptrOnlys, aj, aD, bQ, aB, bp, bw, bP, aE, bB, cp, Nat.reduceBEq, undef]
def e135 (m : Int) (hm : InR .i64 (-m)) : Ent Try.prog where
  id := 135
  sp := fun _ _ => none
  ok := by intro _ _ _ _ _ _ h; cases h
  kp := fun args chs => match args, chs with
    | [x, .ptr k o], [(k', .box [.s (.int .i64 m')])] => (decV x).bind fun g => some (k = 100000 ∧ o = 0 ∧ k' = 100000 ∧ m' = m, enc (!smallG g m))
    | _, _ => none
  kpok := by
    intro args chs p r hs hp
    split at hs
    · simp only [Option.bind_eq_some_iff, Option.some.injEq, Prod.mk.injEq] at hs
      obtain ⟨g, hg, rfl, rfl⟩ := hs
      obtain ⟨rfl, rfl, rfl, rfl⟩ := hp
      exact ⟨(closure135_c _ hm g).le (args' := [_, _]) ⟨decV_ok hg, leC1_refl _, trivial⟩, rfl, trivial⟩
    · cases hs
theorem IndexFuncK_c (m : Int) (hm : InR .i64 (-m)) (l : List Gs) : FC Try.prog 134 [enc l, .fn (.func 135) [] [.ptr 100000 0]] [(100000, .box [.s (.int .i64 m)])] (enc (idxOf l fun g => !smallG g m)) [(100000, .box [.s (.int .i64 m)])] := by
  refine fc_introC [] is134 (by simp) (by simp [cG]) (by simp [aL, aP, cD]) (by simp [aL, aP, cD]) (by simp [ak, lk]) (fun cx _ hl _ => S_run [] 800 ?_)
  simp only [V, cr, bE, bh, bU, cM, c6, gt, lk, bS, cz, cI, bX, cg, cj, cj.subCs, cL, bt, bq, cD, aK, bf, a9, aF, aZ, bm, aM, a6, aV, cd, cO, cP, ar, aN, bZ, cJ, cH, cY, cQ, aQ, ag, ca, bK, zC, argS, be, ce, cU, cZ, ap, aO, ax, aw, bV, leC, cb, cC, bY, cV, cB, aL, aP, cN, aq, cF, bA, bA.viewCs, bF, bF.flatCs, aW, aW.LensOks, Value.oneCell', ↓reduceIte, ite_true, ite_false, if_true, if_false, Nat.reduceAdd, Nat.reduceSub, Nat.reduceMul, Nat.reduceEqDiff, Nat.reduceLT, Nat.reduceLeDiff, reduceCtorEq, Int.reduceToNat, forall_const, implies_true, a5, Ent.mk3, bk, bu, bH, bo, br, bL, a7, bv, bJ, bI, bg, co, bD, cT, rn, cc, cc.renCs, aJ, aG, aI, aI.viewOks, aA, bn, bn.flatBs, ay, au, aH, ah, aX, bG, bG.keysBs, aT, ai, a8, bW, bj, cu, af, af.passKs, av, aY, ae, ae.lendKs, bT, cn, bM, bz, setInn, an, cW, cS, aR, bC, bN, cq, aC, az, Glob.gl, aU, cm, a0, bR, bl, ak, cG, cR, b0, cK, bO, am, am.ptrOnlys, aj, aD, bQ, aB, bp, bw, bP, aE, bB, cp, Nat.reduceBEq, undef] at hl
  have hlen := hl.list (l := l)
  delta c134
  simp (maxSteps := 4000000) -implicitDefEqProofs only [rv134, Ent.of0, Ent.of1, Ent.of2, Ent.of3, V, cr, bE, bh, bU, cM, c6, gt, lk, bS, cz, cI, bX, cg, cj, cj.subCs, cL, bt, bq, cD, aK, bf, a9, aF, aZ, bm, aM, a6, aV, cd, cO, cP, ar, aN, bZ, cJ, cH, cY, cQ, aQ, ag, ca, bK, zC, argS, be, ce, cU, cZ, ap, aO, ax, aw, bV, leC, cb, cC, bY, cV, cB, aL, aP, cN, aq, cF, bA, bA.viewCs, bF, bF.flatCs, aW, aW.LensOks, Value.oneCell', ↓reduceIte, ite_true, ite_false, if_true, if_false, Nat.reduceAdd, Nat.reduceSub, Nat.reduceMul, Nat.reduceEqDiff, Nat.reduceLT, Nat.reduceLeDiff, reduceCtorEq, Int.reduceToNat, forall_const, implies_true, a5, Ent.mk3, bk, bu, bH, bo, br, bL, a7, bv, bJ, bI, bg, co, bD, cT, rn, cc, cc.renCs, aJ, aG, aI, aI.viewOks, aA, bn, bn.flatBs, ay, au, aH, ah, aX, bG, bG.keysBs, aT, ai, a8, bW, bj, cu, af, af.passKs, av, aY, ae, ae.lendKs, bT, cn, bM, bz, setInn, an, cW, cS, aR, bC, bN, cq, aC, az, Glob.gl, aU, cm, a0, bR, bl, ak, cG, cR, b0, cK, bO, am, am.ptrOnlys, aj, aD, bQ, aB, bp, bw, bP, aE, bB, cp, Nat.reduceBEq, undef]
  refine S_forU l.length (fun i => [(8, .s (.int .i64 i))]) (fun _ => []) (fun i => ∀ j, j < i → (!smallG (l.getD j ⟨0, 0⟩) m) = false) (by omega) ?_ (fun i hi hv => S_run [e135 m hm] 800 ?_)
  · simp (maxSteps := 4000000) -implicitDefEqProofs only [Ent.of0, Ent.of1, Ent.of2, Ent.of3, V, cr, bE, bh, bU, cM, c6, gt, lk, bS, cz, cI, bX, cg, cj, cj.subCs, cL, bt, bq, cD, aK, bf, a9, aF, aZ, bm, aM, a6, aV, cd, cO, cP, ar, aN, bZ, cJ, cH, cY, cQ, aQ, ag, ca, bK, zC, argS, be, ce, cU, cZ, ap, aO, ax, aw, bV, leC, cb, cC, bY, cV, cB, aL, aP, cN, aq, cF, bA, bA.viewCs, bF, bF.flatCs, aW, aW.LensOks, Value.oneCell', ↓reduceIte, ite_true, ite_false, if_true, if_false, Nat.reduceAdd, Nat.reduceSub, Nat.reduceMul, Nat.reduceEqDiff, Nat.reduceLT, Nat.reduceLeDiff, reduceCtorEq, Int.reduceToNat, forall_const, implies_true, a5, Ent.mk3, bk, bu, bH, bo, br, bL, a7, bv, bJ, bI, bg, co, bD, cT, rn, cc, cc.renCs, aJ, aG, aI, aI.viewOks, aA, bn, bn.flatBs, ay, au, aH, ah, aX, bG, bG.keysBs, aT, ai, a8, bW, bj, cu, af, af.passKs, av, aY, ae, ae.lendKs, bT, cn, bM, bz, setInn, an, cW, cS, aR, bC, bN, cq, aC, az, Glob.gl, aU, cm, a0, bR, bl, ak, cG, cR, b0, cK, bO, am, am.ptrOnlys, aj, aD, bQ, aB, bp, bw, bP, aE, bB, cp, Nat.reduceBEq, undef]; simp
  · by_cases h : i < l.length
    · have hi2 : (i : Int) < (l.length : Int) := by omega
      cases hp : smallG (l.getD i ⟨0, 0⟩) m with
      | false =>
        have : l.findIdx? (fun g => !smallG g m) = some i := by
          rw [List.findIdx?_eq_some_iff_getElem]
          rw [List.getD_eq_getElem?_getD, List.getElem?_eq_getElem h] at hp
          refine ⟨h, by simpa using hp, fun j hj => ?_⟩
          have := hv j hj
          rw [List.getD_eq_getElem?_getD, List.getElem?_eq_getElem (by omega)] at this
          simpa using this
        delta c134l1
        simp (maxSteps := 4000000) -implicitDefEqProofs only [rv134, hi2, h, e135, hp, idxOf, this, InR, Ent.of0, Ent.of1, Ent.of2, Ent.of3, V, cr, bE, bh, bU, cM, c6, gt, lk, bS, cz, cI, bX, cg, cj, cj.subCs, cL, bt, bq, cD, aK, bf, a9, aF, aZ, bm, aM, a6, aV, cd, cO, cP, ar, aN, bZ, cJ, cH, cY, cQ, aQ, ag, ca, bK, zC, argS, be, ce, cU, cZ, ap, aO, ax, aw, bV, leC, cb, cC, bY, cV, cB, aL, aP, cN, aq, cF, bA, bA.viewCs, bF, bF.flatCs, aW, aW.LensOks, Value.oneCell', ↓reduceIte, ite_true, ite_false, if_true, if_false, Nat.reduceAdd, Nat.reduceSub, Nat.reduceMul, Nat.reduceEqDiff, Nat.reduceLT, Nat.reduceLeDiff, reduceCtorEq, Int.reduceToNat, forall_const, implies_true, a5, Ent.mk3, bk, bu, bH, bo, br, bL, a7, bv, bJ, bI, bg, co, bD, cT, rn, cc, cc.renCs, aJ, aG, aI, aI.viewOks, aA, bn, bn.flatBs, ay, au, aH, ah, aX, bG, bG.keysBs, aT, ai, a8, bW, bj, cu, af, af.passKs, av, aY, ae, ae.lendKs, bT, cn, bM, bz, setInn, an, cW, cS, aR, bC, bN, cq, aC, az, Glob.gl, aU, cm, a0, bR, bl, ak, cG, cR, b0, cK, bO, am, am.ptrOnlys, aj, aD, bQ, aB, bp, bw, bP, aE, bB, cp, Nat.reduceBEq, undef]
        try omega
      | true =>
        delta c134l1
        simp (maxSteps := 4000000) -implicitDefEqProofs only [rv134, hi2, h, e135, hp, InR, Ent.of0, Ent.of1, Ent.of2, Ent.of3, V, cr, bE, bh, bU, cM, c6, gt, lk, bS, cz, cI, bX, cg, cj, cj.subCs, cL, bt, bq, cD, aK, bf, a9, aF, aZ, bm, aM, a6, aV, cd, cO, cP, ar, aN, bZ, cJ, cH, cY, cQ, aQ, ag, ca, bK, zC, argS, be, ce, cU, cZ, ap, aO, ax, aw, bV, leC, cb, cC, bY, cV, cB, aL, aP, cN, aq, cF, bA, bA.viewCs, bF, bF.flatCs, aW, aW.LensOks, Value.oneCell', ↓reduceIte, ite_true, ite_false, if_true, if_false, Nat.reduceAdd, Nat.reduceSub, Nat.reduceMul, Nat.reduceEqDiff, Nat.reduceLT, Nat.reduceLeDiff, reduceCtorEq, Int.reduceToNat, forall_const, implies_true, a5, Ent.mk3, bk, bu, bH, bo, br, bL, a7, bv, bJ, bI, bg, co, bD, cT, rn, cc, cc.renCs, aJ, aG, aI, aI.viewOks, aA, bn, bn.flatBs, ay, au, aH, ah, aX, bG, bG.keysBs, aT, ai, a8, bW, bj, cu, af, af.passKs, av, aY, ae, ae.lendKs, bT, cn, bM, bz, setInn, an, cW, cS, aR, bC, bN, cq, aC, az, Glob.gl, aU, cm, a0, bR, bl, ak, cG, cR, b0, cK, bO, am, am.ptrOnlys, aj, aD, bQ, aB, bp, bw, bP, aE, bB, cp, Nat.reduceBEq, undef]
        refine ⟨by omega, by omega, fun j hj => ?_, by omega⟩
        by_cases hj2 : j = i
        · rw [hj2, hp]; rfl
        · exact hv j (by omega)
    · have hi2 : ¬ (i : Int) < (l.length : Int) := by omega
      have : l.findIdx? (fun g => !smallG g m) = none := by
        rw [List.findIdx?_eq_none_iff]
        intro x hx
        obtain ⟨j, hj, rfl⟩ := List.getElem_of_mem hx
        have := hv j (by omega)
        rwa [List.getD_eq_getElem?_getD, List.getElem?_eq_getElem hj] at this
      delta c134l1
      simp (maxSteps := 4000000) -implicitDefEqProofs only [rv134, hi2, idxOf, this, InR, Ent.of0, Ent.of1, Ent.of2, Ent.of3, V, cr, bE, bh, bU, cM, c6, gt, lk, bS, cz, cI, bX, cg, cj, cj.subCs, cL, bt, bq, cD, aK, bf, a9, aF, aZ, bm, aM, a6, aV, cd, cO, cP, ar, aN, bZ, cJ, cH, cY, cQ, aQ, ag, ca, bK, zC, argS, be, ce, cU, cZ, ap, aO, ax, aw, bV, leC, cb, cC, bY, cV, cB, aL, aP, cN, aq, cF, bA, bA.viewCs, bF, bF.flatCs, aW, aW.LensOks, Value.oneCell', ↓reduceIte, ite_true, ite_false, if_true, if_false, Nat.reduceAdd, Nat.reduceSub, Nat.reduceMul, Nat.reduceEqDiff, Nat.reduceLT, Nat.reduceLeDiff, reduceCtorEq, Int.reduceToNat, forall_const, implies_true, a5, Ent.mk3, bk, bu, bH, bo, br, bL, a7, bv, bJ, bI, bg, co, bD, cT, rn, cc, cc.renCs, aJ, aG, aI, aI.viewOks, aA, bn, bn.flatBs, ay, au, aH, ah, aX, bG, bG.keysBs, aT, ai, a8, bW, bj, cu, af, af.passKs, av, aY, ae, ae.lendKs, bT, cn, bM, bz, setInn, an, cW, cS, aR, bC, bN, cq, aC, az, Glob.gl, aU, cm, a0, bR, bl, ak, cG, cR, b0, cK, bO, am, am.ptrOnlys, aj, aD, bQ, aB, bp, bw, bP, aE, bB, cp, Nat.reduceBEq, undef]
def e134K (m : Int) (hm : InR .i64 (-m)) : Ent Try.prog where
  id := 134
  sp := fun _ _ => none
  ok := by intro _ _ _ _ _ _ h; cases h
  kp := fun args chs => match args, chs with
    | [x, .fn (.func f) [] [.ptr k o]], [(k', .box [.s (.int .i64 m')])] => (decV x).bind fun l => some (f = 135 ∧ k = 100000 ∧ o = 0 ∧ k' = 100000 ∧ m' = m, enc (idxOf l fun g => !smallG g m))
    | _, _ => none
  kpok := by
    intro args chs p r hs hp
    split at hs
    · simp only [Option.bind_eq_some_iff, Option.some.injEq, Prod.mk.injEq] at hs
      obtain ⟨g, hg, rfl, rfl⟩ := hs
      obtain ⟨rfl, rfl, rfl, rfl, rfl⟩ := hp
      exact ⟨(IndexFuncK_c _ hm g).le (args' := [_, _]) ⟨decV_ok hg, leC1_refl _, trivial⟩, rfl, trivial⟩
    · cases hs
theorem idxOf_any (l : List Gs) (p : Gs → Bool) : decide (0 ≤ idxOf l p) = l.any p := by
  unfold idxOf
  cases hq : l.findIdx? p with
  | none =>
    rw [List.findIdx?_eq_none_iff] at hq
    have : l.any p = false := by simpa using hq
    simp [this]
  | some i =>
    rw [List.findIdx?_eq_some_iff_getElem] at hq
    obtain ⟨h1, h2, _⟩ := hq
    have : l.any p = true := List.any_eq_true.2 ⟨_, List.getElem_mem h1, h2⟩
    simp [this]
theorem ContainsFuncK_c (m : Int) (hm : InR .i64 (-m)) (l : List Gs) : FC Try.prog 110 [enc l, .fn (.func 135) [] [.ptr 100000 0]] [(100000, .box [.s (.int .i64 m)])] (enc (l.any fun g => !smallG g m)) [(100000, .box [.s (.int .i64 m)])] := by
  refine fc_introC [] is110 (by simp) (by simp [cG]) (by simp [aL, aP, cD]) (by simp [aL, aP, cD]) (by simp [ak, lk]) (fun cx _ hl _ => S_run [e134K m hm] 800 ?_)
  rw [← idxOf_any]
  delta c110
  simp (maxSteps := 4000000) -implicitDefEqProofs only [rv110, e134K, Ent.of0, Ent.of1, Ent.of2, Ent.of3, V, cr, bE, bh, bU, cM, c6, gt, lk, bS, cz, cI, bX, cg, cj, cj.subCs, cL, bt, bq, cD, aK, bf, a9, aF, aZ, bm, aM, a6, aV, cd, cO, cP, ar, aN, bZ, cJ, cH, cY, cQ, aQ, ag, ca, bK, zC, argS, be, ce, cU, cZ, ap, aO, ax, aw, bV, leC, cb, cC, bY, cV, cB, aL, aP, cN, aq, cF, bA, bA.viewCs, bF, bF.flatCs, aW, aW.LensOks, Value.oneCell', ↓reduceIte, ite_true, ite_false, if_true, if_false, Nat.reduceAdd, Nat.reduceSub, Nat.reduceMul, Nat.reduceEqDiff, Nat.reduceLT, Nat.reduceLeDiff, reduceCtorEq, Int.reduceToNat, forall_const, implies_true, a5, Ent.mk3, bk, bu, bH, bo, br, bL, a7, bv, bJ, bI, bg, co, bD, cT, rn, cc, cc.renCs, aJ, aG, aI, aI.viewOks, aA, bn, bn.flatBs, ay, au, aH, ah, aX, bG, bG.keysBs, aT, ai, a8, bW, bj, cu, af, af.passKs, av, aY, ae, ae.lendKs, bT, cn, bM, bz, setInn, an, cW, cS, aR, bC, bN, cq, aC, az, Glob.gl, aU, cm, a0, bR, bl, ak, cG, cR, b0, cK, bO, am, am.ptrOnlys, aj, aD, bQ, aB, bp, bw, bP, aE, bB, cp, Nat.reduceBEq, undef]
def e110K (m : Int) (hm : InR .i64 (-m)) : Ent Try.prog where
  id := 110
  sp := fun _ _ => none
  ok := by intro _ _ _ _ _ _ h; cases h
  kp := fun args chs => match args, chs with
    | [x, .fn (.func f) [] [.ptr k o]], [(k', .box [.s (.int .i64 m')])] => (decV x).bind fun (l : List Gs) => some (f = 135 ∧ k = 100000 ∧ o = 0 ∧ k' = 100000 ∧ m' = m, enc (l.any fun g => !smallG g m))
    | _, _ => none
  kpok := by
    intro args chs p r hs hp
    split at hs
    · simp only [Option.bind_eq_some_iff, Option.some.injEq, Prod.mk.injEq] at hs
      obtain ⟨g, hg, rfl, rfl⟩ := hs
      obtain ⟨rfl, rfl, rfl, rfl, rfl⟩ := hp
      exact ⟨(ContainsFuncK_c _ hm g).le (args' := [_, _]) ⟨decV_ok hg, leC1_refl _, trivial⟩, rfl, trivial⟩
    · cases hs
structure ProdOk (a b : List (List Gs)) : Prop where
  apos : 0 < a.length
  ale : a.length ≤ 4
  arow : ∀ r ∈ a, r.length = (a.getD 0 []).length ∧ ∀ g ∈ r, bd g 1000
  bpos : 0 < b.length
  ble : b.length ≤ 4
  brow : ∀ r ∈ b, r.length = (b.getD 0 []).length ∧ r.length ≤ 200 ∧ ∀ g ∈ r, bd g 100000000
theorem ProdOk.fits {a b : List (List Gs)} (h : ProdOk a b) (e : (a.getD 0 []).length = b.length) : Fits a b 1000 100000000 := by
  obtain ⟨h1, h2, h3, h4, h5, h6⟩ := h
  refine ⟨h4, h5, by omega, fun r hr => (h6 r hr).1, ?_, fun r hr => by rw [(h3 r hr).1, e], fun r hr => (h3 r hr).2, fun r hr => (h6 r hr).2.2, by omega⟩
  have := (h6 _ (getD_mem [] h4)).2.1; omega
theorem prodOk_lay {a b : List (List Gs)} (h1 : matErr a = 0) (h2 : layErr b = 0) : ProdOk a b := by
  have hr := right_of h1
  obtain ⟨l1, l2, l3⟩ := lay_of h2
  exact ⟨hr.pos, hr.le, fun r h => ⟨(hr.row r h).1, fun g hg => smallG_bd ((hr.row r h).2.2.2 g hg)⟩, l1, l2, fun r h => ⟨(l3 r h).1, (l3 r h).2.2.1, (l3 r h).2.2.2⟩⟩
theorem prodOk_mat {a b : List (List Gs)} (h1 : matErr a = 0) (h2 : matErr b = 0) : ProdOk a b := by
  have hr := right_of h1
  have hs := right_of h2
  refine ⟨hr.pos, hr.le, fun r h => ⟨(hr.row r h).1, fun g hg => smallG_bd ((hr.row r h).2.2.2 g hg)⟩, hs.pos, hs.le, fun r h => ⟨(hs.row r h).1, by have := (hs.row r h).2.2.1; omega, fun g hg => ?_⟩⟩
  have := smallG_bd ((hs.row r h).2.2.2 g hg)
  simp only [bd] at *; omega
def prodE (a b : List (List Gs)) (most : Int) : Int := if (a.getD 0 []).length ≠ b.length then 13 else if largeS (applS a b) most then 8 else 0
theorem product_c (a b : List (List Gs)) (most : Int) (hp : ProdOk a b) (hm : InR .i64 (-most)) : FC Try.prog 112 [enc a, enc b, enc most] [] (.tup [enc (if prodE a b most = 0 then applS a b else []), enc (prodE a b most)]) [] := by
  have ha0 := hp.apos
  have ha4 := hp.ale
  have hb4 := hp.ble
  refine fc_intro' is112 (by simp) (fun cx hl => S_run [e84, e86, e87] 800 ?_)
  by_cases he : (a.getD 0 []).length = b.length
  · have he2 : ((a.getD 0 []).length : Int) = (b.length : Int) := by omega
    have hf := hp.fits he
    have hga : RepM (gridS a) a := grid_rep fun x hx g hg => by
      have := hf.ma x hx g hg
      simp only [bd] at *; omega
    have hgb : RepM (gridS b) b := grid_rep fun x hx g hg => by
      have := hf.mb x hx g hg
      simp only [bd] at *; omega
    have hrep := times_rep hf (by omega) hga hgb
    have hO := ofM_c hrep
    have hOl : (applS a b).length = a.length := by simp [applS]
    have hshort : ∀ r ∈ applS a b, r.length ≤ 1000000 := fun r hr => by
      obtain ⟨x, hx, rfl⟩ := List.mem_map.1 hr
      have := hf.short
      simpa [rowS'] using this
    have hsm : ∀ r ∈ applS a b, ∀ g ∈ r, bd g 9007199254740991 := fun r hr g hg => by
      obtain ⟨x, hx, rfl⟩ := List.mem_map.1 hr
      obtain ⟨i, hi, rfl⟩ := List.mem_map.1 hg
      have := bd_dot hf hx (List.mem_range.1 hi) b.length (Nat.le_refl _)
      have h4 : b.length * (2 * (1000 * 100000000)) ≤ 4 * (2 * (1000 * 100000000)) := Nat.mul_le_mul_right _ hb4
      simp only [bd] at *; omega
    have hro : RowsOk (timesW (gridS a) (gridS b)) (applS a b) := ⟨hrep, by omega, hshort, hsm⟩
    have c1 : a.length ≤ 1000 ∧ ∀ r ∈ a, r.length ≤ 1000000 := ⟨by omega, fun r hr => by have := hf.cols r hr; omega⟩
    have c2 : b.length ≤ 1000 ∧ ∀ r ∈ b, r.length ≤ 1000000 := ⟨by omega, fun r hr => by have := (hp.brow r hr).2.1; omega⟩
    have c3 : timesOk (gridS a) (gridS b) := ⟨a, b, 1000, 100000000, hf, by omega, hga, hgb⟩
    have c1a := c1.1
    have c1b := c1.2
    have c2a := c2.1
    have c2b := c2.2
    delta c112 c3
    simp (maxSteps := 4000000) -implicitDefEqProofs only [rv112, getD_list, ha0, he2, e84, e86, e87, c1a, c1b, c2a, c2b, hO, hro, Ent.of0, Ent.of1, Ent.of2, Ent.of3, V, cr, bE, bh, bU, cM, c6, gt, lk, bS, cz, cI, bX, cg, cj, cj.subCs, cL, bt, bq, cD, aK, bf, a9, aF, aZ, bm, aM, a6, aV, cd, cO, cP, ar, aN, bZ, cJ, cH, cY, cQ, aQ, ag, ca, bK, zC, argS, be, ce, cU, cZ, ap, aO, ax, aw, bV, leC, cb, cC, bY, cV, cB, aL, aP, cN, aq, cF, bA, bA.viewCs, bF, bF.flatCs, aW, aW.LensOks, Value.oneCell', ↓reduceIte, ite_true, ite_false, if_true, if_false, Nat.reduceAdd, Nat.reduceSub, Nat.reduceMul, Nat.reduceEqDiff, Nat.reduceLT, Nat.reduceLeDiff, reduceCtorEq, Int.reduceToNat, forall_const, implies_true, a5, Ent.mk3, bk, bu, bH, bo, br, bL, a7, bv, bJ, bI, bg, co, bD, cT, rn, cc, cc.renCs, aJ, aG, aI, aI.viewOks, aA, bn, bn.flatBs, ay, au, aH, ah, aX, bG, bG.keysBs, aT, ai, a8, bW, bj, cu, af, af.passKs, av, aY, ae, ae.lendKs, bT, cn, bM, bz, setInn, an, cW, cS, aR, bC, bN, cq, aC, az, Glob.gl, aU, cm, a0, bR, bl, ak, cG, cR, b0, cK, bO, am, am.ptrOnlys, aj, aD, bQ, aB, bp, bw, bP, aE, bB, cp, Nat.reduceBEq, undef]
    refine ⟨by omega, c1b, c2b, c3, ?_⟩
    generalize hO' : applS a b = O at *
    have hE : prodE a b most = if largeS O most then 8 else 0 := by unfold prodE; rw [if_neg (by simpa using he), hO']
    refine S_forU O.length (fun i => [(26, .s (.int .i64 i))]) (fun _ => []) (fun i => ∀ j, j < i → (O.getD j []).all (smallG · most) = true) (by omega) ?_ (fun i hi hv => S_run [e110K most hm] 800 ?_)
    · simp (maxSteps := 4000000) -implicitDefEqProofs only [Ent.of0, Ent.of1, Ent.of2, Ent.of3, V, cr, bE, bh, bU, cM, c6, gt, lk, bS, cz, cI, bX, cg, cj, cj.subCs, cL, bt, bq, cD, aK, bf, a9, aF, aZ, bm, aM, a6, aV, cd, cO, cP, ar, aN, bZ, cJ, cH, cY, cQ, aQ, ag, ca, bK, zC, argS, be, ce, cU, cZ, ap, aO, ax, aw, bV, leC, cb, cC, bY, cV, cB, aL, aP, cN, aq, cF, bA, bA.viewCs, bF, bF.flatCs, aW, aW.LensOks, Value.oneCell', ↓reduceIte, ite_true, ite_false, if_true, if_false, Nat.reduceAdd, Nat.reduceSub, Nat.reduceMul, Nat.reduceEqDiff, Nat.reduceLT, Nat.reduceLeDiff, reduceCtorEq, Int.reduceToNat, forall_const, implies_true, a5, Ent.mk3, bk, bu, bH, bo, br, bL, a7, bv, bJ, bI, bg, co, bD, cT, rn, cc, cc.renCs, aJ, aG, aI, aI.viewOks, aA, bn, bn.flatBs, ay, au, aH, ah, aX, bG, bG.keysBs, aT, ai, a8, bW, bj, cu, af, af.passKs, av, aY, ae, ae.lendKs, bT, cn, bM, bz, setInn, an, cW, cS, aR, bC, bN, cq, aC, az, Glob.gl, aU, cm, a0, bR, bl, ak, cG, cR, b0, cK, bO, am, am.ptrOnlys, aj, aD, bQ, aB, bp, bw, bP, aE, bB, cp, Nat.reduceBEq, undef]; simp
    · by_cases h : i < O.length
      · have hi2 : (i : Int) < (O.length : Int) := by omega
        cases hq : (O.getD i []).all (smallG · most) with
        | true =>
          have ha : (O.getD i []).any (fun g => !smallG g most) = false := by
            rw [List.any_eq_false]
            intro x hx
            have := List.all_eq_true.1 hq x hx
            simp only [this]; decide
          delta c112l1
          simp (maxSteps := 4000000) -implicitDefEqProofs only [rv112, getD_list, hi2, h, e110K, ha, InR, Ent.of0, Ent.of1, Ent.of2, Ent.of3, V, cr, bE, bh, bU, cM, c6, gt, lk, bS, cz, cI, bX, cg, cj, cj.subCs, cL, bt, bq, cD, aK, bf, a9, aF, aZ, bm, aM, a6, aV, cd, cO, cP, ar, aN, bZ, cJ, cH, cY, cQ, aQ, ag, ca, bK, zC, argS, be, ce, cU, cZ, ap, aO, ax, aw, bV, leC, cb, cC, bY, cV, cB, aL, aP, cN, aq, cF, bA, bA.viewCs, bF, bF.flatCs, aW, aW.LensOks, Value.oneCell', ↓reduceIte, ite_true, ite_false, if_true, if_false, Nat.reduceAdd, Nat.reduceSub, Nat.reduceMul, Nat.reduceEqDiff, Nat.reduceLT, Nat.reduceLeDiff, reduceCtorEq, Int.reduceToNat, forall_const, implies_true, a5, Ent.mk3, bk, bu, bH, bo, br, bL, a7, bv, bJ, bI, bg, co, bD, cT, rn, cc, cc.renCs, aJ, aG, aI, aI.viewOks, aA, bn, bn.flatBs, ay, au, aH, ah, aX, bG, bG.keysBs, aT, ai, a8, bW, bj, cu, af, af.passKs, av, aY, ae, ae.lendKs, bT, cn, bM, bz, setInn, an, cW, cS, aR, bC, bN, cq, aC, az, Glob.gl, aU, cm, a0, bR, bl, ak, cG, cR, b0, cK, bO, am, am.ptrOnlys, aj, aD, bQ, aB, bp, bw, bP, aE, bB, cp, Nat.reduceBEq, undef]
          refine ⟨by omega, by omega, fun j hj => ?_, by omega⟩
          by_cases hj2 : j = i
          · rw [hj2]; exact hq
          · exact hv j (by omega)
        | false =>
          have ha : (O.getD i []).any (fun g => !smallG g most) = true := by
            rw [List.all_eq_false] at hq
            obtain ⟨x, hx, hx2⟩ := hq
            exact List.any_eq_true.2 ⟨x, hx, by simpa using hx2⟩
          have hL : largeS O most = true := by
            unfold largeS
            rw [Bool.not_eq_true', List.all_eq_false]
            exact ⟨_, getD_mem [] h, by rw [hq]; decide⟩
          rw [hE, hL]
          delta c112l1
          simp (maxSteps := 4000000) -implicitDefEqProofs only [rv112, getD_list, hi2, h, e110K, ha, InR, Int.cast_ofNat_Int, Int.natCast_one, Int.natCast_zero, Int.reduceAdd, Int.reduceSub, Int.reduceMul, Int.reduceLT, Int.reduceLE, Int.reduceTMod, Int.reduceTDiv, Int.reduceNeg, Int.reduceEq, Nat.reducePow, Int.reducePow, ne_eq, not_false_eq_true, Ent.of0, Ent.of1, Ent.of2, Ent.of3, V, cr, bE, bh, bU, cM, c6, gt, lk, bS, cz, cI, bX, cg, cj, cj.subCs, cL, bt, bq, cD, aK, bf, a9, aF, aZ, bm, aM, a6, aV, cd, cO, cP, ar, aN, bZ, cJ, cH, cY, cQ, aQ, ag, ca, bK, zC, argS, be, ce, cU, cZ, ap, aO, ax, aw, bV, leC, cb, cC, bY, cV, cB, aL, aP, cN, aq, cF, bA, bA.viewCs, bF, bF.flatCs, aW, aW.LensOks, Value.oneCell', ↓reduceIte, ite_true, ite_false, if_true, if_false, Nat.reduceAdd, Nat.reduceSub, Nat.reduceMul, Nat.reduceEqDiff, Nat.reduceLT, Nat.reduceLeDiff, reduceCtorEq, Int.reduceToNat, forall_const, implies_true, a5, Ent.mk3, bk, bu, bH, bo, br, bL, a7, bv, bJ, bI, bg, co, bD, cT, rn, cc, cc.renCs, aJ, aG, aI, aI.viewOks, aA, bn, bn.flatBs, ay, au, aH, ah, aX, bG, bG.keysBs, aT, ai, a8, bW, bj, cu, af, af.passKs, av, aY, ae, ae.lendKs, bT, cn, bM, bz, setInn, an, cW, cS, aR, bC, bN, cq, aC, az, Glob.gl, aU, cm, a0, bR, bl, ak, cG, cR, b0, cK, bO, am, am.ptrOnlys, aj, aD, bQ, aB, bp, bw, bP, aE, bB, cp, Nat.reduceBEq, undef]
          try omega
      · have hi2 : ¬ (i : Int) < (O.length : Int) := by omega
        have hL : largeS O most = false := by
          unfold largeS
          rw [Bool.not_eq_false', List.all_eq_true]
          intro x hx
          obtain ⟨j, hj, rfl⟩ := List.getElem_of_mem hx
          have := hv j (by omega)
          rwa [List.getD_eq_getElem?_getD, List.getElem?_eq_getElem hj] at this
        rw [hE, hL]
        delta c112l1
        simp (maxSteps := 4000000) -implicitDefEqProofs only [rv112, hi2, InR, Int.cast_ofNat_Int, Int.natCast_one, Int.natCast_zero, Int.reduceAdd, Int.reduceSub, Int.reduceMul, Int.reduceLT, Int.reduceLE, Int.reduceTMod, Int.reduceTDiv, Int.reduceNeg, Int.reduceEq, Nat.reducePow, Int.reducePow, ne_eq, not_false_eq_true, Ent.of0, Ent.of1, Ent.of2, Ent.of3, V, cr, bE, bh, bU, cM, c6, gt, lk, bS, cz, cI, bX, cg, cj, cj.subCs, cL, bt, bq, cD, aK, bf, a9, aF, aZ, bm, aM, a6, aV, cd, cO, cP, ar, aN, bZ, cJ, cH, cY, cQ, aQ, ag, ca, bK, zC, argS, be, ce, cU, cZ, ap, aO, ax, aw, bV, leC, cb, cC, bY, cV, cB, aL, aP, cN, aq, cF, bA, bA.viewCs, bF, bF.flatCs, aW, aW.LensOks, Value.oneCell', ↓reduceIte, ite_true, ite_false, if_true, if_false, Nat.reduceAdd, Nat.reduceSub, Nat.reduceMul, Nat.reduceEqDiff, Nat.reduceLT, Nat.reduceLeDiff, reduceCtorEq, Int.reduceToNat, forall_const, implies_true, a5, Ent.mk3, bk, bu, bH, bo, br, bL, a7, bv, bJ, bI, bg, co, bD, cT, rn, cc, cc.renCs, aJ, aG, aI, aI.viewOks, aA, bn, bn.flatBs, ay, au, aH, ah, aX, bG, bG.keysBs, aT, ai, a8, bW, bj, cu, af, af.passKs, av, aY, ae, ae.lendKs, bT, cn, bM, bz, setInn, an, cW, cS, aR, bC, bN, cq, aC, az, Glob.gl, aU, cm, a0, bR, bl, ak, cG, cR, b0, cK, bO, am, am.ptrOnlys, aj, aD, bQ, aB, bp, bw, bP, aE, bB, cp, Nat.reduceBEq, undef]
  · have he2 : ¬ ((a.getD 0 []).length : Int) = (b.length : Int) := by omega
    have hE : prodE a b most = 13 := by unfold prodE; rw [if_pos he]
    rw [hE]
    delta c112
    simp (maxSteps := 4000000) -implicitDefEqProofs only [rv112, getD_list, ha0, he2, Int.cast_ofNat_Int, Int.natCast_one, Int.natCast_zero, Int.reduceAdd, Int.reduceSub, Int.reduceMul, Int.reduceLT, Int.reduceLE, Int.reduceTMod, Int.reduceTDiv, Int.reduceNeg, Int.reduceEq, Nat.reducePow, Int.reducePow, ne_eq, not_false_eq_true, Ent.of0, Ent.of1, Ent.of2, Ent.of3, V, cr, bE, bh, bU, cM, c6, gt, lk, bS, cz, cI, bX, cg, cj, cj.subCs, cL, bt, bq, cD, aK, bf, a9, aF, aZ, bm, aM, a6, aV, cd, cO, cP, ar, aN, bZ, cJ, cH, cY, cQ, aQ, ag, ca, bK, zC, argS, be, ce, cU, cZ, ap, aO, ax, aw, bV, leC, cb, cC, bY, cV, cB, aL, aP, cN, aq, cF, bA, bA.viewCs, bF, bF.flatCs, aW, aW.LensOks, Value.oneCell', ↓reduceIte, ite_true, ite_false, if_true, if_false, Nat.reduceAdd, Nat.reduceSub, Nat.reduceMul, Nat.reduceEqDiff, Nat.reduceLT, Nat.reduceLeDiff, reduceCtorEq, Int.reduceToNat, forall_const, implies_true, a5, Ent.mk3, bk, bu, bH, bo, br, bL, a7, bv, bJ, bI, bg, co, bD, cT, rn, cc, cc.renCs, aJ, aG, aI, aI.viewOks, aA, bn, bn.flatBs, ay, au, aH, ah, aX, bG, bG.keysBs, aT, ai, a8, bW, bj, cu, af, af.passKs, av, aY, ae, ae.lendKs, bT, cn, bM, bz, setInn, an, cW, cS, aR, bC, bN, cq, aC, az, Glob.gl, aU, cm, a0, bR, bl, ak, cG, cR, b0, cK, bO, am, am.ptrOnlys, aj, aD, bQ, aB, bp, bw, bP, aE, bB, cp, Nat.reduceBEq, undef]
    omega
def e112 : Ent Try.prog := .of3 112 (fun a b most => ProdOk a b ∧ InR .i64 (-most)) (fun (a b : List (List Gs)) (most : Int) => .tup [enc (if prodE a b most = 0 then applS a b else []), enc (prodE a b most)]) (fun _ _ _ => ⟨trivial, trivial, trivial⟩) (fun a b most h => product_c a b most h.1 h.2)
def apErr (m ls : List (List Gs)) : Int := if matErr m ≠ 0 then matErr m else if layErr ls ≠ 0 then layErr ls else prodE m ls 100000000
def apOut (m ls : List (List Gs)) : List (List Gs) := if apErr m ls = 0 then applS m ls else []
theorem Applied_c (m ls : List (List Gs)) : FC Try.prog 47 [enc m, enc ls] [] (.tup [enc (apOut m ls), enc (apErr m ls)]) [] := by
  refine fc_intro' is47 (by simp) (fun cx hl => S_run [e46, e81, e80, e112] 800 ?_)
  by_cases h1 : matErr m = 0
  · by_cases h2 : layErr ls = 0
    · have hp := prodOk_lay h1 h2
      have hf : firstS [matErr m, layErr ls] = 0 := by simp [firstS, h1, h2]
      have hE : apErr m ls = prodE m ls 100000000 := by unfold apErr; rw [if_neg (by simpa using h1), if_neg (by simpa using h2)]
      unfold apOut
      rw [hE]
      delta c47
      simp (maxSteps := 4000000) -implicitDefEqProofs only [rv47, e46, e81, e80, e112, hf, hp, InR, Int.cast_ofNat_Int, Int.natCast_one, Int.natCast_zero, Int.reduceAdd, Int.reduceSub, Int.reduceMul, Int.reduceLT, Int.reduceLE, Int.reduceTMod, Int.reduceTDiv, Int.reduceNeg, Int.reduceEq, Nat.reducePow, Int.reducePow, ne_eq, not_false_eq_true, Ent.of0, Ent.of1, Ent.of2, Ent.of3, V, cr, bE, bh, bU, cM, c6, gt, lk, bS, cz, cI, bX, cg, cj, cj.subCs, cL, bt, bq, cD, aK, bf, a9, aF, aZ, bm, aM, a6, aV, cd, cO, cP, ar, aN, bZ, cJ, cH, cY, cQ, aQ, ag, ca, bK, zC, argS, be, ce, cU, cZ, ap, aO, ax, aw, bV, leC, cb, cC, bY, cV, cB, aL, aP, cN, aq, cF, bA, bA.viewCs, bF, bF.flatCs, aW, aW.LensOks, Value.oneCell', ↓reduceIte, ite_true, ite_false, if_true, if_false, Nat.reduceAdd, Nat.reduceSub, Nat.reduceMul, Nat.reduceEqDiff, Nat.reduceLT, Nat.reduceLeDiff, reduceCtorEq, Int.reduceToNat, forall_const, implies_true, a5, Ent.mk3, bk, bu, bH, bo, br, bL, a7, bv, bJ, bI, bg, co, bD, cT, rn, cc, cc.renCs, aJ, aG, aI, aI.viewOks, aA, bn, bn.flatBs, ay, au, aH, ah, aX, bG, bG.keysBs, aT, ai, a8, bW, bj, cu, af, af.passKs, av, aY, ae, ae.lendKs, bT, cn, bM, bz, setInn, an, cW, cS, aR, bC, bN, cq, aC, az, Glob.gl, aU, cm, a0, bR, bl, ak, cG, cR, b0, cK, bO, am, am.ptrOnlys, aj, aD, bQ, aB, bp, bw, bP, aE, bB, cp, Nat.reduceBEq, undef]
    · have hf : firstS [matErr m, layErr ls] = layErr ls := by simp [firstS, h1, h2]
      have hE : apErr m ls = layErr ls := by unfold apErr; rw [if_neg (by simpa using h1), if_pos h2]
      unfold apOut
      rw [hE, if_neg h2]
      delta c47
      simp (maxSteps := 4000000) -implicitDefEqProofs only [rv47, e46, e81, e80, e112, hf, h2, InR, List.map_nil, Int.cast_ofNat_Int, Int.natCast_one, Int.natCast_zero, Int.reduceAdd, Int.reduceSub, Int.reduceMul, Int.reduceLT, Int.reduceLE, Int.reduceTMod, Int.reduceTDiv, Int.reduceNeg, Int.reduceEq, Nat.reducePow, Int.reducePow, ne_eq, not_false_eq_true, Ent.of0, Ent.of1, Ent.of2, Ent.of3, V, cr, bE, bh, bU, cM, c6, gt, lk, bS, cz, cI, bX, cg, cj, cj.subCs, cL, bt, bq, cD, aK, bf, a9, aF, aZ, bm, aM, a6, aV, cd, cO, cP, ar, aN, bZ, cJ, cH, cY, cQ, aQ, ag, ca, bK, zC, argS, be, ce, cU, cZ, ap, aO, ax, aw, bV, leC, cb, cC, bY, cV, cB, aL, aP, cN, aq, cF, bA, bA.viewCs, bF, bF.flatCs, aW, aW.LensOks, Value.oneCell', ↓reduceIte, ite_true, ite_false, if_true, if_false, Nat.reduceAdd, Nat.reduceSub, Nat.reduceMul, Nat.reduceEqDiff, Nat.reduceLT, Nat.reduceLeDiff, reduceCtorEq, Int.reduceToNat, forall_const, implies_true, a5, Ent.mk3, bk, bu, bH, bo, br, bL, a7, bv, bJ, bI, bg, co, bD, cT, rn, cc, cc.renCs, aJ, aG, aI, aI.viewOks, aA, bn, bn.flatBs, ay, au, aH, ah, aX, bG, bG.keysBs, aT, ai, a8, bW, bj, cu, af, af.passKs, av, aY, ae, ae.lendKs, bT, cn, bM, bz, setInn, an, cW, cS, aR, bC, bN, cq, aC, az, Glob.gl, aU, cm, a0, bR, bl, ak, cG, cR, b0, cK, bO, am, am.ptrOnlys, aj, aD, bQ, aB, bp, bw, bP, aE, bB, cp, Nat.reduceBEq, undef]
  · have hf : firstS [matErr m, layErr ls] = matErr m := by simp [firstS, h1]
    have hE : apErr m ls = matErr m := by unfold apErr; rw [if_pos h1]
    unfold apOut
    rw [hE, if_neg h1]
    delta c47
    simp (maxSteps := 4000000) -implicitDefEqProofs only [rv47, e46, e81, e80, e112, hf, h1, InR, List.map_nil, Int.cast_ofNat_Int, Int.natCast_one, Int.natCast_zero, Int.reduceAdd, Int.reduceSub, Int.reduceMul, Int.reduceLT, Int.reduceLE, Int.reduceTMod, Int.reduceTDiv, Int.reduceNeg, Int.reduceEq, Nat.reducePow, Int.reducePow, ne_eq, not_false_eq_true, Ent.of0, Ent.of1, Ent.of2, Ent.of3, V, cr, bE, bh, bU, cM, c6, gt, lk, bS, cz, cI, bX, cg, cj, cj.subCs, cL, bt, bq, cD, aK, bf, a9, aF, aZ, bm, aM, a6, aV, cd, cO, cP, ar, aN, bZ, cJ, cH, cY, cQ, aQ, ag, ca, bK, zC, argS, be, ce, cU, cZ, ap, aO, ax, aw, bV, leC, cb, cC, bY, cV, cB, aL, aP, cN, aq, cF, bA, bA.viewCs, bF, bF.flatCs, aW, aW.LensOks, Value.oneCell', ↓reduceIte, ite_true, ite_false, if_true, if_false, Nat.reduceAdd, Nat.reduceSub, Nat.reduceMul, Nat.reduceEqDiff, Nat.reduceLT, Nat.reduceLeDiff, reduceCtorEq, Int.reduceToNat, forall_const, implies_true, a5, Ent.mk3, bk, bu, bH, bo, br, bL, a7, bv, bJ, bI, bg, co, bD, cT, rn, cc, cc.renCs, aJ, aG, aI, aI.viewOks, aA, bn, bn.flatBs, ay, au, aH, ah, aX, bG, bG.keysBs, aT, ai, a8, bW, bj, cu, af, af.passKs, av, aY, ae, ae.lendKs, bT, cn, bM, bz, setInn, an, cW, cS, aR, bC, bN, cq, aC, az, Glob.gl, aU, cm, a0, bR, bl, ak, cG, cR, b0, cK, bO, am, am.ptrOnlys, aj, aD, bQ, aB, bp, bw, bP, aE, bB, cp, Nat.reduceBEq, undef]
def e47 : Ent Try.prog := .of2 47 (fun _ _ => True) (fun m ls : List (List Gs) => .tup [enc (apOut m ls), enc (apErr m ls)]) (fun _ _ => ⟨trivial, trivial, trivial⟩) (fun m ls _ => Applied_c m ls)
def prErr (a b : List (List Gs)) : Int := if matErr a ≠ 0 then matErr a else if matErr b ≠ 0 then matErr b else prodE a b 1000
def prOut (a b : List (List Gs)) : List (List Gs) := if prErr a b = 0 then applS a b else []
theorem Product_c (m ls : List (List Gs)) : FC Try.prog 48 [enc m, enc ls] [] (.tup [enc (prOut m ls), enc (prErr m ls)]) [] := by
  refine fc_intro' is48 (by simp) (fun cx hl => S_run [e46, e80, e112] 800 ?_)
  by_cases h1 : matErr m = 0
  · by_cases h2 : matErr ls = 0
    · have hp := prodOk_mat h1 h2
      have hf : firstS [matErr m, matErr ls] = 0 := by simp [firstS, h1, h2]
      have hE : prErr m ls = prodE m ls 1000 := by unfold prErr; rw [if_neg (by simpa using h1), if_neg (by simpa using h2)]
      unfold prOut
      rw [hE]
      delta c48
      simp (maxSteps := 4000000) -implicitDefEqProofs only [rv48, e46, e80, e112, hf, hp, InR, Int.cast_ofNat_Int, Int.natCast_one, Int.natCast_zero, Int.reduceAdd, Int.reduceSub, Int.reduceMul, Int.reduceLT, Int.reduceLE, Int.reduceTMod, Int.reduceTDiv, Int.reduceNeg, Int.reduceEq, Nat.reducePow, Int.reducePow, ne_eq, not_false_eq_true, Ent.of0, Ent.of1, Ent.of2, Ent.of3, V, cr, bE, bh, bU, cM, c6, gt, lk, bS, cz, cI, bX, cg, cj, cj.subCs, cL, bt, bq, cD, aK, bf, a9, aF, aZ, bm, aM, a6, aV, cd, cO, cP, ar, aN, bZ, cJ, cH, cY, cQ, aQ, ag, ca, bK, zC, argS, be, ce, cU, cZ, ap, aO, ax, aw, bV, leC, cb, cC, bY, cV, cB, aL, aP, cN, aq, cF, bA, bA.viewCs, bF, bF.flatCs, aW, aW.LensOks, Value.oneCell', ↓reduceIte, ite_true, ite_false, if_true, if_false, Nat.reduceAdd, Nat.reduceSub, Nat.reduceMul, Nat.reduceEqDiff, Nat.reduceLT, Nat.reduceLeDiff, reduceCtorEq, Int.reduceToNat, forall_const, implies_true, a5, Ent.mk3, bk, bu, bH, bo, br, bL, a7, bv, bJ, bI, bg, co, bD, cT, rn, cc, cc.renCs, aJ, aG, aI, aI.viewOks, aA, bn, bn.flatBs, ay, au, aH, ah, aX, bG, bG.keysBs, aT, ai, a8, bW, bj, cu, af, af.passKs, av, aY, ae, ae.lendKs, bT, cn, bM, bz, setInn, an, cW, cS, aR, bC, bN, cq, aC, az, Glob.gl, aU, cm, a0, bR, bl, ak, cG, cR, b0, cK, bO, am, am.ptrOnlys, aj, aD, bQ, aB, bp, bw, bP, aE, bB, cp, Nat.reduceBEq, undef]
    · have hf : firstS [matErr m, matErr ls] = matErr ls := by simp [firstS, h1, h2]
      have hE : prErr m ls = matErr ls := by unfold prErr; rw [if_neg (by simpa using h1), if_pos h2]
      unfold prOut
      rw [hE, if_neg h2]
      delta c48
      simp (maxSteps := 4000000) -implicitDefEqProofs only [rv48, e46, e80, e112, hf, h2, InR, List.map_nil, Int.cast_ofNat_Int, Int.natCast_one, Int.natCast_zero, Int.reduceAdd, Int.reduceSub, Int.reduceMul, Int.reduceLT, Int.reduceLE, Int.reduceTMod, Int.reduceTDiv, Int.reduceNeg, Int.reduceEq, Nat.reducePow, Int.reducePow, ne_eq, not_false_eq_true, Ent.of0, Ent.of1, Ent.of2, Ent.of3, V, cr, bE, bh, bU, cM, c6, gt, lk, bS, cz, cI, bX, cg, cj, cj.subCs, cL, bt, bq, cD, aK, bf, a9, aF, aZ, bm, aM, a6, aV, cd, cO, cP, ar, aN, bZ, cJ, cH, cY, cQ, aQ, ag, ca, bK, zC, argS, be, ce, cU, cZ, ap, aO, ax, aw, bV, leC, cb, cC, bY, cV, cB, aL, aP, cN, aq, cF, bA, bA.viewCs, bF, bF.flatCs, aW, aW.LensOks, Value.oneCell', ↓reduceIte, ite_true, ite_false, if_true, if_false, Nat.reduceAdd, Nat.reduceSub, Nat.reduceMul, Nat.reduceEqDiff, Nat.reduceLT, Nat.reduceLeDiff, reduceCtorEq, Int.reduceToNat, forall_const, implies_true, a5, Ent.mk3, bk, bu, bH, bo, br, bL, a7, bv, bJ, bI, bg, co, bD, cT, rn, cc, cc.renCs, aJ, aG, aI, aI.viewOks, aA, bn, bn.flatBs, ay, au, aH, ah, aX, bG, bG.keysBs, aT, ai, a8, bW, bj, cu, af, af.passKs, av, aY, ae, ae.lendKs, bT, cn, bM, bz, setInn, an, cW, cS, aR, bC, bN, cq, aC, az, Glob.gl, aU, cm, a0, bR, bl, ak, cG, cR, b0, cK, bO, am, am.ptrOnlys, aj, aD, bQ, aB, bp, bw, bP, aE, bB, cp, Nat.reduceBEq, undef]
  · have hf : firstS [matErr m, matErr ls] = matErr m := by simp [firstS, h1]
    have hE : prErr m ls = matErr m := by unfold prErr; rw [if_pos h1]
    unfold prOut
    rw [hE, if_neg h1]
    delta c48
    simp (maxSteps := 4000000) -implicitDefEqProofs only [rv48, e46, e80, e112, hf, h1, InR, List.map_nil, Int.cast_ofNat_Int, Int.natCast_one, Int.natCast_zero, Int.reduceAdd, Int.reduceSub, Int.reduceMul, Int.reduceLT, Int.reduceLE, Int.reduceTMod, Int.reduceTDiv, Int.reduceNeg, Int.reduceEq, Nat.reducePow, Int.reducePow, ne_eq, not_false_eq_true, Ent.of0, Ent.of1, Ent.of2, Ent.of3, V, cr, bE, bh, bU, cM, c6, gt, lk, bS, cz, cI, bX, cg, cj, cj.subCs, cL, bt, bq, cD, aK, bf, a9, aF, aZ, bm, aM, a6, aV, cd, cO, cP, ar, aN, bZ, cJ, cH, cY, cQ, aQ, ag, ca, bK, zC, argS, be, ce, cU, cZ, ap, aO, ax, aw, bV, leC, cb, cC, bY, cV, cB, aL, aP, cN, aq, cF, bA, bA.viewCs, bF, bF.flatCs, aW, aW.LensOks, Value.oneCell', ↓reduceIte, ite_true, ite_false, if_true, if_false, Nat.reduceAdd, Nat.reduceSub, Nat.reduceMul, Nat.reduceEqDiff, Nat.reduceLT, Nat.reduceLeDiff, reduceCtorEq, Int.reduceToNat, forall_const, implies_true, a5, Ent.mk3, bk, bu, bH, bo, br, bL, a7, bv, bJ, bI, bg, co, bD, cT, rn, cc, cc.renCs, aJ, aG, aI, aI.viewOks, aA, bn, bn.flatBs, ay, au, aH, ah, aX, bG, bG.keysBs, aT, ai, a8, bW, bj, cu, af, af.passKs, av, aY, ae, ae.lendKs, bT, cn, bM, bz, setInn, an, cW, cS, aR, bC, bN, cq, aC, az, Glob.gl, aU, cm, a0, bR, bl, ak, cG, cR, b0, cK, bO, am, am.ptrOnlys, aj, aD, bQ, aB, bp, bw, bP, aE, bB, cp, Nat.reduceBEq, undef]
def e48 : Ent Try.prog := .of2 48 (fun _ _ => True) (fun m ls : List (List Gs) => .tup [enc (prOut m ls), enc (prErr m ls)]) (fun _ _ => ⟨trivial, trivial, trivial⟩) (fun m ls _ => Product_c m ls)
end Go.Proofs.Ytfgpbmjmoobcnaa
end
section
open Go Go.Am
open Go.Am.Dat (cells)
namespace Go.Proofs.Ytfgpbmjmoobcnaa
set_option maxHeartbeats 4000000
set_option maxRecDepth 100000
set_option linter.unusedSimpArgs false
theorem small_bounded {m : List (List Gs)} (h : smallL m = true) : bounded m := by
  unfold smallL at h
  simp only [Bool.and_eq_true, decide_eq_true_eq, List.all_eq_true] at h
  exact ⟨by omega, fun r hr => by have := h.2 r hr; omega⟩
theorem symDet_ok {a : List (List Gs)} (h : matErr a = 0) : symDetE a = detE a ∧ symDetS a = detS a := by
  unfold symDetE symDetS
  rw [if_neg (by simpa using h), if_neg (by simpa using h)]; exact ⟨rfl, rfl⟩
theorem symDet_bad {a : List (List Gs)} (h : ¬ matErr a = 0) : symDetE a = matErr a ∧ symDetS a = ⟨0, 0⟩ := by
  unfold symDetE symDetS
  rw [if_pos h, if_pos h]; exact ⟨rfl, rfl⟩
end Go.Proofs.Ytfgpbmjmoobcnaa
end
section
open Go Go.Am
open Go.Am.Dat (cells)
namespace Go.Proofs.Ytfgpbmjmoobcnaa
set_option linter.unusedSimpArgs false
theorem gs_ext {a b : Gs} (h1 : a.re = b.re) (h2 : a.im = b.im) : a = b := by cases a; cases b; simp_all
def gsum (f : Nat → Gs) : Nat → Gs
  | 0 => ⟨0, 0⟩
  | n + 1 => gadd (gsum f n) (f n)
theorem dotS_sum (row : List Gs) (ls : List (List Gs)) (i : Nat) : ∀ k, dotS row ls i k = gsum (fun j => gmul (row.getD j ⟨0, 0⟩) ((ls.getD j []).getD i ⟨0, 0⟩)) k
  | 0 => rfl
  | k + 1 => by rw [dotS, gsum, dotS_sum row ls i k]
theorem gsum_congr {f g : Nat → Gs} : ∀ {n : Nat}, (∀ j, j < n → f j = g j) → gsum f n = gsum g n
  | 0, _ => rfl
  | n + 1, h => by rw [gsum, gsum, gsum_congr (fun j hj => h j (by omega)), h n (by omega)]
theorem gmul_add (x a b : Gs) : gmul x (gadd a b) = gadd (gmul x a) (gmul x b) := by
  apply gs_ext <;> simp only [gmul, gadd] <;> grind
theorem add_gmul (a b x : Gs) : gmul (gadd a b) x = gadd (gmul a x) (gmul b x) := by
  apply gs_ext <;> simp only [gmul, gadd] <;> grind
theorem gmul_assoc (a b x : Gs) : gmul (gmul a b) x = gmul a (gmul b x) := by
  apply gs_ext <;> simp only [gmul] <;> grind
theorem gadd_swap (a b c d : Gs) : gadd (gadd a b) (gadd c d) = gadd (gadd a c) (gadd b d) := by
  apply gs_ext <;> simp only [gadd] <;> omega
theorem gmul_zero (x : Gs) : gmul x ⟨0, 0⟩ = ⟨0, 0⟩ := by apply gs_ext <;> simp [gmul]
theorem zero_gmul (x : Gs) : gmul ⟨0, 0⟩ x = ⟨0, 0⟩ := by apply gs_ext <;> simp [gmul]
theorem gadd_zero (x : Gs) : gadd x ⟨0, 0⟩ = x := by apply gs_ext <;> simp [gadd]
theorem gmul_gsum (x : Gs) (f : Nat → Gs) : ∀ n, gmul x (gsum f n) = gsum (fun j => gmul x (f j)) n
  | 0 => gmul_zero x
  | n + 1 => by rw [gsum, gsum, gmul_add, gmul_gsum x f n]
theorem gsum_gmul (x : Gs) (f : Nat → Gs) : ∀ n, gmul (gsum f n) x = gsum (fun j => gmul (f j) x) n
  | 0 => zero_gmul x
  | n + 1 => by rw [gsum, gsum, add_gmul, gsum_gmul x f n]
theorem gsum_zero : ∀ n, gsum (fun _ => ⟨0, 0⟩) n = ⟨0, 0⟩
  | 0 => rfl
  | n + 1 => by rw [gsum, gsum_zero n, gadd_zero]
theorem gsum_add (f g : Nat → Gs) : ∀ n, gsum (fun j => gadd (f j) (g j)) n = gadd (gsum f n) (gsum g n)
  | 0 => by simp [gsum, gadd]
  | n + 1 => by rw [gsum, gsum, gsum, gsum_add f g n, gadd_swap]
theorem gsum_swap (f : Nat → Nat → Gs) (m : Nat) : ∀ n, gsum (fun j => gsum (f j) m) n = gsum (fun k => gsum (fun j => f j k) n) m
  | 0 => by simp only [gsum]; exact (gsum_zero m).symm
  | n + 1 => by
    rw [gsum, gsum_swap f m n]
    have : (fun k => gsum (fun j => f j k) (n + 1)) = fun k => gadd (gsum (fun j => f j k) n) (f n k) := rfl
    rw [this, gsum_add]
theorem applS_getD {m ls : List (List Gs)} {j : Nat} (h : j < m.length) : (applS m ls).getD j [] = rowS' ls (m.getD j []) := getD_map' _ _ _ _ _ h
theorem rowS_getD {ls : List (List Gs)} {row : List Gs} {i : Nat} (h : i < (ls.getD 0 []).length) : (rowS' ls row).getD i ⟨0, 0⟩ = dotS row ls i ls.length := rng_getD _ _ h
theorem rowS_length (ls : List (List Gs)) (row : List Gs) : (rowS' ls row).length = (ls.getD 0 []).length := by simp [rowS']
theorem applS_length (m ls : List (List Gs)) : (applS m ls).length = m.length := by simp [applS]
theorem applS_first {m ls : List (List Gs)} (h : 0 < m.length) : ((applS m ls).getD 0 []).length = (ls.getD 0 []).length := by rw [applS_getD h, rowS_length]
theorem applS_assoc {a b l : List (List Gs)} (hb : 0 < b.length) (hl : (b.getD 0 []).length = l.length) : applS a (applS b l) = applS (applS a b) l := by
  show a.map (rowS' (applS b l)) = (a.map (rowS' b)).map (rowS' l)
  rw [List.map_map]
  apply List.map_congr_left
  intro r _
  show rowS' (applS b l) r = rowS' l (rowS' b r)
  rw [rowS', rowS', applS_first hb, applS_length]
  apply List.map_congr_left
  intro i hi
  have hi := List.mem_range.1 hi
  rw [dotS_sum, dotS_sum]
  have e1 : gsum (fun j => gmul (r.getD j ⟨0, 0⟩) (((applS b l).getD j []).getD i ⟨0, 0⟩)) b.length = gsum (fun j => gsum (fun k => gmul (gmul (r.getD j ⟨0, 0⟩) ((b.getD j []).getD k ⟨0, 0⟩)) ((l.getD k []).getD i ⟨0, 0⟩)) l.length) b.length := gsum_congr fun j hj => by
    rw [applS_getD hj, rowS_getD hi, dotS_sum, gmul_gsum]
    exact gsum_congr fun k _ => (gmul_assoc _ _ _).symm
  rw [e1, gsum_swap]
  refine gsum_congr fun k hk => ?_
  rw [rowS_getD (by omega), dotS_sum, gsum_gmul]
theorem largeS_false {m : List (List Gs)} {n : Int} (h : largeS m n = false) : ∀ r ∈ m, ∀ g ∈ r, smallG g n = true := by
  unfold largeS at h
  rw [Bool.not_eq_false', List.all_eq_true] at h
  exact fun r hr g hg => by have := List.all_eq_true.1 (h r hr) g hg; simpa using this
theorem firstS_all {l : List Int} (h : ∀ e ∈ l, e = 0) : firstS l = 0 := by
  induction l with
  | nil => rfl
  | cons e l ih => rw [firstS, if_neg (by simpa using h e (by simp)), ih fun x hx => h x (by simp [hx])]
theorem prodE_ok {a b : List (List Gs)} {n : Int} (h : prodE a b n = 0) : (a.getD 0 []).length = b.length ∧ largeS (applS a b) n = false := by
  unfold prodE at h
  split at h
  · cases h
  · split at h
    · cases h
    · exact ⟨by omega, by simp_all⟩
theorem prodE_bad {a b : List (List Gs)} {n : Int} (h : ¬ prodE a b n = 0) : prodE a b n = 13 ∨ prodE a b n = 8 := by
  unfold prodE at h ⊢
  split at h
  · left; rw [if_pos ‹_›]
  · rw [if_neg ‹_›]
    split at h
    · right; rw [if_pos ‹_›]
    · exact absurd rfl h
theorem lay_appl {b l : List (List Gs)} (hb : Right b) (hl : layErr l = 0) (hp : largeS (applS b l) 100000000 = false) : layErr (applS b l) = 0 := by
  obtain ⟨l1, l2, l3⟩ := lay_of hl
  have h0 := l3 _ (getD_mem [] l1)
  unfold layErr
  rw [applS_length, if_neg (by have := hb.pos; omega), if_neg (by have := hb.le; omega)]
  refine firstS_all fun e he => ?_
  obtain ⟨r, hr, rfl⟩ := List.mem_map.1 he
  obtain ⟨x, hx, rfl⟩ := List.mem_map.1 hr
  have hs : symErr (rowS' l x) = 0 := by
    unfold symErr
    rw [rowS_length, if_neg (by omega), if_neg (by omega), if_pos]
    exact List.all_eq_true.2 (largeS_false hp _ hr)
  rw [if_neg (by simpa using hs), applS_first hb.pos, rowS_length, if_neg (by simp)]
theorem mat_appl {a b : List (List Gs)} (ha : Right a) (hb : Right b) (hp : largeS (applS a b) 1000 = false) : matErr (applS a b) = 0 := by
  have h0 := hb.row _ (getD_mem [] hb.pos)
  unfold matErr
  rw [applS_length, if_neg (by have := ha.pos; omega), if_neg (by have := ha.le; omega)]
  refine firstS_all fun e he => ?_
  obtain ⟨r, hr, rfl⟩ := List.mem_map.1 he
  obtain ⟨x, hx, rfl⟩ := List.mem_map.1 hr
  unfold rowErr
  rw [applS_first ha.pos, rowS_length, if_neg (by omega), if_neg (by omega), if_pos]
  exact List.all_eq_true.2 (largeS_false hp _ hr)
theorem dotS_one (p : Gs) (l : List Gs) (i : Nat) : dotS [p] [l] i 1 = gmul p (l.getD i ⟨0, 0⟩) := by
  simp only [dotS, List.getD_cons_zero]
  apply gs_ext <;> simp [gadd]
theorem dotS_two (p q : Gs) (l m : List Gs) (i : Nat) : dotS [p, q] [l, m] i 2 = gadd (gmul p (l.getD i ⟨0, 0⟩)) (gmul q (m.getD i ⟨0, 0⟩)) := by
  simp only [dotS, List.getD_cons_zero, List.getD_cons_succ]
  apply gs_ext <;> simp [gadd]
theorem list_rng (l : List Gs) : (List.range l.length).map (fun i => l.getD i ⟨0, 0⟩) = l := by
  apply List.ext_getElem
  · simp
  · intro i h1 h2
    simp [List.getD_eq_getElem?_getD, List.getElem?_eq_getElem h2]
theorem equal_back {b l : List (List Gs)} (hl : layErr l = 0) (he : eqE b (applS b l) = 0) (hp : (b.getD 0 []).length = l.length) :
    1 ≤ gainS b ∧ gainS b ≤ 10000000 ∧ eqOut b (applS b l) = l.map fun r => r.map fun g => ⟨gainS b * g.re, gainS b * g.im⟩ := by
  unfold eqE at he
  split at he
  · exact absurd he ‹_›
  rename_i hz
  have hz : eqErr b (applS b l) = 0 := by simpa using hz
  split at he
  · cases he
  rename_i hg
  have hzz := firstS_zero hz
  have z1 : symDetE b = 0 := hzz _ (by simp)
  have z4 : (if symDetS b = ⟨0, 0⟩ then (27 : Int) else 0) = 0 := hzz _ (by simp)
  obtain ⟨d1, d2, d3, d4⟩ := det_of z1
  obtain ⟨l1, l2, l3⟩ := lay_of hl
  have hb : matErr b = 0 := by
    by_cases h : matErr b = 0
    · exact h
    · rw [(symDet_bad h).1] at z1; exact z1
  have hd := (symDet_ok hb).2
  have hne : ¬ symDetS b = ⟨0, 0⟩ := fun h => by rw [if_pos h] at z4; cases z4
  have hgn : gainS b = (detS b).re * (detS b).re + (detS b).im * (detS b).im := by
    unfold gainS; rw [hd]; simp only [gmul, gconj]; grind
  have h1 : 1 ≤ gainS b := by
    rw [hgn]
    rw [hd] at hne
    have q1 : 0 ≤ (detS b).re * (detS b).re := by
      rcases Int.le_total 0 (detS b).re with h | h
      · exact Int.mul_nonneg h h
      · have := Int.mul_nonneg (a := -(detS b).re) (b := -(detS b).re) (by omega) (by omega); rw [Int.neg_mul_neg] at this; exact this
    have q2 : 0 ≤ (detS b).im * (detS b).im := by
      rcases Int.le_total 0 (detS b).im with h | h
      · exact Int.mul_nonneg h h
      · have := Int.mul_nonneg (a := -(detS b).im) (b := -(detS b).im) (by omega) (by omega); rw [Int.neg_mul_neg] at this; exact this
    rcases Classical.em ((detS b).re = 0) with h | h
    · have h2 : (detS b).im ≠ 0 := fun h2 => hne (gs_ext h h2)
      have : (detS b).im * (detS b).im ≠ 0 := Int.mul_ne_zero h2 h2
      omega
    · have : (detS b).re * (detS b).re ≠ 0 := Int.mul_ne_zero h h
      omega
  refine ⟨h1, by omega, ?_⟩
  unfold eqOut
  rw [hd]
  rcases d1 with ⟨p, rfl⟩ | ⟨p, q, r, s, rfl, _, _⟩
  · match l, hp, l3 with
    | [x], _, _ =>
      simp only [adjS, applS, rowS', List.map_cons, List.map_nil, List.getD_cons_zero, List.length_map, List.length_range, List.map_map, List.length_cons, List.length_nil, Nat.zero_add, Nat.reduceAdd, List.cons.injEq, and_true]
      conv => rhs; rw [← list_rng x, List.map_map]
      apply List.map_congr_left
      intro i hi
      have hi := List.mem_range.1 hi
      simp only [Function.comp, dotS_one]
      rw [rng_getD _ _ hi, hgn]
      simp only [detS]
      apply gs_ext <;> simp only [gmul, gconj] <;> grind
  · match l, hp, l3 with
    | [x, y], _, l3 =>
      have hxy : y.length = x.length := (l3 y (by simp)).1
      simp only [adjS, applS, rowS', List.map_cons, List.map_nil, List.getD_cons_zero, List.length_map, List.length_range, List.map_map, List.length_cons, List.length_nil, Nat.zero_add, Nat.reduceAdd, List.cons.injEq, and_true]
      refine ⟨?_, ?_⟩
      · conv => rhs; rw [← list_rng x, List.map_map]
        apply List.map_congr_left
        intro i hi
        have hi := List.mem_range.1 hi
        simp only [Function.comp, dotS_two]
        rw [rng_getD _ _ hi, rng_getD _ _ hi, hgn]
        simp only [detS]
        apply gs_ext <;> simp only [gmul, gconj, gadd, gsub] <;> grind
      · conv => rhs; rw [← list_rng y, hxy, List.map_map]
        apply List.map_congr_left
        intro i hi
        have hi := List.mem_range.1 hi
        simp only [Function.comp, dotS_two]
        rw [rng_getD _ _ hi, rng_getD _ _ hi, hgn]
        simp only [detS]
        apply gs_ext <;> simp only [gmul, gconj, gadd, gsub] <;> grind
theorem det_prod {a b : List (List Gs)} (ha : symDetE a = 0) (hb : symDetE b = 0) (hp : (a.getD 0 []).length = b.length) : detS (applS a b) = gmul (detS a) (detS b) := by
  obtain ⟨a1, a2, a3, a4⟩ := det_of ha
  obtain ⟨b1, b2, b3, b4⟩ := det_of hb
  rcases a1 with ⟨p, rfl⟩ | ⟨p, q, r, s, rfl, _, _⟩
  · rcases b1 with ⟨t, rfl⟩ | ⟨t, u, v, w, rfl, _, _⟩
    · simp only [applS, rowS', List.map_cons, List.map_nil, List.getD_cons_zero, List.length_cons, List.length_nil, Nat.zero_add, Nat.reduceAdd, List.range_succ, List.range_zero, List.nil_append, detS, dotS_one]
    · simp at hp
  · rcases b1 with ⟨t, rfl⟩ | ⟨t, u, v, w, rfl, _, _⟩
    · simp at hp
    · simp only [applS, rowS', List.map_cons, List.map_nil, List.getD_cons_zero, List.length_cons, List.length_nil, Nat.zero_add, Nat.reduceAdd, List.range_succ, List.range_zero, List.nil_append, List.cons_append, detS, dotS_two, List.getD_cons_succ]
      apply gs_ext <;> simp only [gmul, gadd, gsub] <;> grind
theorem det_bd {a : List (List Gs)} (ha : symDetE a = 0) : bd (detS a) 4000000 := by
  obtain ⟨a1, a2, a3, a4⟩ := det_of ha
  rcases a1 with ⟨p, rfl⟩ | ⟨p, q, r, s, rfl, _, _⟩
  · have := (a2 [p] (by simp)).2 p (by simp)
    simp only [detS, bd] at *; omega
  · have h1 := (a2 [p, q] (by simp)).2 p (by simp)
    have h2 := (a2 [p, q] (by simp)).2 q (by simp)
    have h3 := (a2 [r, s] (by simp)).2 r (by simp)
    have h4 := (a2 [r, s] (by simp)).2 s (by simp)
    have k1 := bd_gmul h1 h4
    have k2 := bd_gmul h2 h3
    simp only [detS, bd, gsub] at *; omega
end Go.Proofs.Ytfgpbmjmoobcnaa
end
section
open Go Go.Am
open Go.Am.Dat (cells)
namespace Go.Proofs.Ytfgpbmjmoobcnaa
set_option maxHeartbeats 4000000
set_option maxRecDepth 100000
set_option linter.unusedSimpArgs false
def absI (n : Int) : Int := if -n > n then -n else n
def gpart (g : Gs) : Int := if absI g.im > absI g.re then absI g.im else absI g.re
theorem GPart_c (g : Gs) (h : InR .i64 (-g.re) ∧ InR .i64 (-g.im)) : FC Try.prog 54 [enc g] [] (enc (gpart g)) [] := by
  obtain ⟨h1, h2⟩ := h
  refine fc_intro' is54 (by simp) (fun cx hl => S_run [e33] 800 ?_)
  delta c54
  simp (maxSteps := 4000000) -implicitDefEqProofs only [rv54, e33, h1, h2, Ent.of0, Ent.of1, Ent.of2, Ent.of3, V, cr, bE, bh, bU, cM, c6, gt, lk, bS, cz, cI, bX, cg, cj, cj.subCs, cL, bt, bq, cD, aK, bf, a9, aF, aZ, bm, aM, a6, aV, cd, cO, cP, ar, aN, bZ, cJ, cH, cY, cQ, aQ, ag, ca, bK, zC, argS, be, ce, cU, cZ, ap, aO, ax, aw, bV, leC, cb, cC, bY, cV, cB, aL, aP, cN, aq, cF, bA, bA.viewCs, bF, bF.flatCs, aW, aW.LensOks, Value.oneCell', ↓reduceIte, ite_true, ite_false, if_true, if_false, Nat.reduceAdd, Nat.reduceSub, Nat.reduceMul, Nat.reduceEqDiff, Nat.reduceLT, Nat.reduceLeDiff, reduceCtorEq, Int.reduceToNat, forall_const, implies_true, a5, Ent.mk3, bk, bu, bH, bo, br, bL, a7, bv, bJ, bI, bg, co, bD, cT, rn, cc, cc.renCs, aJ, aG, aI, aI.viewOks, aA, bn, bn.flatBs, ay, au, aH, ah, aX, bG, bG.keysBs, aT, ai, a8, bW, bj, cu, af, af.passKs, av, aY, ae, ae.lendKs, bT, cn, bM, bz, setInn, an, cW, cS, aR, bC, bN, cq, aC, az, Glob.gl, aU, cm, a0, bR, bl, ak, cG, cR, b0, cK, bO, am, am.ptrOnlys, aj, aD, bQ, aB, bp, bw, bP, aE, bB, cp, Nat.reduceBEq, undef]
  rfl
def e54 : Ent Try.prog := .of1 54 (fun g => InR .i64 (-g.re) ∧ InR .i64 (-g.im)) (fun g : Gs => enc (gpart g)) (fun _ => trivial) (fun g h => GPart_c g h)
theorem gpart_bd {g : Gs} {n : Nat} (h : bd g n) : 0 ≤ gpart g ∧ gpart g ≤ n := by
  simp only [bd] at h
  unfold gpart absI
  split <;> split <;> omega
theorem appl_bounded {m l : List (List Gs)} (hm : m.length ≤ 1000000) (hl : (l.getD 0 []).length ≤ 1000000) : bounded (applS m l) := by
  refine ⟨by rw [applS_length]; exact hm, fun r hr => ?_⟩
  obtain ⟨x, hx, rfl⟩ := List.mem_map.1 hr
  rw [rowS_length]; exact hl
theorem eqOut_small {m r : List (List Gs)} (h : eqE m r = 0) : ∀ x ∈ eqOut m r, ∀ g ∈ x, smallG g 100000000 = true := by
  unfold eqE at h
  split at h
  · exact absurd h ‹_›
  · split at h
    · cases h
    · split at h
      · rename_i h3
        intro x hx g hg
        have := List.all_eq_true.1 h3 x hx
        exact List.all_eq_true.1 this g hg
      · cases h
theorem scaled_facts {Y l : List (List Gs)} {G : Int} (h : Y = l.map fun r => r.map fun g => ⟨G * g.re, G * g.im⟩) (hs : ∀ x ∈ Y, ∀ g ∈ x, smallG g 100000000 = true) :
    Y.length = l.length ∧ (∀ i, i < l.length → (Y.getD i []).length = (l.getD i []).length) ∧ ∀ i, i < l.length → ∀ j, j < (l.getD i []).length →
      (Y.getD i []).getD j ⟨0, 0⟩ = ⟨G * ((l.getD i []).getD j ⟨0, 0⟩).re, G * ((l.getD i []).getD j ⟨0, 0⟩).im⟩ ∧
      (-9223372036854775808 ≤ G * ((l.getD i []).getD j ⟨0, 0⟩).re ∧ G * ((l.getD i []).getD j ⟨0, 0⟩).re ≤ 9223372036854775807) ∧ (-9223372036854775808 ≤ G * ((l.getD i []).getD j ⟨0, 0⟩).im ∧ G * ((l.getD i []).getD j ⟨0, 0⟩).im ≤ 9223372036854775807) := by
  have e1 : Y.length = l.length := by rw [h, List.length_map]
  have e2 : ∀ i, i < l.length → Y.getD i [] = (l.getD i []).map fun g => ⟨G * g.re, G * g.im⟩ := fun i hi => by
    rw [h]; exact getD_map' _ _ _ _ _ hi
  refine ⟨e1, fun i hi => by rw [e2 i hi, List.length_map], fun i hi j hj => ?_⟩
  have e3 : (Y.getD i []).getD j ⟨0, 0⟩ = ⟨G * ((l.getD i []).getD j ⟨0, 0⟩).re, G * ((l.getD i []).getD j ⟨0, 0⟩).im⟩ := by
    rw [e2 i hi]; exact getD_map' _ _ _ _ _ hj
  have e4 := smallG_bd (n := 100000000) (hs _ (getD_mem [] (by omega : i < Y.length)) _ (getD_mem ⟨0, 0⟩ (by rw [e2 i hi, List.length_map]; exact hj : j < (Y.getD i []).length)))
  rw [e3] at e4
  simp only [bd] at e4
  exact ⟨e3, by omega, by omega⟩
end Go.Proofs.Ytfgpbmjmoobcnaa
end
section
open Go Go.Am
open Go.Am.Dat (cells)
namespace Go.Proofs.Ytfgpbmjmoobcnaa
set_option maxHeartbeats 4000000
set_option maxRecDepth 100000
set_option linter.unusedSimpArgs false
theorem tk_bad (a b l : List (List Gs)) (h : ¬ (smallL a = true ∧ smallL b = true ∧ smallL l = true ∧ matErr a = 0 ∧ matErr b = 0 ∧ layErr l = 0)) : FC Try.prog 9 [enc a, enc b, enc l] [] (enc true) [] := by
  refine fc_intro' is9 (by simp) (fun cx hl => S_run [e15, e16, e19, e51] 1500 ?_)
  by_cases s1 : smallL a = true
  rotate_left
  · have s1 : smallL a = false := by simpa using s1
    delta c9
    simp (maxSteps := 4000000) -implicitDefEqProofs only [rv9, e15, e16, e19, e51, s1, Int.cast_ofNat_Int, Int.natCast_one, Int.natCast_zero, Int.reduceAdd, Int.reduceSub, Int.reduceMul, Int.reduceLT, Int.reduceLE, Int.reduceTMod, Int.reduceTDiv, Int.reduceNeg, Int.reduceEq, Nat.reducePow, Int.reducePow, ne_eq, not_false_eq_true, Ent.of0, Ent.of1, Ent.of2, Ent.of3, V, cr, bE, bh, bU, cM, c6, gt, lk, bS, cz, cI, bX, cg, cj, cj.subCs, cL, bt, bq, cD, aK, bf, a9, aF, aZ, bm, aM, a6, aV, cd, cO, cP, ar, aN, bZ, cJ, cH, cY, cQ, aQ, ag, ca, bK, zC, argS, be, ce, cU, cZ, ap, aO, ax, aw, bV, leC, cb, cC, bY, cV, cB, aL, aP, cN, aq, cF, bA, bA.viewCs, bF, bF.flatCs, aW, aW.LensOks, Value.oneCell', ↓reduceIte, ite_true, ite_false, if_true, if_false, Nat.reduceAdd, Nat.reduceSub, Nat.reduceMul, Nat.reduceEqDiff, Nat.reduceLT, Nat.reduceLeDiff, reduceCtorEq, Int.reduceToNat, forall_const, implies_true, a5, Ent.mk3, bk, bu, bH, bo, br, bL, a7, bv, bJ, bI, bg, co, bD, cT, rn, cc, cc.renCs, aJ, aG, aI, aI.viewOks, aA, bn, bn.flatBs, ay, au, aH, ah, aX, bG, bG.keysBs, aT, ai, a8, bW, bj, cu, af, af.passKs, av, aY, ae, ae.lendKs, bT, cn, bM, bz, setInn, an, cW, cS, aR, bC, bN, cq, aC, az, Glob.gl, aU, cm, a0, bR, bl, ak, cG, cR, b0, cK, bO, am, am.ptrOnlys, aj, aD, bQ, aB, bp, bw, bP, aE, bB, cp, Nat.reduceBEq, undef]
  by_cases s2 : smallL b = true
  rotate_left
  · have s2 : smallL b = false := by simpa using s2
    delta c9
    simp (maxSteps := 4000000) -implicitDefEqProofs only [rv9, e15, e16, e19, e51, s1, s2, Int.cast_ofNat_Int, Int.natCast_one, Int.natCast_zero, Int.reduceAdd, Int.reduceSub, Int.reduceMul, Int.reduceLT, Int.reduceLE, Int.reduceTMod, Int.reduceTDiv, Int.reduceNeg, Int.reduceEq, Nat.reducePow, Int.reducePow, ne_eq, not_false_eq_true, Ent.of0, Ent.of1, Ent.of2, Ent.of3, V, cr, bE, bh, bU, cM, c6, gt, lk, bS, cz, cI, bX, cg, cj, cj.subCs, cL, bt, bq, cD, aK, bf, a9, aF, aZ, bm, aM, a6, aV, cd, cO, cP, ar, aN, bZ, cJ, cH, cY, cQ, aQ, ag, ca, bK, zC, argS, be, ce, cU, cZ, ap, aO, ax, aw, bV, leC, cb, cC, bY, cV, cB, aL, aP, cN, aq, cF, bA, bA.viewCs, bF, bF.flatCs, aW, aW.LensOks, Value.oneCell', ↓reduceIte, ite_true, ite_false, if_true, if_false, Nat.reduceAdd, Nat.reduceSub, Nat.reduceMul, Nat.reduceEqDiff, Nat.reduceLT, Nat.reduceLeDiff, reduceCtorEq, Int.reduceToNat, forall_const, implies_true, a5, Ent.mk3, bk, bu, bH, bo, br, bL, a7, bv, bJ, bI, bg, co, bD, cT, rn, cc, cc.renCs, aJ, aG, aI, aI.viewOks, aA, bn, bn.flatBs, ay, au, aH, ah, aX, bG, bG.keysBs, aT, ai, a8, bW, bj, cu, af, af.passKs, av, aY, ae, ae.lendKs, bT, cn, bM, bz, setInn, an, cW, cS, aR, bC, bN, cq, aC, az, Glob.gl, aU, cm, a0, bR, bl, ak, cG, cR, b0, cK, bO, am, am.ptrOnlys, aj, aD, bQ, aB, bp, bw, bP, aE, bB, cp, Nat.reduceBEq, undef]
  by_cases s3 : smallL l = true
  rotate_left
  · have s3 : smallL l = false := by simpa using s3
    delta c9
    simp (maxSteps := 4000000) -implicitDefEqProofs only [rv9, e15, e16, e19, e51, s1, s2, s3, Int.cast_ofNat_Int, Int.natCast_one, Int.natCast_zero, Int.reduceAdd, Int.reduceSub, Int.reduceMul, Int.reduceLT, Int.reduceLE, Int.reduceTMod, Int.reduceTDiv, Int.reduceNeg, Int.reduceEq, Nat.reducePow, Int.reducePow, ne_eq, not_false_eq_true, Ent.of0, Ent.of1, Ent.of2, Ent.of3, V, cr, bE, bh, bU, cM, c6, gt, lk, bS, cz, cI, bX, cg, cj, cj.subCs, cL, bt, bq, cD, aK, bf, a9, aF, aZ, bm, aM, a6, aV, cd, cO, cP, ar, aN, bZ, cJ, cH, cY, cQ, aQ, ag, ca, bK, zC, argS, be, ce, cU, cZ, ap, aO, ax, aw, bV, leC, cb, cC, bY, cV, cB, aL, aP, cN, aq, cF, bA, bA.viewCs, bF, bF.flatCs, aW, aW.LensOks, Value.oneCell', ↓reduceIte, ite_true, ite_false, if_true, if_false, Nat.reduceAdd, Nat.reduceSub, Nat.reduceMul, Nat.reduceEqDiff, Nat.reduceLT, Nat.reduceLeDiff, reduceCtorEq, Int.reduceToNat, forall_const, implies_true, a5, Ent.mk3, bk, bu, bH, bo, br, bL, a7, bv, bJ, bI, bg, co, bD, cT, rn, cc, cc.renCs, aJ, aG, aI, aI.viewOks, aA, bn, bn.flatBs, ay, au, aH, ah, aX, bG, bG.keysBs, aT, ai, a8, bW, bj, cu, af, af.passKs, av, aY, ae, ae.lendKs, bT, cn, bM, bz, setInn, an, cW, cS, aR, bC, bN, cq, aC, az, Glob.gl, aU, cm, a0, bR, bl, ak, cG, cR, b0, cK, bO, am, am.ptrOnlys, aj, aD, bQ, aB, bp, bw, bP, aE, bB, cp, Nat.reduceBEq, undef]
  by_cases ha : matErr a = 0
  rotate_left
  · delta c9
    simp (maxSteps := 4000000) -implicitDefEqProofs only [rv9, e15, e16, e19, e51, s1, s2, s3, ha, Int.cast_ofNat_Int, Int.natCast_one, Int.natCast_zero, Int.reduceAdd, Int.reduceSub, Int.reduceMul, Int.reduceLT, Int.reduceLE, Int.reduceTMod, Int.reduceTDiv, Int.reduceNeg, Int.reduceEq, Nat.reducePow, Int.reducePow, ne_eq, not_false_eq_true, Ent.of0, Ent.of1, Ent.of2, Ent.of3, V, cr, bE, bh, bU, cM, c6, gt, lk, bS, cz, cI, bX, cg, cj, cj.subCs, cL, bt, bq, cD, aK, bf, a9, aF, aZ, bm, aM, a6, aV, cd, cO, cP, ar, aN, bZ, cJ, cH, cY, cQ, aQ, ag, ca, bK, zC, argS, be, ce, cU, cZ, ap, aO, ax, aw, bV, leC, cb, cC, bY, cV, cB, aL, aP, cN, aq, cF, bA, bA.viewCs, bF, bF.flatCs, aW, aW.LensOks, Value.oneCell', ↓reduceIte, ite_true, ite_false, if_true, if_false, Nat.reduceAdd, Nat.reduceSub, Nat.reduceMul, Nat.reduceEqDiff, Nat.reduceLT, Nat.reduceLeDiff, reduceCtorEq, Int.reduceToNat, forall_const, implies_true, a5, Ent.mk3, bk, bu, bH, bo, br, bL, a7, bv, bJ, bI, bg, co, bD, cT, rn, cc, cc.renCs, aJ, aG, aI, aI.viewOks, aA, bn, bn.flatBs, ay, au, aH, ah, aX, bG, bG.keysBs, aT, ai, a8, bW, bj, cu, af, af.passKs, av, aY, ae, ae.lendKs, bT, cn, bM, bz, setInn, an, cW, cS, aR, bC, bN, cq, aC, az, Glob.gl, aU, cm, a0, bR, bl, ak, cG, cR, b0, cK, bO, am, am.ptrOnlys, aj, aD, bQ, aB, bp, bw, bP, aE, bB, cp, Nat.reduceBEq, undef]
  by_cases hb : matErr b = 0
  rotate_left
  · delta c9
    simp (maxSteps := 4000000) -implicitDefEqProofs only [rv9, e15, e16, e19, e51, s1, s2, s3, ha, hb, Int.cast_ofNat_Int, Int.natCast_one, Int.natCast_zero, Int.reduceAdd, Int.reduceSub, Int.reduceMul, Int.reduceLT, Int.reduceLE, Int.reduceTMod, Int.reduceTDiv, Int.reduceNeg, Int.reduceEq, Nat.reducePow, Int.reducePow, ne_eq, not_false_eq_true, Ent.of0, Ent.of1, Ent.of2, Ent.of3, V, cr, bE, bh, bU, cM, c6, gt, lk, bS, cz, cI, bX, cg, cj, cj.subCs, cL, bt, bq, cD, aK, bf, a9, aF, aZ, bm, aM, a6, aV, cd, cO, cP, ar, aN, bZ, cJ, cH, cY, cQ, aQ, ag, ca, bK, zC, argS, be, ce, cU, cZ, ap, aO, ax, aw, bV, leC, cb, cC, bY, cV, cB, aL, aP, cN, aq, cF, bA, bA.viewCs, bF, bF.flatCs, aW, aW.LensOks, Value.oneCell', ↓reduceIte, ite_true, ite_false, if_true, if_false, Nat.reduceAdd, Nat.reduceSub, Nat.reduceMul, Nat.reduceEqDiff, Nat.reduceLT, Nat.reduceLeDiff, reduceCtorEq, Int.reduceToNat, forall_const, implies_true, a5, Ent.mk3, bk, bu, bH, bo, br, bL, a7, bv, bJ, bI, bg, co, bD, cT, rn, cc, cc.renCs, aJ, aG, aI, aI.viewOks, aA, bn, bn.flatBs, ay, au, aH, ah, aX, bG, bG.keysBs, aT, ai, a8, bW, bj, cu, af, af.passKs, av, aY, ae, ae.lendKs, bT, cn, bM, bz, setInn, an, cW, cS, aR, bC, bN, cq, aC, az, Glob.gl, aU, cm, a0, bR, bl, ak, cG, cR, b0, cK, bO, am, am.ptrOnlys, aj, aD, bQ, aB, bp, bw, bP, aE, bB, cp, Nat.reduceBEq, undef]
  by_cases hll : layErr l = 0
  rotate_left
  · delta c9
    simp (maxSteps := 4000000) -implicitDefEqProofs only [rv9, e15, e16, e19, e51, s1, s2, s3, ha, hb, hll, Int.cast_ofNat_Int, Int.natCast_one, Int.natCast_zero, Int.reduceAdd, Int.reduceSub, Int.reduceMul, Int.reduceLT, Int.reduceLE, Int.reduceTMod, Int.reduceTDiv, Int.reduceNeg, Int.reduceEq, Nat.reducePow, Int.reducePow, ne_eq, not_false_eq_true, Ent.of0, Ent.of1, Ent.of2, Ent.of3, V, cr, bE, bh, bU, cM, c6, gt, lk, bS, cz, cI, bX, cg, cj, cj.subCs, cL, bt, bq, cD, aK, bf, a9, aF, aZ, bm, aM, a6, aV, cd, cO, cP, ar, aN, bZ, cJ, cH, cY, cQ, aQ, ag, ca, bK, zC, argS, be, ce, cU, cZ, ap, aO, ax, aw, bV, leC, cb, cC, bY, cV, cB, aL, aP, cN, aq, cF, bA, bA.viewCs, bF, bF.flatCs, aW, aW.LensOks, Value.oneCell', ↓reduceIte, ite_true, ite_false, if_true, if_false, Nat.reduceAdd, Nat.reduceSub, Nat.reduceMul, Nat.reduceEqDiff, Nat.reduceLT, Nat.reduceLeDiff, reduceCtorEq, Int.reduceToNat, forall_const, implies_true, a5, Ent.mk3, bk, bu, bH, bo, br, bL, a7, bv, bJ, bI, bg, co, bD, cT, rn, cc, cc.renCs, aJ, aG, aI, aI.viewOks, aA, bn, bn.flatBs, ay, au, aH, ah, aX, bG, bG.keysBs, aT, ai, a8, bW, bj, cu, af, af.passKs, av, aY, ae, ae.lendKs, bT, cn, bM, bz, setInn, an, cW, cS, aR, bC, bN, cq, aC, az, Glob.gl, aU, cm, a0, bR, bl, ak, cG, cR, b0, cK, bO, am, am.ptrOnlys, aj, aD, bQ, aB, bp, bw, bP, aE, bB, cp, Nat.reduceBEq, undef]
  exact absurd ⟨s1, s2, s3, ha, hb, hll⟩ h
theorem tk_err (a b l : List (List Gs)) (h : smallL a = true ∧ smallL b = true ∧ smallL l = true ∧ matErr a = 0 ∧ matErr b = 0 ∧ layErr l = 0) (hp : ¬ prodE b l 100000000 = 0) : FC Try.prog 9 [enc a, enc b, enc l] [] (enc true) [] := by
  obtain ⟨s1, s2, s3, ha, hb, hll⟩ := h
  refine fc_intro' is9 (by simp) (fun cx hl => S_run [e15, e16, e19, e51, e18, e47] 1500 ?_)
  have b1 := small_bounded s1
  have b2 := small_bounded s2
  have b3 := small_bounded s3
  have hap : apErr b l = prodE b l 100000000 := by unfold apErr; rw [if_neg (by simpa using hb), if_neg (by simpa using hll)]
  rcases prodE_bad hp with h8 | h8
  · rw [h8] at hap
    delta c9
    simp (maxSteps := 4000000) -implicitDefEqProofs only [rv9, e15, e16, e18, e19, e51, e47, s1, s2, s3, ha, hb, hll, b1, b2, b3, hap, Int.cast_ofNat_Int, Int.natCast_one, Int.natCast_zero, Int.reduceAdd, Int.reduceSub, Int.reduceMul, Int.reduceLT, Int.reduceLE, Int.reduceTMod, Int.reduceTDiv, Int.reduceNeg, Int.reduceEq, Nat.reducePow, Int.reducePow, ne_eq, not_false_eq_true, Ent.of0, Ent.of1, Ent.of2, Ent.of3, V, cr, bE, bh, bU, cM, c6, gt, lk, bS, cz, cI, bX, cg, cj, cj.subCs, cL, bt, bq, cD, aK, bf, a9, aF, aZ, bm, aM, a6, aV, cd, cO, cP, ar, aN, bZ, cJ, cH, cY, cQ, aQ, ag, ca, bK, zC, argS, be, ce, cU, cZ, ap, aO, ax, aw, bV, leC, cb, cC, bY, cV, cB, aL, aP, cN, aq, cF, bA, bA.viewCs, bF, bF.flatCs, aW, aW.LensOks, Value.oneCell', ↓reduceIte, ite_true, ite_false, if_true, if_false, Nat.reduceAdd, Nat.reduceSub, Nat.reduceMul, Nat.reduceEqDiff, Nat.reduceLT, Nat.reduceLeDiff, reduceCtorEq, Int.reduceToNat, forall_const, implies_true, a5, Ent.mk3, bk, bu, bH, bo, br, bL, a7, bv, bJ, bI, bg, co, bD, cT, rn, cc, cc.renCs, aJ, aG, aI, aI.viewOks, aA, bn, bn.flatBs, ay, au, aH, ah, aX, bG, bG.keysBs, aT, ai, a8, bW, bj, cu, af, af.passKs, av, aY, ae, ae.lendKs, bT, cn, bM, bz, setInn, an, cW, cS, aR, bC, bN, cq, aC, az, Glob.gl, aU, cm, a0, bR, bl, ak, cG, cR, b0, cK, bO, am, am.ptrOnlys, aj, aD, bQ, aB, bp, bw, bP, aE, bB, cp, Nat.reduceBEq, undef]
  · rw [h8] at hap
    delta c9
    simp (maxSteps := 4000000) -implicitDefEqProofs only [rv9, e15, e16, e18, e19, e51, e47, s1, s2, s3, ha, hb, hll, b1, b2, b3, hap, Int.cast_ofNat_Int, Int.natCast_one, Int.natCast_zero, Int.reduceAdd, Int.reduceSub, Int.reduceMul, Int.reduceLT, Int.reduceLE, Int.reduceTMod, Int.reduceTDiv, Int.reduceNeg, Int.reduceEq, Nat.reducePow, Int.reducePow, ne_eq, not_false_eq_true, Ent.of0, Ent.of1, Ent.of2, Ent.of3, V, cr, bE, bh, bU, cM, c6, gt, lk, bS, cz, cI, bX, cg, cj, cj.subCs, cL, bt, bq, cD, aK, bf, a9, aF, aZ, bm, aM, a6, aV, cd, cO, cP, ar, aN, bZ, cJ, cH, cY, cQ, aQ, ag, ca, bK, zC, argS, be, ce, cU, cZ, ap, aO, ax, aw, bV, leC, cb, cC, bY, cV, cB, aL, aP, cN, aq, cF, bA, bA.viewCs, bF, bF.flatCs, aW, aW.LensOks, Value.oneCell', ↓reduceIte, ite_true, ite_false, if_true, if_false, Nat.reduceAdd, Nat.reduceSub, Nat.reduceMul, Nat.reduceEqDiff, Nat.reduceLT, Nat.reduceLeDiff, reduceCtorEq, Int.reduceToNat, forall_const, implies_true, a5, Ent.mk3, bk, bu, bH, bo, br, bL, a7, bv, bJ, bI, bg, co, bD, cT, rn, cc, cc.renCs, aJ, aG, aI, aI.viewOks, aA, bn, bn.flatBs, ay, au, aH, ah, aX, bG, bG.keysBs, aT, ai, a8, bW, bj, cu, af, af.passKs, av, aY, ae, ae.lendKs, bT, cn, bM, bz, setInn, an, cW, cS, aR, bC, bN, cq, aC, az, Glob.gl, aU, cm, a0, bR, bl, ak, cG, cR, b0, cK, bO, am, am.ptrOnlys, aj, aD, bQ, aB, bp, bw, bP, aE, bB, cp, Nat.reduceBEq, undef]
structure TkF (a b l : List (List Gs)) : Prop where
  s1 : smallL a = true
  s2 : smallL b = true
  s3 : smallL l = true
  ha : matErr a = 0
  hb : matErr b = 0
  hll : layErr l = 0
  b1 : bounded a
  b2 : bounded b
  b3 : bounded l
  hap : apErr b l = 0
  hao : apOut b l = applS b l
  hlx : layErr (applS b l) = 0
  bx : bounded (applS b l)
  p1 : (b.getD 0 []).length = l.length
  hcase : prErr a b = 13 ∨ prErr a b = 8 ∨ prErr a b = 0 ∧ matErr (applS a b) = 0 ∧ bounded (applS a b) ∧ prOut a b = applS a b ∧ apErr (applS a b) l = apErr a (applS b l) ∧ apOut (applS a b) l = apOut a (applS b l)
  det : symDetE a = 0 → symDetE b = 0 → symDetE (applS a b) = 0 → matErr (applS a b) = 0 → (InR .i64 (-(symDetS a).re) ∧ InR .i64 (-(symDetS a).im) ∧ InR .i64 (-(symDetS b).re) ∧ InR .i64 (-(symDetS b).im) ∧ (0 ≤ gpart (symDetS a) ∧ gpart (symDetS a) ≤ 4000000) ∧ (0 ≤ gpart (symDetS b) ∧ gpart (symDetS b) ≤ 4000000) ∧ mulOk (symDetS a) (symDetS b) ∧ symDetS (applS a b) = gmul (symDetS a) (symDetS b))
theorem tk_facts (a b l : List (List Gs)) (h : smallL a = true ∧ smallL b = true ∧ smallL l = true ∧ matErr a = 0 ∧ matErr b = 0 ∧ layErr l = 0) (hp : prodE b l 100000000 = 0) : TkF a b l := by
  obtain ⟨s1, s2, s3, ha, hb, hll⟩ := h
  have b1 := small_bounded s1
  have b2 := small_bounded s2
  have b3 := small_bounded s3
  have ra := right_of ha
  have rb := right_of hb
  obtain ⟨l1, l2, l3⟩ := lay_of hll
  have l0 := l3 _ (getD_mem [] l1)
  have hap : apErr b l = prodE b l 100000000 := by unfold apErr; rw [if_neg (by simpa using hb), if_neg (by simpa using hll)]
  rw [hp] at hap
  have hao : apOut b l = applS b l := by unfold apOut; rw [if_pos hap]
  obtain ⟨p1, p2⟩ := prodE_ok hp
  have hlx := lay_appl rb hll p2
  have bx : bounded (applS b l) := appl_bounded (by have := rb.le; omega) (by omega)
  have hxl := applS_length b l
  have hcase : prErr a b = 13 ∨ prErr a b = 8 ∨ prErr a b = 0 ∧ matErr (applS a b) = 0 ∧ bounded (applS a b) ∧ prOut a b = applS a b ∧ apErr (applS a b) l = apErr a (applS b l) ∧ apOut (applS a b) l = apOut a (applS b l) := by
    have hpr : prErr a b = prodE a b 1000 := by unfold prErr; rw [if_neg (by simpa using ha), if_neg (by simpa using hb)]
    rw [hpr]
    by_cases hz : prodE a b 1000 = 0
    rotate_left
    · rcases prodE_bad hz with h | h
      · exact .inl h
      · exact .inr (.inl h)
    obtain ⟨k1, k2⟩ := prodE_ok hz
    have hmp := mat_appl ra rb k2
    have has := applS_assoc (a := a) rb.pos p1
    have e1 : apErr (applS a b) l = apErr a (applS b l) := by
      unfold apErr
      rw [if_neg (by simpa using hmp), if_neg (by simpa using hll), if_neg (by simpa using ha), if_neg (by simpa using hlx)]
      unfold prodE
      rw [applS_first ra.pos, has, if_neg (fun h => h p1), if_neg (show ¬ ((a.getD 0 []).length ≠ (applS b l).length) from fun h => h (by rw [applS_length]; exact k1))]
    refine .inr (.inr ⟨hz, hmp, appl_bounded (by have := ra.le; omega) ?_, by unfold prOut; rw [hpr, if_pos hz], e1, ?_⟩)
    · have := rb.row _ (getD_mem [] rb.pos); omega
    · unfold apOut; rw [e1, has]
  have hdet : symDetE a = 0 → symDetE b = 0 → symDetE (applS a b) = 0 → matErr (applS a b) = 0 → (InR .i64 (-(symDetS a).re) ∧ InR .i64 (-(symDetS a).im) ∧ InR .i64 (-(symDetS b).re) ∧ InR .i64 (-(symDetS b).im) ∧ (0 ≤ gpart (symDetS a) ∧ gpart (symDetS a) ≤ 4000000) ∧ (0 ≤ gpart (symDetS b) ∧ gpart (symDetS b) ≤ 4000000) ∧ mulOk (symDetS a) (symDetS b) ∧ symDetS (applS a b) = gmul (symDetS a) (symDetS b)) := fun za zb zp hmp => by
    have d1 := det_bd za
    have d2 := det_bd zb
    rw [← (symDet_ok ha).2] at d1
    rw [← (symDet_ok hb).2] at d2
    have d3 : (applS a b) ≠ [] := fun h => by have := applS_length a b; rw [h] at this; have := ra.pos; simp at *; omega
    have hab : (a.getD 0 []).length = b.length := by
      have t1 := (det_of za).2.1
      have t2 := (det_of zb).2.1
      have t3 := (det_of zp).2.1
      have k1 := t1 _ (getD_mem [] ra.pos)
      have k2 := t2 _ (getD_mem [] rb.pos)
      have k3 := t3 _ (getD_mem [] (by rw [applS_length]; exact ra.pos))
      rw [applS_first ra.pos, applS_length] at k3
      omega
    refine ⟨?_, ?_, ?_, ?_, gpart_bd d1, gpart_bd d2, ⟨4000000, 4000000, d1, d2, by omega⟩, ?_⟩
    · simp only [bd] at d1; simp only [InR, V, cr, bE, bh, bU, cM, c6, gt, lk, bS, cz, cI, bX, cg, cj, cj.subCs, cL, bt, bq, cD, aK, bf, a9, aF, aZ, bm, aM, a6, aV, cd, cO, cP, ar, aN, bZ, cJ, cH, cY, cQ, aQ, ag, ca, bK, zC, argS, be, ce, cU, cZ, ap, aO, ax, aw, bV, leC, cb, cC, bY, cV, cB, aL, aP, cN, aq, cF, bA, bA.viewCs, bF, bF.flatCs, aW, aW.LensOks, Value.oneCell', ↓reduceIte, ite_true, ite_false, if_true, if_false, Nat.reduceAdd, Nat.reduceSub, Nat.reduceMul, Nat.reduceEqDiff, Nat.reduceLT, Nat.reduceLeDiff, reduceCtorEq, Int.reduceToNat, forall_const, implies_true, a5, Ent.mk3, bk, bu, bH, bo, br, bL, a7, bv, bJ, bI, bg, co, bD, cT, rn, cc, cc.renCs, aJ, aG, aI, aI.viewOks, aA, bn, bn.flatBs, ay, au, aH, ah, aX, bG, bG.keysBs, aT, ai, a8, bW, bj, cu, af, af.passKs, av, aY, ae, ae.lendKs, bT, cn, bM, bz, setInn, an, cW, cS, aR, bC, bN, cq, aC, az, Glob.gl, aU, cm, a0, bR, bl, ak, cG, cR, b0, cK, bO, am, am.ptrOnlys, aj, aD, bQ, aB, bp, bw, bP, aE, bB, cp, Nat.reduceBEq, undef]; omega
    · simp only [bd] at d1; simp only [InR, V, cr, bE, bh, bU, cM, c6, gt, lk, bS, cz, cI, bX, cg, cj, cj.subCs, cL, bt, bq, cD, aK, bf, a9, aF, aZ, bm, aM, a6, aV, cd, cO, cP, ar, aN, bZ, cJ, cH, cY, cQ, aQ, ag, ca, bK, zC, argS, be, ce, cU, cZ, ap, aO, ax, aw, bV, leC, cb, cC, bY, cV, cB, aL, aP, cN, aq, cF, bA, bA.viewCs, bF, bF.flatCs, aW, aW.LensOks, Value.oneCell', ↓reduceIte, ite_true, ite_false, if_true, if_false, Nat.reduceAdd, Nat.reduceSub, Nat.reduceMul, Nat.reduceEqDiff, Nat.reduceLT, Nat.reduceLeDiff, reduceCtorEq, Int.reduceToNat, forall_const, implies_true, a5, Ent.mk3, bk, bu, bH, bo, br, bL, a7, bv, bJ, bI, bg, co, bD, cT, rn, cc, cc.renCs, aJ, aG, aI, aI.viewOks, aA, bn, bn.flatBs, ay, au, aH, ah, aX, bG, bG.keysBs, aT, ai, a8, bW, bj, cu, af, af.passKs, av, aY, ae, ae.lendKs, bT, cn, bM, bz, setInn, an, cW, cS, aR, bC, bN, cq, aC, az, Glob.gl, aU, cm, a0, bR, bl, ak, cG, cR, b0, cK, bO, am, am.ptrOnlys, aj, aD, bQ, aB, bp, bw, bP, aE, bB, cp, Nat.reduceBEq, undef]; omega
    · simp only [bd] at d2; simp only [InR, V, cr, bE, bh, bU, cM, c6, gt, lk, bS, cz, cI, bX, cg, cj, cj.subCs, cL, bt, bq, cD, aK, bf, a9, aF, aZ, bm, aM, a6, aV, cd, cO, cP, ar, aN, bZ, cJ, cH, cY, cQ, aQ, ag, ca, bK, zC, argS, be, ce, cU, cZ, ap, aO, ax, aw, bV, leC, cb, cC, bY, cV, cB, aL, aP, cN, aq, cF, bA, bA.viewCs, bF, bF.flatCs, aW, aW.LensOks, Value.oneCell', ↓reduceIte, ite_true, ite_false, if_true, if_false, Nat.reduceAdd, Nat.reduceSub, Nat.reduceMul, Nat.reduceEqDiff, Nat.reduceLT, Nat.reduceLeDiff, reduceCtorEq, Int.reduceToNat, forall_const, implies_true, a5, Ent.mk3, bk, bu, bH, bo, br, bL, a7, bv, bJ, bI, bg, co, bD, cT, rn, cc, cc.renCs, aJ, aG, aI, aI.viewOks, aA, bn, bn.flatBs, ay, au, aH, ah, aX, bG, bG.keysBs, aT, ai, a8, bW, bj, cu, af, af.passKs, av, aY, ae, ae.lendKs, bT, cn, bM, bz, setInn, an, cW, cS, aR, bC, bN, cq, aC, az, Glob.gl, aU, cm, a0, bR, bl, ak, cG, cR, b0, cK, bO, am, am.ptrOnlys, aj, aD, bQ, aB, bp, bw, bP, aE, bB, cp, Nat.reduceBEq, undef]; omega
    · simp only [bd] at d2; simp only [InR, V, cr, bE, bh, bU, cM, c6, gt, lk, bS, cz, cI, bX, cg, cj, cj.subCs, cL, bt, bq, cD, aK, bf, a9, aF, aZ, bm, aM, a6, aV, cd, cO, cP, ar, aN, bZ, cJ, cH, cY, cQ, aQ, ag, ca, bK, zC, argS, be, ce, cU, cZ, ap, aO, ax, aw, bV, leC, cb, cC, bY, cV, cB, aL, aP, cN, aq, cF, bA, bA.viewCs, bF, bF.flatCs, aW, aW.LensOks, Value.oneCell', ↓reduceIte, ite_true, ite_false, if_true, if_false, Nat.reduceAdd, Nat.reduceSub, Nat.reduceMul, Nat.reduceEqDiff, Nat.reduceLT, Nat.reduceLeDiff, reduceCtorEq, Int.reduceToNat, forall_const, implies_true, a5, Ent.mk3, bk, bu, bH, bo, br, bL, a7, bv, bJ, bI, bg, co, bD, cT, rn, cc, cc.renCs, aJ, aG, aI, aI.viewOks, aA, bn, bn.flatBs, ay, au, aH, ah, aX, bG, bG.keysBs, aT, ai, a8, bW, bj, cu, af, af.passKs, av, aY, ae, ae.lendKs, bT, cn, bM, bz, setInn, an, cW, cS, aR, bC, bN, cq, aC, az, Glob.gl, aU, cm, a0, bR, bl, ak, cG, cR, b0, cK, bO, am, am.ptrOnlys, aj, aD, bQ, aB, bp, bw, bP, aE, bB, cp, Nat.reduceBEq, undef]; omega
    · rw [(symDet_ok hmp).2, (symDet_ok ha).2, (symDet_ok hb).2]
      exact det_prod za zb hab
  exact ⟨s1, s2, s3, ha, hb, hll, b1, b2, b3, hap, hao, hlx, bx, p1, hcase, hdet⟩
theorem tk_restA (cx : Cx) (a b l : List (List Gs)) (f : TkF a b l) (hc : prErr a b = 13 ∨ prErr a b = 8) : SG Try.prog cx (be rv9 [] (enc true) []) [.c (.cut D.c9k3)] ⟨[(0, enc a), (1, enc b), (2, enc l), (7, enc (applS b l))], []⟩ := by
  obtain ⟨s1, s2, s3, ha, hb, hll, b1, b2, b3, hap, hao, hlx, bx, p1, -, -⟩ := id f
  refine S_uncut (S_run [e19, e18, e47, e32, e48, e49, e21, e54, e55] 1000 ?_)
  rcases hc with hA | hA
  · delta D.c9k3
    simp (maxSteps := 4000000) -implicitDefEqProofs only [rv9, e18, e19, e47, e32, e48, e49, e21, e54, e55, s1, s2, s3, ha, hb, hll, b1, b2, b3, hap, hao, hlx, bx, hA, Int.cast_ofNat_Int, Int.natCast_one, Int.natCast_zero, Int.reduceAdd, Int.reduceSub, Int.reduceMul, Int.reduceLT, Int.reduceLE, Int.reduceTMod, Int.reduceTDiv, Int.reduceNeg, Int.reduceEq, Nat.reducePow, Int.reducePow, ne_eq, not_false_eq_true, Ent.of0, Ent.of1, Ent.of2, Ent.of3, V, cr, bE, bh, bU, cM, c6, gt, lk, bS, cz, cI, bX, cg, cj, cj.subCs, cL, bt, bq, cD, aK, bf, a9, aF, aZ, bm, aM, a6, aV, cd, cO, cP, ar, aN, bZ, cJ, cH, cY, cQ, aQ, ag, ca, bK, zC, argS, be, ce, cU, cZ, ap, aO, ax, aw, bV, leC, cb, cC, bY, cV, cB, aL, aP, cN, aq, cF, bA, bA.viewCs, bF, bF.flatCs, aW, aW.LensOks, Value.oneCell', ↓reduceIte, ite_true, ite_false, if_true, if_false, Nat.reduceAdd, Nat.reduceSub, Nat.reduceMul, Nat.reduceEqDiff, Nat.reduceLT, Nat.reduceLeDiff, reduceCtorEq, Int.reduceToNat, forall_const, implies_true, a5, Ent.mk3, bk, bu, bH, bo, br, bL, a7, bv, bJ, bI, bg, co, bD, cT, rn, cc, cc.renCs, aJ, aG, aI, aI.viewOks, aA, bn, bn.flatBs, ay, au, aH, ah, aX, bG, bG.keysBs, aT, ai, a8, bW, bj, cu, af, af.passKs, av, aY, ae, ae.lendKs, bT, cn, bM, bz, setInn, an, cW, cS, aR, bC, bN, cq, aC, az, Glob.gl, aU, cm, a0, bR, bl, ak, cG, cR, b0, cK, bO, am, am.ptrOnlys, aj, aD, bQ, aB, bp, bw, bP, aE, bB, cp, Nat.reduceBEq, undef]
    all_goals first | trivial | (split <;> trivial)
  · delta D.c9k3
    simp (maxSteps := 4000000) -implicitDefEqProofs only [rv9, e18, e19, e47, e32, e48, e49, e21, e54, e55, s1, s2, s3, ha, hb, hll, b1, b2, b3, hap, hao, hlx, bx, hA, Int.cast_ofNat_Int, Int.natCast_one, Int.natCast_zero, Int.reduceAdd, Int.reduceSub, Int.reduceMul, Int.reduceLT, Int.reduceLE, Int.reduceTMod, Int.reduceTDiv, Int.reduceNeg, Int.reduceEq, Nat.reducePow, Int.reducePow, ne_eq, not_false_eq_true, Ent.of0, Ent.of1, Ent.of2, Ent.of3, V, cr, bE, bh, bU, cM, c6, gt, lk, bS, cz, cI, bX, cg, cj, cj.subCs, cL, bt, bq, cD, aK, bf, a9, aF, aZ, bm, aM, a6, aV, cd, cO, cP, ar, aN, bZ, cJ, cH, cY, cQ, aQ, ag, ca, bK, zC, argS, be, ce, cU, cZ, ap, aO, ax, aw, bV, leC, cb, cC, bY, cV, cB, aL, aP, cN, aq, cF, bA, bA.viewCs, bF, bF.flatCs, aW, aW.LensOks, Value.oneCell', ↓reduceIte, ite_true, ite_false, if_true, if_false, Nat.reduceAdd, Nat.reduceSub, Nat.reduceMul, Nat.reduceEqDiff, Nat.reduceLT, Nat.reduceLeDiff, reduceCtorEq, Int.reduceToNat, forall_const, implies_true, a5, Ent.mk3, bk, bu, bH, bo, br, bL, a7, bv, bJ, bI, bg, co, bD, cT, rn, cc, cc.renCs, aJ, aG, aI, aI.viewOks, aA, bn, bn.flatBs, ay, au, aH, ah, aX, bG, bG.keysBs, aT, ai, a8, bW, bj, cu, af, af.passKs, av, aY, ae, ae.lendKs, bT, cn, bM, bz, setInn, an, cW, cS, aR, bC, bN, cq, aC, az, Glob.gl, aU, cm, a0, bR, bl, ak, cG, cR, b0, cK, bO, am, am.ptrOnlys, aj, aD, bQ, aB, bp, bw, bP, aE, bB, cp, Nat.reduceBEq, undef]
    all_goals first | trivial | (split <;> trivial)
theorem tk_restB1 (cx : Cx) (a b l : List (List Gs)) (f : TkF a b l) (hc : prErr a b = 0 ∧ matErr (applS a b) = 0 ∧ bounded (applS a b) ∧ prOut a b = applS a b ∧ apErr (applS a b) l = apErr a (applS b l) ∧ apOut (applS a b) l = apOut a (applS b l)) (za : ¬ symDetE a = 0) : SG Try.prog cx (be rv9 [] (enc true) []) [.c (.cut D.c9k3)] ⟨[(0, enc a), (1, enc b), (2, enc l), (7, enc (applS b l))], []⟩ := by
  obtain ⟨s1, s2, s3, ha, hb, hll, b1, b2, b3, hap, hao, hlx, bx, p1, -, -⟩ := id f
  obtain ⟨hA, q1, q2, q3, q4, q5⟩ := hc
  refine S_uncut (S_run [e19, e18, e47, e32, e48, e49, e21, e54, e55] 1000 ?_)
  delta D.c9k3
  simp (maxSteps := 4000000) -implicitDefEqProofs only [rv9, e18, e19, e47, e32, e48, e49, e21, e54, e55, s1, s2, s3, ha, hb, hll, b1, b2, b3, hap, hao, hlx, bx, hA, q1, q2, q3, q4, q5, za, Int.cast_ofNat_Int, Int.natCast_one, Int.natCast_zero, Int.reduceAdd, Int.reduceSub, Int.reduceMul, Int.reduceLT, Int.reduceLE, Int.reduceTMod, Int.reduceTDiv, Int.reduceNeg, Int.reduceEq, Nat.reducePow, Int.reducePow, ne_eq, not_false_eq_true, Ent.of0, Ent.of1, Ent.of2, Ent.of3, V, cr, bE, bh, bU, cM, c6, gt, lk, bS, cz, cI, bX, cg, cj, cj.subCs, cL, bt, bq, cD, aK, bf, a9, aF, aZ, bm, aM, a6, aV, cd, cO, cP, ar, aN, bZ, cJ, cH, cY, cQ, aQ, ag, ca, bK, zC, argS, be, ce, cU, cZ, ap, aO, ax, aw, bV, leC, cb, cC, bY, cV, cB, aL, aP, cN, aq, cF, bA, bA.viewCs, bF, bF.flatCs, aW, aW.LensOks, Value.oneCell', ↓reduceIte, ite_true, ite_false, if_true, if_false, Nat.reduceAdd, Nat.reduceSub, Nat.reduceMul, Nat.reduceEqDiff, Nat.reduceLT, Nat.reduceLeDiff, reduceCtorEq, Int.reduceToNat, forall_const, implies_true, a5, Ent.mk3, bk, bu, bH, bo, br, bL, a7, bv, bJ, bI, bg, co, bD, cT, rn, cc, cc.renCs, aJ, aG, aI, aI.viewOks, aA, bn, bn.flatBs, ay, au, aH, ah, aX, bG, bG.keysBs, aT, ai, a8, bW, bj, cu, af, af.passKs, av, aY, ae, ae.lendKs, bT, cn, bM, bz, setInn, an, cW, cS, aR, bC, bN, cq, aC, az, Glob.gl, aU, cm, a0, bR, bl, ak, cG, cR, b0, cK, bO, am, am.ptrOnlys, aj, aD, bQ, aB, bp, bw, bP, aE, bB, cp, Nat.reduceBEq, undef]
  all_goals first | trivial | (split <;> trivial)
theorem tk_restB2 (cx : Cx) (a b l : List (List Gs)) (f : TkF a b l) (hc : prErr a b = 0 ∧ matErr (applS a b) = 0 ∧ bounded (applS a b) ∧ prOut a b = applS a b ∧ apErr (applS a b) l = apErr a (applS b l) ∧ apOut (applS a b) l = apOut a (applS b l)) (za : symDetE a = 0) (zb : ¬ symDetE b = 0) : SG Try.prog cx (be rv9 [] (enc true) []) [.c (.cut D.c9k3)] ⟨[(0, enc a), (1, enc b), (2, enc l), (7, enc (applS b l))], []⟩ := by
  obtain ⟨s1, s2, s3, ha, hb, hll, b1, b2, b3, hap, hao, hlx, bx, p1, -, -⟩ := id f
  obtain ⟨hA, q1, q2, q3, q4, q5⟩ := hc
  refine S_uncut (S_run [e19, e18, e47, e32, e48, e49, e21, e54, e55] 1000 ?_)
  delta D.c9k3
  simp (maxSteps := 4000000) -implicitDefEqProofs only [rv9, e18, e19, e47, e32, e48, e49, e21, e54, e55, s1, s2, s3, ha, hb, hll, b1, b2, b3, hap, hao, hlx, bx, hA, q1, q2, q3, q4, q5, za, zb, Int.cast_ofNat_Int, Int.natCast_one, Int.natCast_zero, Int.reduceAdd, Int.reduceSub, Int.reduceMul, Int.reduceLT, Int.reduceLE, Int.reduceTMod, Int.reduceTDiv, Int.reduceNeg, Int.reduceEq, Nat.reducePow, Int.reducePow, ne_eq, not_false_eq_true, Ent.of0, Ent.of1, Ent.of2, Ent.of3, V, cr, bE, bh, bU, cM, c6, gt, lk, bS, cz, cI, bX, cg, cj, cj.subCs, cL, bt, bq, cD, aK, bf, a9, aF, aZ, bm, aM, a6, aV, cd, cO, cP, ar, aN, bZ, cJ, cH, cY, cQ, aQ, ag, ca, bK, zC, argS, be, ce, cU, cZ, ap, aO, ax, aw, bV, leC, cb, cC, bY, cV, cB, aL, aP, cN, aq, cF, bA, bA.viewCs, bF, bF.flatCs, aW, aW.LensOks, Value.oneCell', ↓reduceIte, ite_true, ite_false, if_true, if_false, Nat.reduceAdd, Nat.reduceSub, Nat.reduceMul, Nat.reduceEqDiff, Nat.reduceLT, Nat.reduceLeDiff, reduceCtorEq, Int.reduceToNat, forall_const, implies_true, a5, Ent.mk3, bk, bu, bH, bo, br, bL, a7, bv, bJ, bI, bg, co, bD, cT, rn, cc, cc.renCs, aJ, aG, aI, aI.viewOks, aA, bn, bn.flatBs, ay, au, aH, ah, aX, bG, bG.keysBs, aT, ai, a8, bW, bj, cu, af, af.passKs, av, aY, ae, ae.lendKs, bT, cn, bM, bz, setInn, an, cW, cS, aR, bC, bN, cq, aC, az, Glob.gl, aU, cm, a0, bR, bl, ak, cG, cR, b0, cK, bO, am, am.ptrOnlys, aj, aD, bQ, aB, bp, bw, bP, aE, bB, cp, Nat.reduceBEq, undef]
  all_goals first | trivial | (split <;> trivial)
theorem tk_restB3 (cx : Cx) (a b l : List (List Gs)) (f : TkF a b l) (hc : prErr a b = 0 ∧ matErr (applS a b) = 0 ∧ bounded (applS a b) ∧ prOut a b = applS a b ∧ apErr (applS a b) l = apErr a (applS b l) ∧ apOut (applS a b) l = apOut a (applS b l)) (za : symDetE a = 0) (zb : symDetE b = 0) (zp : ¬ symDetE (applS a b) = 0) : SG Try.prog cx (be rv9 [] (enc true) []) [.c (.cut D.c9k3)] ⟨[(0, enc a), (1, enc b), (2, enc l), (7, enc (applS b l))], []⟩ := by
  obtain ⟨s1, s2, s3, ha, hb, hll, b1, b2, b3, hap, hao, hlx, bx, p1, -, -⟩ := id f
  obtain ⟨hA, q1, q2, q3, q4, q5⟩ := hc
  refine S_uncut (S_run [e19, e18, e47, e32, e48, e49, e21, e54, e55] 1000 ?_)
  delta D.c9k3
  simp (maxSteps := 4000000) -implicitDefEqProofs only [rv9, e18, e19, e47, e32, e48, e49, e21, e54, e55, s1, s2, s3, ha, hb, hll, b1, b2, b3, hap, hao, hlx, bx, hA, q1, q2, q3, q4, q5, za, zb, zp, Int.cast_ofNat_Int, Int.natCast_one, Int.natCast_zero, Int.reduceAdd, Int.reduceSub, Int.reduceMul, Int.reduceLT, Int.reduceLE, Int.reduceTMod, Int.reduceTDiv, Int.reduceNeg, Int.reduceEq, Nat.reducePow, Int.reducePow, ne_eq, not_false_eq_true, Ent.of0, Ent.of1, Ent.of2, Ent.of3, V, cr, bE, bh, bU, cM, c6, gt, lk, bS, cz, cI, bX, cg, cj, cj.subCs, cL, bt, bq, cD, aK, bf, a9, aF, aZ, bm, aM, a6, aV, cd, cO, cP, ar, aN, bZ, cJ, cH, cY, cQ, aQ, ag, ca, bK, zC, argS, be, ce, cU, cZ, ap, aO, ax, aw, bV, leC, cb, cC, bY, cV, cB, aL, aP, cN, aq, cF, bA, bA.viewCs, bF, bF.flatCs, aW, aW.LensOks, Value.oneCell', ↓reduceIte, ite_true, ite_false, if_true, if_false, Nat.reduceAdd, Nat.reduceSub, Nat.reduceMul, Nat.reduceEqDiff, Nat.reduceLT, Nat.reduceLeDiff, reduceCtorEq, Int.reduceToNat, forall_const, implies_true, a5, Ent.mk3, bk, bu, bH, bo, br, bL, a7, bv, bJ, bI, bg, co, bD, cT, rn, cc, cc.renCs, aJ, aG, aI, aI.viewOks, aA, bn, bn.flatBs, ay, au, aH, ah, aX, bG, bG.keysBs, aT, ai, a8, bW, bj, cu, af, af.passKs, av, aY, ae, ae.lendKs, bT, cn, bM, bz, setInn, an, cW, cS, aR, bC, bN, cq, aC, az, Glob.gl, aU, cm, a0, bR, bl, ak, cG, cR, b0, cK, bO, am, am.ptrOnlys, aj, aD, bQ, aB, bp, bw, bP, aE, bB, cp, Nat.reduceBEq, undef]
  all_goals first | trivial | (split <;> trivial)
theorem tk_restB4 (cx : Cx) (a b l : List (List Gs)) (f : TkF a b l) (hc : prErr a b = 0 ∧ matErr (applS a b) = 0 ∧ bounded (applS a b) ∧ prOut a b = applS a b ∧ apErr (applS a b) l = apErr a (applS b l) ∧ apOut (applS a b) l = apOut a (applS b l)) (za : symDetE a = 0) (zb : symDetE b = 0) (zp : symDetE (applS a b) = 0) : SG Try.prog cx (be rv9 [] (enc true) []) [.c (.cut D.c9k3)] ⟨[(0, enc a), (1, enc b), (2, enc l), (7, enc (applS b l))], []⟩ := by
  obtain ⟨s1, s2, s3, ha, hb, hll, b1, b2, b3, hap, hao, hlx, bx, p1, -, -⟩ := id f
  obtain ⟨hA, q1, q2, q3, q4, q5⟩ := hc
  obtain ⟨r1, r2, r3, r4, r5, r6, r7, r8⟩ := f.det za zb zp q1
  refine S_uncut (S_run [e19, e18, e47, e32, e48, e49, e21, e54, e55] 1000 ?_)
  delta D.c9k3
  simp (maxSteps := 4000000) -implicitDefEqProofs only [rv9, e18, e19, e47, e32, e48, e49, e21, e54, e55, s1, s2, s3, ha, hb, hll, b1, b2, b3, hap, hao, hlx, bx, hA, q1, q2, q3, q4, q5, za, zb, zp, r1, r2, r3, r4, r5, r6, r7, r8, Int.cast_ofNat_Int, Int.natCast_one, Int.natCast_zero, Int.reduceAdd, Int.reduceSub, Int.reduceMul, Int.reduceLT, Int.reduceLE, Int.reduceTMod, Int.reduceTDiv, Int.reduceNeg, Int.reduceEq, Nat.reducePow, Int.reducePow, ne_eq, not_false_eq_true, Ent.of0, Ent.of1, Ent.of2, Ent.of3, V, cr, bE, bh, bU, cM, c6, gt, lk, bS, cz, cI, bX, cg, cj, cj.subCs, cL, bt, bq, cD, aK, bf, a9, aF, aZ, bm, aM, a6, aV, cd, cO, cP, ar, aN, bZ, cJ, cH, cY, cQ, aQ, ag, ca, bK, zC, argS, be, ce, cU, cZ, ap, aO, ax, aw, bV, leC, cb, cC, bY, cV, cB, aL, aP, cN, aq, cF, bA, bA.viewCs, bF, bF.flatCs, aW, aW.LensOks, Value.oneCell', ↓reduceIte, ite_true, ite_false, if_true, if_false, Nat.reduceAdd, Nat.reduceSub, Nat.reduceMul, Nat.reduceEqDiff, Nat.reduceLT, Nat.reduceLeDiff, reduceCtorEq, Int.reduceToNat, forall_const, implies_true, a5, Ent.mk3, bk, bu, bH, bo, br, bL, a7, bv, bJ, bI, bg, co, bD, cT, rn, cc, cc.renCs, aJ, aG, aI, aI.viewOks, aA, bn, bn.flatBs, ay, au, aH, ah, aX, bG, bG.keysBs, aT, ai, a8, bW, bj, cu, af, af.passKs, av, aY, ae, ae.lendKs, bT, cn, bM, bz, setInn, an, cW, cS, aR, bC, bN, cq, aC, az, Glob.gl, aU, cm, a0, bR, bl, ak, cG, cR, b0, cK, bO, am, am.ptrOnlys, aj, aD, bQ, aB, bp, bw, bP, aE, bB, cp, Nat.reduceBEq, undef]
  all_goals first | trivial | (split <;> trivial)
theorem tk_rest (cx : Cx) (a b l : List (List Gs)) (f : TkF a b l) : SG Try.prog cx (be rv9 [] (enc true) []) [.c (.cut D.c9k3)] ⟨[(0, enc a), (1, enc b), (2, enc l), (7, enc (applS b l))], []⟩ := by
  rcases f.hcase with hc | hc | hc
  · exact tk_restA cx a b l f (.inl hc)
  · exact tk_restA cx a b l f (.inr hc)
  · by_cases za : symDetE a = 0
    · by_cases zb : symDetE b = 0
      · by_cases zp : symDetE (applS a b) = 0
        · exact tk_restB4 cx a b l f hc za zb zp
        · exact tk_restB3 cx a b l f hc za zb zp
      · exact tk_restB2 cx a b l f hc za zb
    · exact tk_restB1 cx a b l f hc za
theorem tk_ne (a b l : List (List Gs)) (f : TkF a b l) (heq : ¬ eqE b (applS b l) = 0) : FC Try.prog 9 [enc a, enc b, enc l] [] (enc true) [] := by
  obtain ⟨s1, s2, s3, ha, hb, hll, b1, b2, b3, hap, hao, hlx, bx, p1, -, -⟩ := id f
  refine fc_intro' D.is9 (by simp) (fun cx hl => S_run [e15, e16, e19, e51, e18, e47, e17, e32, e48, e49, e21, e54, e55] 1500 ?_)
  have hR := tk_rest cx a b l f
  simp only [enc_list, sz_list] at hR
  delta D.c9
  simp (maxSteps := 4000000) -implicitDefEqProofs only [D.rv9, e15, e16, e18, e19, e51, e47, e17, e32, e48, e49, e21, e54, e55, s1, s2, s3, ha, hb, hll, b1, b2, b3, hap, hao, hlx, bx, heq, Int.cast_ofNat_Int, Int.natCast_one, Int.natCast_zero, Int.reduceAdd, Int.reduceSub, Int.reduceMul, Int.reduceLT, Int.reduceLE, Int.reduceTMod, Int.reduceTDiv, Int.reduceNeg, Int.reduceEq, Nat.reducePow, Int.reducePow, ne_eq, not_false_eq_true, Ent.of0, Ent.of1, Ent.of2, Ent.of3, V, cr, bE, bh, bU, cM, c6, gt, lk, bS, cz, cI, bX, cg, cj, cj.subCs, cL, bt, bq, cD, aK, bf, a9, aF, aZ, bm, aM, a6, aV, cd, cO, cP, ar, aN, bZ, cJ, cH, cY, cQ, aQ, ag, ca, bK, zC, argS, be, ce, cU, cZ, ap, aO, ax, aw, bV, leC, cb, cC, bY, cV, cB, aL, aP, cN, aq, cF, bA, bA.viewCs, bF, bF.flatCs, aW, aW.LensOks, Value.oneCell', ↓reduceIte, ite_true, ite_false, if_true, if_false, Nat.reduceAdd, Nat.reduceSub, Nat.reduceMul, Nat.reduceEqDiff, Nat.reduceLT, Nat.reduceLeDiff, reduceCtorEq, Int.reduceToNat, forall_const, implies_true, a5, Ent.mk3, bk, bu, bH, bo, br, bL, a7, bv, bJ, bI, bg, co, bD, cT, rn, cc, cc.renCs, aJ, aG, aI, aI.viewOks, aA, bn, bn.flatBs, ay, au, aH, ah, aX, bG, bG.keysBs, aT, ai, a8, bW, bj, cu, af, af.passKs, av, aY, ae, ae.lendKs, bT, cn, bM, bz, setInn, an, cW, cS, aR, bC, bN, cq, aC, az, Glob.gl, aU, cm, a0, bR, bl, ak, cG, cR, b0, cK, bO, am, am.ptrOnlys, aj, aD, bQ, aB, bp, bw, bP, aE, bB, cp, Nat.reduceBEq, undef]
  exact hR
theorem tk_eq (a b l : List (List Gs)) (f : TkF a b l) (heq : eqE b (applS b l) = 0) : FC Try.prog 9 [enc a, enc b, enc l] [] (enc true) [] := by
  obtain ⟨s1, s2, s3, ha, hb, hll, b1, b2, b3, hap, hao, hlx, bx, p1, -, -⟩ := id f
  refine fc_intro' D.is9 (by simp) (fun cx hl => S_run [e15, e16, e19, e51, e18, e47, e17, e32, e48, e49, e21, e54, e55] 1500 ?_)
  have hR := tk_rest cx a b l f
  obtain ⟨g1, g2, g3⟩ := equal_back hll heq p1
  obtain ⟨l1, l2, l3⟩ := lay_of hll
  have gsm := eqOut_small heq
  obtain ⟨y1, y2, y3⟩ := scaled_facts g3 gsm
  clear g3 gsm
  have y1' : ((eqOut b (applS b l)).length : Int) = (l.length : Int) := by omega
  delta D.c9
  simp (maxSteps := 4000000) -implicitDefEqProofs only [D.rv9, e15, e16, e18, e19, e51, e47, e17, e32, e48, e49, e21, e54, e55, s1, s2, s3, ha, hb, hll, b1, b2, b3, hap, hao, hlx, bx, heq, g1, g2, y1', true_and, decide_true, Bool.not_true, Int.cast_ofNat_Int, Int.natCast_one, Int.natCast_zero, Int.reduceAdd, Int.reduceSub, Int.reduceMul, Int.reduceLT, Int.reduceLE, Int.reduceTMod, Int.reduceTDiv, Int.reduceNeg, Int.reduceEq, Nat.reducePow, Int.reducePow, ne_eq, not_false_eq_true, Ent.of0, Ent.of1, Ent.of2, Ent.of3, V, cr, bE, bh, bU, cM, c6, gt, lk, bS, cz, cI, bX, cg, cj, cj.subCs, cL, bt, bq, cD, aK, bf, a9, aF, aZ, bm, aM, a6, aV, cd, cO, cP, ar, aN, bZ, cJ, cH, cY, cQ, aQ, ag, ca, bK, zC, argS, be, ce, cU, cZ, ap, aO, ax, aw, bV, leC, cb, cC, bY, cV, cB, aL, aP, cN, aq, cF, bA, bA.viewCs, bF, bF.flatCs, aW, aW.LensOks, Value.oneCell', ↓reduceIte, ite_true, ite_false, if_true, if_false, Nat.reduceAdd, Nat.reduceSub, Nat.reduceMul, Nat.reduceEqDiff, Nat.reduceLT, Nat.reduceLeDiff, reduceCtorEq, Int.reduceToNat, forall_const, implies_true, a5, Ent.mk3, bk, bu, bH, bo, br, bL, a7, bv, bJ, bI, bg, co, bD, cT, rn, cc, cc.renCs, aJ, aG, aI, aI.viewOks, aA, bn, bn.flatBs, ay, au, aH, ah, aX, bG, bG.keysBs, aT, ai, a8, bW, bj, cu, af, af.passKs, av, aY, ae, ae.lendKs, bT, cn, bM, bz, setInn, an, cW, cS, aR, bC, bN, cq, aC, az, Glob.gl, aU, cm, a0, bR, bl, ak, cG, cR, b0, cK, bO, am, am.ptrOnlys, aj, aD, bQ, aB, bp, bw, bP, aE, bB, cp, Nat.reduceBEq, undef]
  generalize eqOut b (applS b l) = Y at *
  generalize gainS b = G at *
  refine S_forU Y.length (fun i => [(12, .s (.int .i64 (i : Int)))]) (fun _ => []) (fun _ => True) trivial ?_ (fun i hi _ => S_run [] 1500 ?_)
  · simp (maxSteps := 4000000) -implicitDefEqProofs only [Ent.of0, Ent.of1, Ent.of2, Ent.of3, V, cr, bE, bh, bU, cM, c6, gt, lk, bS, cz, cI, bX, cg, cj, cj.subCs, cL, bt, bq, cD, aK, bf, a9, aF, aZ, bm, aM, a6, aV, cd, cO, cP, ar, aN, bZ, cJ, cH, cY, cQ, aQ, ag, ca, bK, zC, argS, be, ce, cU, cZ, ap, aO, ax, aw, bV, leC, cb, cC, bY, cV, cB, aL, aP, cN, aq, cF, bA, bA.viewCs, bF, bF.flatCs, aW, aW.LensOks, Value.oneCell', ↓reduceIte, ite_true, ite_false, if_true, if_false, Nat.reduceAdd, Nat.reduceSub, Nat.reduceMul, Nat.reduceEqDiff, Nat.reduceLT, Nat.reduceLeDiff, reduceCtorEq, Int.reduceToNat, forall_const, implies_true, a5, Ent.mk3, bk, bu, bH, bo, br, bL, a7, bv, bJ, bI, bg, co, bD, cT, rn, cc, cc.renCs, aJ, aG, aI, aI.viewOks, aA, bn, bn.flatBs, ay, au, aH, ah, aX, bG, bG.keysBs, aT, ai, a8, bW, bj, cu, af, af.passKs, av, aY, ae, ae.lendKs, bT, cn, bM, bz, setInn, an, cW, cS, aR, bC, bN, cq, aC, az, Glob.gl, aU, cm, a0, bR, bl, ak, cG, cR, b0, cK, bO, am, am.ptrOnlys, aj, aD, bQ, aB, bp, bw, bP, aE, bB, cp, Nat.reduceBEq, undef]; simp
  · by_cases h : i < Y.length
    · have hi2 : (i : Int) < (Y.length : Int) := by omega
      have hi3 : (i : Int) < (l.length : Int) := by omega
      have hil : i < l.length := by omega
      have y2' : ((Y.getD i []).length : Int) = ((l.getD i []).length : Int) := by rw [y2 i hil]
      delta D.c9l2
      simp (maxSteps := 4000000) -implicitDefEqProofs only [getD_list, h, hi2, hi3, hil, y2', Ent.of0, Ent.of1, Ent.of2, Ent.of3, V, cr, bE, bh, bU, cM, c6, gt, lk, bS, cz, cI, bX, cg, cj, cj.subCs, cL, bt, bq, cD, aK, bf, a9, aF, aZ, bm, aM, a6, aV, cd, cO, cP, ar, aN, bZ, cJ, cH, cY, cQ, aQ, ag, ca, bK, zC, argS, be, ce, cU, cZ, ap, aO, ax, aw, bV, leC, cb, cC, bY, cV, cB, aL, aP, cN, aq, cF, bA, bA.viewCs, bF, bF.flatCs, aW, aW.LensOks, Value.oneCell', ↓reduceIte, ite_true, ite_false, if_true, if_false, Nat.reduceAdd, Nat.reduceSub, Nat.reduceMul, Nat.reduceEqDiff, Nat.reduceLT, Nat.reduceLeDiff, reduceCtorEq, Int.reduceToNat, forall_const, implies_true, a5, Ent.mk3, bk, bu, bH, bo, br, bL, a7, bv, bJ, bI, bg, co, bD, cT, rn, cc, cc.renCs, aJ, aG, aI, aI.viewOks, aA, bn, bn.flatBs, ay, au, aH, ah, aX, bG, bG.keysBs, aT, ai, a8, bW, bj, cu, af, af.passKs, av, aY, ae, ae.lendKs, bT, cn, bM, bz, setInn, an, cW, cS, aR, bC, bN, cq, aC, az, Glob.gl, aU, cm, a0, bR, bl, ak, cG, cR, b0, cK, bO, am, am.ptrOnlys, aj, aD, bQ, aB, bp, bw, bP, aE, bB, cp, Nat.reduceBEq, undef]
      refine ⟨by omega, by omega, ?_⟩
      refine S_forU (Y.getD i []).length (fun j => [(13, .s (.int .i64 (j : Int)))]) (fun _ => []) (fun _ => True) trivial ?_ (fun j hj _ => S_run [] 1500 ?_)
      · simp (maxSteps := 4000000) -implicitDefEqProofs only [Ent.of0, Ent.of1, Ent.of2, Ent.of3, V, cr, bE, bh, bU, cM, c6, gt, lk, bS, cz, cI, bX, cg, cj, cj.subCs, cL, bt, bq, cD, aK, bf, a9, aF, aZ, bm, aM, a6, aV, cd, cO, cP, ar, aN, bZ, cJ, cH, cY, cQ, aQ, ag, ca, bK, zC, argS, be, ce, cU, cZ, ap, aO, ax, aw, bV, leC, cb, cC, bY, cV, cB, aL, aP, cN, aq, cF, bA, bA.viewCs, bF, bF.flatCs, aW, aW.LensOks, Value.oneCell', ↓reduceIte, ite_true, ite_false, if_true, if_false, Nat.reduceAdd, Nat.reduceSub, Nat.reduceMul, Nat.reduceEqDiff, Nat.reduceLT, Nat.reduceLeDiff, reduceCtorEq, Int.reduceToNat, forall_const, implies_true, a5, Ent.mk3, bk, bu, bH, bo, br, bL, a7, bv, bJ, bI, bg, co, bD, cT, rn, cc, cc.renCs, aJ, aG, aI, aI.viewOks, aA, bn, bn.flatBs, ay, au, aH, ah, aX, bG, bG.keysBs, aT, ai, a8, bW, bj, cu, af, af.passKs, av, aY, ae, ae.lendKs, bT, cn, bM, bz, setInn, an, cW, cS, aR, bC, bN, cq, aC, az, Glob.gl, aU, cm, a0, bR, bl, ak, cG, cR, b0, cK, bO, am, am.ptrOnlys, aj, aD, bQ, aB, bp, bw, bP, aE, bB, cp, Nat.reduceBEq, undef]; simp
      · by_cases hjl : j < (Y.getD i []).length
        · have hj2 : (j : Int) < ((Y.getD i []).length : Int) := by omega
          have hj3 : (j : Int) < ((l.getD i []).length : Int) := by omega
          have hjk : j < (l.getD i []).length := by omega
          obtain ⟨w1, w2, w3⟩ := y3 i hil j hjk
          delta D.c9l1
          simp (maxSteps := 4000000) -implicitDefEqProofs only [getD_list, h, hi2, hi3, hil, hjl, hj2, hj3, hjk, w1, w2, w3, InR, Ent.of0, Ent.of1, Ent.of2, Ent.of3, V, cr, bE, bh, bU, cM, c6, gt, lk, bS, cz, cI, bX, cg, cj, cj.subCs, cL, bt, bq, cD, aK, bf, a9, aF, aZ, bm, aM, a6, aV, cd, cO, cP, ar, aN, bZ, cJ, cH, cY, cQ, aQ, ag, ca, bK, zC, argS, be, ce, cU, cZ, ap, aO, ax, aw, bV, leC, cb, cC, bY, cV, cB, aL, aP, cN, aq, cF, bA, bA.viewCs, bF, bF.flatCs, aW, aW.LensOks, Value.oneCell', ↓reduceIte, ite_true, ite_false, if_true, if_false, Nat.reduceAdd, Nat.reduceSub, Nat.reduceMul, Nat.reduceEqDiff, Nat.reduceLT, Nat.reduceLeDiff, reduceCtorEq, Int.reduceToNat, forall_const, implies_true, a5, Ent.mk3, bk, bu, bH, bo, br, bL, a7, bv, bJ, bI, bg, co, bD, cT, rn, cc, cc.renCs, aJ, aG, aI, aI.viewOks, aA, bn, bn.flatBs, ay, au, aH, ah, aX, bG, bG.keysBs, aT, ai, a8, bW, bj, cu, af, af.passKs, av, aY, ae, ae.lendKs, bT, cn, bM, bz, setInn, an, cW, cS, aR, bC, bN, cq, aC, az, Glob.gl, aU, cm, a0, bR, bl, ak, cG, cR, b0, cK, bO, am, am.ptrOnlys, aj, aD, bQ, aB, bp, bw, bP, aE, bB, cp, Nat.reduceBEq, undef]
          have hle := (l3 _ (getD_mem [] hil)).2.2.1
          have hye := y2 i hil
          and_intros <;> omega
        · have hj2 : ¬ (j : Int) < ((Y.getD i []).length : Int) := by omega
          have hj3 : j = (Y.getD i []).length := by omega
          delta D.c9l1
          simp (maxSteps := 4000000) -implicitDefEqProofs only [getD_list, h, hi2, hi3, hil, hj2, InR, Ent.of0, Ent.of1, Ent.of2, Ent.of3, V, cr, bE, bh, bU, cM, c6, gt, lk, bS, cz, cI, bX, cg, cj, cj.subCs, cL, bt, bq, cD, aK, bf, a9, aF, aZ, bm, aM, a6, aV, cd, cO, cP, ar, aN, bZ, cJ, cH, cY, cQ, aQ, ag, ca, bK, zC, argS, be, ce, cU, cZ, ap, aO, ax, aw, bV, leC, cb, cC, bY, cV, cB, aL, aP, cN, aq, cF, bA, bA.viewCs, bF, bF.flatCs, aW, aW.LensOks, Value.oneCell', ↓reduceIte, ite_true, ite_false, if_true, if_false, Nat.reduceAdd, Nat.reduceSub, Nat.reduceMul, Nat.reduceEqDiff, Nat.reduceLT, Nat.reduceLeDiff, reduceCtorEq, Int.reduceToNat, forall_const, implies_true, a5, Ent.mk3, bk, bu, bH, bo, br, bL, a7, bv, bJ, bI, bg, co, bD, cT, rn, cc, cc.renCs, aJ, aG, aI, aI.viewOks, aA, bn, bn.flatBs, ay, au, aH, ah, aX, bG, bG.keysBs, aT, ai, a8, bW, bj, cu, af, af.passKs, av, aY, ae, ae.lendKs, bT, cn, bM, bz, setInn, an, cW, cS, aR, bC, bN, cq, aC, az, Glob.gl, aU, cm, a0, bR, bl, ak, cG, cR, b0, cK, bO, am, am.ptrOnlys, aj, aD, bQ, aB, bp, bw, bP, aE, bB, cp, Nat.reduceBEq, undef]
          and_intros <;> omega
    · have hi2 : ¬ (i : Int) < (Y.length : Int) := by omega
      delta D.c9l2
      simp (maxSteps := 4000000) -implicitDefEqProofs only [hi2, InR, Ent.of0, Ent.of1, Ent.of2, Ent.of3, V, cr, bE, bh, bU, cM, c6, gt, lk, bS, cz, cI, bX, cg, cj, cj.subCs, cL, bt, bq, cD, aK, bf, a9, aF, aZ, bm, aM, a6, aV, cd, cO, cP, ar, aN, bZ, cJ, cH, cY, cQ, aQ, ag, ca, bK, zC, argS, be, ce, cU, cZ, ap, aO, ax, aw, bV, leC, cb, cC, bY, cV, cB, aL, aP, cN, aq, cF, bA, bA.viewCs, bF, bF.flatCs, aW, aW.LensOks, Value.oneCell', ↓reduceIte, ite_true, ite_false, if_true, if_false, Nat.reduceAdd, Nat.reduceSub, Nat.reduceMul, Nat.reduceEqDiff, Nat.reduceLT, Nat.reduceLeDiff, reduceCtorEq, Int.reduceToNat, forall_const, implies_true, a5, Ent.mk3, bk, bu, bH, bo, br, bL, a7, bv, bJ, bI, bg, co, bD, cT, rn, cc, cc.renCs, aJ, aG, aI, aI.viewOks, aA, bn, bn.flatBs, ay, au, aH, ah, aX, bG, bG.keysBs, aT, ai, a8, bW, bj, cu, af, af.passKs, av, aY, ae, ae.lendKs, bT, cn, bM, bz, setInn, an, cW, cS, aR, bC, bN, cq, aC, az, Glob.gl, aU, cm, a0, bR, bl, ak, cG, cR, b0, cK, bO, am, am.ptrOnlys, aj, aD, bQ, aB, bp, bw, bP, aE, bB, cp, Nat.reduceBEq, undef]
      exact hR
theorem SymbolTakenOff_c (a b l : List (List Gs)) : FC Try.prog 9 [enc a, enc b, enc l] [] (enc true) [] := by
  by_cases h : smallL a = true ∧ smallL b = true ∧ smallL l = true ∧ matErr a = 0 ∧ matErr b = 0 ∧ layErr l = 0
  · by_cases hp : prodE b l 100000000 = 0
    · have f := tk_facts a b l h hp
      by_cases heq : eqE b (applS b l) = 0
      · exact tk_eq a b l f heq
      · exact tk_ne a b l f heq
    · exact tk_err a b l h hp
  · exact tk_bad a b l h
end Go.Proofs.Ytfgpbmjmoobcnaa
end
section
open Go Go.Am
open Go.Am.Dat (cells)
namespace Go.Proofs.Ytfgpbmjmoobcnaa
open Go.ChangeShapes Go.WideShapes Go.ChangeAt Go.RowKit
set_option linter.unusedVariables false
theorem own : ownKnob Try.prog.godebug = none := by kernel_rfl
theorem laidOut : laidOutB Try.prog = true := by kernel_rfl
theorem glob0 : Glob.gl Try.prog = [] := rfl
theorem rInt : ReadsAs Try.prog 3 Int := ReadsAs.int Try.underlying3 (by kernel_rfl)
theorem rGauss : ReadsAs Try.prog 48 Gs := by
  refine ⟨by kernel_rfl, by decide, fun en w sp fuel cs x h => ?_⟩
  obtain ⟨l, a, ha, h1⟩ := field_rd rInt Try.underlying48 h 0 rfl rfl
  obtain ⟨_, b, hb, h2⟩ := field_rd rInt Try.underlying48 h 1 rfl rfl
  refine ⟨⟨a, b⟩, rfl, l.trans (by kernel_rfl), fun j c hj => ?_⟩
  match j, hj with
  | 0, hj => cases hj; exact h1 0 _ rfl
  | 1, hj => cases hj; exact h2 0 _ rfl
theorem rGausses : ReadsAs Try.prog 35 (List Gs) := ReadsAs.list rGauss Try.underlying35 (by kernel_rfl)
theorem rGss : ReadsAs Try.prog 22 (List (List Gs)) := ReadsAs.list rGausses Try.underlying22 (by kernel_rfl)
set_option maxRecDepth 100000 in
theorem lifted9 (os : Os) (started : os.Started) (H : Type) (en : TypeId × Value → H) :
    ReturnsInHanded {} Try.checked os 9 .any (Rows.symbolTakenOffSpec.pre6 en Try.prog Try.f9 Rows.symbolTakenOffRow.domain false) (Rows.symbolTakenOffSpec.post en Try.prog Try.f9 false true false false) := by
  refine returnsInHanded_of_change (C := Try.checked) own started (by kernel_rfl) Try.func9
    (ChangeSpec.witness6 (enc := en) (C := Try.checked) false ⟨#[], #[.slice none 0 0, .slice none 0 0, .slice none 0 0], []⟩ 8 (by kernel_rfl) (by kernel_rfl) (by kernel_rfl) (by kernel_rfl)) ?_
  intro W base args ds gs before hval0 hW hcnd _
  have hval : ∀ (j : Nat) t v, Try.f9.params[j]? = some t → args[j]? = some v → Value.okWide Try.prog W .any base t v := hval0
  have hW' := hW
  obtain ⟨p, q, hA0, hV, rfl, hfz, hnd⟩ := hW
  have hA : DataW.TrodAll en Try.prog W 0 (fun _ => true) true Try.f9.params.toList args.toList ds p := hA0
  rw [Try.params9] at hA hval
  obtain ⟨v0, vs0, d0, ds0, p0, q0, hargs, rfl, rfl, h0, r0⟩ := trodAll_cons hA
  obtain ⟨v1, vs1, d1, ds1, p1, q1, rfl, rfl, rfl, h1, r1⟩ := trodAll_cons r0
  obtain ⟨v2, vs2, d2, ds2, p2, q2, rfl, rfl, rfl, h2, r2⟩ := trodAll_cons r1
  obtain ⟨rfl, rfl, rfl⟩ := trodAll_nil r2
  obtain rfl : args = #[v0, v1, v2] := by cases args; simp_all
  obtain ⟨rfl, rfl⟩ := trodVars_none hV
  have lt0 : ∀ x ∈ p0, x.block < W.heap.size := by obtain ⟨m, hm⟩ := h0; exact DataW.trod_lt m _ _ _ hm
  have lt1 : ∀ x ∈ p1, x.block < W.heap.size := by obtain ⟨m, hm⟩ := h1; exact DataW.trod_lt m _ _ _ hm
  have lt2 : ∀ x ∈ p2, x.block < W.heap.size := by obtain ⟨m, hm⟩ := h2; exact DataW.trod_lt m _ _ _ hm
  obtain ⟨x0, hx0⟩ := rGss.arg Try.underlying22 (hval 0 22 v0 rfl rfl) h0
  obtain ⟨x1, hx1⟩ := rGss.arg Try.underlying22 (hval 1 22 v1 rfl rfl) h1
  obtain ⟨x2, hx2⟩ := rGss.arg Try.underlying22 (hval 2 22 v2 rfl rfl) h2
  clear hA0 hval0
  refine (law_walk glob0 (SymbolTakenOff_c x0 x1 x2) (W := W) (vs := #[v0, v1, v2]) rfl (fun j c hj E => ?_)).mono fun e W' ⟨he, bel⟩ => ?_
  · match j, hj with
    | 0, hj => cases hj; exact hx0 E
    | 1, hj => cases hj; exact hx1 E
    | 2, hj => cases hj; exact hx2 E
  · subst he
    exact ⟨_, rfl, _, _, _, [], _, [], hW', trodAll_mk1 (shut_bool Try.underlying4 _), (trodAll_cons_mk (Below.trod laidOut (by kernel_rfl) (of_decide_eq_true (by kernel_rfl)) h0 bel lt0) (trodAll_cons_mk (Below.trod laidOut (by kernel_rfl) (of_decide_eq_true (by kernel_rfl)) h1 bel lt1) (trodAll_cons_mk (Below.trod laidOut (by kernel_rfl) (of_decide_eq_true (by kernel_rfl)) h2 bel lt2) trodAll_mk0))), rfl, bel.frame _, fun h => by cases h⟩
theorem over9 : Rows.symbolTakenOffRow.holds Try.pinned (OpenSpec.ofChange Rows.symbolTakenOffSpec) :=
  OpenClaim.holds_of_wide 9 Try.f9 rfl rfl rfl rfl rfl rfl rfl ⟨rfl, rfl, rfl, rfl, rfl⟩ rfl rfl rfl rfl rfl (by kernel_rfl) Try.func9 (by kernel_rfl)
    (of_decide_eq_true (by kernel_rfl)) (by unfold Func.isWrapper; first | (rw [if_pos (by decide +kernel)]; kernel_rfl) | (rw [if_neg (by decide +kernel)]; exact ⟨rfl, rfl⟩))
    (fun os started H en _ => lifted9 os started H en)
theorem SymbolTakenOff_holds : Rows.SymbolTakenOffSaid := over9
#print axioms SymbolTakenOff_holds
end Go.Proofs.Ytfgpbmjmoobcnaa
end
