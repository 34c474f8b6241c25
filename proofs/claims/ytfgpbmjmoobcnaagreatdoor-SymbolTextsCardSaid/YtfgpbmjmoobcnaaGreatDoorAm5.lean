/- Part 5 of the proof of: SymbolTexts returns true for every input and never panics: the text of symbols, and the symbols with any text, or the errors, are as the reference says; right symbols are read back; conditions: those of the given statement, that the library variables it lists hold what their initialisers lay. -/
import Derived.Lib.AtoiTie
import Derived.Lib.AtoiAllCases
import Derived.Test.YtfgpbmjmoobcnaaGreatDoorAm4
set_option linter.all false
section
open Go Go.Am
open Go.Am.Dat (cells)
namespace Go.Proofs.YtfgpbmjmoobcnaaGreatDoor
set_option maxHeartbeats 4000000
set_option maxRecDepth 100000
set_option linter.unusedSimpArgs false
theorem min_c (l : List Int) (h0 : 0 < l.length) : FC Tryz.prog 70 [enc l] [] (enc (minS l)) [] := by
  obtain ⟨x, t, rfl⟩ : ∃ x t, l = x :: t := by cases l with | nil => simp at h0 | cons x t => exact ⟨x, t, rfl⟩
  refine fc_intro' is70 (by simp) (fun cx hl => S_run [] 800 ?_)
  simp only [V, cc, bE, bN, bR, cV, cT, gt, lk, co, cC, cJ, cd, ca, bV, bV.subCs, cO, bu, bF, bZ, aV, bt, bh, aW, bM, bK, aH, a7, aX, cr, dd, cY, aq, aw, bT, cI, cb, cP, cU, aP, am, bQ, bJ, zC, argS, bO, ce, da, cR, ai, aE, aO, aA, cG, leC, cn, b0, bW, dc, bX, aR, aF, cZ, ah, cL, bf, bf.viewCs, bA, bA.flatCs, aK, aK.LensOks, Value.oneCell', ↓reduceIte, ite_true, ite_false, if_true, if_false, Nat.reduceAdd, Nat.reduceSub, Nat.reduceMul, Nat.reduceEqDiff, Nat.reduceLT, Nat.reduceLeDiff, reduceCtorEq, Int.reduceToNat, forall_const, implies_true, a6, Ent.mk3, bw, bC, bB, bk, bl, bo, bH, bL, bg, be, bz, cH, bn, cQ, rn, bS, bS.renCs, aI, aN, aY, aY.viewOks, aJ, bm, bm.flatBs, aG, an, av, ar, az, bq, bq.keysBs, aT, ap, bj, cp, bD, cg, af, af.passKs, aD, aL, ae, ae.lendKs, cM, cq, cz, bG, setInn, ag, cN, db, ay, br, bP, cj, aC, aU, Glob.gl, ax, cK, aZ, cm, bv, aj, cD, cS, cB, cW, cu, au, au.ptrOnlys, ak, aM, bY, aB, bI, a8, bU, aQ, bp, cF, Nat.reduceBEq, undef] at hl
  have hlen := hl.list (l := x :: t)
  have h1 : ¬ ((t.length + 1 : Nat) : Int) < 1 := by omega
  delta c70
  simp (maxSteps := 4000000) -implicitDefEqProofs only [rv70, h1, Ent.of0, Ent.of1, Ent.of2, Ent.of3, V, cc, bE, bN, bR, cV, cT, gt, lk, co, cC, cJ, cd, ca, bV, bV.subCs, cO, bu, bF, bZ, aV, bt, bh, aW, bM, bK, aH, a7, aX, cr, dd, cY, aq, aw, bT, cI, cb, cP, cU, aP, am, bQ, bJ, zC, argS, bO, ce, da, cR, ai, aE, aO, aA, cG, leC, cn, b0, bW, dc, bX, aR, aF, cZ, ah, cL, bf, bf.viewCs, bA, bA.flatCs, aK, aK.LensOks, Value.oneCell', ↓reduceIte, ite_true, ite_false, if_true, if_false, Nat.reduceAdd, Nat.reduceSub, Nat.reduceMul, Nat.reduceEqDiff, Nat.reduceLT, Nat.reduceLeDiff, reduceCtorEq, Int.reduceToNat, forall_const, implies_true, a6, Ent.mk3, bw, bC, bB, bk, bl, bo, bH, bL, bg, be, bz, cH, bn, cQ, rn, bS, bS.renCs, aI, aN, aY, aY.viewOks, aJ, bm, bm.flatBs, aG, an, av, ar, az, bq, bq.keysBs, aT, ap, bj, cp, bD, cg, af, af.passKs, aD, aL, ae, ae.lendKs, cM, cq, cz, bG, setInn, ag, cN, db, ay, br, bP, cj, aC, aU, Glob.gl, ax, cK, aZ, cm, bv, aj, cD, cS, cB, cW, cu, au, au.ptrOnlys, ak, aM, bY, aB, bI, a8, bU, aQ, bp, cF, Nat.reduceBEq, undef]
  refine ⟨by omega, ?_⟩
  refine S_loopU (α := Nat × Int) (fun v => [(4, .s (.int .i64 ((v.1 : Int) + 1))), (3, .s (.int .i64 v.2))]) (fun _ => []) (fun v => v.1 ≤ t.length ∧ minS (x :: t) = (t.drop v.1).foldl (fun a b => if b < a then b else a) v.2) (fun v => t.length - v.1) (0, x) ⟨Nat.zero_le _, rfl⟩ ?_ (fun v hv => S_run [] 800 ?_)
  · simp (maxSteps := 4000000) -implicitDefEqProofs only [Ent.of0, Ent.of1, Ent.of2, Ent.of3, V, cc, bE, bN, bR, cV, cT, gt, lk, co, cC, cJ, cd, ca, bV, bV.subCs, cO, bu, bF, bZ, aV, bt, bh, aW, bM, bK, aH, a7, aX, cr, dd, cY, aq, aw, bT, cI, cb, cP, cU, aP, am, bQ, bJ, zC, argS, bO, ce, da, cR, ai, aE, aO, aA, cG, leC, cn, b0, bW, dc, bX, aR, aF, cZ, ah, cL, bf, bf.viewCs, bA, bA.flatCs, aK, aK.LensOks, Value.oneCell', ↓reduceIte, ite_true, ite_false, if_true, if_false, Nat.reduceAdd, Nat.reduceSub, Nat.reduceMul, Nat.reduceEqDiff, Nat.reduceLT, Nat.reduceLeDiff, reduceCtorEq, Int.reduceToNat, forall_const, implies_true, a6, Ent.mk3, bw, bC, bB, bk, bl, bo, bH, bL, bg, be, bz, cH, bn, cQ, rn, bS, bS.renCs, aI, aN, aY, aY.viewOks, aJ, bm, bm.flatBs, aG, an, av, ar, az, bq, bq.keysBs, aT, ap, bj, cp, bD, cg, af, af.passKs, aD, aL, ae, ae.lendKs, cM, cq, cz, bG, setInn, ag, cN, db, ay, br, bP, cj, aC, aU, Glob.gl, ax, cK, aZ, cm, bv, aj, cD, cS, cB, cW, cu, au, au.ptrOnlys, ak, aM, bY, aB, bI, a8, bU, aQ, bp, cF, Nat.reduceBEq, undef]; simp
  · obtain ⟨i, m⟩ := v
    obtain ⟨hv1, hv2⟩ := hv
    simp only at hv1 hv2
    have ht : ((i : Int) + 1).toNat = i + 1 := by omega
    by_cases h : i < t.length
    · have hi2 : (i : Int) + 1 < ((t.length + 1 : Nat) : Int) := by omega
      rw [drop_getD 0 h, List.foldl_cons] at hv2
      delta c70l1
      simp (maxSteps := 4000000) -implicitDefEqProofs only [rv70, hi2, h, ht, dd, cY, InR, Ent.of0, Ent.of1, Ent.of2, Ent.of3, V, cc, bE, bN, bR, cV, cT, gt, lk, co, cC, cJ, cd, ca, bV, bV.subCs, cO, bu, bF, bZ, aV, bt, bh, aW, bM, bK, aH, a7, aX, cr, dd, cY, aq, aw, bT, cI, cb, cP, cU, aP, am, bQ, bJ, zC, argS, bO, ce, da, cR, ai, aE, aO, aA, cG, leC, cn, b0, bW, dc, bX, aR, aF, cZ, ah, cL, bf, bf.viewCs, bA, bA.flatCs, aK, aK.LensOks, Value.oneCell', ↓reduceIte, ite_true, ite_false, if_true, if_false, Nat.reduceAdd, Nat.reduceSub, Nat.reduceMul, Nat.reduceEqDiff, Nat.reduceLT, Nat.reduceLeDiff, reduceCtorEq, Int.reduceToNat, forall_const, implies_true, a6, Ent.mk3, bw, bC, bB, bk, bl, bo, bH, bL, bg, be, bz, cH, bn, cQ, rn, bS, bS.renCs, aI, aN, aY, aY.viewOks, aJ, bm, bm.flatBs, aG, an, av, ar, az, bq, bq.keysBs, aT, ap, bj, cp, bD, cg, af, af.passKs, aD, aL, ae, ae.lendKs, cM, cq, cz, bG, setInn, ag, cN, db, ay, br, bP, cj, aC, aU, Glob.gl, ax, cK, aZ, cm, bv, aj, cD, cS, cB, cW, cu, au, au.ptrOnlys, ak, aM, bY, aB, bI, a8, bU, aQ, bp, cF, Nat.reduceBEq, undef]
      simp only [List.length_cons] at hlen
      exact ⟨by omega, by omega, (i + 1, if t.getD i 0 < m then t.getD i 0 else m), ⟨h, hv2⟩, by simp only; omega, rfl, by push_cast; rfl⟩
    · have hi2 : ¬ (i : Int) + 1 < ((t.length + 1 : Nat) : Int) := by omega
      rw [List.drop_eq_nil_of_le (by omega)] at hv2
      delta c70l1
      simp (maxSteps := 4000000) -implicitDefEqProofs only [rv70, hi2, ht, InR, Ent.of0, Ent.of1, Ent.of2, Ent.of3, V, cc, bE, bN, bR, cV, cT, gt, lk, co, cC, cJ, cd, ca, bV, bV.subCs, cO, bu, bF, bZ, aV, bt, bh, aW, bM, bK, aH, a7, aX, cr, dd, cY, aq, aw, bT, cI, cb, cP, cU, aP, am, bQ, bJ, zC, argS, bO, ce, da, cR, ai, aE, aO, aA, cG, leC, cn, b0, bW, dc, bX, aR, aF, cZ, ah, cL, bf, bf.viewCs, bA, bA.flatCs, aK, aK.LensOks, Value.oneCell', ↓reduceIte, ite_true, ite_false, if_true, if_false, Nat.reduceAdd, Nat.reduceSub, Nat.reduceMul, Nat.reduceEqDiff, Nat.reduceLT, Nat.reduceLeDiff, reduceCtorEq, Int.reduceToNat, forall_const, implies_true, a6, Ent.mk3, bw, bC, bB, bk, bl, bo, bH, bL, bg, be, bz, cH, bn, cQ, rn, bS, bS.renCs, aI, aN, aY, aY.viewOks, aJ, bm, bm.flatBs, aG, an, av, ar, az, bq, bq.keysBs, aT, ap, bj, cp, bD, cg, af, af.passKs, aD, aL, ae, ae.lendKs, cM, cq, cz, bG, setInn, ag, cN, db, ay, br, bP, cj, aC, aU, Glob.gl, ax, cK, aZ, cm, bv, aj, cD, cS, cB, cW, cu, au, au.ptrOnlys, ak, aM, bY, aB, bI, a8, bU, aQ, bp, cF, Nat.reduceBEq, undef]
      rw [hv2]; rfl
def ent70 : Ent Tryz.prog := .of1 70 (fun l => 0 < l.length) (fun l : List Int => enc (minS l)) (fun _ => trivial) (fun l h => min_c l h)
theorem countOf_c (l : List Int) (c : Nat) (hc : 1 ≤ c ∧ c ≤ 3) (hl : l.length = 2 ^ c) : FC Tryz.prog 68 [enc l] [] (enc (c : Int)) [] := by
  have : c = 1 ∨ c = 2 ∨ c = 3 := by omega
  rcases this with rfl | rfl | rfl
  all_goals
    have m0 : min 0 64 = 0 := rfl
    have m1 : min 1 64 = 1 := rfl
    have m2 : min 2 64 = 2 := rfl
    have m3 : min 3 64 = 3 := rfl
    refine fc_intro' is68 (by simp) (fun cx _ => S_runU [] 300 ?_)
    delta c68 c68l1
    simp (maxSteps := 4000000) -implicitDefEqProofs only [rv68, hl, IntKind.bits, m0, m1, m2, m3, InR, Int.cast_ofNat_Int, Int.natCast_one, Int.natCast_zero, Int.reduceAdd, Int.reduceSub, Int.reduceMul, Int.reduceLT, Int.reduceLE, Int.reduceTMod, Int.reduceTDiv, Int.reduceNeg, Int.reduceEq, Nat.reducePow, Int.reducePow, ne_eq, not_false_eq_true, Ent.of0, Ent.of1, Ent.of2, Ent.of3, V, cc, bE, bN, bR, cV, cT, gt, lk, co, cC, cJ, cd, ca, bV, bV.subCs, cO, bu, bF, bZ, aV, bt, bh, aW, bM, bK, aH, a7, aX, cr, dd, cY, aq, aw, bT, cI, cb, cP, cU, aP, am, bQ, bJ, zC, argS, bO, ce, da, cR, ai, aE, aO, aA, cG, leC, cn, b0, bW, dc, bX, aR, aF, cZ, ah, cL, bf, bf.viewCs, bA, bA.flatCs, aK, aK.LensOks, Value.oneCell', ↓reduceIte, ite_true, ite_false, if_true, if_false, Nat.reduceAdd, Nat.reduceSub, Nat.reduceMul, Nat.reduceEqDiff, Nat.reduceLT, Nat.reduceLeDiff, reduceCtorEq, Int.reduceToNat, forall_const, implies_true, a6, Ent.mk3, bw, bC, bB, bk, bl, bo, bH, bL, bg, be, bz, cH, bn, cQ, rn, bS, bS.renCs, aI, aN, aY, aY.viewOks, aJ, bm, bm.flatBs, aG, an, av, ar, az, bq, bq.keysBs, aT, ap, bj, cp, bD, cg, af, af.passKs, aD, aL, ae, ae.lendKs, cM, cq, cz, bG, setInn, ag, cN, db, ay, br, bP, cj, aC, aU, Glob.gl, ax, cK, aZ, cm, bv, aj, cD, cS, cB, cW, cu, au, au.ptrOnlys, ak, aM, bY, aB, bI, a8, bU, aQ, bp, cF, Nat.reduceBEq, undef]
end Go.Proofs.YtfgpbmjmoobcnaaGreatDoor
end
section
open Go Go.Am
open Go.Am.Dat (cells)
namespace Go.Proofs.YtfgpbmjmoobcnaaGreatDoor
set_option maxHeartbeats 4000000
set_option maxRecDepth 100000
set_option linter.unusedSimpArgs false
def ent69 : Ent Tryz.prog where
  id := 69
  sp := fun args chs => match args, chs with
    | [.s (.int .i64 c), .s (.int .i64 n)], [] => some (1 ≤ c ∧ c ≤ 6, ofLevelC c.toNat n, [], [])
    | _, _ => none
  ok := by
    intro args chs p r chs' nk hs hp
    split at hs
    · simp only [Option.some.injEq, Prod.mk.injEq] at hs
      obtain ⟨rfl, rfl, rfl, rfl⟩ := hs
      rename_i c n
      have := ofLevel_c c.toNat n (by omega)
      rw [Int.toNat_of_nonneg (by omega)] at this
      refine ⟨this, .plain ?_⟩
      unfold ofLevelC
      split <;> trivial
    · cases hs
def lvls (c : Nat) : List Int := (List.range (2 ^ c)).map fun (k : Nat) => 2 * (k : Int) - (2 ^ c - 1)
def nearS (c i : Nat) (b : Int) (sq : List Int) : List Int :=
  ((List.range (2 ^ c)).filter fun (k : Nat) => decide (((ofLevelI c (2 * (k : Int) - (2 ^ c - 1))).map fun m => (bitsOfS m c c).getD i 0) = some b)).map fun k => sq.getD k 0
def softS (c : Nat) (sq : List Int) : List Int := (List.range c).map fun i => minS (nearS c i 1 sq) - minS (nearS c i 0 sq)
theorem minS_mem : ∀ (l : List Int) (x : Int), l.foldl (fun a b => if b < a then b else a) x ∈ x :: l
  | [], x => by simp
  | y :: l, x => by
    simp only [List.foldl_cons]
    have := minS_mem l (if y < x then y else x)
    rcases List.mem_cons.1 this with h | h
    · rw [h]; split <;> simp
    · exact List.mem_cons_of_mem _ (List.mem_cons_of_mem _ h)
theorem minS_bd {l : List Int} {B : Int} (h0 : 0 < l.length) (h : ∀ x ∈ l, 0 ≤ x ∧ x ≤ B) : 0 ≤ minS l ∧ minS l ≤ B := by
  cases l with
  | nil => simp at h0
  | cons x t => exact h _ (minS_mem t x)
def ctE (c : Nat) (hc : 1 ≤ c ∧ c ≤ 3) : Ent Tryz.prog := .of1 68 (fun l => l.length = 2 ^ c) (fun _ : List Int => enc (c : Int)) (fun _ => trivial) (fun l h => countOf_c l c hc h)
end Go.Proofs.YtfgpbmjmoobcnaaGreatDoor
end
section
open Go Go.Am
open Go.Am.Dat (cells)
namespace Go.Proofs.YtfgpbmjmoobcnaaGreatDoor
set_option maxHeartbeats 4000000
set_option maxRecDepth 100000
set_option linter.unusedSimpArgs false
theorem soft1_c (s0 s1 : Int) (h : ∀ s ∈ [s0, s1], 0 ≤ s ∧ s ≤ 4611686018427387903) : FC Tryz.prog 41 [enc (lvls 1), enc [s0, s1]] [] (enc (softS 1 [s0, s1])) [] := by
  have l0 : ofLevelC 1 (-1) = .sl 1 [[.s (.int .i64 1)]] := by rfl
  have l1 : ofLevelC 1 1 = .sl 1 [[.s (.int .i64 0)]] := by rfl
  have hl : lvls 1 = [-1, 1] := by decide
  have ht : Int.toNat 1 = 1 := rfl
  have hs : softS 1 [s0, s1] = [minS [s0] - minS [s1]] := by rfl
  have q00 := minS_bd (l := [s1]) (by simp) (fun x hx => h x (by simp at hx ⊢; grind))
  have q01 := minS_bd (l := [s0]) (by simp) (fun x hx => h x (by simp at hx ⊢; grind))
  rw [hl, hs]
  refine fc_intro' is41 (by simp) (fun cx _ => S_runU [ctE 1 (by decide), ent69, ent70] 4000 ?_)
  delta c41 c41l1 c41l2
  simp (maxSteps := 4000000) -implicitDefEqProofs only [rv41, ctE, ent69, ent70, ht, l0, l1, InR, Int.cast_ofNat_Int, Int.natCast_one, Int.natCast_zero, Int.reduceAdd, Int.reduceSub, Int.reduceMul, Int.reduceLT, Int.reduceLE, Int.reduceTMod, Int.reduceTDiv, Int.reduceNeg, Int.reduceEq, Nat.reducePow, Int.reducePow, ne_eq, not_false_eq_true, Ent.of0, Ent.of1, Ent.of2, Ent.of3, V, cc, bE, bN, bR, cV, cT, gt, lk, co, cC, cJ, cd, ca, bV, bV.subCs, cO, bu, bF, bZ, aV, bt, bh, aW, bM, bK, aH, a7, aX, cr, dd, cY, aq, aw, bT, cI, cb, cP, cU, aP, am, bQ, bJ, zC, argS, bO, ce, da, cR, ai, aE, aO, aA, cG, leC, cn, b0, bW, dc, bX, aR, aF, cZ, ah, cL, bf, bf.viewCs, bA, bA.flatCs, aK, aK.LensOks, Value.oneCell', ↓reduceIte, ite_true, ite_false, if_true, if_false, Nat.reduceAdd, Nat.reduceSub, Nat.reduceMul, Nat.reduceEqDiff, Nat.reduceLT, Nat.reduceLeDiff, reduceCtorEq, Int.reduceToNat, forall_const, implies_true, a6, Ent.mk3, bw, bC, bB, bk, bl, bo, bH, bL, bg, be, bz, cH, bn, cQ, rn, bS, bS.renCs, aI, aN, aY, aY.viewOks, aJ, bm, bm.flatBs, aG, an, av, ar, az, bq, bq.keysBs, aT, ap, bj, cp, bD, cg, af, af.passKs, aD, aL, ae, ae.lendKs, cM, cq, cz, bG, setInn, ag, cN, db, ay, br, bP, cj, aC, aU, Glob.gl, ax, cK, aZ, cm, bv, aj, cD, cS, cB, cW, cu, au, au.ptrOnlys, ak, aM, bY, aB, bI, a8, bU, aQ, bp, cF, Nat.reduceBEq, undef]
  omega
theorem soft2_c (s0 s1 s2 s3 : Int) (h : ∀ s ∈ [s0, s1, s2, s3], 0 ≤ s ∧ s ≤ 4611686018427387903) : FC Tryz.prog 41 [enc (lvls 2), enc [s0, s1, s2, s3]] [] (enc (softS 2 [s0, s1, s2, s3])) [] := by
  have l0 : ofLevelC 2 (-3) = .sl 1 [[.s (.int .i64 1)], [.s (.int .i64 1)]] := by rfl
  have l1 : ofLevelC 2 (-1) = .sl 1 [[.s (.int .i64 1)], [.s (.int .i64 0)]] := by rfl
  have l2 : ofLevelC 2 1 = .sl 1 [[.s (.int .i64 0)], [.s (.int .i64 0)]] := by rfl
  have l3 : ofLevelC 2 3 = .sl 1 [[.s (.int .i64 0)], [.s (.int .i64 1)]] := by rfl
  have hl : lvls 2 = [-3, -1, 1, 3] := by decide
  have ht : Int.toNat 2 = 2 := rfl
  have hs : softS 2 [s0, s1, s2, s3] = [minS [s0, s1] - minS [s2, s3], minS [s0, s3] - minS [s1, s2]] := by rfl
  have q00 := minS_bd (l := [s2, s3]) (by simp) (fun x hx => h x (by simp at hx ⊢; grind))
  have q01 := minS_bd (l := [s0, s1]) (by simp) (fun x hx => h x (by simp at hx ⊢; grind))
  have q10 := minS_bd (l := [s1, s2]) (by simp) (fun x hx => h x (by simp at hx ⊢; grind))
  have q11 := minS_bd (l := [s0, s3]) (by simp) (fun x hx => h x (by simp at hx ⊢; grind))
  rw [hl, hs]
  refine fc_intro' is41 (by simp) (fun cx _ => S_runU [ctE 2 (by decide), ent69, ent70] 4000 ?_)
  delta c41 c41l1 c41l2
  simp (maxSteps := 4000000) -implicitDefEqProofs only [rv41, ctE, ent69, ent70, ht, l0, l1, l2, l3, InR, Int.cast_ofNat_Int, Int.natCast_one, Int.natCast_zero, Int.reduceAdd, Int.reduceSub, Int.reduceMul, Int.reduceLT, Int.reduceLE, Int.reduceTMod, Int.reduceTDiv, Int.reduceNeg, Int.reduceEq, Nat.reducePow, Int.reducePow, ne_eq, not_false_eq_true, Ent.of0, Ent.of1, Ent.of2, Ent.of3, V, cc, bE, bN, bR, cV, cT, gt, lk, co, cC, cJ, cd, ca, bV, bV.subCs, cO, bu, bF, bZ, aV, bt, bh, aW, bM, bK, aH, a7, aX, cr, dd, cY, aq, aw, bT, cI, cb, cP, cU, aP, am, bQ, bJ, zC, argS, bO, ce, da, cR, ai, aE, aO, aA, cG, leC, cn, b0, bW, dc, bX, aR, aF, cZ, ah, cL, bf, bf.viewCs, bA, bA.flatCs, aK, aK.LensOks, Value.oneCell', ↓reduceIte, ite_true, ite_false, if_true, if_false, Nat.reduceAdd, Nat.reduceSub, Nat.reduceMul, Nat.reduceEqDiff, Nat.reduceLT, Nat.reduceLeDiff, reduceCtorEq, Int.reduceToNat, forall_const, implies_true, a6, Ent.mk3, bw, bC, bB, bk, bl, bo, bH, bL, bg, be, bz, cH, bn, cQ, rn, bS, bS.renCs, aI, aN, aY, aY.viewOks, aJ, bm, bm.flatBs, aG, an, av, ar, az, bq, bq.keysBs, aT, ap, bj, cp, bD, cg, af, af.passKs, aD, aL, ae, ae.lendKs, cM, cq, cz, bG, setInn, ag, cN, db, ay, br, bP, cj, aC, aU, Glob.gl, ax, cK, aZ, cm, bv, aj, cD, cS, cB, cW, cu, au, au.ptrOnlys, ak, aM, bY, aB, bI, a8, bU, aQ, bp, cF, Nat.reduceBEq, undef]
  omega
theorem soft3_c (s0 s1 s2 s3 s4 s5 s6 s7 : Int) (h : ∀ s ∈ [s0, s1, s2, s3, s4, s5, s6, s7], 0 ≤ s ∧ s ≤ 4611686018427387903) : FC Tryz.prog 41 [enc (lvls 3), enc [s0, s1, s2, s3, s4, s5, s6, s7]] [] (enc (softS 3 [s0, s1, s2, s3, s4, s5, s6, s7])) [] := by
  have l0 : ofLevelC 3 (-7) = .sl 1 [[.s (.int .i64 1)], [.s (.int .i64 1)], [.s (.int .i64 1)]] := by rfl
  have l1 : ofLevelC 3 (-5) = .sl 1 [[.s (.int .i64 1)], [.s (.int .i64 1)], [.s (.int .i64 0)]] := by rfl
  have l2 : ofLevelC 3 (-3) = .sl 1 [[.s (.int .i64 1)], [.s (.int .i64 0)], [.s (.int .i64 0)]] := by rfl
  have l3 : ofLevelC 3 (-1) = .sl 1 [[.s (.int .i64 1)], [.s (.int .i64 0)], [.s (.int .i64 1)]] := by rfl
  have l4 : ofLevelC 3 1 = .sl 1 [[.s (.int .i64 0)], [.s (.int .i64 0)], [.s (.int .i64 1)]] := by rfl
  have l5 : ofLevelC 3 3 = .sl 1 [[.s (.int .i64 0)], [.s (.int .i64 0)], [.s (.int .i64 0)]] := by rfl
  have l6 : ofLevelC 3 5 = .sl 1 [[.s (.int .i64 0)], [.s (.int .i64 1)], [.s (.int .i64 0)]] := by rfl
  have l7 : ofLevelC 3 7 = .sl 1 [[.s (.int .i64 0)], [.s (.int .i64 1)], [.s (.int .i64 1)]] := by rfl
  have hl : lvls 3 = [-7, -5, -3, -1, 1, 3, 5, 7] := by decide
  have ht : Int.toNat 3 = 3 := rfl
  have hs : softS 3 [s0, s1, s2, s3, s4, s5, s6, s7] = [minS [s0, s1, s2, s3] - minS [s4, s5, s6, s7], minS [s0, s1, s6, s7] - minS [s2, s3, s4, s5], minS [s0, s3, s4, s7] - minS [s1, s2, s5, s6]] := by rfl
  have q00 := minS_bd (l := [s4, s5, s6, s7]) (by simp) (fun x hx => h x (by simp at hx ⊢; grind))
  have q01 := minS_bd (l := [s0, s1, s2, s3]) (by simp) (fun x hx => h x (by simp at hx ⊢; grind))
  have q10 := minS_bd (l := [s2, s3, s4, s5]) (by simp) (fun x hx => h x (by simp at hx ⊢; grind))
  have q11 := minS_bd (l := [s0, s1, s6, s7]) (by simp) (fun x hx => h x (by simp at hx ⊢; grind))
  have q20 := minS_bd (l := [s1, s2, s5, s6]) (by simp) (fun x hx => h x (by simp at hx ⊢; grind))
  have q21 := minS_bd (l := [s0, s3, s4, s7]) (by simp) (fun x hx => h x (by simp at hx ⊢; grind))
  rw [hl, hs]
  refine fc_intro' is41 (by simp) (fun cx _ => S_runU [ctE 3 (by decide), ent69, ent70] 4000 ?_)
  delta c41 c41l1 c41l2
  simp (maxSteps := 4000000) -implicitDefEqProofs only [rv41, ctE, ent69, ent70, ht, l0, l1, l2, l3, l4, l5, l6, l7, InR, Int.cast_ofNat_Int, Int.natCast_one, Int.natCast_zero, Int.reduceAdd, Int.reduceSub, Int.reduceMul, Int.reduceLT, Int.reduceLE, Int.reduceTMod, Int.reduceTDiv, Int.reduceNeg, Int.reduceEq, Nat.reducePow, Int.reducePow, ne_eq, not_false_eq_true, Ent.of0, Ent.of1, Ent.of2, Ent.of3, V, cc, bE, bN, bR, cV, cT, gt, lk, co, cC, cJ, cd, ca, bV, bV.subCs, cO, bu, bF, bZ, aV, bt, bh, aW, bM, bK, aH, a7, aX, cr, dd, cY, aq, aw, bT, cI, cb, cP, cU, aP, am, bQ, bJ, zC, argS, bO, ce, da, cR, ai, aE, aO, aA, cG, leC, cn, b0, bW, dc, bX, aR, aF, cZ, ah, cL, bf, bf.viewCs, bA, bA.flatCs, aK, aK.LensOks, Value.oneCell', ↓reduceIte, ite_true, ite_false, if_true, if_false, Nat.reduceAdd, Nat.reduceSub, Nat.reduceMul, Nat.reduceEqDiff, Nat.reduceLT, Nat.reduceLeDiff, reduceCtorEq, Int.reduceToNat, forall_const, implies_true, a6, Ent.mk3, bw, bC, bB, bk, bl, bo, bH, bL, bg, be, bz, cH, bn, cQ, rn, bS, bS.renCs, aI, aN, aY, aY.viewOks, aJ, bm, bm.flatBs, aG, an, av, ar, az, bq, bq.keysBs, aT, ap, bj, cp, bD, cg, af, af.passKs, aD, aL, ae, ae.lendKs, cM, cq, cz, bG, setInn, ag, cN, db, ay, br, bP, cj, aC, aU, Glob.gl, ax, cK, aZ, cm, bv, aj, cD, cS, cB, cW, cu, au, au.ptrOnlys, ak, aM, bY, aB, bI, a8, bU, aQ, bp, cF, Nat.reduceBEq, undef]
  omega
theorem soft_c (c : Nat) (hc : c = 1 ∨ c = 2 ∨ c = 3) (sq : List Int) (hl : sq.length = 2 ^ c) (hb : ∀ s ∈ sq, 0 ≤ s ∧ s ≤ 4611686018427387903) : FC Tryz.prog 41 [enc (lvls c), enc sq] [] (enc (softS c sq)) [] := by
  rcases hc with rfl | rfl | rfl
  · match sq, hl with
    | [a, b], _ => exact soft1_c a b hb
  · match sq, hl with
    | [a, b, c, d], _ => exact soft2_c a b c d hb
  · match sq, hl with
    | [a, b, c, d, e, f, g, h], _ => exact soft3_c a b c d e f g h hb
end Go.Proofs.YtfgpbmjmoobcnaaGreatDoor
end
section
open Go Go.Am
open Go.Am.Dat (cells)
namespace Go.Proofs.YtfgpbmjmoobcnaaGreatDoor
set_option maxHeartbeats 4000000
set_option maxRecDepth 100000
set_option linter.unusedSimpArgs false
structure Recv where
  order : Int
  gain : Int
  symbols : List Gs
instance : DatL Recv where
  sz := 3
  agg := true
  cells g := [.s (.int .i64 g.order), .s (.int .i64 g.gain), .sl 2 (g.symbols.map cells)]
  dec | [.s (.int .i64 a), .s (.int .i64 b), .sl 2 t] => (decL t).map fun t' => ⟨a, b, t'⟩ | _ => none
  ok := by
    intro l a h
    split at h
    · simp only [Option.map_eq_some_iff] at h
      obtain ⟨t', h1, rfl⟩ := h
      rw [decL_ok h1]
    · cases h
  data := fun a => rfl
  one := fun h => by cases h
  dec_cells := fun a => by simp [decL_map]
theorem enc_recv (g : Recv) : enc g = .agg [.s (.int .i64 g.order), .s (.int .i64 g.gain), .sl 2 (g.symbols.map cells)] := rfl
theorem decV_recv (a b : Int) (t : List (List C)) : decV (.agg [C.s (.int .i64 a), .s (.int .i64 b), .sl 2 t]) = (decL t).map fun t' => (⟨a, b, t'⟩ : Recv) := rfl
def recvErr (x : Recv) : Int := firstS [orderErrS x.order, if 1 ≤ x.gain ∧ x.gain ≤ 10000000 then 0 else 2, symErr x.symbols]
theorem receivedErr_c (x : Recv) : FC Tryz.prog 39 [enc x] [] (enc (recvErr x)) [] := by
  obtain ⟨o, g, l⟩ := x
  refine fc_intro' is39 (by simp) (fun cx hl => S_run [ent35, ent32, ent31, ent24, ent29] 800 ?_)
  delta c39
  simp (maxSteps := 4000000) -implicitDefEqProofs only [rv39, ent35, ent32, ent31, ent24, ent29, enc_recv, Ent.of0, Ent.of1, Ent.of2, Ent.of3, V, cc, bE, bN, bR, cV, cT, gt, lk, co, cC, cJ, cd, ca, bV, bV.subCs, cO, bu, bF, bZ, aV, bt, bh, aW, bM, bK, aH, a7, aX, cr, dd, cY, aq, aw, bT, cI, cb, cP, cU, aP, am, bQ, bJ, zC, argS, bO, ce, da, cR, ai, aE, aO, aA, cG, leC, cn, b0, bW, dc, bX, aR, aF, cZ, ah, cL, bf, bf.viewCs, bA, bA.flatCs, aK, aK.LensOks, Value.oneCell', ↓reduceIte, ite_true, ite_false, if_true, if_false, Nat.reduceAdd, Nat.reduceSub, Nat.reduceMul, Nat.reduceEqDiff, Nat.reduceLT, Nat.reduceLeDiff, reduceCtorEq, Int.reduceToNat, forall_const, implies_true, a6, Ent.mk3, bw, bC, bB, bk, bl, bo, bH, bL, bg, be, bz, cH, bn, cQ, rn, bS, bS.renCs, aI, aN, aY, aY.viewOks, aJ, bm, bm.flatBs, aG, an, av, ar, az, bq, bq.keysBs, aT, ap, bj, cp, bD, cg, af, af.passKs, aD, aL, ae, ae.lendKs, cM, cq, cz, bG, setInn, ag, cN, db, ay, br, bP, cj, aC, aU, Glob.gl, ax, cK, aZ, cm, bv, aj, cD, cS, cB, cW, cu, au, au.ptrOnlys, ak, aM, bY, aB, bI, a8, bU, aQ, bp, cF, Nat.reduceBEq, undef]
  rfl
def ent39 : Ent Tryz.prog := .of1 39 (fun _ => True) (fun x : Recv => enc (recvErr x)) (fun _ => trivial) (fun x _ => receivedErr_c x)
def sqS (c : Nat) (gain n : Int) : List Int := (lvls c).map fun l => (n - l * gain) * (n - l * gain)
end Go.Proofs.YtfgpbmjmoobcnaaGreatDoor
end
section
open Go Go.Am
open Go.Am.Dat (cells)
namespace Go.Proofs.YtfgpbmjmoobcnaaGreatDoor
set_option maxHeartbeats 4000000
set_option maxRecDepth 100000
set_option linter.unusedSimpArgs false
theorem lvls_bd {c : Nat} (hc : c = 1 ∨ c = 2 ∨ c = 3) : ∀ l ∈ lvls c, -7 ≤ l ∧ l ≤ 7 := by
  rcases hc with rfl | rfl | rfl <;> decide
theorem lvls_length (c : Nat) : (lvls c).length = 2 ^ c := by simp [lvls]
theorem sq_bd {d B : Int} (h : -B ≤ d ∧ d ≤ B) : 0 ≤ d * d ∧ d * d ≤ B * B := by
  have h1 := Int.mul_nonneg (show 0 ≤ B - d by omega) (show 0 ≤ B + d by omega)
  rw [Int.sub_mul, Int.mul_add, Int.mul_add, Int.mul_comm d B] at h1
  refine ⟨?_, by omega⟩
  rcases Int.le_total 0 d with h0 | h0
  · exact Int.mul_nonneg h0 h0
  · exact Int.mul_nonneg_of_nonpos_of_nonpos h0 h0
theorem lg_bd {t g : Int} (ht : -7 ≤ t ∧ t ≤ 7) (hg : 1 ≤ g ∧ g ≤ 10000000) : -70000000 ≤ t * g ∧ t * g ≤ 70000000 := by
  have : t = -7 ∨ t = -6 ∨ t = -5 ∨ t = -4 ∨ t = -3 ∨ t = -2 ∨ t = -1 ∨ t = 0 ∨ t = 1 ∨ t = 2 ∨ t = 3 ∨ t = 4 ∨ t = 5 ∨ t = 6 ∨ t = 7 := by omega
  rcases this with rfl | rfl | rfl | rfl | rfl | rfl | rfl | rfl | rfl | rfl | rfl | rfl | rfl | rfl | rfl <;> omega
theorem part_c (f : FuncId) (T : List Int → List Int) (c : Nat) (hc : c = 1 ∨ c = 2 ∨ c = 3) (hf : ∀ sq : List Int, sq.length = 2 ^ c → (∀ s ∈ sq, 0 ≤ s ∧ s ≤ 4611686018427387903) → FC Tryz.prog f [enc (lvls c), enc sq] [] (enc (T sq)) [])
    (x : Recv) (n : Int) (hg : 1 ≤ x.gain ∧ x.gain ≤ 10000000) (hn : -100000000 ≤ n ∧ n ≤ 100000000) :
    FC Tryz.prog 67 [enc n, .ptr 100000 0, .ptr 100001 0, .ptr 100002 0] [(100000, .box [enc (lvls c)]), (100001, .box (cells x)), (100002, .box [.fn (.func f) [] []])] (enc (T (sqS c x.gain n))) [(100000, .box [enc (lvls c)]), (100001, .box (cells x)), (100002, .box [.fn (.func f) [] []])] := by
  obtain ⟨o, g, l⟩ := x
  simp only at hg
  have hcl : cells (⟨o, g, l⟩ : Recv) = [.s (.int .i64 o), .s (.int .i64 g), .sl 2 (l.map cells)] := rfl
  rw [hcl]
  have hll := lvls_length c
  have hlb := lvls_bd hc
  have hp : 2 ^ c ≤ 8 := by rcases hc with rfl | rfl | rfl <;> decide
  have hsq : sqS c g n = (lvls c).map fun l => (n - l * g) * (n - l * g) := rfl
  generalize lvls c = L at *
  refine fc_introC [] is67 (by simp) (by simp [cD]) (by simp [aR, aF, bZ]) (by simp [aR, aF, bZ]) (by simp [aj, lk]) (fun cx _ _ _ => S_run [] 800 ?_)
  delta c67
  simp (maxSteps := 4000000) -implicitDefEqProofs only [rv67, InR, Ent.of0, Ent.of1, Ent.of2, Ent.of3, V, cc, bE, bN, bR, cV, cT, gt, lk, co, cC, cJ, cd, ca, bV, bV.subCs, cO, bu, bF, bZ, aV, bt, bh, aW, bM, bK, aH, a7, aX, cr, dd, cY, aq, aw, bT, cI, cb, cP, cU, aP, am, bQ, bJ, zC, argS, bO, ce, da, cR, ai, aE, aO, aA, cG, leC, cn, b0, bW, dc, bX, aR, aF, cZ, ah, cL, bf, bf.viewCs, bA, bA.flatCs, aK, aK.LensOks, Value.oneCell', ↓reduceIte, ite_true, ite_false, if_true, if_false, Nat.reduceAdd, Nat.reduceSub, Nat.reduceMul, Nat.reduceEqDiff, Nat.reduceLT, Nat.reduceLeDiff, reduceCtorEq, Int.reduceToNat, forall_const, implies_true, a6, Ent.mk3, bw, bC, bB, bk, bl, bo, bH, bL, bg, be, bz, cH, bn, cQ, rn, bS, bS.renCs, aI, aN, aY, aY.viewOks, aJ, bm, bm.flatBs, aG, an, av, ar, az, bq, bq.keysBs, aT, ap, bj, cp, bD, cg, af, af.passKs, aD, aL, ae, ae.lendKs, cM, cq, cz, bG, setInn, ag, cN, db, ay, br, bP, cj, aC, aU, Glob.gl, ax, cK, aZ, cm, bv, aj, cD, cS, cB, cW, cu, au, au.ptrOnlys, ak, aM, bY, aB, bI, a8, bU, aQ, bp, cF, Nat.reduceBEq, undef]
  refine S_forU L.length (fun i => [(11, .s (.int .i64 (i : Int)))]) (fun i => [(6, .row 1 3 (((L.take i).map fun l => (n - l * g) * (n - l * g)).map cells))]) (fun _ => True) trivial ?_ (fun i hi _ => S_run [.of2 f (fun a b => a = L ∧ b.length = 2 ^ c ∧ ∀ s ∈ b, 0 ≤ s ∧ s ≤ 4611686018427387903) (fun _ b => enc (T b)) (fun _ _ => trivial) (fun a b h => by obtain ⟨rfl, h1, h2⟩ := h; exact hf b h1 h2)] 800 ?_)
  · simp (maxSteps := 4000000) -implicitDefEqProofs only [Ent.of0, Ent.of1, Ent.of2, Ent.of3, V, cc, bE, bN, bR, cV, cT, gt, lk, co, cC, cJ, cd, ca, bV, bV.subCs, cO, bu, bF, bZ, aV, bt, bh, aW, bM, bK, aH, a7, aX, cr, dd, cY, aq, aw, bT, cI, cb, cP, cU, aP, am, bQ, bJ, zC, argS, bO, ce, da, cR, ai, aE, aO, aA, cG, leC, cn, b0, bW, dc, bX, aR, aF, cZ, ah, cL, bf, bf.viewCs, bA, bA.flatCs, aK, aK.LensOks, Value.oneCell', ↓reduceIte, ite_true, ite_false, if_true, if_false, Nat.reduceAdd, Nat.reduceSub, Nat.reduceMul, Nat.reduceEqDiff, Nat.reduceLT, Nat.reduceLeDiff, reduceCtorEq, Int.reduceToNat, forall_const, implies_true, a6, Ent.mk3, bw, bC, bB, bk, bl, bo, bH, bL, bg, be, bz, cH, bn, cQ, rn, bS, bS.renCs, aI, aN, aY, aY.viewOks, aJ, bm, bm.flatBs, aG, an, av, ar, az, bq, bq.keysBs, aT, ap, bj, cp, bD, cg, af, af.passKs, aD, aL, ae, ae.lendKs, cM, cq, cz, bG, setInn, ag, cN, db, ay, br, bP, cj, aC, aU, Glob.gl, ax, cK, aZ, cm, bv, aj, cD, cS, cB, cW, cu, au, au.ptrOnlys, ak, aM, bY, aB, bI, a8, bU, aQ, bp, cF, Nat.reduceBEq, undef]; simp
  · by_cases h : i < L.length
    · have hi2 : (i : Int) < (L.length : Int) := by omega
      have hm : L.getD i 0 ∈ L := by rw [List.getD_eq_getElem?_getD, List.getElem?_eq_getElem h]; exact List.getElem_mem _
      have b1 := lg_bd (hlb _ hm) hg
      have b2 := sq_bd (d := n - L.getD i 0 * g) (B := 170000000) (by omega)
      have htk : ((L.take i).map fun l => (n - l * g) * (n - l * g)).map cells ++ [[C.s (.int .i64 ((n - L.getD i 0 * g) * (n - L.getD i 0 * g)))]] = ((L.take (i + 1)).map fun l => (n - l * g) * (n - l * g)).map cells := by
        rw [take_getD 0 h, List.map_append, List.map_append]; rfl
      have htl : (L.take i).length = i := by rw [List.length_take]; omega
      delta c67l1
      simp (maxSteps := 4000000) -implicitDefEqProofs only [hi2, h, htk, InR, Ent.of0, Ent.of1, Ent.of2, Ent.of3, V, cc, bE, bN, bR, cV, cT, gt, lk, co, cC, cJ, cd, ca, bV, bV.subCs, cO, bu, bF, bZ, aV, bt, bh, aW, bM, bK, aH, a7, aX, cr, dd, cY, aq, aw, bT, cI, cb, cP, cU, aP, am, bQ, bJ, zC, argS, bO, ce, da, cR, ai, aE, aO, aA, cG, leC, cn, b0, bW, dc, bX, aR, aF, cZ, ah, cL, bf, bf.viewCs, bA, bA.flatCs, aK, aK.LensOks, Value.oneCell', ↓reduceIte, ite_true, ite_false, if_true, if_false, Nat.reduceAdd, Nat.reduceSub, Nat.reduceMul, Nat.reduceEqDiff, Nat.reduceLT, Nat.reduceLeDiff, reduceCtorEq, Int.reduceToNat, forall_const, implies_true, a6, Ent.mk3, bw, bC, bB, bk, bl, bo, bH, bL, bg, be, bz, cH, bn, cQ, rn, bS, bS.renCs, aI, aN, aY, aY.viewOks, aJ, bm, bm.flatBs, aG, an, av, ar, az, bq, bq.keysBs, aT, ap, bj, cp, bD, cg, af, af.passKs, aD, aL, ae, ae.lendKs, cM, cq, cz, bG, setInn, ag, cN, db, ay, br, bP, cj, aC, aU, Glob.gl, ax, cK, aZ, cm, bv, aj, cD, cS, cB, cW, cu, au, au.ptrOnlys, ak, aM, bY, aB, bI, a8, bU, aQ, bp, cF, Nat.reduceBEq, undef]
      exact ⟨by omega, by omega, by omega, by omega, by omega, by omega, by omega, by omega, by push_cast; rfl⟩
    · have hi2 : ¬ (i : Int) < (L.length : Int) := by omega
      have hie : i = L.length := by omega
      subst hie
      have htk : L.take L.length = L := List.take_length
      delta c67l1
      simp (maxSteps := 4000000) -implicitDefEqProofs only [hi2, rv67, htk, hsq, InR, Ent.of0, Ent.of1, Ent.of2, Ent.of3, V, cc, bE, bN, bR, cV, cT, gt, lk, co, cC, cJ, cd, ca, bV, bV.subCs, cO, bu, bF, bZ, aV, bt, bh, aW, bM, bK, aH, a7, aX, cr, dd, cY, aq, aw, bT, cI, cb, cP, cU, aP, am, bQ, bJ, zC, argS, bO, ce, da, cR, ai, aE, aO, aA, cG, leC, cn, b0, bW, dc, bX, aR, aF, cZ, ah, cL, bf, bf.viewCs, bA, bA.flatCs, aK, aK.LensOks, Value.oneCell', ↓reduceIte, ite_true, ite_false, if_true, if_false, Nat.reduceAdd, Nat.reduceSub, Nat.reduceMul, Nat.reduceEqDiff, Nat.reduceLT, Nat.reduceLeDiff, reduceCtorEq, Int.reduceToNat, forall_const, implies_true, a6, Ent.mk3, bw, bC, bB, bk, bl, bo, bH, bL, bg, be, bz, cH, bn, cQ, rn, bS, bS.renCs, aI, aN, aY, aY.viewOks, aJ, bm, bm.flatBs, aG, an, av, ar, az, bq, bq.keysBs, aT, ap, bj, cp, bD, cg, af, af.passKs, aD, aL, ae, ae.lendKs, cM, cq, cz, bG, setInn, ag, cN, db, ay, br, bP, cj, aC, aU, Glob.gl, ax, cK, aZ, cm, bv, aj, cD, cS, cB, cW, cu, au, au.ptrOnlys, ak, aM, bY, aB, bI, a8, bU, aQ, bp, cF, Nat.reduceBEq, undef]
      refine ⟨hll, fun s hs => ?_⟩
      obtain ⟨t, ht, rfl⟩ := List.mem_map.1 hs
      have b1 := lg_bd (hlb _ ht) hg
      have b2 := sq_bd (d := n - t * g) (B := 170000000) (by omega)
      omega
end Go.Proofs.YtfgpbmjmoobcnaaGreatDoor
end
section
open Go Go.Am
open Go.Am.Dat (cells)
namespace Go.Proofs.YtfgpbmjmoobcnaaGreatDoor
set_option maxHeartbeats 4000000
set_option maxRecDepth 20000
set_option linter.unusedSimpArgs false
def RepR (a : List Fz) (r : List Gs) : Prop := a.length = r.length ∧ ∀ i, i < r.length → IsC (a.getD i ⟨0, 0⟩) (r.getD i ⟨0, 0⟩)
def RepM (a : List (List Fz)) (m : List (List Gs)) : Prop := a.length = m.length ∧ ∀ i, i < m.length → RepR (a.getD i []) (m.getD i [])
def gridS (m : List (List Gs)) : List (List Fz) := m.map fun r => r.map toW
theorem getD_map' {α β : Type} (f : α → β) (l : List α) (i : Nat) (d : α) (e : β) (h : i < l.length) : (l.map f).getD i e = f (l.getD i d) := by
  rw [List.getD_eq_getElem?_getD, List.getD_eq_getElem?_getD, List.getElem?_map, List.getElem?_eq_getElem h]; rfl
theorem grid_rep {m : List (List Gs)} (h : ∀ r ∈ m, ∀ g ∈ r, bd g 9007199254740991) : RepM (gridS m) m := by
  refine ⟨by simp [gridS], fun i hi => ?_⟩
  rw [gridS, getD_map' _ m i [] [] hi]
  refine ⟨by simp, fun j hj => ?_⟩
  rw [getD_map' _ _ j ⟨0, 0⟩ _ hj]
  exact isC_toW (h _ (getD_mem [] hi) _ (getD_mem _ hj))
theorem gridOf_c (m : List (List Gs)) (hm : m.length ≤ 1000) (hr : ∀ r ∈ m, r.length ≤ 1000000) : FC Tryz.prog 45 [enc m] [] (enc (gridS m)) [] := by
  refine fc_intro' is45 (by simp) (fun cx hl => S_run [] 800 ?_)
  delta c45
  simp (maxSteps := 4000000) -implicitDefEqProofs only [rv45, Ent.of0, Ent.of1, Ent.of2, Ent.of3, V, cc, bE, bN, bR, cV, cT, gt, lk, co, cC, cJ, cd, ca, bV, bV.subCs, cO, bu, bF, bZ, aV, bt, bh, aW, bM, bK, aH, a7, aX, cr, dd, cY, aq, aw, bT, cI, cb, cP, cU, aP, am, bQ, bJ, zC, argS, bO, ce, da, cR, ai, aE, aO, aA, cG, leC, cn, b0, bW, dc, bX, aR, aF, cZ, ah, cL, bf, bf.viewCs, bA, bA.flatCs, aK, aK.LensOks, Value.oneCell', ↓reduceIte, ite_true, ite_false, if_true, if_false, Nat.reduceAdd, Nat.reduceSub, Nat.reduceMul, Nat.reduceEqDiff, Nat.reduceLT, Nat.reduceLeDiff, reduceCtorEq, Int.reduceToNat, forall_const, implies_true, a6, Ent.mk3, bw, bC, bB, bk, bl, bo, bH, bL, bg, be, bz, cH, bn, cQ, rn, bS, bS.renCs, aI, aN, aY, aY.viewOks, aJ, bm, bm.flatBs, aG, an, av, ar, az, bq, bq.keysBs, aT, ap, bj, cp, bD, cg, af, af.passKs, aD, aL, ae, ae.lendKs, cM, cq, cz, bG, setInn, ag, cN, db, ay, br, bP, cj, aC, aU, Glob.gl, ax, cK, aZ, cm, bv, aj, cD, cS, cB, cW, cu, au, au.ptrOnlys, ak, aM, bY, aB, bI, a8, bU, aQ, bp, cF, Nat.reduceBEq, undef]
  refine S_forU m.length (fun i => [(11, .s (.int .i64 i))]) (fun i => [(3, .row 1 119 ((gridS (m.take i)).map cells))]) (fun _ => True) trivial ?_ (fun i hi _ => S_run [] 800 ?_)
  · simp (maxSteps := 4000000) -implicitDefEqProofs only [gridS, Ent.of0, Ent.of1, Ent.of2, Ent.of3, V, cc, bE, bN, bR, cV, cT, gt, lk, co, cC, cJ, cd, ca, bV, bV.subCs, cO, bu, bF, bZ, aV, bt, bh, aW, bM, bK, aH, a7, aX, cr, dd, cY, aq, aw, bT, cI, cb, cP, cU, aP, am, bQ, bJ, zC, argS, bO, ce, da, cR, ai, aE, aO, aA, cG, leC, cn, b0, bW, dc, bX, aR, aF, cZ, ah, cL, bf, bf.viewCs, bA, bA.flatCs, aK, aK.LensOks, Value.oneCell', ↓reduceIte, ite_true, ite_false, if_true, if_false, Nat.reduceAdd, Nat.reduceSub, Nat.reduceMul, Nat.reduceEqDiff, Nat.reduceLT, Nat.reduceLeDiff, reduceCtorEq, Int.reduceToNat, forall_const, implies_true, a6, Ent.mk3, bw, bC, bB, bk, bl, bo, bH, bL, bg, be, bz, cH, bn, cQ, rn, bS, bS.renCs, aI, aN, aY, aY.viewOks, aJ, bm, bm.flatBs, aG, an, av, ar, az, bq, bq.keysBs, aT, ap, bj, cp, bD, cg, af, af.passKs, aD, aL, ae, ae.lendKs, cM, cq, cz, bG, setInn, ag, cN, db, ay, br, bP, cj, aC, aU, Glob.gl, ax, cK, aZ, cm, bv, aj, cD, cS, cB, cW, cu, au, au.ptrOnlys, ak, aM, bY, aB, bI, a8, bU, aQ, bp, cF, Nat.reduceBEq, undef]; simp
  · by_cases h : i < m.length
    · have hi2 : (i : Int) < (m.length : Int) := by omega
      have hrl := hr _ (getD_mem [] h)
      delta c45l2
      simp (maxSteps := 4000000) -implicitDefEqProofs only [hi2, getD_list, h, Ent.of0, Ent.of1, Ent.of2, Ent.of3, V, cc, bE, bN, bR, cV, cT, gt, lk, co, cC, cJ, cd, ca, bV, bV.subCs, cO, bu, bF, bZ, aV, bt, bh, aW, bM, bK, aH, a7, aX, cr, dd, cY, aq, aw, bT, cI, cb, cP, cU, aP, am, bQ, bJ, zC, argS, bO, ce, da, cR, ai, aE, aO, aA, cG, leC, cn, b0, bW, dc, bX, aR, aF, cZ, ah, cL, bf, bf.viewCs, bA, bA.flatCs, aK, aK.LensOks, Value.oneCell', ↓reduceIte, ite_true, ite_false, if_true, if_false, Nat.reduceAdd, Nat.reduceSub, Nat.reduceMul, Nat.reduceEqDiff, Nat.reduceLT, Nat.reduceLeDiff, reduceCtorEq, Int.reduceToNat, forall_const, implies_true, a6, Ent.mk3, bw, bC, bB, bk, bl, bo, bH, bL, bg, be, bz, cH, bn, cQ, rn, bS, bS.renCs, aI, aN, aY, aY.viewOks, aJ, bm, bm.flatBs, aG, an, av, ar, az, bq, bq.keysBs, aT, ap, bj, cp, bD, cg, af, af.passKs, aD, aL, ae, ae.lendKs, cM, cq, cz, bG, setInn, ag, cN, db, ay, br, bP, cj, aC, aU, Glob.gl, ax, cK, aZ, cm, bv, aj, cD, cS, cB, cW, cu, au, au.ptrOnlys, ak, aM, bY, aB, bI, a8, bU, aQ, bp, cF, Nat.reduceBEq, undef]
      refine ⟨by omega, ?_⟩
      generalize hR : m.getD i [] = R at *
      refine S_forU R.length (fun j => [(17, .s (.int .i64 j))]) (fun j => [(6, .row 1 120 (((R.take j).map toW).map cells))]) (fun _ => True) trivial ?_ (fun j hj _ => S_run [] 800 ?_)
      · simp (maxSteps := 4000000) -implicitDefEqProofs only [Ent.of0, Ent.of1, Ent.of2, Ent.of3, V, cc, bE, bN, bR, cV, cT, gt, lk, co, cC, cJ, cd, ca, bV, bV.subCs, cO, bu, bF, bZ, aV, bt, bh, aW, bM, bK, aH, a7, aX, cr, dd, cY, aq, aw, bT, cI, cb, cP, cU, aP, am, bQ, bJ, zC, argS, bO, ce, da, cR, ai, aE, aO, aA, cG, leC, cn, b0, bW, dc, bX, aR, aF, cZ, ah, cL, bf, bf.viewCs, bA, bA.flatCs, aK, aK.LensOks, Value.oneCell', ↓reduceIte, ite_true, ite_false, if_true, if_false, Nat.reduceAdd, Nat.reduceSub, Nat.reduceMul, Nat.reduceEqDiff, Nat.reduceLT, Nat.reduceLeDiff, reduceCtorEq, Int.reduceToNat, forall_const, implies_true, a6, Ent.mk3, bw, bC, bB, bk, bl, bo, bH, bL, bg, be, bz, cH, bn, cQ, rn, bS, bS.renCs, aI, aN, aY, aY.viewOks, aJ, bm, bm.flatBs, aG, an, av, ar, az, bq, bq.keysBs, aT, ap, bj, cp, bD, cg, af, af.passKs, aD, aL, ae, ae.lendKs, cM, cq, cz, bG, setInn, ag, cN, db, ay, br, bP, cj, aC, aU, Glob.gl, ax, cK, aZ, cm, bv, aj, cD, cS, cB, cW, cu, au, au.ptrOnlys, ak, aM, bY, aB, bI, a8, bU, aQ, bp, cF, Nat.reduceBEq, undef]; simp
      · by_cases hjl : j < R.length
        · have hj2 : (j : Int) < (R.length : Int) := by omega
          have htk : ((R.take j).map toW).map cells ++ [[C.s (.complex .f64 (FloatKind.f64.nearest (R.getD j ⟨0, 0⟩).re) (FloatKind.f64.nearest (R.getD j ⟨0, 0⟩).im))]] = ((R.take (j + 1)).map toW).map cells := by
            rw [take_getD ⟨0, 0⟩ hjl, List.map_append, List.map_append]; rfl
          have htl : (R.take j).length = j := by rw [List.length_take]; omega
          delta c45l1
          simp (maxSteps := 4000000) -implicitDefEqProofs only [hj2, hjl, cr, htk, htl, InR, Ent.of0, Ent.of1, Ent.of2, Ent.of3, V, cc, bE, bN, bR, cV, cT, gt, lk, co, cC, cJ, cd, ca, bV, bV.subCs, cO, bu, bF, bZ, aV, bt, bh, aW, bM, bK, aH, a7, aX, cr, dd, cY, aq, aw, bT, cI, cb, cP, cU, aP, am, bQ, bJ, zC, argS, bO, ce, da, cR, ai, aE, aO, aA, cG, leC, cn, b0, bW, dc, bX, aR, aF, cZ, ah, cL, bf, bf.viewCs, bA, bA.flatCs, aK, aK.LensOks, Value.oneCell', ↓reduceIte, ite_true, ite_false, if_true, if_false, Nat.reduceAdd, Nat.reduceSub, Nat.reduceMul, Nat.reduceEqDiff, Nat.reduceLT, Nat.reduceLeDiff, reduceCtorEq, Int.reduceToNat, forall_const, implies_true, a6, Ent.mk3, bw, bC, bB, bk, bl, bo, bH, bL, bg, be, bz, cH, bn, cQ, rn, bS, bS.renCs, aI, aN, aY, aY.viewOks, aJ, bm, bm.flatBs, aG, an, av, ar, az, bq, bq.keysBs, aT, ap, bj, cp, bD, cg, af, af.passKs, aD, aL, ae, ae.lendKs, cM, cq, cz, bG, setInn, ag, cN, db, ay, br, bP, cj, aC, aU, Glob.gl, ax, cK, aZ, cm, bv, aj, cD, cS, cB, cW, cu, au, au.ptrOnlys, ak, aM, bY, aB, bI, a8, bU, aQ, bp, cF, Nat.reduceBEq, undef]
          and_intros <;> first | omega | rfl | trivial
        · have : j = R.length := by omega
          subst this
          have hj2 : ¬ (R.length : Int) < (R.length : Int) := by omega
          have htk : (gridS (m.take i)).map cells ++ [[C.sl 1 ((R.map toW).map cells)]] = (gridS (m.take (i + 1))).map cells := by
            rw [take_getD [] h, hR, gridS, gridS, List.map_append, List.map_append]; rfl
          have htl : (gridS (m.take i)).length = i := by rw [gridS, List.length_map, List.length_take]; omega
          delta c45l1
          simp (maxSteps := 4000000) -implicitDefEqProofs only [hj2, List.take_length, htk, htl, InR, Ent.of0, Ent.of1, Ent.of2, Ent.of3, V, cc, bE, bN, bR, cV, cT, gt, lk, co, cC, cJ, cd, ca, bV, bV.subCs, cO, bu, bF, bZ, aV, bt, bh, aW, bM, bK, aH, a7, aX, cr, dd, cY, aq, aw, bT, cI, cb, cP, cU, aP, am, bQ, bJ, zC, argS, bO, ce, da, cR, ai, aE, aO, aA, cG, leC, cn, b0, bW, dc, bX, aR, aF, cZ, ah, cL, bf, bf.viewCs, bA, bA.flatCs, aK, aK.LensOks, Value.oneCell', ↓reduceIte, ite_true, ite_false, if_true, if_false, Nat.reduceAdd, Nat.reduceSub, Nat.reduceMul, Nat.reduceEqDiff, Nat.reduceLT, Nat.reduceLeDiff, reduceCtorEq, Int.reduceToNat, forall_const, implies_true, a6, Ent.mk3, bw, bC, bB, bk, bl, bo, bH, bL, bg, be, bz, cH, bn, cQ, rn, bS, bS.renCs, aI, aN, aY, aY.viewOks, aJ, bm, bm.flatBs, aG, an, av, ar, az, bq, bq.keysBs, aT, ap, bj, cp, bD, cg, af, af.passKs, aD, aL, ae, ae.lendKs, cM, cq, cz, bG, setInn, ag, cN, db, ay, br, bP, cj, aC, aU, Glob.gl, ax, cK, aZ, cm, bv, aj, cD, cS, cB, cW, cu, au, au.ptrOnlys, ak, aM, bY, aB, bI, a8, bU, aQ, bp, cF, Nat.reduceBEq, undef]
          and_intros <;> first | omega | rfl | trivial
    · have : i = m.length := by omega
      subst this
      have hi2 : ¬ (m.length : Int) < (m.length : Int) := by omega
      delta c45l2
      simp (maxSteps := 4000000) -implicitDefEqProofs only [hi2, rv45, List.take_length, Ent.of0, Ent.of1, Ent.of2, Ent.of3, V, cc, bE, bN, bR, cV, cT, gt, lk, co, cC, cJ, cd, ca, bV, bV.subCs, cO, bu, bF, bZ, aV, bt, bh, aW, bM, bK, aH, a7, aX, cr, dd, cY, aq, aw, bT, cI, cb, cP, cU, aP, am, bQ, bJ, zC, argS, bO, ce, da, cR, ai, aE, aO, aA, cG, leC, cn, b0, bW, dc, bX, aR, aF, cZ, ah, cL, bf, bf.viewCs, bA, bA.flatCs, aK, aK.LensOks, Value.oneCell', ↓reduceIte, ite_true, ite_false, if_true, if_false, Nat.reduceAdd, Nat.reduceSub, Nat.reduceMul, Nat.reduceEqDiff, Nat.reduceLT, Nat.reduceLeDiff, reduceCtorEq, Int.reduceToNat, forall_const, implies_true, a6, Ent.mk3, bw, bC, bB, bk, bl, bo, bH, bL, bg, be, bz, cH, bn, cQ, rn, bS, bS.renCs, aI, aN, aY, aY.viewOks, aJ, bm, bm.flatBs, aG, an, av, ar, az, bq, bq.keysBs, aT, ap, bj, cp, bD, cg, af, af.passKs, aD, aL, ae, ae.lendKs, cM, cq, cz, bG, setInn, ag, cN, db, ay, br, bP, cj, aC, aU, Glob.gl, ax, cK, aZ, cm, bv, aj, cD, cS, cB, cW, cu, au, au.ptrOnlys, ak, aM, bY, aB, bI, a8, bU, aQ, bp, cF, Nat.reduceBEq, undef]
def ent45 : Ent Tryz.prog := .of1 45 (fun m => m.length ≤ 1000 ∧ ∀ r ∈ m, r.length ≤ 1000000) (fun m : List (List Gs) => enc (gridS m)) (fun _ => trivial) (fun m h => gridOf_c m h.1 h.2)
end Go.Proofs.YtfgpbmjmoobcnaaGreatDoor
end
section
open Go Go.Am
open Go.Am.Dat (cells)
namespace Go.Proofs.YtfgpbmjmoobcnaaGreatDoor
set_option maxHeartbeats 4000000
set_option maxRecDepth 20000
set_option linter.unusedSimpArgs false
def dotW (row : List Fz) (o : List (List Fz)) (i : Nat) : Nat → Fz
  | 0 => ⟨0, 0⟩
  | k + 1 => addW (dotW row o i k) (mulW (row.getD k ⟨0, 0⟩) ((o.getD k []).getD i ⟨0, 0⟩))
def rowW (o : List (List Fz)) (row : List Fz) : List Fz := (List.range (o.getD 0 []).length).map fun i => dotW row o i o.length
def timesW (a o : List (List Fz)) : List (List Fz) := a.map (rowW o)
def sumW (row : List Fz) (o : List (List Fz)) (n k j : Nat) : List Fz := (List.range n).map fun i => if i < j then dotW row o i (k + 1) else dotW row o i k
theorem sumW_get {row : List Fz} {o : List (List Fz)} {n k j : Nat} (h : j < n) : (sumW row o n k j).getD j ⟨0, 0⟩ = dotW row o j k := by
  simp [sumW, h]
theorem sumW_set {row : List Fz} {o : List (List Fz)} {n k j : Nat} (h : j < n) : ((sumW row o n k j).map cells).set j [C.s (.complex .f64 (dotW row o j (k + 1)).x (dotW row o j (k + 1)).y)] = (sumW row o n k (j + 1)).map cells := by
  have e : [C.s (.complex .f64 (dotW row o j (k + 1)).x (dotW row o j (k + 1)).y)] = cells (dotW row o j (k + 1)) := rfl
  rw [e, ← List.map_set]
  congr 1
  apply List.ext_getElem?
  intro i
  simp only [sumW, List.getElem?_set, List.getElem?_map, List.length_map, List.length_range]
  by_cases hi : j = i
  · subst hi; simp [h]
  · rw [if_neg hi]
    by_cases hin : i < n
    · simp only [List.getElem?_range hin, Option.map_some, Option.some.injEq]
      have : (i < j + 1) = (i < j) := by apply propext; omega
      simp only [this]
    · rw [List.getElem?_eq_none (by simpa using hin)]; rfl
theorem sumW_next (row : List Fz) (o : List (List Fz)) (n k : Nat) : sumW row o n k n = sumW row o n (k + 1) 0 := by
  unfold sumW
  refine List.map_congr_left fun i hi => ?_
  have : i < n := by simpa using hi
  simp [this]
theorem rng_getD {α : Type} {n i : Nat} (f : Nat → α) (d : α) (h : i < n) : ((List.range n).map f).getD i d = f i := by
  rw [List.getD_eq_getElem?_getD, List.getElem?_map, List.getElem?_range h]; rfl
theorem sumW_zero (row : List Fz) (o : List (List Fz)) (n : Nat) : (sumW row o n 0 0).map cells = List.replicate n [C.s (.complex .f64 0 0)] := by
  unfold sumW
  rw [List.map_map, List.eq_replicate_iff]
  refine ⟨by simp, fun b hb => ?_⟩
  obtain ⟨i, _, rfl⟩ := List.mem_map.1 hb
  simp [dotW, cells_fz]
theorem dot_c {a o : List (List Fz)} {m ls : List (List Gs)} {A B : Nat} (hf : Fits m ls A B) (hs : 8 * (A * B) ≤ 9007199254740991) (ha : RepM a m) (ho : RepM o ls) {r i : Nat} (hr : r < m.length) (hi : i < (ls.getD 0 []).length) : ∀ k, k ≤ ls.length → IsC (dotW (a.getD r []) o i k) (dotS (m.getD r []) ls i k) ∧
    (k < ls.length → aw .mul ((a.getD r []).getD k ⟨0, 0⟩).x ((a.getD r []).getD k ⟨0, 0⟩).y ((o.getD k []).getD i ⟨0, 0⟩).x ((o.getD k []).getD i ⟨0, 0⟩).y = some ((mulW ((a.getD r []).getD k ⟨0, 0⟩) ((o.getD k []).getD i ⟨0, 0⟩)).x, (mulW ((a.getD r []).getD k ⟨0, 0⟩) ((o.getD k []).getD i ⟨0, 0⟩)).y) ∧
      aw .add (dotW (a.getD r []) o i k).x (dotW (a.getD r []) o i k).y (mulW ((a.getD r []).getD k ⟨0, 0⟩) ((o.getD k []).getD i ⟨0, 0⟩)).x (mulW ((a.getD r []).getD k ⟨0, 0⟩) ((o.getD k []).getD i ⟨0, 0⟩)).y = some ((dotW (a.getD r []) o i (k + 1)).x, (dotW (a.getD r []) o i (k + 1)).y) ∧
      IsC (dotW (a.getD r []) o i (k + 1)) (dotS (m.getD r []) ls i (k + 1))) := by
  have hrm : m.getD r [] ∈ m := getD_mem [] hr
  have hcol := hf.cols _ hrm
  have step : ∀ k, k < ls.length → IsC (dotW (a.getD r []) o i k) (dotS (m.getD r []) ls i k) → (aw .mul ((a.getD r []).getD k ⟨0, 0⟩).x ((a.getD r []).getD k ⟨0, 0⟩).y ((o.getD k []).getD i ⟨0, 0⟩).x ((o.getD k []).getD i ⟨0, 0⟩).y = some ((mulW ((a.getD r []).getD k ⟨0, 0⟩) ((o.getD k []).getD i ⟨0, 0⟩)).x, (mulW ((a.getD r []).getD k ⟨0, 0⟩) ((o.getD k []).getD i ⟨0, 0⟩)).y) ∧
      aw .add (dotW (a.getD r []) o i k).x (dotW (a.getD r []) o i k).y (mulW ((a.getD r []).getD k ⟨0, 0⟩) ((o.getD k []).getD i ⟨0, 0⟩)).x (mulW ((a.getD r []).getD k ⟨0, 0⟩) ((o.getD k []).getD i ⟨0, 0⟩)).y = some ((dotW (a.getD r []) o i (k + 1)).x, (dotW (a.getD r []) o i (k + 1)).y) ∧
      IsC (dotW (a.getD r []) o i (k + 1)) (dotS (m.getD r []) ls i (k + 1))) := fun k hk hd => by
    have hik : i < (ls.getD k []).length := by rw [hf.len _ (getD_mem [] hk)]; exact hi
    have b1 := hf.ma _ hrm _ (getD_mem ⟨0, 0⟩ (by omega : k < (m.getD r []).length))
    have b2 := hf.mb _ (getD_mem [] hk) _ (getD_mem ⟨0, 0⟩ hik)
    have b3 := bd_dot hf hrm hi k (by omega)
    have hle := hf.le
    obtain ⟨m1, m2⟩ := mulW_c ((ha.2 r hr).2 k (by omega)) ((ho.2 k hk).2 i hik) b1 b2 (by omega)
    have b4 := bd_gmul b1 b2
    obtain ⟨a1, a2⟩ := addW_c hd m2 b3 b4 (by
      have : k * (2 * (A * B)) ≤ 3 * (2 * (A * B)) := Nat.mul_le_mul_right _ (by omega)
      omega)
    exact ⟨m1, a1, a2⟩
  intro k
  induction k with
  | zero => intro _; exact ⟨isC_zero, fun h => step 0 h isC_zero⟩
  | succ k ih =>
    intro hk
    have := ((ih (by omega)).2 (by omega)).2.2
    exact ⟨this, fun h => step (k + 1) h this⟩
theorem times_rep {a o : List (List Fz)} {m ls : List (List Gs)} {A B : Nat} (hf : Fits m ls A B) (hs : 8 * (A * B) ≤ 9007199254740991) (ha : RepM a m) (ho : RepM o ls) : RepM (timesW a o) (applS m ls) := by
  have hp := hf.pos
  refine ⟨by simp [timesW, applS, ha.1], fun r hr => ?_⟩
  have hr' : r < m.length := by simpa [applS] using hr
  rw [timesW, applS, getD_map' _ a r [] [] (by rw [ha.1]; exact hr'), getD_map' _ m r [] [] hr']
  have hl : (o.getD 0 []).length = (ls.getD 0 []).length := (ho.2 0 hp).1
  refine ⟨by simp only [rowW, rowS', List.length_map, List.length_range, hl], fun i hi => ?_⟩
  have hi' : i < (ls.getD 0 []).length := by simpa [rowS'] using hi
  have := (dot_c hf hs ha ho hr' hi' ls.length (Nat.le_refl _)).1
  have e1 : (rowW o (a.getD r [])).getD i ⟨0, 0⟩ = dotW (a.getD r []) o i ls.length := by rw [rowW, hl, ho.1, rng_getD _ _ hi']
  have e2 : (rowS' ls (m.getD r [])).getD i ⟨0, 0⟩ = dotS (m.getD r []) ls i ls.length := by rw [rowS', rng_getD _ _ hi']
  rw [e1, e2]; exact this
theorem gridTimes_c (a o : List (List Fz)) (m ls : List (List Gs)) (A B : Nat) (hf : Fits m ls A B) (hs : 8 * (A * B) ≤ 9007199254740991) (ha : RepM a m) (ho : RepM o ls) : FC Tryz.prog 47 [enc a, enc o] [] (enc (timesW a o)) [] := by
  refine fc_intro' is47 (by simp) (fun cx hl => S_run [] 800 ?_)
  have hp := hf.pos
  have hle := hf.le
  have hmle := hf.mle
  have hsh := hf.short
  have hoL := ho.1
  have haL := ha.1
  have hn0 : (o.getD 0 []).length = (ls.getD 0 []).length := (ho.2 0 hp).1
  generalize hn : (ls.getD 0 []).length = n at *
  have ho0 : 0 < o.length := by omega
  delta c47
  simp (maxSteps := 4000000) -implicitDefEqProofs only [rv47, Ent.of0, Ent.of1, Ent.of2, Ent.of3, V, cc, bE, bN, bR, cV, cT, gt, lk, co, cC, cJ, cd, ca, bV, bV.subCs, cO, bu, bF, bZ, aV, bt, bh, aW, bM, bK, aH, a7, aX, cr, dd, cY, aq, aw, bT, cI, cb, cP, cU, aP, am, bQ, bJ, zC, argS, bO, ce, da, cR, ai, aE, aO, aA, cG, leC, cn, b0, bW, dc, bX, aR, aF, cZ, ah, cL, bf, bf.viewCs, bA, bA.flatCs, aK, aK.LensOks, Value.oneCell', ↓reduceIte, ite_true, ite_false, if_true, if_false, Nat.reduceAdd, Nat.reduceSub, Nat.reduceMul, Nat.reduceEqDiff, Nat.reduceLT, Nat.reduceLeDiff, reduceCtorEq, Int.reduceToNat, forall_const, implies_true, a6, Ent.mk3, bw, bC, bB, bk, bl, bo, bH, bL, bg, be, bz, cH, bn, cQ, rn, bS, bS.renCs, aI, aN, aY, aY.viewOks, aJ, bm, bm.flatBs, aG, an, av, ar, az, bq, bq.keysBs, aT, ap, bj, cp, bD, cg, af, af.passKs, aD, aL, ae, ae.lendKs, cM, cq, cz, bG, setInn, ag, cN, db, ay, br, bP, cj, aC, aU, Glob.gl, ax, cK, aZ, cm, bv, aj, cD, cS, cB, cW, cu, au, au.ptrOnlys, ak, aM, bY, aB, bI, a8, bU, aQ, bp, cF, Nat.reduceBEq, undef]
  refine S_forU a.length (fun i => [(15, .s (.int .i64 i))]) (fun i => [(5, .row 1 119 ((timesW (a.take i) o).map cells))]) (fun _ => True) trivial ?_ (fun i hi _ => S_run [] 800 ?_)
  · simp (maxSteps := 4000000) -implicitDefEqProofs only [timesW, Ent.of0, Ent.of1, Ent.of2, Ent.of3, V, cc, bE, bN, bR, cV, cT, gt, lk, co, cC, cJ, cd, ca, bV, bV.subCs, cO, bu, bF, bZ, aV, bt, bh, aW, bM, bK, aH, a7, aX, cr, dd, cY, aq, aw, bT, cI, cb, cP, cU, aP, am, bQ, bJ, zC, argS, bO, ce, da, cR, ai, aE, aO, aA, cG, leC, cn, b0, bW, dc, bX, aR, aF, cZ, ah, cL, bf, bf.viewCs, bA, bA.flatCs, aK, aK.LensOks, Value.oneCell', ↓reduceIte, ite_true, ite_false, if_true, if_false, Nat.reduceAdd, Nat.reduceSub, Nat.reduceMul, Nat.reduceEqDiff, Nat.reduceLT, Nat.reduceLeDiff, reduceCtorEq, Int.reduceToNat, forall_const, implies_true, a6, Ent.mk3, bw, bC, bB, bk, bl, bo, bH, bL, bg, be, bz, cH, bn, cQ, rn, bS, bS.renCs, aI, aN, aY, aY.viewOks, aJ, bm, bm.flatBs, aG, an, av, ar, az, bq, bq.keysBs, aT, ap, bj, cp, bD, cg, af, af.passKs, aD, aL, ae, ae.lendKs, cM, cq, cz, bG, setInn, ag, cN, db, ay, br, bP, cj, aC, aU, Glob.gl, ax, cK, aZ, cm, bv, aj, cD, cS, cB, cW, cu, au, au.ptrOnlys, ak, aM, bY, aB, bI, a8, bU, aQ, bp, cF, Nat.reduceBEq, undef]; simp
  · by_cases h : i < a.length
    · have hi2 : (i : Int) < (a.length : Int) := by omega
      have him : i < m.length := by omega
      have hcol : (a.getD i []).length = ls.length := by rw [(ha.2 i him).1]; exact hf.cols _ (getD_mem [] him)
      delta c47l3
      simp (maxSteps := 4000000) -implicitDefEqProofs only [sz_fz, hi2, getD_list, h, ho0, hn0, Int.toNat_natCast, InR, Ent.of0, Ent.of1, Ent.of2, Ent.of3, V, cc, bE, bN, bR, cV, cT, gt, lk, co, cC, cJ, cd, ca, bV, bV.subCs, cO, bu, bF, bZ, aV, bt, bh, aW, bM, bK, aH, a7, aX, cr, dd, cY, aq, aw, bT, cI, cb, cP, cU, aP, am, bQ, bJ, zC, argS, bO, ce, da, cR, ai, aE, aO, aA, cG, leC, cn, b0, bW, dc, bX, aR, aF, cZ, ah, cL, bf, bf.viewCs, bA, bA.flatCs, aK, aK.LensOks, Value.oneCell', ↓reduceIte, ite_true, ite_false, if_true, if_false, Nat.reduceAdd, Nat.reduceSub, Nat.reduceMul, Nat.reduceEqDiff, Nat.reduceLT, Nat.reduceLeDiff, reduceCtorEq, Int.reduceToNat, forall_const, implies_true, a6, Ent.mk3, bw, bC, bB, bk, bl, bo, bH, bL, bg, be, bz, cH, bn, cQ, rn, bS, bS.renCs, aI, aN, aY, aY.viewOks, aJ, bm, bm.flatBs, aG, an, av, ar, az, bq, bq.keysBs, aT, ap, bj, cp, bD, cg, af, af.passKs, aD, aL, ae, ae.lendKs, cM, cq, cz, bG, setInn, ag, cN, db, ay, br, bP, cj, aC, aU, Glob.gl, ax, cK, aZ, cm, bv, aj, cD, cS, cB, cW, cu, au, au.ptrOnlys, ak, aM, bY, aB, bI, a8, bU, aQ, bp, cF, Nat.reduceBEq, undef]
      refine ⟨by omega, by omega, by omega, ?_⟩
      generalize hR : a.getD i [] = R at *
      refine S_forU R.length (fun k => [(26, .s (.int .i64 k))]) (fun k => [(23, .row 1 120 ((sumW R o n k 0).map cells))]) (fun _ => True) trivial ?_ (fun k hk _ => S_run [] 800 ?_)
      · simp (maxSteps := 4000000) -implicitDefEqProofs only [sumW_zero, Ent.of0, Ent.of1, Ent.of2, Ent.of3, V, cc, bE, bN, bR, cV, cT, gt, lk, co, cC, cJ, cd, ca, bV, bV.subCs, cO, bu, bF, bZ, aV, bt, bh, aW, bM, bK, aH, a7, aX, cr, dd, cY, aq, aw, bT, cI, cb, cP, cU, aP, am, bQ, bJ, zC, argS, bO, ce, da, cR, ai, aE, aO, aA, cG, leC, cn, b0, bW, dc, bX, aR, aF, cZ, ah, cL, bf, bf.viewCs, bA, bA.flatCs, aK, aK.LensOks, Value.oneCell', ↓reduceIte, ite_true, ite_false, if_true, if_false, Nat.reduceAdd, Nat.reduceSub, Nat.reduceMul, Nat.reduceEqDiff, Nat.reduceLT, Nat.reduceLeDiff, reduceCtorEq, Int.reduceToNat, forall_const, implies_true, a6, Ent.mk3, bw, bC, bB, bk, bl, bo, bH, bL, bg, be, bz, cH, bn, cQ, rn, bS, bS.renCs, aI, aN, aY, aY.viewOks, aJ, bm, bm.flatBs, aG, an, av, ar, az, bq, bq.keysBs, aT, ap, bj, cp, bD, cg, af, af.passKs, aD, aL, ae, ae.lendKs, cM, cq, cz, bG, setInn, ag, cN, db, ay, br, bP, cj, aC, aU, Glob.gl, ax, cK, aZ, cm, bv, aj, cD, cS, cB, cW, cu, au, au.ptrOnlys, ak, aM, bY, aB, bI, a8, bU, aQ, bp, cF, Nat.reduceBEq, undef]; simp
      · by_cases hkl : k < R.length
        · have hk2 : (k : Int) < (R.length : Int) := by omega
          have hko : k < o.length := by omega
          have hkn : (o.getD k []).length = n := by rw [(ho.2 k (by omega)).1, ← hn]; exact hf.len _ (getD_mem [] (by omega))
          delta c47l2
          simp (maxSteps := 4000000) -implicitDefEqProofs only [hk2, hkl, hko, getD_list, getD_fz, sz_fz, Ent.of0, Ent.of1, Ent.of2, Ent.of3, V, cc, bE, bN, bR, cV, cT, gt, lk, co, cC, cJ, cd, ca, bV, bV.subCs, cO, bu, bF, bZ, aV, bt, bh, aW, bM, bK, aH, a7, aX, cr, dd, cY, aq, aw, bT, cI, cb, cP, cU, aP, am, bQ, bJ, zC, argS, bO, ce, da, cR, ai, aE, aO, aA, cG, leC, cn, b0, bW, dc, bX, aR, aF, cZ, ah, cL, bf, bf.viewCs, bA, bA.flatCs, aK, aK.LensOks, Value.oneCell', ↓reduceIte, ite_true, ite_false, if_true, if_false, Nat.reduceAdd, Nat.reduceSub, Nat.reduceMul, Nat.reduceEqDiff, Nat.reduceLT, Nat.reduceLeDiff, reduceCtorEq, Int.reduceToNat, forall_const, implies_true, a6, Ent.mk3, bw, bC, bB, bk, bl, bo, bH, bL, bg, be, bz, cH, bn, cQ, rn, bS, bS.renCs, aI, aN, aY, aY.viewOks, aJ, bm, bm.flatBs, aG, an, av, ar, az, bq, bq.keysBs, aT, ap, bj, cp, bD, cg, af, af.passKs, aD, aL, ae, ae.lendKs, cM, cq, cz, bG, setInn, ag, cN, db, ay, br, bP, cj, aC, aU, Glob.gl, ax, cK, aZ, cm, bv, aj, cD, cS, cB, cW, cu, au, au.ptrOnlys, ak, aM, bY, aB, bI, a8, bU, aQ, bp, cF, Nat.reduceBEq, undef]
          refine ⟨by omega, by omega, ?_⟩
          refine S_forU n (fun j => [(36, .s (.int .i64 j))]) (fun j => [(23, .row 1 120 ((sumW R o n k j).map cells))]) (fun _ => True) trivial ?_ (fun j hj _ => S_run [] 800 ?_)
          · simp (maxSteps := 4000000) -implicitDefEqProofs only [Ent.of0, Ent.of1, Ent.of2, Ent.of3, V, cc, bE, bN, bR, cV, cT, gt, lk, co, cC, cJ, cd, ca, bV, bV.subCs, cO, bu, bF, bZ, aV, bt, bh, aW, bM, bK, aH, a7, aX, cr, dd, cY, aq, aw, bT, cI, cb, cP, cU, aP, am, bQ, bJ, zC, argS, bO, ce, da, cR, ai, aE, aO, aA, cG, leC, cn, b0, bW, dc, bX, aR, aF, cZ, ah, cL, bf, bf.viewCs, bA, bA.flatCs, aK, aK.LensOks, Value.oneCell', ↓reduceIte, ite_true, ite_false, if_true, if_false, Nat.reduceAdd, Nat.reduceSub, Nat.reduceMul, Nat.reduceEqDiff, Nat.reduceLT, Nat.reduceLeDiff, reduceCtorEq, Int.reduceToNat, forall_const, implies_true, a6, Ent.mk3, bw, bC, bB, bk, bl, bo, bH, bL, bg, be, bz, cH, bn, cQ, rn, bS, bS.renCs, aI, aN, aY, aY.viewOks, aJ, bm, bm.flatBs, aG, an, av, ar, az, bq, bq.keysBs, aT, ap, bj, cp, bD, cg, af, af.passKs, aD, aL, ae, ae.lendKs, cM, cq, cz, bG, setInn, ag, cN, db, ay, br, bP, cj, aC, aU, Glob.gl, ax, cK, aZ, cm, bv, aj, cD, cS, cB, cW, cu, au, au.ptrOnlys, ak, aM, bY, aB, bI, a8, bU, aQ, bp, cF, Nat.reduceBEq, undef]; simp
          · by_cases hjl : j < n
            · have hj2 : (j : Int) < (n : Int) := by omega
              have hjk : j < (o.getD k []).length := by omega
              obtain ⟨d1, d2⟩ := dot_c hf hs ha ho him (by omega : j < (ls.getD 0 []).length) k (by omega)
              rw [hR] at d1 d2
              obtain ⟨d3, d4, d5⟩ := d2 (by omega)
              have hsl : (sumW R o n k j).length = n := by simp [sumW]
              have hsg := sumW_get (row := R) (o := o) (k := k) hjl
              have hsg' : ((sumW R o n k j).map cells).getD j [] = [C.s (.complex .f64 (dotW R o j k).x (dotW R o j k).y)] := by rw [getD_map' cells _ j ⟨0, 0⟩ _ (by omega), hsg]; rfl
              have hss := sumW_set (row := R) (o := o) (k := k) hjl
              simp only [aw] at d3 d4
              delta c47l1
              simp (maxSteps := 4000000) -implicitDefEqProofs only [sz_fz, hj2, hjl, hjk, hkn, cr, getD_fz, hsg, d3, d4, hsl, hsg', hss, aW, InR, Ent.of0, Ent.of1, Ent.of2, Ent.of3, V, cc, bE, bN, bR, cV, cT, gt, lk, co, cC, cJ, cd, ca, bV, bV.subCs, cO, bu, bF, bZ, aV, bt, bh, aW, bM, bK, aH, a7, aX, cr, dd, cY, aq, aw, bT, cI, cb, cP, cU, aP, am, bQ, bJ, zC, argS, bO, ce, da, cR, ai, aE, aO, aA, cG, leC, cn, b0, bW, dc, bX, aR, aF, cZ, ah, cL, bf, bf.viewCs, bA, bA.flatCs, aK, aK.LensOks, Value.oneCell', ↓reduceIte, ite_true, ite_false, if_true, if_false, Nat.reduceAdd, Nat.reduceSub, Nat.reduceMul, Nat.reduceEqDiff, Nat.reduceLT, Nat.reduceLeDiff, reduceCtorEq, Int.reduceToNat, forall_const, implies_true, a6, Ent.mk3, bw, bC, bB, bk, bl, bo, bH, bL, bg, be, bz, cH, bn, cQ, rn, bS, bS.renCs, aI, aN, aY, aY.viewOks, aJ, bm, bm.flatBs, aG, an, av, ar, az, bq, bq.keysBs, aT, ap, bj, cp, bD, cg, af, af.passKs, aD, aL, ae, ae.lendKs, cM, cq, cz, bG, setInn, ag, cN, db, ay, br, bP, cj, aC, aU, Glob.gl, ax, cK, aZ, cm, bv, aj, cD, cS, cB, cW, cu, au, au.ptrOnlys, ak, aM, bY, aB, bI, a8, bU, aQ, bp, cF, Nat.reduceBEq, undef]
              and_intros <;> first | omega | rfl | trivial
            · have : j = n := by omega
              subst this
              have hj2 : ¬ (j : Int) < (j : Int) := by omega
              have hsn := sumW_next R o j k
              delta c47l1
              simp (maxSteps := 4000000) -implicitDefEqProofs only [hj2, hkn, hsn, InR, Ent.of0, Ent.of1, Ent.of2, Ent.of3, V, cc, bE, bN, bR, cV, cT, gt, lk, co, cC, cJ, cd, ca, bV, bV.subCs, cO, bu, bF, bZ, aV, bt, bh, aW, bM, bK, aH, a7, aX, cr, dd, cY, aq, aw, bT, cI, cb, cP, cU, aP, am, bQ, bJ, zC, argS, bO, ce, da, cR, ai, aE, aO, aA, cG, leC, cn, b0, bW, dc, bX, aR, aF, cZ, ah, cL, bf, bf.viewCs, bA, bA.flatCs, aK, aK.LensOks, Value.oneCell', ↓reduceIte, ite_true, ite_false, if_true, if_false, Nat.reduceAdd, Nat.reduceSub, Nat.reduceMul, Nat.reduceEqDiff, Nat.reduceLT, Nat.reduceLeDiff, reduceCtorEq, Int.reduceToNat, forall_const, implies_true, a6, Ent.mk3, bw, bC, bB, bk, bl, bo, bH, bL, bg, be, bz, cH, bn, cQ, rn, bS, bS.renCs, aI, aN, aY, aY.viewOks, aJ, bm, bm.flatBs, aG, an, av, ar, az, bq, bq.keysBs, aT, ap, bj, cp, bD, cg, af, af.passKs, aD, aL, ae, ae.lendKs, cM, cq, cz, bG, setInn, ag, cN, db, ay, br, bP, cj, aC, aU, Glob.gl, ax, cK, aZ, cm, bv, aj, cD, cS, cB, cW, cu, au, au.ptrOnlys, ak, aM, bY, aB, bI, a8, bU, aQ, bp, cF, Nat.reduceBEq, undef]
              and_intros <;> first | omega | rfl | trivial
        · have : k = R.length := by omega
          subst this
          have hk2 : ¬ (R.length : Int) < (R.length : Int) := by omega
          have hrow : rowW o R = sumW R o n R.length 0 := by
            rw [rowW, hn0, hcol, ← hoL, sumW]
            refine List.map_congr_left fun i _ => ?_
            simp
          have htk : (timesW (a.take i) o).map cells ++ [[C.sl 1 ((sumW R o n R.length 0).map cells)]] = (timesW (a.take (i + 1)) o).map cells := by
            rw [take_getD [] h, hR, timesW, timesW, List.map_append, List.map_append, ← hrow]; rfl
          have htl : (timesW (a.take i) o).length = i := by rw [timesW, List.length_map, List.length_take]; omega
          delta c47l2
          simp (maxSteps := 4000000) -implicitDefEqProofs only [hk2, htk, htl, InR, Ent.of0, Ent.of1, Ent.of2, Ent.of3, V, cc, bE, bN, bR, cV, cT, gt, lk, co, cC, cJ, cd, ca, bV, bV.subCs, cO, bu, bF, bZ, aV, bt, bh, aW, bM, bK, aH, a7, aX, cr, dd, cY, aq, aw, bT, cI, cb, cP, cU, aP, am, bQ, bJ, zC, argS, bO, ce, da, cR, ai, aE, aO, aA, cG, leC, cn, b0, bW, dc, bX, aR, aF, cZ, ah, cL, bf, bf.viewCs, bA, bA.flatCs, aK, aK.LensOks, Value.oneCell', ↓reduceIte, ite_true, ite_false, if_true, if_false, Nat.reduceAdd, Nat.reduceSub, Nat.reduceMul, Nat.reduceEqDiff, Nat.reduceLT, Nat.reduceLeDiff, reduceCtorEq, Int.reduceToNat, forall_const, implies_true, a6, Ent.mk3, bw, bC, bB, bk, bl, bo, bH, bL, bg, be, bz, cH, bn, cQ, rn, bS, bS.renCs, aI, aN, aY, aY.viewOks, aJ, bm, bm.flatBs, aG, an, av, ar, az, bq, bq.keysBs, aT, ap, bj, cp, bD, cg, af, af.passKs, aD, aL, ae, ae.lendKs, cM, cq, cz, bG, setInn, ag, cN, db, ay, br, bP, cj, aC, aU, Glob.gl, ax, cK, aZ, cm, bv, aj, cD, cS, cB, cW, cu, au, au.ptrOnlys, ak, aM, bY, aB, bI, a8, bU, aQ, bp, cF, Nat.reduceBEq, undef]
          and_intros <;> first | omega | rfl | trivial
    · have : i = a.length := by omega
      subst this
      have hi2 : ¬ (a.length : Int) < (a.length : Int) := by omega
      delta c47l3
      simp (maxSteps := 4000000) -implicitDefEqProofs only [hi2, rv47, List.take_length, Ent.of0, Ent.of1, Ent.of2, Ent.of3, V, cc, bE, bN, bR, cV, cT, gt, lk, co, cC, cJ, cd, ca, bV, bV.subCs, cO, bu, bF, bZ, aV, bt, bh, aW, bM, bK, aH, a7, aX, cr, dd, cY, aq, aw, bT, cI, cb, cP, cU, aP, am, bQ, bJ, zC, argS, bO, ce, da, cR, ai, aE, aO, aA, cG, leC, cn, b0, bW, dc, bX, aR, aF, cZ, ah, cL, bf, bf.viewCs, bA, bA.flatCs, aK, aK.LensOks, Value.oneCell', ↓reduceIte, ite_true, ite_false, if_true, if_false, Nat.reduceAdd, Nat.reduceSub, Nat.reduceMul, Nat.reduceEqDiff, Nat.reduceLT, Nat.reduceLeDiff, reduceCtorEq, Int.reduceToNat, forall_const, implies_true, a6, Ent.mk3, bw, bC, bB, bk, bl, bo, bH, bL, bg, be, bz, cH, bn, cQ, rn, bS, bS.renCs, aI, aN, aY, aY.viewOks, aJ, bm, bm.flatBs, aG, an, av, ar, az, bq, bq.keysBs, aT, ap, bj, cp, bD, cg, af, af.passKs, aD, aL, ae, ae.lendKs, cM, cq, cz, bG, setInn, ag, cN, db, ay, br, bP, cj, aC, aU, Glob.gl, ax, cK, aZ, cm, bv, aj, cD, cS, cB, cW, cu, au, au.ptrOnlys, ak, aM, bY, aB, bI, a8, bU, aQ, bp, cF, Nat.reduceBEq, undef]
theorem RepM.len {a : List (List Fz)} {m : List (List Gs)} (h : RepM a m) : a.length = m.length := h.1
end Go.Proofs.YtfgpbmjmoobcnaaGreatDoor
end
section
open Go Go.Am
open Go.Am.Dat (cells)
namespace Go.Proofs.YtfgpbmjmoobcnaaGreatDoor
set_option maxHeartbeats 4000000
set_option maxRecDepth 20000
set_option linter.unusedSimpArgs false
def ofM (w : List (List Fz)) : List (List Gs) := w.map fun r => r.map ofW
theorem ofW_c {z : Fz} {g : Gs} (h : IsC z g) : ofW z = g := by
  unfold ofW
  rw [(ofF_c h.1).2, (ofF_c h.2).2]
theorem ofM_c {w : List (List Fz)} {m : List (List Gs)} (h : RepM w m) : ofM w = m := by
  apply List.ext_getElem
  · simpa [ofM] using h.1
  · intro i h1 h2
    have h3 := h.2 i h2
    have hw : i < w.length := by rw [h.1]; exact h2
    have e1 : (ofM w)[i] = (w.getD i []).map ofW := by simp [ofM, List.getD_eq_getElem?_getD, List.getElem?_eq_getElem hw]
    have e2 : m[i] = m.getD i [] := by rw [List.getD_eq_getElem?_getD, List.getElem?_eq_getElem h2]; rfl
    rw [e1, e2]
    apply List.ext_getElem
    · simpa using h3.1
    · intro j j1 j2
      have h4 := h3.2 j j2
      have hwj : j < (w.getD i []).length := by rw [h3.1]; exact j2
      have e3 : ((w.getD i []).map ofW)[j] = ofW ((w.getD i []).getD j ⟨0, 0⟩) := by
        rw [List.getElem_map]; congr 1
        rw [List.getD_eq_getElem?_getD (l := w.getD i []), List.getElem?_eq_getElem hwj]; rfl
      have e4 : (m.getD i [])[j] = (m.getD i []).getD j ⟨0, 0⟩ := by rw [List.getD_eq_getElem?_getD (l := m.getD i []), List.getElem?_eq_getElem j2]; rfl
      rw [e3, e4]; exact ofW_c h4
structure RowsOk (w : List (List Fz)) (m : List (List Gs)) : Prop where
  rep : RepM w m
  short : m.length ≤ 1000
  shorts : ∀ r ∈ m, r.length ≤ 1000000
  small : ∀ r ∈ m, ∀ g ∈ r, bd g 9007199254740991
end Go.Proofs.YtfgpbmjmoobcnaaGreatDoor
end
section
open Go Go.Am
open Go.Am.Dat (cells)
namespace Go.Proofs.YtfgpbmjmoobcnaaGreatDoor
set_option maxHeartbeats 4000000
set_option maxRecDepth 100000
set_option linter.unusedSimpArgs false
def turnsS (c : Nat) (a b : List Int) : List Int := (List.range c).flatMap fun i => [a.getD i 0, b.getD i 0]
theorem turnsS_succ (c : Nat) (a b : List Int) : turnsS (c + 1) a b = turnsS c a b ++ [a.getD c 0, b.getD c 0] := by simp [turnsS, List.range_succ]
theorem turnsS_length (a b : List Int) : ∀ c, (turnsS c a b).length = 2 * c
  | 0 => rfl
  | c + 1 => by rw [turnsS_succ, List.length_append, turnsS_length a b c]; simp; omega
def judgedS (c : Nat) (T : List Int → List Int) (gain : Int) (l : List Gs) : List Int := l.flatMap fun g => turnsS c (T (sqS c gain g.re)) (T (sqS c gain g.im))
def ent67 (f : FuncId) (T : List Int → List Int) (c : Nat) (hc : c = 1 ∨ c = 2 ∨ c = 3) (hf : ∀ sq : List Int, sq.length = 2 ^ c → (∀ s ∈ sq, 0 ≤ s ∧ s ≤ 4611686018427387903) → FC Tryz.prog f [enc (lvls c), enc sq] [] (enc (T sq)) []) : Ent Tryz.prog where
  id := 67
  sp := fun _ _ => none
  ok := by intro _ _ _ _ _ _ h; cases h
  kp := fun args chs => match args, chs with
    | [.s (.int .i64 n), .ptr k1 o1, .ptr k2 o2, .ptr k3 o3], [(k1', .box [.sl 1 L]), (k2', .box [.s (.int .i64 o), .s (.int .i64 g), .sl 2 l]), (k3', .box [.fn (.func f') [] []])] =>
      some ((k1 = 100000 ∧ o1 = 0 ∧ k2 = 100001 ∧ o2 = 0 ∧ k3 = 100002 ∧ o3 = 0 ∧ k1' = 100000 ∧ k2' = 100001 ∧ k3' = 100002 ∧ f' = f ∧ L = (lvls c).map cells ∧ ∃ l' : List Gs, l = l'.map cells) ∧ (1 ≤ g ∧ g ≤ 10000000) ∧ -100000000 ≤ n ∧ n ≤ 100000000, enc (T (sqS c g n)))
    | _, _ => none
  kpok := by
    intro args chs p r hs hp
    split at hs
    · rename_i n k1 o1 k2 o2 k3 o3 k1' L k2' o g l k3' f'
      simp only [Option.some.injEq, Prod.mk.injEq] at hs
      obtain ⟨rfl, rfl⟩ := hs
      obtain ⟨⟨rfl, rfl, rfl, rfl, rfl, rfl, rfl, rfl, rfl, hff, rfl, l', rfl⟩, hg, hn⟩ := hp
      subst hff
      exact ⟨part_c f' T c hc hf ⟨o, g, l'⟩ n hg hn, rfl, trivial⟩
    · cases hs
theorem judged_c (f : FuncId) (T : List Int → List Int) (c : Nat) (hc : c = 1 ∨ c = 2 ∨ c = 3) (hf : ∀ sq : List Int, sq.length = 2 ^ c → (∀ s ∈ sq, 0 ≤ s ∧ s ≤ 4611686018427387903) → FC Tryz.prog f [enc (lvls c), enc sq] [] (enc (T sq)) [])
    (hT : ∀ sq : List Int, sq.length = 2 ^ c → (T sq).length = c) (g : Int) (l : List Gs) (hg : 1 ≤ g ∧ g ≤ 10000000) (hn : ∀ s ∈ l, (-100000000 ≤ s.re ∧ s.re ≤ 100000000) ∧ -100000000 ≤ s.im ∧ s.im ≤ 100000000) (hll : l.length ≤ 1000) :
    FC Tryz.prog 40 [enc (⟨2 * (c : Int), g, l⟩ : Recv), .fn (.func f) [] []] [] (enc (judgedS c T g l)) [] := by
  have hlc := lvls_length c
  have hq : (2 * (c : Int)).tdiv 2 = (c : Int) := by rw [Int.mul_comm]; exact Int.mul_tdiv_cancel _ (by decide)
  have hmin : min c IntKind.i64.bits = c := by rcases hc with rfl | rfl | rfl <;> decide
  have hP : (2 : Int) ^ c = ((2 ^ c : Nat) : Int) := by push_cast; rfl
  have hPb : 2 ≤ 2 ^ c ∧ 2 ^ c ≤ 8 := by rcases hc with rfl | rfl | rfl <;> decide
  have hget : ∀ i, i < 2 ^ c → (lvls c).getD i 0 = 2 * (i : Int) - ((2 ^ c : Nat) - 1) := fun i hi => by
    have hi' : i < (lvls c).length := by omega
    rw [List.getD_eq_getElem?_getD, List.getElem?_eq_getElem hi']
    simp [lvls]
  refine fc_introC [] is40 (by simp) trivial trivial trivial trivial (fun cx hcx hl _ => S_run [] 800 ?_)
  delta c40
  simp (maxSteps := 4000000) -implicitDefEqProofs only [rv40, enc_recv, hq, hmin, hP, Int.one_mul, InR, Ent.of0, Ent.of1, Ent.of2, Ent.of3, V, cc, bE, bN, bR, cV, cT, gt, lk, co, cC, cJ, cd, ca, bV, bV.subCs, cO, bu, bF, bZ, aV, bt, bh, aW, bM, bK, aH, a7, aX, cr, dd, cY, aq, aw, bT, cI, cb, cP, cU, aP, am, bQ, bJ, zC, argS, bO, ce, da, cR, ai, aE, aO, aA, cG, leC, cn, b0, bW, dc, bX, aR, aF, cZ, ah, cL, bf, bf.viewCs, bA, bA.flatCs, aK, aK.LensOks, Value.oneCell', ↓reduceIte, ite_true, ite_false, if_true, if_false, Nat.reduceAdd, Nat.reduceSub, Nat.reduceMul, Nat.reduceEqDiff, Nat.reduceLT, Nat.reduceLeDiff, reduceCtorEq, Int.reduceToNat, forall_const, implies_true, a6, Ent.mk3, bw, bC, bB, bk, bl, bo, bH, bL, bg, be, bz, cH, bn, cQ, rn, bS, bS.renCs, aI, aN, aY, aY.viewOks, aJ, bm, bm.flatBs, aG, an, av, ar, az, bq, bq.keysBs, aT, ap, bj, cp, bD, cg, af, af.passKs, aD, aL, ae, ae.lendKs, cM, cq, cz, bG, setInn, ag, cN, db, ay, br, bP, cj, aC, aU, Glob.gl, ax, cK, aZ, cm, bv, aj, cD, cS, cB, cW, cu, au, au.ptrOnlys, ak, aM, bY, aB, bI, a8, bU, aQ, bp, cF, Nat.reduceBEq, undef]
  refine ⟨by omega, by omega, by omega, ?_⟩
  refine S_forU (2 ^ c) (fun i => [(7, .s (.int .i64 (2 * (i : Int) - ((2 ^ c : Nat) - 1))))]) (fun i => [(6, .box [if i = 0 then .s (.slice none 0 0) else .isl 1 3 (((lvls c).take i).map cells)])]) (fun _ => True) trivial ?_ (fun i hi _ => ?_)
  · simp (maxSteps := 4000000) -implicitDefEqProofs only [Ent.of0, Ent.of1, Ent.of2, Ent.of3, V, cc, bE, bN, bR, cV, cT, gt, lk, co, cC, cJ, cd, ca, bV, bV.subCs, cO, bu, bF, bZ, aV, bt, bh, aW, bM, bK, aH, a7, aX, cr, dd, cY, aq, aw, bT, cI, cb, cP, cU, aP, am, bQ, bJ, zC, argS, bO, ce, da, cR, ai, aE, aO, aA, cG, leC, cn, b0, bW, dc, bX, aR, aF, cZ, ah, cL, bf, bf.viewCs, bA, bA.flatCs, aK, aK.LensOks, Value.oneCell', ↓reduceIte, ite_true, ite_false, if_true, if_false, Nat.reduceAdd, Nat.reduceSub, Nat.reduceMul, Nat.reduceEqDiff, Nat.reduceLT, Nat.reduceLeDiff, reduceCtorEq, Int.reduceToNat, forall_const, implies_true, a6, Ent.mk3, bw, bC, bB, bk, bl, bo, bH, bL, bg, be, bz, cH, bn, cQ, rn, bS, bS.renCs, aI, aN, aY, aY.viewOks, aJ, bm, bm.flatBs, aG, an, av, ar, az, bq, bq.keysBs, aT, ap, bj, cp, bD, cg, af, af.passKs, aD, aL, ae, ae.lendKs, cM, cq, cz, bG, setInn, ag, cN, db, ay, br, bP, cj, aC, aU, Glob.gl, ax, cK, aZ, cm, bv, aj, cD, cS, cB, cW, cu, au, au.ptrOnlys, ak, aM, bY, aB, bI, a8, bU, aQ, bp, cF, Nat.reduceBEq, undef]; omega
  · by_cases h : i < 2 ^ c
    · have htk : ((lvls c).take i).map cells ++ [[C.s (.int .i64 (2 * (i : Int) - ((2 ^ c : Nat) - 1)))]] = ((lvls c).take (i + 1)).map cells := by
        rw [take_getD 0 (by omega : i < (lvls c).length), List.map_append, hget i h]; rfl
      have hlt : ((lvls c).take i).length = i := by rw [List.length_take]; omega
      have hlt2 : 2 * (i : Int) - (((2 ^ c : Nat) : Int) - 1) < ((2 ^ c : Nat) : Int) := by omega
      refine S_run [] 800 ?_
      cases i with
      | zero =>
        delta c40l1
        simp (maxSteps := 4000000) -implicitDefEqProofs only [hq, hmin, hP, Int.one_mul, hlt2, h, InR, Ent.of0, Ent.of1, Ent.of2, Ent.of3, V, cc, bE, bN, bR, cV, cT, gt, lk, co, cC, cJ, cd, ca, bV, bV.subCs, cO, bu, bF, bZ, aV, bt, bh, aW, bM, bK, aH, a7, aX, cr, dd, cY, aq, aw, bT, cI, cb, cP, cU, aP, am, bQ, bJ, zC, argS, bO, ce, da, cR, ai, aE, aO, aA, cG, leC, cn, b0, bW, dc, bX, aR, aF, cZ, ah, cL, bf, bf.viewCs, bA, bA.flatCs, aK, aK.LensOks, Value.oneCell', ↓reduceIte, ite_true, ite_false, if_true, if_false, Nat.reduceAdd, Nat.reduceSub, Nat.reduceMul, Nat.reduceEqDiff, Nat.reduceLT, Nat.reduceLeDiff, reduceCtorEq, Int.reduceToNat, forall_const, implies_true, a6, Ent.mk3, bw, bC, bB, bk, bl, bo, bH, bL, bg, be, bz, cH, bn, cQ, rn, bS, bS.renCs, aI, aN, aY, aY.viewOks, aJ, bm, bm.flatBs, aG, an, av, ar, az, bq, bq.keysBs, aT, ap, bj, cp, bD, cg, af, af.passKs, aD, aL, ae, ae.lendKs, cM, cq, cz, bG, setInn, ag, cN, db, ay, br, bP, cj, aC, aU, Glob.gl, ax, cK, aZ, cm, bv, aj, cD, cS, cB, cW, cu, au, au.ptrOnlys, ak, aM, bY, aB, bI, a8, bU, aQ, bp, cF, Nat.reduceBEq, undef]
        refine ⟨by omega, by omega, by omega, by push_cast; omega, ?_⟩
        rw [← htk]; rfl
      | succ i =>
        delta c40l1
        simp (maxSteps := 4000000) -implicitDefEqProofs only [hq, hmin, hP, Int.one_mul, hlt, hlt2, h, htk, Nat.succ_ne_zero, InR, Ent.of0, Ent.of1, Ent.of2, Ent.of3, V, cc, bE, bN, bR, cV, cT, gt, lk, co, cC, cJ, cd, ca, bV, bV.subCs, cO, bu, bF, bZ, aV, bt, bh, aW, bM, bK, aH, a7, aX, cr, dd, cY, aq, aw, bT, cI, cb, cP, cU, aP, am, bQ, bJ, zC, argS, bO, ce, da, cR, ai, aE, aO, aA, cG, leC, cn, b0, bW, dc, bX, aR, aF, cZ, ah, cL, bf, bf.viewCs, bA, bA.flatCs, aK, aK.LensOks, Value.oneCell', ↓reduceIte, ite_true, ite_false, if_true, if_false, Nat.reduceAdd, Nat.reduceSub, Nat.reduceMul, Nat.reduceEqDiff, Nat.reduceLT, Nat.reduceLeDiff, reduceCtorEq, Int.reduceToNat, forall_const, implies_true, a6, Ent.mk3, bw, bC, bB, bk, bl, bo, bH, bL, bg, be, bz, cH, bn, cQ, rn, bS, bS.renCs, aI, aN, aY, aY.viewOks, aJ, bm, bm.flatBs, aG, an, av, ar, az, bq, bq.keysBs, aT, ap, bj, cp, bD, cg, af, af.passKs, aD, aL, ae, ae.lendKs, cM, cq, cz, bG, setInn, ag, cN, db, ay, br, bP, cj, aC, aU, Glob.gl, ax, cK, aZ, cm, bv, aj, cD, cS, cB, cW, cu, au, au.ptrOnlys, ak, aM, bY, aB, bI, a8, bU, aQ, bp, cF, Nat.reduceBEq, undef]
        exact ⟨by omega, by omega, by omega, by omega, by push_cast; omega⟩
    · have hlt2 : ¬ 2 * (i : Int) - (((2 ^ c : Nat) : Int) - 1) < ((2 ^ c : Nat) : Int) := by omega
      have hie : i = 2 ^ c := by omega
      subst hie
      have hi0 : 2 ^ c ≠ 0 := by omega
      have htk : (lvls c).take (2 ^ c) = lvls c := by rw [← hlc]; exact List.take_length
      refine S_run [] 800 ?_
      delta c40l1
      simp (maxSteps := 4000000) -implicitDefEqProofs only [hq, hmin, hP, Int.one_mul, hlt2, hi0, htk, InR, Ent.of0, Ent.of1, Ent.of2, Ent.of3, V, cc, bE, bN, bR, cV, cT, gt, lk, co, cC, cJ, cd, ca, bV, bV.subCs, cO, bu, bF, bZ, aV, bt, bh, aW, bM, bK, aH, a7, aX, cr, dd, cY, aq, aw, bT, cI, cb, cP, cU, aP, am, bQ, bJ, zC, argS, bO, ce, da, cR, ai, aE, aO, aA, cG, leC, cn, b0, bW, dc, bX, aR, aF, cZ, ah, cL, bf, bf.viewCs, bA, bA.flatCs, aK, aK.LensOks, Value.oneCell', ↓reduceIte, ite_true, ite_false, if_true, if_false, Nat.reduceAdd, Nat.reduceSub, Nat.reduceMul, Nat.reduceEqDiff, Nat.reduceLT, Nat.reduceLeDiff, reduceCtorEq, Int.reduceToNat, forall_const, implies_true, a6, Ent.mk3, bw, bC, bB, bk, bl, bo, bH, bL, bg, be, bz, cH, bn, cQ, rn, bS, bS.renCs, aI, aN, aY, aY.viewOks, aJ, bm, bm.flatBs, aG, an, av, ar, az, bq, bq.keysBs, aT, ap, bj, cp, bD, cg, af, af.passKs, aD, aL, ae, ae.lendKs, cM, cq, cz, bG, setInn, ag, cN, db, ay, br, bP, cj, aC, aU, Glob.gl, ax, cK, aZ, cm, bv, aj, cD, cS, cB, cW, cu, au, au.ptrOnlys, ak, aM, bY, aB, bI, a8, bU, aQ, bp, cF, Nat.reduceBEq, undef]
      refine ⟨by omega, S_fzb 6 rfl ?_⟩
      simp (maxSteps := 4000000) -implicitDefEqProofs only [Ent.of0, Ent.of1, Ent.of2, Ent.of3, V, cc, bE, bN, bR, cV, cT, gt, lk, co, cC, cJ, cd, ca, bV, bV.subCs, cO, bu, bF, bZ, aV, bt, bh, aW, bM, bK, aH, a7, aX, cr, dd, cY, aq, aw, bT, cI, cb, cP, cU, aP, am, bQ, bJ, zC, argS, bO, ce, da, cR, ai, aE, aO, aA, cG, leC, cn, b0, bW, dc, bX, aR, aF, cZ, ah, cL, bf, bf.viewCs, bA, bA.flatCs, aK, aK.LensOks, Value.oneCell', ↓reduceIte, ite_true, ite_false, if_true, if_false, Nat.reduceAdd, Nat.reduceSub, Nat.reduceMul, Nat.reduceEqDiff, Nat.reduceLT, Nat.reduceLeDiff, reduceCtorEq, Int.reduceToNat, forall_const, implies_true, a6, Ent.mk3, bw, bC, bB, bk, bl, bo, bH, bL, bg, be, bz, cH, bn, cQ, rn, bS, bS.renCs, aI, aN, aY, aY.viewOks, aJ, bm, bm.flatBs, aG, an, av, ar, az, bq, bq.keysBs, aT, ap, bj, cp, bD, cg, af, af.passKs, aD, aL, ae, ae.lendKs, cM, cq, cz, bG, setInn, ag, cN, db, ay, br, bP, cj, aC, aU, Glob.gl, ax, cK, aZ, cm, bv, aj, cD, cS, cB, cW, cu, au, au.ptrOnlys, ak, aM, bY, aB, bI, a8, bU, aQ, bp, cF, Nat.reduceBEq, undef]
      refine S_forU l.length (fun i => [(35, .s (.int .i64 (i : Int)))]) (fun i => [(9, .row 1 3 ((judgedS c T g (l.take i)).map cells))]) (fun _ => True) trivial ?_ (fun i hi _ => S_run [ent67 f T c hc hf] 800 ?_)
      · simp (maxSteps := 4000000) -implicitDefEqProofs only [judgedS, Ent.of0, Ent.of1, Ent.of2, Ent.of3, V, cc, bE, bN, bR, cV, cT, gt, lk, co, cC, cJ, cd, ca, bV, bV.subCs, cO, bu, bF, bZ, aV, bt, bh, aW, bM, bK, aH, a7, aX, cr, dd, cY, aq, aw, bT, cI, cb, cP, cU, aP, am, bQ, bJ, zC, argS, bO, ce, da, cR, ai, aE, aO, aA, cG, leC, cn, b0, bW, dc, bX, aR, aF, cZ, ah, cL, bf, bf.viewCs, bA, bA.flatCs, aK, aK.LensOks, Value.oneCell', ↓reduceIte, ite_true, ite_false, if_true, if_false, Nat.reduceAdd, Nat.reduceSub, Nat.reduceMul, Nat.reduceEqDiff, Nat.reduceLT, Nat.reduceLeDiff, reduceCtorEq, Int.reduceToNat, forall_const, implies_true, a6, Ent.mk3, bw, bC, bB, bk, bl, bo, bH, bL, bg, be, bz, cH, bn, cQ, rn, bS, bS.renCs, aI, aN, aY, aY.viewOks, aJ, bm, bm.flatBs, aG, an, av, ar, az, bq, bq.keysBs, aT, ap, bj, cp, bD, cg, af, af.passKs, aD, aL, ae, ae.lendKs, cM, cq, cz, bG, setInn, ag, cN, db, ay, br, bP, cj, aC, aU, Glob.gl, ax, cK, aZ, cm, bv, aj, cD, cS, cB, cW, cu, au, au.ptrOnlys, ak, aM, bY, aB, bI, a8, bU, aQ, bp, cF, Nat.reduceBEq, undef]
        exact ⟨rfl, rfl⟩
      · by_cases h : i < l.length
        · have hi2 : (i : Int) < (l.length : Int) := by omega
          have hgm : l.getD i ⟨0, 0⟩ ∈ l := getD_mem _ h
          have hn1 := hn _ hgm
          have hsql : ∀ n, (sqS c g n).length = 2 ^ c := fun n => by rw [sqS, List.length_map, hlc]
          have hT1 := hT _ (hsql (l.getD i ⟨0, 0⟩).re)
          have hT2 := hT _ (hsql (l.getD i ⟨0, 0⟩).im)
          delta c40l3
          simp (maxSteps := 4000000) -implicitDefEqProofs only [hi2, h, ent67, hT1, InR, Ent.of0, Ent.of1, Ent.of2, Ent.of3, V, cc, bE, bN, bR, cV, cT, gt, lk, co, cC, cJ, cd, ca, bV, bV.subCs, cO, bu, bF, bZ, aV, bt, bh, aW, bM, bK, aH, a7, aX, cr, dd, cY, aq, aw, bT, cI, cb, cP, cU, aP, am, bQ, bJ, zC, argS, bO, ce, da, cR, ai, aE, aO, aA, cG, leC, cn, b0, bW, dc, bX, aR, aF, cZ, ah, cL, bf, bf.viewCs, bA, bA.flatCs, aK, aK.LensOks, Value.oneCell', ↓reduceIte, ite_true, ite_false, if_true, if_false, Nat.reduceAdd, Nat.reduceSub, Nat.reduceMul, Nat.reduceEqDiff, Nat.reduceLT, Nat.reduceLeDiff, reduceCtorEq, Int.reduceToNat, forall_const, implies_true, a6, Ent.mk3, bw, bC, bB, bk, bl, bo, bH, bL, bg, be, bz, cH, bn, cQ, rn, bS, bS.renCs, aI, aN, aY, aY.viewOks, aJ, bm, bm.flatBs, aG, an, av, ar, az, bq, bq.keysBs, aT, ap, bj, cp, bD, cg, af, af.passKs, aD, aL, ae, ae.lendKs, cM, cq, cz, bG, setInn, ag, cN, db, ay, br, bP, cj, aC, aU, Glob.gl, ax, cK, aZ, cm, bv, aj, cD, cS, cB, cW, cu, au, au.ptrOnlys, ak, aM, bY, aB, bI, a8, bU, aQ, bp, cF, Nat.reduceBEq, undef]
          refine ⟨by omega, ⟨⟨l, rfl⟩, hg, hn1.1⟩, ⟨⟨l, rfl⟩, hg, hn1.2⟩, ?_⟩
          have hjs : judgedS c T g (l.take (i + 1)) = judgedS c T g (l.take i) ++ turnsS c (T (sqS c g (l.getD i ⟨0, 0⟩).re)) (T (sqS c g (l.getD i ⟨0, 0⟩).im)) := by
            rw [take_getD ⟨0, 0⟩ h, judgedS, judgedS, List.flatMap_append]; simp
          have hjl : (judgedS c T g (l.take i)).length ≤ 6000 := by
            have e : ∀ (m : List Gs), (judgedS c T g m).length ≤ 6 * m.length := fun m => by
              induction m with
              | nil => simp [judgedS]
              | cons x m ih =>
                have : judgedS c T g (x :: m) = turnsS c (T (sqS c g x.re)) (T (sqS c g x.im)) ++ judgedS c T g m := by simp [judgedS]
                rw [this, List.length_append, List.length_cons]
                have h2 : (turnsS c (T (sqS c g x.re)) (T (sqS c g x.im))).length ≤ 6 := by
                  rcases hc with rfl | rfl | rfl <;> simp [turnsS, List.range_succ]
                omega
            have := e (l.take i)
            rw [List.length_take] at this
            omega
          generalize T (sqS c g (l.getD i ⟨0, 0⟩).re) = X at *
          generalize T (sqS c g (l.getD i ⟨0, 0⟩).im) = Y at *
          generalize judgedS c T g (l.take i) = J at *
          refine S_forU c (fun j => [(49, .s (.int .i64 (j : Int)))]) (fun j => [(9, .row 1 3 ((J ++ turnsS j X Y).map cells))]) (fun _ => True) trivial ?_ (fun j hj _ => S_run [] 800 ?_)
          · simp (maxSteps := 4000000) -implicitDefEqProofs only [Ent.of0, Ent.of1, Ent.of2, Ent.of3, V, cc, bE, bN, bR, cV, cT, gt, lk, co, cC, cJ, cd, ca, bV, bV.subCs, cO, bu, bF, bZ, aV, bt, bh, aW, bM, bK, aH, a7, aX, cr, dd, cY, aq, aw, bT, cI, cb, cP, cU, aP, am, bQ, bJ, zC, argS, bO, ce, da, cR, ai, aE, aO, aA, cG, leC, cn, b0, bW, dc, bX, aR, aF, cZ, ah, cL, bf, bf.viewCs, bA, bA.flatCs, aK, aK.LensOks, Value.oneCell', ↓reduceIte, ite_true, ite_false, if_true, if_false, Nat.reduceAdd, Nat.reduceSub, Nat.reduceMul, Nat.reduceEqDiff, Nat.reduceLT, Nat.reduceLeDiff, reduceCtorEq, Int.reduceToNat, forall_const, implies_true, a6, Ent.mk3, bw, bC, bB, bk, bl, bo, bH, bL, bg, be, bz, cH, bn, cQ, rn, bS, bS.renCs, aI, aN, aY, aY.viewOks, aJ, bm, bm.flatBs, aG, an, av, ar, az, bq, bq.keysBs, aT, ap, bj, cp, bD, cg, af, af.passKs, aD, aL, ae, ae.lendKs, cM, cq, cz, bG, setInn, ag, cN, db, ay, br, bP, cj, aC, aU, Glob.gl, ax, cK, aZ, cm, bv, aj, cD, cS, cB, cW, cu, au, au.ptrOnlys, ak, aM, bY, aB, bI, a8, bU, aQ, bp, cF, Nat.reduceBEq, undef]
            exact ⟨rfl, by simp [turnsS]⟩
          · have htl := turnsS_length X Y j
            by_cases hjc : j < c
            · have hj2 : (j : Int) < (c : Int) := by omega
              have hj3 : j < X.length := by omega
              have hj4 : j < Y.length := by omega
              have htk : (J ++ turnsS j X Y).map cells ++ [[C.s (.int .i64 (X.getD j 0))], [C.s (.int .i64 (Y.getD j 0))]] = (J ++ turnsS (j + 1) X Y).map cells := by
                rw [turnsS_succ, ← List.append_assoc, List.map_append (l₁ := J ++ turnsS j X Y)]; rfl
              have hll : (J ++ turnsS j X Y).length ≤ 6012 := by rw [List.length_append]; omega
              delta c40l2
              simp (maxSteps := 4000000) -implicitDefEqProofs only [hj2, hj3, hj4, htk, InR, Ent.of0, Ent.of1, Ent.of2, Ent.of3, V, cc, bE, bN, bR, cV, cT, gt, lk, co, cC, cJ, cd, ca, bV, bV.subCs, cO, bu, bF, bZ, aV, bt, bh, aW, bM, bK, aH, a7, aX, cr, dd, cY, aq, aw, bT, cI, cb, cP, cU, aP, am, bQ, bJ, zC, argS, bO, ce, da, cR, ai, aE, aO, aA, cG, leC, cn, b0, bW, dc, bX, aR, aF, cZ, ah, cL, bf, bf.viewCs, bA, bA.flatCs, aK, aK.LensOks, Value.oneCell', ↓reduceIte, ite_true, ite_false, if_true, if_false, Nat.reduceAdd, Nat.reduceSub, Nat.reduceMul, Nat.reduceEqDiff, Nat.reduceLT, Nat.reduceLeDiff, reduceCtorEq, Int.reduceToNat, forall_const, implies_true, a6, Ent.mk3, bw, bC, bB, bk, bl, bo, bH, bL, bg, be, bz, cH, bn, cQ, rn, bS, bS.renCs, aI, aN, aY, aY.viewOks, aJ, bm, bm.flatBs, aG, an, av, ar, az, bq, bq.keysBs, aT, ap, bj, cp, bD, cg, af, af.passKs, aD, aL, ae, ae.lendKs, cM, cq, cz, bG, setInn, ag, cN, db, ay, br, bP, cj, aC, aU, Glob.gl, ax, cK, aZ, cm, bv, aj, cD, cS, cB, cW, cu, au, au.ptrOnlys, ak, aM, bY, aB, bI, a8, bU, aQ, bp, cF, Nat.reduceBEq, undef]
              and_intros <;> first | omega | rfl | trivial
            · have hj2 : ¬ (j : Int) < (c : Int) := by omega
              have hjc : j = c := by omega
              subst hjc
              delta c40l2
              simp (maxSteps := 4000000) -implicitDefEqProofs only [hj2, hjs, InR, Ent.of0, Ent.of1, Ent.of2, Ent.of3, V, cc, bE, bN, bR, cV, cT, gt, lk, co, cC, cJ, cd, ca, bV, bV.subCs, cO, bu, bF, bZ, aV, bt, bh, aW, bM, bK, aH, a7, aX, cr, dd, cY, aq, aw, bT, cI, cb, cP, cU, aP, am, bQ, bJ, zC, argS, bO, ce, da, cR, ai, aE, aO, aA, cG, leC, cn, b0, bW, dc, bX, aR, aF, cZ, ah, cL, bf, bf.viewCs, bA, bA.flatCs, aK, aK.LensOks, Value.oneCell', ↓reduceIte, ite_true, ite_false, if_true, if_false, Nat.reduceAdd, Nat.reduceSub, Nat.reduceMul, Nat.reduceEqDiff, Nat.reduceLT, Nat.reduceLeDiff, reduceCtorEq, Int.reduceToNat, forall_const, implies_true, a6, Ent.mk3, bw, bC, bB, bk, bl, bo, bH, bL, bg, be, bz, cH, bn, cQ, rn, bS, bS.renCs, aI, aN, aY, aY.viewOks, aJ, bm, bm.flatBs, aG, an, av, ar, az, bq, bq.keysBs, aT, ap, bj, cp, bD, cg, af, af.passKs, aD, aL, ae, ae.lendKs, cM, cq, cz, bG, setInn, ag, cN, db, ay, br, bP, cj, aC, aU, Glob.gl, ax, cK, aZ, cm, bv, aj, cD, cS, cB, cW, cu, au, au.ptrOnlys, ak, aM, bY, aB, bI, a8, bU, aQ, bp, cF, Nat.reduceBEq, undef]
              and_intros <;> first | omega | rfl | trivial
        · have hi2 : ¬ (i : Int) < (l.length : Int) := by omega
          have hie : i = l.length := by omega
          subst hie
          delta c40l3
          simp (maxSteps := 4000000) -implicitDefEqProofs only [hi2, rv40, List.take_length, InR, Ent.of0, Ent.of1, Ent.of2, Ent.of3, V, cc, bE, bN, bR, cV, cT, gt, lk, co, cC, cJ, cd, ca, bV, bV.subCs, cO, bu, bF, bZ, aV, bt, bh, aW, bM, bK, aH, a7, aX, cr, dd, cY, aq, aw, bT, cI, cb, cP, cU, aP, am, bQ, bJ, zC, argS, bO, ce, da, cR, ai, aE, aO, aA, cG, leC, cn, b0, bW, dc, bX, aR, aF, cZ, ah, cL, bf, bf.viewCs, bA, bA.flatCs, aK, aK.LensOks, Value.oneCell', ↓reduceIte, ite_true, ite_false, if_true, if_false, Nat.reduceAdd, Nat.reduceSub, Nat.reduceMul, Nat.reduceEqDiff, Nat.reduceLT, Nat.reduceLeDiff, reduceCtorEq, Int.reduceToNat, forall_const, implies_true, a6, Ent.mk3, bw, bC, bB, bk, bl, bo, bH, bL, bg, be, bz, cH, bn, cQ, rn, bS, bS.renCs, aI, aN, aY, aY.viewOks, aJ, bm, bm.flatBs, aG, an, av, ar, az, bq, bq.keysBs, aT, ap, bj, cp, bD, cg, af, af.passKs, aD, aL, ae, ae.lendKs, cM, cq, cz, bG, setInn, ag, cN, db, ay, br, bP, cj, aC, aU, Glob.gl, ax, cK, aZ, cm, bv, aj, cD, cS, cB, cW, cu, au, au.ptrOnlys, ak, aM, bY, aB, bI, a8, bU, aQ, bp, cF, Nat.reduceBEq, undef]
end Go.Proofs.YtfgpbmjmoobcnaaGreatDoor
end
section
open Go Go.Am
open Go.Am.Dat (cells)
namespace Go.Proofs.YtfgpbmjmoobcnaaGreatDoor
set_option maxHeartbeats 4000000
set_option maxRecDepth 100000
set_option linter.unusedSimpArgs false
theorem softS_length (c : Nat) (sq : List Int) : (softS c sq).length = c := by simp [softS]
def ent40 (f : FuncId) (T : Nat → List Int → List Int) (hj : ∀ (c : Nat) (g : Int) (l : List Gs), (c = 1 ∨ c = 2 ∨ c = 3) → 1 ≤ g ∧ g ≤ 10000000 → (∀ s ∈ l, (-100000000 ≤ s.re ∧ s.re ≤ 100000000) ∧ -100000000 ≤ s.im ∧ s.im ≤ 100000000) → l.length ≤ 1000 →
    FC Tryz.prog 40 [enc (⟨2 * (c : Int), g, l⟩ : Recv), .fn (.func f) [] []] [] (enc (judgedS c (T c) g l)) []) : Ent Tryz.prog := .mk3 40 (fun args chs => match args, chs with
    | [.agg [.s (.int .i64 o), .s (.int .i64 g), .sl 2 t], .fn (.func f') [] []], [] => (decL t : Option (List Gs)).bind fun l => some (f' = f ∧ recvErr ⟨o, g, l⟩ = 0, enc (judgedS (o.toNat / 2) (T (o.toNat / 2)) g l), [], [])
    | _, _ => none) (by
  intro args chs p r chs' nk hs hp
  split at hs
  · rename_i o g t f'
    simp only [Option.bind_eq_some_iff, Option.some.injEq, Prod.mk.injEq] at hs
    obtain ⟨l, hl, rfl, rfl, rfl, rfl⟩ := hs
    obtain ⟨hff, hr⟩ := hp
    have := decL_ok hl
    subst this
    have hz := firstS_zero hr
    have z1 : orderErrS o = 0 := hz _ (by simp [recvErr])
    have z2 : (if 1 ≤ g ∧ g ≤ 10000000 then (0 : Int) else 2) = 0 := hz _ (by simp)
    have z3 : symErr l = 0 := hz _ (by simp)
    have ho : o = 2 ∨ o = 4 ∨ o = 6 := by
      unfold orderErrS at z1
      split at z1
      · assumption
      · cases z1
    have hg : 1 ≤ g ∧ g ≤ 10000000 := by
      split at z2
      · assumption
      · cases z2
    have hl2 : l.length ≤ 1000 := by
      unfold symErr at z3
      grind
    have hn : ∀ s ∈ l, (-100000000 ≤ s.re ∧ s.re ≤ 100000000) ∧ -100000000 ≤ s.im ∧ s.im ≤ 100000000 := by
      have : l.all (smallG · 100000000) = true := by
        unfold symErr at z3
        grind
      intro s hs
      have := List.all_eq_true.1 this s hs
      simpa [smallG] using this
    have e : o = 2 * ((o.toNat / 2 : Nat) : Int) := by rcases ho with rfl | rfl | rfl <;> rfl
    have := hj (o.toNat / 2) g l (by rcases ho with rfl | rfl | rfl <;> simp) hg hn hl2
    rw [← e] at this
    subst hff
    exact ⟨this, .plain trivial⟩
  · cases hs)
def judgeAll (T : Nat → List Int → List Int) (x : Recv) : List Int := judgedS (x.order.toNat / 2) (T (x.order.toNat / 2)) x.gain x.symbols
theorem Soft_c (x : Recv) : FC Tryz.prog 15 [enc x] [] (.tup [enc (if recvErr x = 0 then judgeAll softS x else []), enc (recvErr x)]) [] := by
  refine fc_intro' is15 (by simp) (fun cx hl => S_run [ent39, ent40 41 softS (fun c g l hc hg hn hl => judged_c 41 (softS c) c hc (fun sq h1 h2 => soft_c c hc sq h1 h2) (fun sq _ => softS_length c sq) g l hg hn hl)] 800 ?_)
  obtain ⟨o, g, l⟩ := x
  delta c15
  simp (maxSteps := 4000000) -implicitDefEqProofs only [rv15, ent39, ent40, enc_recv, decV_recv, Ent.of0, Ent.of1, Ent.of2, Ent.of3, V, cc, bE, bN, bR, cV, cT, gt, lk, co, cC, cJ, cd, ca, bV, bV.subCs, cO, bu, bF, bZ, aV, bt, bh, aW, bM, bK, aH, a7, aX, cr, dd, cY, aq, aw, bT, cI, cb, cP, cU, aP, am, bQ, bJ, zC, argS, bO, ce, da, cR, ai, aE, aO, aA, cG, leC, cn, b0, bW, dc, bX, aR, aF, cZ, ah, cL, bf, bf.viewCs, bA, bA.flatCs, aK, aK.LensOks, Value.oneCell', ↓reduceIte, ite_true, ite_false, if_true, if_false, Nat.reduceAdd, Nat.reduceSub, Nat.reduceMul, Nat.reduceEqDiff, Nat.reduceLT, Nat.reduceLeDiff, reduceCtorEq, Int.reduceToNat, forall_const, implies_true, a6, Ent.mk3, bw, bC, bB, bk, bl, bo, bH, bL, bg, be, bz, cH, bn, cQ, rn, bS, bS.renCs, aI, aN, aY, aY.viewOks, aJ, bm, bm.flatBs, aG, an, av, ar, az, bq, bq.keysBs, aT, ap, bj, cp, bD, cg, af, af.passKs, aD, aL, ae, ae.lendKs, cM, cq, cz, bG, setInn, ag, cN, db, ay, br, bP, cj, aC, aU, Glob.gl, ax, cK, aZ, cm, bv, aj, cD, cS, cB, cW, cu, au, au.ptrOnlys, ak, aM, bY, aB, bI, a8, bU, aQ, bp, cF, Nat.reduceBEq, undef]
  by_cases h : recvErr ⟨o, g, l⟩ = 0
  · simp only [h, if_true, decide_true, judgeAll, Bool.false_eq_true, if_false, not_true_eq_false, decide_false, true_and]
  · rw [if_pos h, if_neg h]; trivial
def ent15 : Ent Tryz.prog := .of1 15 (fun _ => True) (fun x : Recv => .tup [enc (if recvErr x = 0 then judgeAll softS x else []), enc (recvErr x)]) (fun _ => ⟨trivial, trivial, trivial⟩) (fun x _ => Soft_c x)
end Go.Proofs.YtfgpbmjmoobcnaaGreatDoor
end
section
open Go Go.Am
open Go.Am.Dat (cells)
namespace Go.Proofs.YtfgpbmjmoobcnaaGreatDoor
set_option maxHeartbeats 4000000
set_option maxRecDepth 20000
set_option linter.unusedSimpArgs false
theorem rowsD_c (w : List (List Fz)) (m : List (List Gs)) (h : RowsOk w m) : FC Tryz.prog 48 [enc w] [] (.own 3) [(3, .deep 2 43 22 none (m.map fun r => r.map cells))] := by
  refine fc_introC [3] D.is48 (by simp) trivial trivial (by simp [aR, aF, bZ]) trivial (fun cx _ hl _ => S_run [] 800 ?_)
  obtain ⟨hrep, hm, hr, hb⟩ := h
  have hwm := hrep.1
  delta D.c48
  simp (maxSteps := 4000000) -implicitDefEqProofs only [D.rv48, Ent.of0, Ent.of1, Ent.of2, Ent.of3, V, cc, bE, bN, bR, cV, cT, gt, lk, co, cC, cJ, cd, ca, bV, bV.subCs, cO, bu, bF, bZ, aV, bt, bh, aW, bM, bK, aH, a7, aX, cr, dd, cY, aq, aw, bT, cI, cb, cP, cU, aP, am, bQ, bJ, zC, argS, bO, ce, da, cR, ai, aE, aO, aA, cG, leC, cn, b0, bW, dc, bX, aR, aF, cZ, ah, cL, bf, bf.viewCs, bA, bA.flatCs, aK, aK.LensOks, Value.oneCell', ↓reduceIte, ite_true, ite_false, if_true, if_false, Nat.reduceAdd, Nat.reduceSub, Nat.reduceMul, Nat.reduceEqDiff, Nat.reduceLT, Nat.reduceLeDiff, reduceCtorEq, Int.reduceToNat, forall_const, implies_true, a6, Ent.mk3, bw, bC, bB, bk, bl, bo, bH, bL, bg, be, bz, cH, bn, cQ, rn, bS, bS.renCs, aI, aN, aY, aY.viewOks, aJ, bm, bm.flatBs, aG, an, av, ar, az, bq, bq.keysBs, aT, ap, bj, cp, bD, cg, af, af.passKs, aD, aL, ae, ae.lendKs, cM, cq, cz, bG, setInn, ag, cN, db, ay, br, bP, cj, aC, aU, Glob.gl, ax, cK, aZ, cm, bv, aj, cD, cS, cB, cW, cu, au, au.ptrOnlys, ak, aM, bY, aB, bI, a8, bU, aQ, bp, cF, Nat.reduceBEq, undef]
  refine ⟨by simp, ?_⟩
  refine S_forU w.length (fun i => [(11, .s (.int .i64 i))]) (fun i => [(3, .deep 2 43 22 none ((m.take i).map fun r => r.map cells))]) (fun _ => True) trivial ?_ (fun i hi _ => S_run [] 800 ?_)
  · simp (maxSteps := 4000000) -implicitDefEqProofs only [Ent.of0, Ent.of1, Ent.of2, Ent.of3, V, cc, bE, bN, bR, cV, cT, gt, lk, co, cC, cJ, cd, ca, bV, bV.subCs, cO, bu, bF, bZ, aV, bt, bh, aW, bM, bK, aH, a7, aX, cr, dd, cY, aq, aw, bT, cI, cb, cP, cU, aP, am, bQ, bJ, zC, argS, bO, ce, da, cR, ai, aE, aO, aA, cG, leC, cn, b0, bW, dc, bX, aR, aF, cZ, ah, cL, bf, bf.viewCs, bA, bA.flatCs, aK, aK.LensOks, Value.oneCell', ↓reduceIte, ite_true, ite_false, if_true, if_false, Nat.reduceAdd, Nat.reduceSub, Nat.reduceMul, Nat.reduceEqDiff, Nat.reduceLT, Nat.reduceLeDiff, reduceCtorEq, Int.reduceToNat, forall_const, implies_true, a6, Ent.mk3, bw, bC, bB, bk, bl, bo, bH, bL, bg, be, bz, cH, bn, cQ, rn, bS, bS.renCs, aI, aN, aY, aY.viewOks, aJ, bm, bm.flatBs, aG, an, av, ar, az, bq, bq.keysBs, aT, ap, bj, cp, bD, cg, af, af.passKs, aD, aL, ae, ae.lendKs, cM, cq, cz, bG, setInn, ag, cN, db, ay, br, bP, cj, aC, aU, Glob.gl, ax, cK, aZ, cm, bv, aj, cD, cS, cB, cW, cu, au, au.ptrOnlys, ak, aM, bY, aB, bI, a8, bU, aQ, bp, cF, Nat.reduceBEq, undef]; simp
  · delta D.c48l2
    by_cases h : i < w.length
    · have hi2 : (i : Int) < (w.length : Int) := by omega
      have him : i < m.length := by omega
      have hrl := hr _ (getD_mem [] him)
      have hbl := hb _ (getD_mem [] him)
      obtain ⟨q1, q2⟩ := hrep.2 i him
      have htkm : ((m.take i).map fun r => r.map cells) ++ [(m.getD i []).map cells] = (m.take (i + 1)).map fun r => r.map cells := by
        rw [take_getD [] him, List.map_append]; rfl
      have htlm : (m.take i).length = i := by rw [List.length_take]; omega
      simp (maxSteps := 4000000) -implicitDefEqProofs only [sz_fz, hi2, getD_list, h, Ent.of0, Ent.of1, Ent.of2, Ent.of3, V, cc, bE, bN, bR, cV, cT, gt, lk, co, cC, cJ, cd, ca, bV, bV.subCs, cO, bu, bF, bZ, aV, bt, bh, aW, bM, bK, aH, a7, aX, cr, dd, cY, aq, aw, bT, cI, cb, cP, cU, aP, am, bQ, bJ, zC, argS, bO, ce, da, cR, ai, aE, aO, aA, cG, leC, cn, b0, bW, dc, bX, aR, aF, cZ, ah, cL, bf, bf.viewCs, bA, bA.flatCs, aK, aK.LensOks, Value.oneCell', ↓reduceIte, ite_true, ite_false, if_true, if_false, Nat.reduceAdd, Nat.reduceSub, Nat.reduceMul, Nat.reduceEqDiff, Nat.reduceLT, Nat.reduceLeDiff, reduceCtorEq, Int.reduceToNat, forall_const, implies_true, a6, Ent.mk3, bw, bC, bB, bk, bl, bo, bH, bL, bg, be, bz, cH, bn, cQ, rn, bS, bS.renCs, aI, aN, aY, aY.viewOks, aJ, bm, bm.flatBs, aG, an, av, ar, az, bq, bq.keysBs, aT, ap, bj, cp, bD, cg, af, af.passKs, aD, aL, ae, ae.lendKs, cM, cq, cz, bG, setInn, ag, cN, db, ay, br, bP, cj, aC, aU, Glob.gl, ax, cK, aZ, cm, bv, aj, cD, cS, cB, cW, cu, au, au.ptrOnlys, ak, aM, bY, aB, bI, a8, bU, aQ, bp, cF, Nat.reduceBEq, undef]
      refine ⟨by omega, ?_⟩
      generalize hR : w.getD i [] = R at *
      generalize hG : m.getD i [] = G at *
      refine S_forU R.length (fun j => [(17, .s (.int .i64 j))]) (fun j => [(6, .row 2 43 ((G.take j).map cells))]) (fun _ => True) trivial ?_ (fun j hj _ => S_run [] 800 ?_)
      · simp (maxSteps := 4000000) -implicitDefEqProofs only [Ent.of0, Ent.of1, Ent.of2, Ent.of3, V, cc, bE, bN, bR, cV, cT, gt, lk, co, cC, cJ, cd, ca, bV, bV.subCs, cO, bu, bF, bZ, aV, bt, bh, aW, bM, bK, aH, a7, aX, cr, dd, cY, aq, aw, bT, cI, cb, cP, cU, aP, am, bQ, bJ, zC, argS, bO, ce, da, cR, ai, aE, aO, aA, cG, leC, cn, b0, bW, dc, bX, aR, aF, cZ, ah, cL, bf, bf.viewCs, bA, bA.flatCs, aK, aK.LensOks, Value.oneCell', ↓reduceIte, ite_true, ite_false, if_true, if_false, Nat.reduceAdd, Nat.reduceSub, Nat.reduceMul, Nat.reduceEqDiff, Nat.reduceLT, Nat.reduceLeDiff, reduceCtorEq, Int.reduceToNat, forall_const, implies_true, a6, Ent.mk3, bw, bC, bB, bk, bl, bo, bH, bL, bg, be, bz, cH, bn, cQ, rn, bS, bS.renCs, aI, aN, aY, aY.viewOks, aJ, bm, bm.flatBs, aG, an, av, ar, az, bq, bq.keysBs, aT, ap, bj, cp, bD, cg, af, af.passKs, aD, aL, ae, ae.lendKs, cM, cq, cz, bG, setInn, ag, cN, db, ay, br, bP, cj, aC, aU, Glob.gl, ax, cK, aZ, cm, bv, aj, cD, cS, cB, cW, cu, au, au.ptrOnlys, ak, aM, bY, aB, bI, a8, bU, aQ, bp, cF, Nat.reduceBEq, undef]; simp
      · delta D.c48l1
        by_cases hjl : j < R.length
        · have hj2 : (j : Int) < (R.length : Int) := by omega
          have hjG : j < G.length := by omega
          have htk : (G.take j).map cells ++ [[C.s (.int .i64 (G.getD j ⟨0, 0⟩).re), C.s (.int .i64 (G.getD j ⟨0, 0⟩).im)]] = (G.take (j + 1)).map cells := by
            rw [take_getD ⟨0, 0⟩ hjG, List.map_append]; rfl
          have htl : (G.take j).length = j := by rw [List.length_take]; omega
          obtain ⟨z1, z2⟩ := q2 j hjG
          have t1 := toInt_F z1
          have t2 := toInt_F z2
          obtain ⟨b1, b2⟩ := hbl _ (getD_mem ⟨0, 0⟩ hjG)
          simp (maxSteps := 4000000) -implicitDefEqProofs only [hj2, hjl, cr, getD_fz, t1, t2, htk, htl, IntKind.min, IntKind.max, IntKind.signed, IntKind.bits, InR, Ent.of0, Ent.of1, Ent.of2, Ent.of3, V, cc, bE, bN, bR, cV, cT, gt, lk, co, cC, cJ, cd, ca, bV, bV.subCs, cO, bu, bF, bZ, aV, bt, bh, aW, bM, bK, aH, a7, aX, cr, dd, cY, aq, aw, bT, cI, cb, cP, cU, aP, am, bQ, bJ, zC, argS, bO, ce, da, cR, ai, aE, aO, aA, cG, leC, cn, b0, bW, dc, bX, aR, aF, cZ, ah, cL, bf, bf.viewCs, bA, bA.flatCs, aK, aK.LensOks, Value.oneCell', ↓reduceIte, ite_true, ite_false, if_true, if_false, Nat.reduceAdd, Nat.reduceSub, Nat.reduceMul, Nat.reduceEqDiff, Nat.reduceLT, Nat.reduceLeDiff, reduceCtorEq, Int.reduceToNat, forall_const, implies_true, a6, Ent.mk3, bw, bC, bB, bk, bl, bo, bH, bL, bg, be, bz, cH, bn, cQ, rn, bS, bS.renCs, aI, aN, aY, aY.viewOks, aJ, bm, bm.flatBs, aG, an, av, ar, az, bq, bq.keysBs, aT, ap, bj, cp, bD, cg, af, af.passKs, aD, aL, ae, ae.lendKs, cM, cq, cz, bG, setInn, ag, cN, db, ay, br, bP, cj, aC, aU, Glob.gl, ax, cK, aZ, cm, bv, aj, cD, cS, cB, cW, cu, au, au.ptrOnlys, ak, aM, bY, aB, bI, a8, bU, aQ, bp, cF, Nat.reduceBEq, undef]
          simp only [Int.reducePow] at *
          and_intros <;> first | omega | rfl | trivial
        · have : j = R.length := by omega
          subst this
          have hj2 : ¬ (R.length : Int) < (R.length : Int) := by omega
          have hG2 : G.take R.length = G := by rw [q1]; exact List.take_length
          simp (maxSteps := 4000000) -implicitDefEqProofs only [hj2, hG2, htkm, htlm, InR, Ent.of0, Ent.of1, Ent.of2, Ent.of3, V, cc, bE, bN, bR, cV, cT, gt, lk, co, cC, cJ, cd, ca, bV, bV.subCs, cO, bu, bF, bZ, aV, bt, bh, aW, bM, bK, aH, a7, aX, cr, dd, cY, aq, aw, bT, cI, cb, cP, cU, aP, am, bQ, bJ, zC, argS, bO, ce, da, cR, ai, aE, aO, aA, cG, leC, cn, b0, bW, dc, bX, aR, aF, cZ, ah, cL, bf, bf.viewCs, bA, bA.flatCs, aK, aK.LensOks, Value.oneCell', ↓reduceIte, ite_true, ite_false, if_true, if_false, Nat.reduceAdd, Nat.reduceSub, Nat.reduceMul, Nat.reduceEqDiff, Nat.reduceLT, Nat.reduceLeDiff, reduceCtorEq, Int.reduceToNat, forall_const, implies_true, a6, Ent.mk3, bw, bC, bB, bk, bl, bo, bH, bL, bg, be, bz, cH, bn, cQ, rn, bS, bS.renCs, aI, aN, aY, aY.viewOks, aJ, bm, bm.flatBs, aG, an, av, ar, az, bq, bq.keysBs, aT, ap, bj, cp, bD, cg, af, af.passKs, aD, aL, ae, ae.lendKs, cM, cq, cz, bG, setInn, ag, cN, db, ay, br, bP, cj, aC, aU, Glob.gl, ax, cK, aZ, cm, bv, aj, cD, cS, cB, cW, cu, au, au.ptrOnlys, ak, aM, bY, aB, bI, a8, bU, aQ, bp, cF, Nat.reduceBEq, undef]
          and_intros <;> first | omega | rfl | trivial
    · have : i = w.length := by omega
      subst this
      have hi2 : ¬ (w.length : Int) < (w.length : Int) := by omega
      have hm2 : m.take w.length = m := by rw [hwm]; exact List.take_length
      simp (maxSteps := 4000000) -implicitDefEqProofs only [hi2, D.rv48, hm2, Ent.of0, Ent.of1, Ent.of2, Ent.of3, V, cc, bE, bN, bR, cV, cT, gt, lk, co, cC, cJ, cd, ca, bV, bV.subCs, cO, bu, bF, bZ, aV, bt, bh, aW, bM, bK, aH, a7, aX, cr, dd, cY, aq, aw, bT, cI, cb, cP, cU, aP, am, bQ, bJ, zC, argS, bO, ce, da, cR, ai, aE, aO, aA, cG, leC, cn, b0, bW, dc, bX, aR, aF, cZ, ah, cL, bf, bf.viewCs, bA, bA.flatCs, aK, aK.LensOks, Value.oneCell', ↓reduceIte, ite_true, ite_false, if_true, if_false, Nat.reduceAdd, Nat.reduceSub, Nat.reduceMul, Nat.reduceEqDiff, Nat.reduceLT, Nat.reduceLeDiff, reduceCtorEq, Int.reduceToNat, forall_const, implies_true, a6, Ent.mk3, bw, bC, bB, bk, bl, bo, bH, bL, bg, be, bz, cH, bn, cQ, rn, bS, bS.renCs, aI, aN, aY, aY.viewOks, aJ, bm, bm.flatBs, aG, an, av, ar, az, bq, bq.keysBs, aT, ap, bj, cp, bD, cg, af, af.passKs, aD, aL, ae, ae.lendKs, cM, cq, cz, bG, setInn, ag, cN, db, ay, br, bP, cj, aC, aU, Glob.gl, ax, cK, aZ, cm, bv, aj, cD, cS, cB, cW, cu, au, au.ptrOnlys, ak, aM, bY, aB, bI, a8, bU, aQ, bp, cF, Nat.reduceBEq, undef]
def adjS (m : List (List Gs)) : List (List Gs) :=
  match m with
  | [[_]] => [[⟨1, 0⟩]]
  | [[a, b], [c, d]] => [[d, gsub ⟨0, 0⟩ b], [gsub ⟨0, 0⟩ c, a]]
  | _ => []
theorem zadd {b : Gs} (hb : bd b 1000) : addOk ⟨0, 0⟩ b := ⟨0, 1000, ⟨by simp, by simp⟩, hb, by omega⟩
theorem adj1_c (a : Gs) : FC Tryz.prog 46 [enc [[a]]] [] (enc (adjS [[a]])) [] := by
  refine fc_intro' is46 (by simp) (fun cx hl => S_run [ent72] 800 ?_)
  delta c46
  simp (maxSteps := 4000000) -implicitDefEqProofs only [rv46, ent72, adjS, Int.cast_ofNat_Int, Int.natCast_one, Int.natCast_zero, Int.reduceAdd, Int.reduceSub, Int.reduceMul, Int.reduceLT, Int.reduceLE, Int.reduceTMod, Int.reduceTDiv, Int.reduceNeg, Int.reduceEq, Nat.reducePow, Int.reducePow, ne_eq, not_false_eq_true, Ent.of0, Ent.of1, Ent.of2, Ent.of3, V, cc, bE, bN, bR, cV, cT, gt, lk, co, cC, cJ, cd, ca, bV, bV.subCs, cO, bu, bF, bZ, aV, bt, bh, aW, bM, bK, aH, a7, aX, cr, dd, cY, aq, aw, bT, cI, cb, cP, cU, aP, am, bQ, bJ, zC, argS, bO, ce, da, cR, ai, aE, aO, aA, cG, leC, cn, b0, bW, dc, bX, aR, aF, cZ, ah, cL, bf, bf.viewCs, bA, bA.flatCs, aK, aK.LensOks, Value.oneCell', ↓reduceIte, ite_true, ite_false, if_true, if_false, Nat.reduceAdd, Nat.reduceSub, Nat.reduceMul, Nat.reduceEqDiff, Nat.reduceLT, Nat.reduceLeDiff, reduceCtorEq, Int.reduceToNat, forall_const, implies_true, a6, Ent.mk3, bw, bC, bB, bk, bl, bo, bH, bL, bg, be, bz, cH, bn, cQ, rn, bS, bS.renCs, aI, aN, aY, aY.viewOks, aJ, bm, bm.flatBs, aG, an, av, ar, az, bq, bq.keysBs, aT, ap, bj, cp, bD, cg, af, af.passKs, aD, aL, ae, ae.lendKs, cM, cq, cz, bG, setInn, ag, cN, db, ay, br, bP, cj, aC, aU, Glob.gl, ax, cK, aZ, cm, bv, aj, cD, cS, cB, cW, cu, au, au.ptrOnlys, ak, aM, bY, aB, bI, a8, bU, aQ, bp, cF, Nat.reduceBEq, undef]
theorem adj2_c (a b c d : Gs) (h1 : bd b 1000) (h2 : bd c 1000) : FC Tryz.prog 46 [enc [[a, b], [c, d]]] [] (enc (adjS [[a, b], [c, d]])) [] := by
  have m1 := zadd h1
  have m2 := zadd h2
  refine fc_intro' is46 (by simp) (fun cx hl => S_run [ent72] 800 ?_)
  delta c46
  simp (maxSteps := 4000000) -implicitDefEqProofs only [rv46, ent72, adjS, m1, m2, gs_eta, Int.cast_ofNat_Int, Int.natCast_one, Int.natCast_zero, Int.reduceAdd, Int.reduceSub, Int.reduceMul, Int.reduceLT, Int.reduceLE, Int.reduceTMod, Int.reduceTDiv, Int.reduceNeg, Int.reduceEq, Nat.reducePow, Int.reducePow, ne_eq, not_false_eq_true, Ent.of0, Ent.of1, Ent.of2, Ent.of3, V, cc, bE, bN, bR, cV, cT, gt, lk, co, cC, cJ, cd, ca, bV, bV.subCs, cO, bu, bF, bZ, aV, bt, bh, aW, bM, bK, aH, a7, aX, cr, dd, cY, aq, aw, bT, cI, cb, cP, cU, aP, am, bQ, bJ, zC, argS, bO, ce, da, cR, ai, aE, aO, aA, cG, leC, cn, b0, bW, dc, bX, aR, aF, cZ, ah, cL, bf, bf.viewCs, bA, bA.flatCs, aK, aK.LensOks, Value.oneCell', ↓reduceIte, ite_true, ite_false, if_true, if_false, Nat.reduceAdd, Nat.reduceSub, Nat.reduceMul, Nat.reduceEqDiff, Nat.reduceLT, Nat.reduceLeDiff, reduceCtorEq, Int.reduceToNat, forall_const, implies_true, a6, Ent.mk3, bw, bC, bB, bk, bl, bo, bH, bL, bg, be, bz, cH, bn, cQ, rn, bS, bS.renCs, aI, aN, aY, aY.viewOks, aJ, bm, bm.flatBs, aG, an, av, ar, az, bq, bq.keysBs, aT, ap, bj, cp, bD, cg, af, af.passKs, aD, aL, ae, ae.lendKs, cM, cq, cz, bG, setInn, ag, cN, db, ay, br, bP, cj, aC, aU, Glob.gl, ax, cK, aZ, cm, bv, aj, cD, cS, cB, cW, cu, au, au.ptrOnlys, ak, aM, bY, aB, bI, a8, bU, aQ, bp, cF, Nat.reduceBEq, undef]
end Go.Proofs.YtfgpbmjmoobcnaaGreatDoor
end
section
open Go Go.Am
open Go.Am.Dat (cells)
namespace Go.Proofs.YtfgpbmjmoobcnaaGreatDoor
set_option maxHeartbeats 4000000
set_option maxRecDepth 20000
set_option linter.unusedSimpArgs false
def xjC (F : Gs → Gs) (x : List Gs) (j : Nat) : List (List C) := ((x.take j).map F ++ x.drop j).map cells
def riC (F : Gs → Gs) (O : List (List Gs)) (i : Nat) : List (List (List C)) := ((O.take i).map (fun x => x.map F) ++ O.drop i).map fun r => r.map cells
def rjC (F : Gs → Gs) (O : List (List Gs)) (i j : Nat) : List (List (List C)) := ((O.take i).map fun x => (x.map F).map cells) ++ xjC F (O.getD i []) j :: (O.drop (i + 1)).map fun r => r.map cells
variable {F : Gs → Gs} {O : List (List Gs)} {x : List Gs} {i j : Nat}
theorem xjC_length (h : j ≤ x.length) : (xjC F x j).length = x.length := by
  simp [xjC]; omega
theorem xjC_get (h : j < x.length) (d : List C) : (xjC F x j).getD j d = cells (x.getD j ⟨0, 0⟩) := by
  have e : x.drop j = x.getD j ⟨0, 0⟩ :: x.drop (j + 1) := drop_getD _ h
  have hl : ((x.take j).map F).length = j := by simp; omega
  rw [xjC, e, List.map_append, List.getD_eq_getElem?_getD, List.getElem?_append_right (by simp; omega)]
  simp [Nat.min_eq_left (Nat.le_of_lt h)]
theorem xjC_set (h : j < x.length) : (xjC F x j).set j (cells (F (x.getD j ⟨0, 0⟩))) = xjC F x (j + 1) := by
  have e : x.drop j = x.getD j ⟨0, 0⟩ :: x.drop (j + 1) := drop_getD _ h
  have hl : ((x.take j).map F).length = j := by simp; omega
  rw [xjC, xjC, e, take_getD ⟨0, 0⟩ h]
  simp only [List.map_append, List.map_cons, List.map_nil, List.append_assoc, List.cons_append, List.nil_append]
  rw [List.set_append_right _ _ (by simp; omega)]
  simp [Nat.min_eq_left (Nat.le_of_lt h)]
theorem xjC_get' (h : j < x.length) (d : List C) : (xjC F x (j + 1)).getD j d = cells (F (x.getD j ⟨0, 0⟩)) := by
  rw [← xjC_set h, List.getD_eq_getElem?_getD, List.getElem?_set_self (by rw [xjC_length (by omega)]; exact h)]; rfl
theorem rjC_length (h : i < O.length) : (rjC F O i j).length = O.length := by
  simp [rjC]; omega
theorem rjC_get (h : i < O.length) (d : List (List C)) : (rjC F O i j).getD i d = xjC F (O.getD i []) j := by
  rw [rjC, List.getD_eq_getElem?_getD, List.getElem?_append_right (by simp; omega)]
  simp [Nat.min_eq_left (Nat.le_of_lt h)]
theorem rjC_set (h : i < O.length) : (rjC F O i j).set i (xjC F (O.getD i []) (j + 1)) = rjC F O i (j + 1) := by
  rw [rjC, rjC, List.set_append_right _ _ (by simp; omega)]
  simp [Nat.min_eq_left (Nat.le_of_lt h)]
theorem riC_rj (h : i < O.length) : riC F O i = rjC F O i 0 := by
  have e : O.drop i = O.getD i [] :: O.drop (i + 1) := drop_getD _ h
  rw [riC, rjC, e, List.map_append, List.map_map]
  simp [xjC, Function.comp_def]
theorem rjC_ri (h : i < O.length) : rjC F O i (O.getD i []).length = riC F O (i + 1) := by
  rw [riC, rjC, take_getD [] h]
  simp [xjC, Function.comp_def]
theorem riC_zero : riC F O 0 = O.map fun r => r.map cells := by simp [riC]
theorem riC_all : riC F O O.length = (O.map fun x => x.map F).map fun r => r.map cells := by simp [riC]
end Go.Proofs.YtfgpbmjmoobcnaaGreatDoor
end
section
open Go Go.Am
open Go.Am.Dat (cells)
namespace Go.Proofs.YtfgpbmjmoobcnaaGreatDoor
set_option maxHeartbeats 4000000
set_option maxRecDepth 20000
set_option linter.unusedSimpArgs false
def adjOk (m : List (List Gs)) : Prop := (∃ a, m = [[a]]) ∨ ∃ a b c d, m = [[a, b], [c, d]] ∧ bd b 1000 ∧ bd c 1000
def ent46 : Ent Tryz.prog := .of1 46 adjOk (fun m : List (List Gs) => enc (adjS m)) (fun _ => trivial) (fun m h => by
  rcases h with ⟨a, rfl⟩ | ⟨a, b, c, d, rfl, h1, h2⟩
  · exact adj1_c a
  · exact adj2_c a b c d h1 h2)
def timesOk (a o : List (List Fz)) : Prop := ∃ m ls A B, Fits m ls A B ∧ 8 * (A * B) ≤ 9007199254740991 ∧ RepM a m ∧ RepM o ls
def ent47 : Ent Tryz.prog := .of2 47 timesOk (fun a o : List (List Fz) => enc (timesW a o)) (fun _ _ => trivial) (fun a o h => by
  obtain ⟨m, ls, A, B, h1, h2, h3, h4⟩ := h
  exact gridTimes_c a o m ls A B h1 h2 h3 h4)
def ent48D : Ent Tryz.prog := .mk3 48 (fun args chs => match args, chs with
    | [.sl 1 t], [] => (decL t : Option (List (List Fz))).bind fun w => some (RowsOk w (ofM w), .own 3, [(3, .deep 2 43 22 none ((ofM w).map fun r => r.map cells))], [3])
    | _, _ => none) (by
  intro args chs p r chs' nk hs hp
  split at hs
  · simp only [Option.bind_eq_some_iff, Option.some.injEq, Prod.mk.injEq] at hs
    obtain ⟨w, hw, rfl, rfl, rfl, rfl⟩ := hs
    have := decL_ok hw
    subst this
    refine ⟨rowsD_c w _ hp, ⟨fun k c h => .inl ?_, fun k cs h => by simp at h, by simp [keysIn], fun k c h => ?_⟩⟩
    · simp only [List.mem_singleton, Prod.mk.injEq] at h; rw [h.1]; exact List.mem_singleton.2 rfl
    · simp only [List.mem_singleton, Prod.mk.injEq] at h; rw [h.2]; trivial
  · cases hs)
theorem sym_of {l : List Gs} (h : symErr l = 0) : 0 < l.length ∧ l.length ≤ 200 ∧ ∀ g ∈ l, bd g 100000000 := by
  unfold symErr at h
  split at h
  · cases h
  · split at h
    · cases h
    · split at h
      · rename_i h1 h2 h3
        exact ⟨by omega, by omega, fun g hg => smallG_bd (by simpa using List.all_eq_true.1 h3 g hg)⟩
      · cases h
theorem lay_of {r : List (List Gs)} (h : layErr r = 0) : 0 < r.length ∧ r.length ≤ 4 ∧ ∀ x ∈ r, x.length = (r.getD 0 []).length ∧ 0 < x.length ∧ x.length ≤ 200 ∧ ∀ g ∈ x, bd g 100000000 := by
  unfold layErr at h
  split at h
  · cases h
  · split at h
    · cases h
    · refine ⟨by omega, by omega, fun x hx => ?_⟩
      have := firstS_zero h _ (List.mem_map.2 ⟨x, hx, rfl⟩)
      by_cases h1 : symErr x = 0
      · rw [if_neg (by simpa using h1)] at this
        obtain ⟨q1, q2, q3⟩ := sym_of h1
        refine ⟨?_, q1, q2, q3⟩
        split at this
        · cases this
        · omega
      · rw [if_pos h1] at this; exact absurd this h1
theorem det_of {m : List (List Gs)} (h : symDetE m = 0) : adjOk m ∧ (∀ x ∈ m, x.length = m.length ∧ ∀ g ∈ x, bd g 1000) ∧ 0 < m.length ∧ m.length ≤ 2 := by
  unfold symDetE at h
  by_cases h1 : matErr m = 0
  · rw [if_neg (by simpa using h1)] at h
    have hr := right_of h1
    unfold detE at h
    split at h
    · cases h
    · split at h
      · cases h
      · rename_i h2 h3
        have hb : ∀ x ∈ m, x.length = m.length ∧ ∀ g ∈ x, bd g 1000 := fun x hx => ⟨by have := (hr.row x hx).1; omega, fun g hg => smallG_bd ((hr.row x hx).2.2.2 g hg)⟩
        refine ⟨?_, hb, hr.pos, by omega⟩
        match m, hb, hr.pos, h3 with
        | [x], hb, _, _ =>
          obtain ⟨q1, q2⟩ := hb x (by simp)
          match x, q1 with
          | [a], _ => exact .inl ⟨a, rfl⟩
        | [x, y], hb, _, _ =>
          obtain ⟨q1, q2⟩ := hb x (by simp)
          obtain ⟨q3, q4⟩ := hb y (by simp)
          match x, y, q1, q3, q2, q4 with
          | [a, b], [c, d], _, _, q2, q4 => exact .inr ⟨a, b, c, d, rfl, q2 b (by simp), q4 c (by simp)⟩
        | _ :: _ :: _ :: _, _, _, h3 => simp at h3
  · rw [if_pos h1] at h; exact absurd h h1
theorem adjS_length {m : List (List Gs)} (ha : adjOk m) : (adjS m).length = m.length ∧ ∀ x ∈ adjS m, x.length = m.length := by
  rcases ha with ⟨a, rfl⟩ | ⟨a, b, c, d, rfl, _, _⟩ <;> simp [adjS]
theorem adj_fits {m r : List (List Gs)} (ha : adjOk m) (hm : ∀ x ∈ m, x.length = m.length ∧ ∀ g ∈ x, bd g 1000) (hl : layErr r = 0) (hrm : r.length = m.length) : Fits (adjS m) r 1000 100000000 := by
  obtain ⟨h1, h2, h3⟩ := lay_of hl
  obtain ⟨g1, g2⟩ := adjS_length ha
  refine ⟨h1, h2, by omega, fun x hx => (h3 x hx).1, ?_, fun x hx => by rw [g2 x hx, hrm], ?_, fun x hx g hg => (h3 x hx).2.2.2 g hg, by omega⟩
  · have := (h3 _ (getD_mem [] h1)).2.2.1; omega
  · rcases ha with ⟨a, rfl⟩ | ⟨a, b, c, d, rfl, h1, h2⟩
    · intro x hx g hg
      simp [adjS] at hx; subst hx; simp at hg; subst hg
      constructor <;> simp
    · have ha := (hm [a, b] (by simp)).2 a (by simp)
      have hd := (hm [c, d] (by simp)).2 d (by simp)
      intro x hx g hg
      simp only [bd] at *
      simp only [adjS, List.mem_cons, List.not_mem_nil, or_false] at hx
      rcases hx with rfl | rfl <;> simp only [List.mem_cons, List.not_mem_nil, or_false] at hg <;> rcases hg with rfl | rfl <;> (try simp only [gsub]) <;> omega
def eqErr (m r : List (List Gs)) : Int := firstS [symDetE m, layErr r, if r.length = m.length then 0 else 13, if symDetS m = ⟨0, 0⟩ then 27 else 0]
def gainS (m : List (List Gs)) : Int := (gmul (symDetS m) (gconj (symDetS m))).re
def eqOut (m r : List (List Gs)) : List (List Gs) := (applS (adjS m) r).map fun x => x.map (gmul (gconj (symDetS m)))
def eqE (m r : List (List Gs)) : Int := if eqErr m r ≠ 0 then eqErr m r else if gainS m > 10000000 then 8 else if (eqOut m r).all fun x => x.all (smallG · 100000000) then 0 else 8
theorem Equalized_c (m r : List (List Gs)) : FC Tryz.prog 16 [enc m, enc r] [] (.tup [enc (if eqE m r = 0 then eqOut m r else []), enc (if eqE m r = 0 then gainS m else 0), enc (eqE m r)]) [] := by
  refine fc_introC [] D.is16 (by simp) trivial trivial trivial trivial (fun cx _ hl _ => S_run [ent42, ent43, ent31, ent29, ent44, ent45, ent46, ent47, ent48D] 800 ?_)
  have hEq : firstS [symDetE m, layErr r, if (r.length : Int) = (m.length : Int) then 0 else 13, if (decide ((symDetS m).re = 0) && decide ((symDetS m).im = 0)) = false then 0 else 27] = eqErr m r := by
    have e1 : (if (r.length : Int) = (m.length : Int) then (0 : Int) else 13) = if r.length = m.length then 0 else 13 := by
      by_cases h : r.length = m.length
      · simp [h]
      · rw [if_neg h, if_neg (by omega)]
    have e2 : (if (decide ((symDetS m).re = 0) && decide ((symDetS m).im = 0)) = false then (0 : Int) else 27) = if symDetS m = ⟨0, 0⟩ then 27 else 0 := by
      by_cases h : symDetS m = ⟨0, 0⟩
      · rw [h]; simp
      · rw [if_neg h, if_pos]
        rw [Bool.and_eq_false_iff]
        by_cases h1 : (symDetS m).re = 0
        · right
          simp only [decide_eq_false_iff_not]
          intro h2
          apply h
          cases hq : symDetS m
          rw [hq] at h1 h2
          simp only at h1 h2
          rw [h1, h2]
        · left; simpa using h1
    rw [e1, e2]; rfl
  by_cases he : eqErr m r = 0
  · have hz := firstS_zero he
    have z1 : symDetE m = 0 := hz _ (by simp)
    have z2 : layErr r = 0 := hz _ (by simp)
    have z3 : r.length = m.length := by
      have : (if r.length = m.length then (0 : Int) else 13) = 0 := hz _ (by simp)
      split at this
      · assumption
      · cases this
    obtain ⟨d1, d2, d3, d4⟩ := det_of z1
    have hf := adj_fits d1 d2 z2 z3
    obtain ⟨l1, l2, l3⟩ := lay_of z2
    have hga : RepM (gridS (adjS m)) (adjS m) := grid_rep fun x hx g hg => by
      have := hf.ma x hx g hg
      simp only [bd] at *; omega
    have hgr : RepM (gridS r) r := grid_rep fun x hx g hg => by
      have := hf.mb x hx g hg
      simp only [bd] at *; omega
    have hrep := times_rep hf (by omega) hga hgr
    have hO := ofM_c hrep
    have hOl : (applS (adjS m) r).length = m.length := by simp [applS, (adjS_length d1).1]
    rw [he] at hEq
    delta D.c16
    simp (maxSteps := 4000000) -implicitDefEqProofs only [D.rv16, ent42, ent43, ent31, ent29, ent44, ent45, ent46, ent47, ent48D, hEq, hO, Ent.of0, Ent.of1, Ent.of2, Ent.of3, V, cc, bE, bN, bR, cV, cT, gt, lk, co, cC, cJ, cd, ca, bV, bV.subCs, cO, bu, bF, bZ, aV, bt, bh, aW, bM, bK, aH, a7, aX, cr, dd, cY, aq, aw, bT, cI, cb, cP, cU, aP, am, bQ, bJ, zC, argS, bO, ce, da, cR, ai, aE, aO, aA, cG, leC, cn, b0, bW, dc, bX, aR, aF, cZ, ah, cL, bf, bf.viewCs, bA, bA.flatCs, aK, aK.LensOks, Value.oneCell', ↓reduceIte, ite_true, ite_false, if_true, if_false, Nat.reduceAdd, Nat.reduceSub, Nat.reduceMul, Nat.reduceEqDiff, Nat.reduceLT, Nat.reduceLeDiff, reduceCtorEq, Int.reduceToNat, forall_const, implies_true, a6, Ent.mk3, bw, bC, bB, bk, bl, bo, bH, bL, bg, be, bz, cH, bn, cQ, rn, bS, bS.renCs, aI, aN, aY, aY.viewOks, aJ, bm, bm.flatBs, aG, an, av, ar, az, bq, bq.keysBs, aT, ap, bj, cp, bD, cg, af, af.passKs, aD, aL, ae, ae.lendKs, cM, cq, cz, bG, setInn, ag, cN, db, ay, br, bP, cj, aC, aU, Glob.gl, ax, cK, aZ, cm, bv, aj, cD, cS, cB, cW, cu, au, au.ptrOnlys, ak, aM, bY, aB, bI, a8, bU, aQ, bp, cF, Nat.reduceBEq, undef]
    have hbd : bd (symDetS m) 4000000 := by
      have e : symDetS m = detS m := by unfold symDetS symDetE at *; split at z1 <;> simp_all
      rw [e]
      rcases d1 with ⟨a, rfl⟩ | ⟨a, b, c, d, rfl, _, _⟩
      · have := (d2 [a] (by simp)).2 a (by simp)
        simp only [detS, bd] at *; omega
      · have ha := (d2 [a, b] (by simp)).2 a (by simp)
        have hb := (d2 [a, b] (by simp)).2 b (by simp)
        have hc := (d2 [c, d] (by simp)).2 c (by simp)
        have hd := (d2 [c, d] (by simp)).2 d (by simp)
        have q1 := bd_gmul ha hd
        have q2 := bd_gmul hb hc
        simp only [detS, bd, gsub] at *
        omega
    have hgc : gconj (symDetS m) = ⟨(symDetS m).re, -(symDetS m).im⟩ := rfl
    have hgain : gainS m = (gmul (symDetS m) ⟨(symDetS m).re, -(symDetS m).im⟩).re := rfl
    have hgain2 : gainS m = (symDetS m).re * (symDetS m).re + (symDetS m).im * (symDetS m).im := by
      rw [hgain]; simp only [gmul]; rw [Int.mul_neg]; omega
    have heE : eqE m r = if gainS m > 10000000 then 8 else if (eqOut m r).all fun x => x.all (smallG · 100000000) then 0 else 8 := by unfold eqE; rw [if_neg (by simpa using he)]
    have hout : eqOut m r = (applS (adjS m) r).map fun x => x.map (gmul (gconj (symDetS m))) := rfl
    refine ⟨by simp only [bd, InR] at *; omega, ⟨4000000, 4000000, hbd, by simp only [bd] at *; omega, by omega⟩, ?_⟩
    rw [← hgain]
    by_cases hG : gainS m > 10000000
    · rw [if_pos hG, heE, if_pos hG]
      exact ⟨trivial, rfl, rfl⟩
    · rw [if_neg hG]
      rw [if_neg hG] at heE
      have hal := adjS_length d1
      have hrows : ∀ x ∈ applS (adjS m) r, x.length ≤ 1000000 ∧ ∀ g ∈ x, bd g 800000000000 := fun x hx => by
        obtain ⟨row, hrow, rfl⟩ := List.mem_map.1 hx
        refine ⟨by simp only [rowS', List.length_map, List.length_range]; exact hf.short, fun g hg => ?_⟩
        obtain ⟨k, hk, rfl⟩ := List.mem_map.1 hg
        have := bd_dot hf hrow (by simpa using hk) r.length (Nat.le_refl _)
        have h4 : r.length * (2 * (1000 * 100000000)) ≤ 4 * (2 * (1000 * 100000000)) := Nat.mul_le_mul_right _ l2
        simp only [bd] at *; omega
      refine ⟨d1, ⟨by omega, fun x hx => by rw [hal.2 x hx]; omega⟩, ⟨by omega, fun x hx => by have := (l3 x hx).2.2.1; omega⟩, ⟨_, _, _, _, hf, by omega, hga, hgr⟩, ⟨hrep, by omega, fun x hx => (hrows x hx).1, fun x hx g hg => by have := (hrows x hx).2 g hg; simp only [bd] at *; omega⟩, ?_⟩
      have hback : bd (gconj (symDetS m)) 4000 := by
        have sq : ∀ a b : Int, a * a + b * b ≤ 10000000 → a.natAbs ≤ 4000 := fun a b h => by
          rcases Nat.lt_or_ge 4000 a.natAbs with h1 | h1
          · have h2 : 4001 * 4001 ≤ a.natAbs * a.natAbs := Nat.mul_le_mul h1 h1
            have h3 : ((a.natAbs * a.natAbs : Nat) : Int) = a * a := by rw [← Int.natAbs_mul_self]
            have h4 : (0 : Int) ≤ b * b := by rw [← Int.natAbs_mul_self]; omega
            omega
          · exact h1
        have q1 := sq (symDetS m).re (symDetS m).im (by omega)
        have q2 := sq (symDetS m).im (symDetS m).re (by omega)
        simp only [bd, gconj] at *; omega
      generalize hF : gmul (gconj (symDetS m)) = F at *
      generalize hOO : applS (adjS m) r = O at *
      rw [hgc] at hF hback
      have hFg : ∀ g, gmul ⟨(symDetS m).re, -(symDetS m).im⟩ g = F g := fun g => by rw [← hF]
      generalize hB : (⟨(symDetS m).re, -(symDetS m).im⟩ : Gs) = B at *
      generalize (symDetS m).re = Dr at *
      generalize (symDetS m).im = Di at *
      generalize eqE m r = E at *
      generalize eqOut m r = Out at *
      generalize gainS m = n at *
      clear hF hgain hgain2 hgc hbd hEq he hz z1 z2 z3 d1 d2 hf l3 hga hgr hrep hO hal hOO hG
      subst hB
      refine S_forU O.length (fun i => [(60, .s (.int .i64 (i : Int)))]) (fun i => [(57, .deep 2 43 22 none (riC F O i))]) (fun i => ((O.take i).all fun x => x.all fun g => smallG (F g) 100000000) = true) (by simp) ?_ (fun i hi hv => S_run [ent44, ent49] 800 ?_)
      · simp (maxSteps := 4000000) -implicitDefEqProofs only [riC_zero, Ent.of0, Ent.of1, Ent.of2, Ent.of3, V, cc, bE, bN, bR, cV, cT, gt, lk, co, cC, cJ, cd, ca, bV, bV.subCs, cO, bu, bF, bZ, aV, bt, bh, aW, bM, bK, aH, a7, aX, cr, dd, cY, aq, aw, bT, cI, cb, cP, cU, aP, am, bQ, bJ, zC, argS, bO, ce, da, cR, ai, aE, aO, aA, cG, leC, cn, b0, bW, dc, bX, aR, aF, cZ, ah, cL, bf, bf.viewCs, bA, bA.flatCs, aK, aK.LensOks, Value.oneCell', ↓reduceIte, ite_true, ite_false, if_true, if_false, Nat.reduceAdd, Nat.reduceSub, Nat.reduceMul, Nat.reduceEqDiff, Nat.reduceLT, Nat.reduceLeDiff, reduceCtorEq, Int.reduceToNat, forall_const, implies_true, a6, Ent.mk3, bw, bC, bB, bk, bl, bo, bH, bL, bg, be, bz, cH, bn, cQ, rn, bS, bS.renCs, aI, aN, aY, aY.viewOks, aJ, bm, bm.flatBs, aG, an, av, ar, az, bq, bq.keysBs, aT, ap, bj, cp, bD, cg, af, af.passKs, aD, aL, ae, ae.lendKs, cM, cq, cz, bG, setInn, ag, cN, db, ay, br, bP, cj, aC, aU, Glob.gl, ax, cK, aZ, cm, bv, aj, cD, cS, cB, cW, cu, au, au.ptrOnlys, ak, aM, bY, aB, bI, a8, bU, aQ, bp, cF, Nat.reduceBEq, undef]
        rfl
      · delta D.c16l2
        by_cases h : i < O.length
        · have hi2 : (i : Int) < (O.length : Int) := by omega
          have r1 : (rjC F O i 0).length = O.length := rjC_length h
          have r2 : (rjC F O i 0).getD i [] = xjC F (O.getD i []) 0 := rjC_get h []
          have r3 : (xjC F (O.getD i []) 0).length = (O.getD i []).length := xjC_length (by omega)
          rw [riC_rj h]
          simp (maxSteps := 4000000) -implicitDefEqProofs only [hi2, r1, r2, r3, h, InR, Ent.of0, Ent.of1, Ent.of2, Ent.of3, V, cc, bE, bN, bR, cV, cT, gt, lk, co, cC, cJ, cd, ca, bV, bV.subCs, cO, bu, bF, bZ, aV, bt, bh, aW, bM, bK, aH, a7, aX, cr, dd, cY, aq, aw, bT, cI, cb, cP, cU, aP, am, bQ, bJ, zC, argS, bO, ce, da, cR, ai, aE, aO, aA, cG, leC, cn, b0, bW, dc, bX, aR, aF, cZ, ah, cL, bf, bf.viewCs, bA, bA.flatCs, aK, aK.LensOks, Value.oneCell', ↓reduceIte, ite_true, ite_false, if_true, if_false, Nat.reduceAdd, Nat.reduceSub, Nat.reduceMul, Nat.reduceEqDiff, Nat.reduceLT, Nat.reduceLeDiff, reduceCtorEq, Int.reduceToNat, forall_const, implies_true, a6, Ent.mk3, bw, bC, bB, bk, bl, bo, bH, bL, bg, be, bz, cH, bn, cQ, rn, bS, bS.renCs, aI, aN, aY, aY.viewOks, aJ, bm, bm.flatBs, aG, an, av, ar, az, bq, bq.keysBs, aT, ap, bj, cp, bD, cg, af, af.passKs, aD, aL, ae, ae.lendKs, cM, cq, cz, bG, setInn, ag, cN, db, ay, br, bP, cj, aC, aU, Glob.gl, ax, cK, aZ, cm, bv, aj, cD, cS, cB, cW, cu, au, au.ptrOnlys, ak, aM, bY, aB, bI, a8, bU, aQ, bp, cF, Nat.reduceBEq, undef]
          refine ⟨by omega, by simp, by simp, ?_⟩
          have hXm := hrows _ (getD_mem [] h)
          have htk : O.take (i + 1) = O.take i ++ [O.getD i []] := take_getD [] h
          have hXmem : O.getD i [] ∈ O := getD_mem [] h
          have rn := rjC_ri (F := F) h
          have g1 : ∀ j, (rjC F O i j).length = O.length := fun j => rjC_length h
          have g2 : ∀ j, (rjC F O i j).getD i [] = xjC F (O.getD i []) j := fun j => rjC_get h []
          have g3 : ∀ j, (rjC F O i j).set i (xjC F (O.getD i []) (j + 1)) = rjC F O i (j + 1) := fun j => rjC_set h
          generalize hX : O.getD i [] = X at *
          refine S_forU X.length (fun j => [(66, .s (.int .i64 (j : Int)))]) (fun j => [(57, .deep 2 43 22 none (rjC F O i j))]) (fun j => ((X.take j).all fun g => smallG (F g) 100000000) = true) (by simp) ?_ (fun j hj hw => S_run [ent44, ent49] 800 ?_)
          · simp (maxSteps := 4000000) -implicitDefEqProofs only [Ent.of0, Ent.of1, Ent.of2, Ent.of3, V, cc, bE, bN, bR, cV, cT, gt, lk, co, cC, cJ, cd, ca, bV, bV.subCs, cO, bu, bF, bZ, aV, bt, bh, aW, bM, bK, aH, a7, aX, cr, dd, cY, aq, aw, bT, cI, cb, cP, cU, aP, am, bQ, bJ, zC, argS, bO, ce, da, cR, ai, aE, aO, aA, cG, leC, cn, b0, bW, dc, bX, aR, aF, cZ, ah, cL, bf, bf.viewCs, bA, bA.flatCs, aK, aK.LensOks, Value.oneCell', ↓reduceIte, ite_true, ite_false, if_true, if_false, Nat.reduceAdd, Nat.reduceSub, Nat.reduceMul, Nat.reduceEqDiff, Nat.reduceLT, Nat.reduceLeDiff, reduceCtorEq, Int.reduceToNat, forall_const, implies_true, a6, Ent.mk3, bw, bC, bB, bk, bl, bo, bH, bL, bg, be, bz, cH, bn, cQ, rn, bS, bS.renCs, aI, aN, aY, aY.viewOks, aJ, bm, bm.flatBs, aG, an, av, ar, az, bq, bq.keysBs, aT, ap, bj, cp, bD, cg, af, af.passKs, aD, aL, ae, ae.lendKs, cM, cq, cz, bG, setInn, ag, cN, db, ay, br, bP, cj, aC, aU, Glob.gl, ax, cK, aZ, cm, bv, aj, cD, cS, cB, cW, cu, au, au.ptrOnlys, ak, aM, bY, aB, bI, a8, bU, aQ, bp, cF, Nat.reduceBEq, undef]; rfl
          · delta D.c16l1
            by_cases hjl : j < X.length
            · have hj2 : (j : Int) < (X.length : Int) := by omega
              have g4 : (xjC F X j).length = X.length := xjC_length (by omega)
              have g4' : (xjC F X (j + 1)).length = X.length := xjC_length (by omega)
              have g5 : (xjC F X j).getD j [] = [.s (.int .i64 (X.getD j ⟨0, 0⟩).re), .s (.int .i64 (X.getD j ⟨0, 0⟩).im)] := xjC_get hjl []
              have g6 : (xjC F X (j + 1)).getD j [] = [.s (.int .i64 (F (X.getD j ⟨0, 0⟩)).re), .s (.int .i64 (F (X.getD j ⟨0, 0⟩)).im)] := xjC_get' hjl []
              have g7 : (xjC F X j).set j [.s (.int .i64 (F (X.getD j ⟨0, 0⟩)).re), .s (.int .i64 (F (X.getD j ⟨0, 0⟩)).im)] = xjC F X (j + 1) := xjC_set hjl
              have hgm := getD_mem ⟨0, 0⟩ hjl
              have hm1 : mulOk ⟨Dr, -Di⟩ (X.getD j ⟨0, 0⟩) := ⟨4000, 800000000000, hback, hXm.2 _ hgm, by omega⟩
              have htk2 : X.take (j + 1) = X.take j ++ [X.getD j ⟨0, 0⟩] := take_getD _ hjl
              simp (maxSteps := 4000000) -implicitDefEqProofs only [hj2, g1, g2, g3, g4, g4', g5, g6, g7, h, hjl, gs_eta, hFg, hm1, ent44, ent49, aW, D.rv16, InR, Ent.of0, Ent.of1, Ent.of2, Ent.of3, V, cc, bE, bN, bR, cV, cT, gt, lk, co, cC, cJ, cd, ca, bV, bV.subCs, cO, bu, bF, bZ, aV, bt, bh, aW, bM, bK, aH, a7, aX, cr, dd, cY, aq, aw, bT, cI, cb, cP, cU, aP, am, bQ, bJ, zC, argS, bO, ce, da, cR, ai, aE, aO, aA, cG, leC, cn, b0, bW, dc, bX, aR, aF, cZ, ah, cL, bf, bf.viewCs, bA, bA.flatCs, aK, aK.LensOks, Value.oneCell', ↓reduceIte, ite_true, ite_false, if_true, if_false, Nat.reduceAdd, Nat.reduceSub, Nat.reduceMul, Nat.reduceEqDiff, Nat.reduceLT, Nat.reduceLeDiff, reduceCtorEq, Int.reduceToNat, forall_const, implies_true, a6, Ent.mk3, bw, bC, bB, bk, bl, bo, bH, bL, bg, be, bz, cH, bn, cQ, rn, bS, bS.renCs, aI, aN, aY, aY.viewOks, aJ, bm, bm.flatBs, aG, an, av, ar, az, bq, bq.keysBs, aT, ap, bj, cp, bD, cg, af, af.passKs, aD, aL, ae, ae.lendKs, cM, cq, cz, bG, setInn, ag, cN, db, ay, br, bP, cj, aC, aU, Glob.gl, ax, cK, aZ, cm, bv, aj, cD, cS, cB, cW, cu, au, au.ptrOnlys, ak, aM, bY, aB, bI, a8, bU, aQ, bp, cF, Nat.reduceBEq, undef]
              have hne : (none : Option Nat) ≠ some i := by simp
              have hj0 : (0 : Int) ≤ (j : Int) := by omega
              refine ⟨⟨hne, hj0⟩, hne, ⟨hne, hj0⟩, hne, ⟨hne, hj0⟩, hne, by omega, ?_⟩
              by_cases hs : smallG (F (X.getD j ⟨0, 0⟩)) 100000000 = false
              · rw [if_pos hs]
                have hE8 : E = 8 := by
                  rw [heE, if_neg]
                  rw [hout]
                  intro ha
                  have h1 := List.all_eq_true.1 ha _ (List.mem_map.2 ⟨X, hXmem, rfl⟩)
                  have h2 := List.all_eq_true.1 h1 _ (List.mem_map.2 ⟨_, hgm, rfl⟩)
                  rw [hs] at h2; cases h2
                rw [hE8]
                exact ⟨trivial, rfl, rfl⟩
              · rw [if_neg hs]
                refine ⟨by omega, ?_, by omega⟩
                rw [htk2, List.all_append, hw]
                simpa using hs
            · have hje : j = X.length := by omega
              subst hje
              have hj2 : ¬ (X.length : Int) < (X.length : Int) := by omega
              simp (maxSteps := 4000000) -implicitDefEqProofs only [hj2, rn, h, htk, InR, Ent.of0, Ent.of1, Ent.of2, Ent.of3, V, cc, bE, bN, bR, cV, cT, gt, lk, co, cC, cJ, cd, ca, bV, bV.subCs, cO, bu, bF, bZ, aV, bt, bh, aW, bM, bK, aH, a7, aX, cr, dd, cY, aq, aw, bT, cI, cb, cP, cU, aP, am, bQ, bJ, zC, argS, bO, ce, da, cR, ai, aE, aO, aA, cG, leC, cn, b0, bW, dc, bX, aR, aF, cZ, ah, cL, bf, bf.viewCs, bA, bA.flatCs, aK, aK.LensOks, Value.oneCell', ↓reduceIte, ite_true, ite_false, if_true, if_false, Nat.reduceAdd, Nat.reduceSub, Nat.reduceMul, Nat.reduceEqDiff, Nat.reduceLT, Nat.reduceLeDiff, reduceCtorEq, Int.reduceToNat, forall_const, implies_true, a6, Ent.mk3, bw, bC, bB, bk, bl, bo, bH, bL, bg, be, bz, cH, bn, cQ, rn, bS, bS.renCs, aI, aN, aY, aY.viewOks, aJ, bm, bm.flatBs, aG, an, av, ar, az, bq, bq.keysBs, aT, ap, bj, cp, bD, cg, af, af.passKs, aD, aL, ae, ae.lendKs, cM, cq, cz, bG, setInn, ag, cN, db, ay, br, bP, cj, aC, aU, Glob.gl, ax, cK, aZ, cm, bv, aj, cD, cS, cB, cW, cu, au, au.ptrOnlys, ak, aM, bY, aB, bI, a8, bU, aQ, bp, cF, Nat.reduceBEq, undef]
              rw [List.take_length] at hw
              refine ⟨by omega, ?_, by omega⟩
              rw [List.all_append, hv]
              simp only [List.all_cons, List.all_nil, Bool.and_true, Bool.true_and]
              exact hw
        · have hie : i = O.length := by omega
          subst hie
          have hi2 : ¬ (O.length : Int) < (O.length : Int) := by omega
          rw [riC_all]
          simp (maxSteps := 4000000) -implicitDefEqProofs only [hi2, D.rv16, InR, Ent.of0, Ent.of1, Ent.of2, Ent.of3, V, cc, bE, bN, bR, cV, cT, gt, lk, co, cC, cJ, cd, ca, bV, bV.subCs, cO, bu, bF, bZ, aV, bt, bh, aW, bM, bK, aH, a7, aX, cr, dd, cY, aq, aw, bT, cI, cb, cP, cU, aP, am, bQ, bJ, zC, argS, bO, ce, da, cR, ai, aE, aO, aA, cG, leC, cn, b0, bW, dc, bX, aR, aF, cZ, ah, cL, bf, bf.viewCs, bA, bA.flatCs, aK, aK.LensOks, Value.oneCell', ↓reduceIte, ite_true, ite_false, if_true, if_false, Nat.reduceAdd, Nat.reduceSub, Nat.reduceMul, Nat.reduceEqDiff, Nat.reduceLT, Nat.reduceLeDiff, reduceCtorEq, Int.reduceToNat, forall_const, implies_true, a6, Ent.mk3, bw, bC, bB, bk, bl, bo, bH, bL, bg, be, bz, cH, bn, cQ, rn, bS, bS.renCs, aI, aN, aY, aY.viewOks, aJ, bm, bm.flatBs, aG, an, av, ar, az, bq, bq.keysBs, aT, ap, bj, cp, bD, cg, af, af.passKs, aD, aL, ae, ae.lendKs, cM, cq, cz, bG, setInn, ag, cN, db, ay, br, bP, cj, aC, aU, Glob.gl, ax, cK, aZ, cm, bv, aj, cD, cS, cB, cW, cu, au, au.ptrOnlys, ak, aM, bY, aB, bI, a8, bU, aQ, bp, cF, Nat.reduceBEq, undef]
          rw [List.take_length] at hv
          have hE0 : E = 0 := by
            rw [heE, if_pos]
            rw [hout, List.all_map]
            simpa [Function.comp_def, List.all_map] using hv
          rw [hE0, if_pos rfl, if_pos rfl, hout]
          refine ⟨?_, rfl, rfl⟩
          simp only [List.map_map]
          rfl
  · have hE : eqE m r = eqErr m r := by unfold eqE; rw [if_pos he]
    delta D.c16
    simp (maxSteps := 4000000) -implicitDefEqProofs only [D.rv16, ent42, ent43, ent31, ent29, ent44, Ent.of0, Ent.of1, Ent.of2, Ent.of3, V, cc, bE, bN, bR, cV, cT, gt, lk, co, cC, cJ, cd, ca, bV, bV.subCs, cO, bu, bF, bZ, aV, bt, bh, aW, bM, bK, aH, a7, aX, cr, dd, cY, aq, aw, bT, cI, cb, cP, cU, aP, am, bQ, bJ, zC, argS, bO, ce, da, cR, ai, aE, aO, aA, cG, leC, cn, b0, bW, dc, bX, aR, aF, cZ, ah, cL, bf, bf.viewCs, bA, bA.flatCs, aK, aK.LensOks, Value.oneCell', ↓reduceIte, ite_true, ite_false, if_true, if_false, Nat.reduceAdd, Nat.reduceSub, Nat.reduceMul, Nat.reduceEqDiff, Nat.reduceLT, Nat.reduceLeDiff, reduceCtorEq, Int.reduceToNat, forall_const, implies_true, a6, Ent.mk3, bw, bC, bB, bk, bl, bo, bH, bL, bg, be, bz, cH, bn, cQ, rn, bS, bS.renCs, aI, aN, aY, aY.viewOks, aJ, bm, bm.flatBs, aG, an, av, ar, az, bq, bq.keysBs, aT, ap, bj, cp, bD, cg, af, af.passKs, aD, aL, ae, ae.lendKs, cM, cq, cz, bG, setInn, ag, cN, db, ay, br, bP, cj, aC, aU, Glob.gl, ax, cK, aZ, cm, bv, aj, cD, cS, cB, cW, cu, au, au.ptrOnlys, ak, aM, bY, aB, bI, a8, bU, aQ, bp, cF, Nat.reduceBEq, undef]
    rw [hEq, if_pos he, hE, if_neg he, if_neg he]
    exact ⟨trivial, rfl, rfl⟩
end Go.Proofs.YtfgpbmjmoobcnaaGreatDoor
end
section
open Go Go.Am
open Go.Am.Dat (cells)
namespace Go.Proofs.YtfgpbmjmoobcnaaGreatDoor
set_option maxHeartbeats 4000000
set_option maxRecDepth 100000
set_option linter.unusedSimpArgs false
def regX : Reg := ⟨3, [0, 1], [1, 0, 0]⟩
theorem Register_c : FC Tryz.prog 13 [] [] (enc regX) [] := by
  refine fc_intro' is13 (by simp) (fun cx hl => S_run [] 800 ?_)
  delta c13
  simp (maxSteps := 4000000) -implicitDefEqProofs only [rv13, regX, enc_reg, aW, Ent.of0, Ent.of1, Ent.of2, Ent.of3, V, cc, bE, bN, bR, cV, cT, gt, lk, co, cC, cJ, cd, ca, bV, bV.subCs, cO, bu, bF, bZ, aV, bt, bh, aW, bM, bK, aH, a7, aX, cr, dd, cY, aq, aw, bT, cI, cb, cP, cU, aP, am, bQ, bJ, zC, argS, bO, ce, da, cR, ai, aE, aO, aA, cG, leC, cn, b0, bW, dc, bX, aR, aF, cZ, ah, cL, bf, bf.viewCs, bA, bA.flatCs, aK, aK.LensOks, Value.oneCell', ↓reduceIte, ite_true, ite_false, if_true, if_false, Nat.reduceAdd, Nat.reduceSub, Nat.reduceMul, Nat.reduceEqDiff, Nat.reduceLT, Nat.reduceLeDiff, reduceCtorEq, Int.reduceToNat, forall_const, implies_true, a6, Ent.mk3, bw, bC, bB, bk, bl, bo, bH, bL, bg, be, bz, cH, bn, cQ, rn, bS, bS.renCs, aI, aN, aY, aY.viewOks, aJ, bm, bm.flatBs, aG, an, av, ar, az, bq, bq.keysBs, aT, ap, bj, cp, bD, cg, af, af.passKs, aD, aL, ae, ae.lendKs, cM, cq, cz, bG, setInn, ag, cN, db, ay, br, bP, cj, aC, aU, Glob.gl, ax, cK, aZ, cm, bv, aj, cD, cS, cB, cW, cu, au, au.ptrOnlys, ak, aM, bY, aB, bI, a8, bU, aQ, bp, cF, Nat.reduceBEq, undef]
def ent13 : Ent Tryz.prog := .of0 13 (enc regX) (by simp [enc_reg, regX, keysIn, keysIn.keysIns]) Register_c
def mX : List (List Gs) := [[⟨1, 0⟩, ⟨0, 1⟩], [⟨0, 0⟩, ⟨2, 0⟩]]
def rX : List (List Gs) := [[⟨2, 1⟩], [⟨2, 2⟩]]
theorem eqX : FC Tryz.prog 16 [enc mX, enc rX] [] (.tup [enc [[(⟨12, 0⟩ : Gs)], [⟨4, 4⟩]], enc (4 : Int), enc (0 : Int)]) [] := by
  have s7 : eqE mX rX = 0 := by decide +kernel
  have s8 : eqOut mX rX = [[⟨12, 0⟩], [⟨4, 4⟩]] := by decide +kernel
  have s9 : gainS mX = 4 := by decide +kernel
  have := Equalized_c mX rX
  rwa [s7, if_pos rfl, if_pos rfl, s8, s9] at this
def ent16X : Ent Tryz.prog := .mk3 16 (fun args chs => match chs with | [] => some (args = [enc mX, enc rX], .tup [enc [[(⟨12, 0⟩ : Gs)], [⟨4, 4⟩]], enc (4 : Int), enc (0 : Int)], [], []) | _ => none) (by
  intro args chs p r chs' nk hs hp
  split at hs
  · simp only [Option.some.injEq, Prod.mk.injEq] at hs
    obtain ⟨rfl, rfl, rfl, rfl⟩ := hs
    subst hp
    exact ⟨eqX, .plain (by simp [enc_list, enc_int, keysIn, keysIn.keysIns])⟩
  · cases hs)
theorem awake_c : FC Tryz.prog 4 [] [] (enc true) [] := by
  have s1 : sequenceErr ⟨3, [0, 1], [1, 0, 0]⟩ 7 = 0 := by decide +kernel
  have s2 : seqS (wireW ⟨3, [0, 1], [1, 0, 0]⟩) 7 = [1, 0, 0, 1, 0, 1, 1] := by decide +kernel
  have s3 : modErr 4 [0, 1, 1, 0] = 0 := by decide +kernel
  have s4 : modS 4 [0, 1, 1, 0] 1 = [⟨3, -1⟩] := by decide +kernel
  have s5 : recvErr ⟨4, 2, [⟨5, 1⟩]⟩ = 0 := by decide +kernel
  have s6 : judgeAll softS ⟨4, 2, [⟨5, 1⟩]⟩ = [48, 8, -8, 24] := by decide +kernel
  have t7 : Int.toNat 7 = 7 := rfl
  have t4 : Int.toNat 4 = 4 := rfl
  have d1 : (4 : Nat) / 4 = 1 := rfl
  refine fc_intro' is4 (by simp) (fun cx hl => S_run [ent13, ent12, ent14] 800 ?_)
  delta c4
  simp (maxSteps := 4000000) -implicitDefEqProofs only [rv4, ent13, regX, ent12, ent14, enc_reg, decV_reg, s1, s2, s3, s4, t7, t4, d1, Int.cast_ofNat_Int, Int.natCast_one, Int.natCast_zero, Int.reduceAdd, Int.reduceSub, Int.reduceMul, Int.reduceLT, Int.reduceLE, Int.reduceTMod, Int.reduceTDiv, Int.reduceNeg, Int.reduceEq, Nat.reducePow, Int.reducePow, ne_eq, not_false_eq_true, Ent.of0, Ent.of1, Ent.of2, Ent.of3, V, cc, bE, bN, bR, cV, cT, gt, lk, co, cC, cJ, cd, ca, bV, bV.subCs, cO, bu, bF, bZ, aV, bt, bh, aW, bM, bK, aH, a7, aX, cr, dd, cY, aq, aw, bT, cI, cb, cP, cU, aP, am, bQ, bJ, zC, argS, bO, ce, da, cR, ai, aE, aO, aA, cG, leC, cn, b0, bW, dc, bX, aR, aF, cZ, ah, cL, bf, bf.viewCs, bA, bA.flatCs, aK, aK.LensOks, Value.oneCell', ↓reduceIte, ite_true, ite_false, if_true, if_false, Nat.reduceAdd, Nat.reduceSub, Nat.reduceMul, Nat.reduceEqDiff, Nat.reduceLT, Nat.reduceLeDiff, reduceCtorEq, Int.reduceToNat, forall_const, implies_true, a6, Ent.mk3, bw, bC, bB, bk, bl, bo, bH, bL, bg, be, bz, cH, bn, cQ, rn, bS, bS.renCs, aI, aN, aY, aY.viewOks, aJ, bm, bm.flatBs, aG, an, av, ar, az, bq, bq.keysBs, aT, ap, bj, cp, bD, cg, af, af.passKs, aD, aL, ae, ae.lendKs, cM, cq, cz, bG, setInn, ag, cN, db, ay, br, bP, cj, aC, aU, Glob.gl, ax, cK, aZ, cm, bv, aj, cD, cS, cB, cW, cu, au, au.ptrOnlys, ak, aM, bY, aB, bI, a8, bU, aQ, bp, cF, Nat.reduceBEq, undef]
  refine D_run [ent15] 800 ?_
  simp (maxSteps := 4000000) -implicitDefEqProofs only [ent15, enc_recv, decV_recv, s5, s6, Int.cast_ofNat_Int, Int.natCast_one, Int.natCast_zero, Int.reduceAdd, Int.reduceSub, Int.reduceMul, Int.reduceLT, Int.reduceLE, Int.reduceTMod, Int.reduceTDiv, Int.reduceNeg, Int.reduceEq, Nat.reducePow, Int.reducePow, ne_eq, not_false_eq_true, Ent.of0, Ent.of1, Ent.of2, Ent.of3, V, cc, bE, bN, bR, cV, cT, gt, lk, co, cC, cJ, cd, ca, bV, bV.subCs, cO, bu, bF, bZ, aV, bt, bh, aW, bM, bK, aH, a7, aX, cr, dd, cY, aq, aw, bT, cI, cb, cP, cU, aP, am, bQ, bJ, zC, argS, bO, ce, da, cR, ai, aE, aO, aA, cG, leC, cn, b0, bW, dc, bX, aR, aF, cZ, ah, cL, bf, bf.viewCs, bA, bA.flatCs, aK, aK.LensOks, Value.oneCell', ↓reduceIte, ite_true, ite_false, if_true, if_false, Nat.reduceAdd, Nat.reduceSub, Nat.reduceMul, Nat.reduceEqDiff, Nat.reduceLT, Nat.reduceLeDiff, reduceCtorEq, Int.reduceToNat, forall_const, implies_true, a6, Ent.mk3, bw, bC, bB, bk, bl, bo, bH, bL, bg, be, bz, cH, bn, cQ, rn, bS, bS.renCs, aI, aN, aY, aY.viewOks, aJ, bm, bm.flatBs, aG, an, av, ar, az, bq, bq.keysBs, aT, ap, bj, cp, bD, cg, af, af.passKs, aD, aL, ae, ae.lendKs, cM, cq, cz, bG, setInn, ag, cN, db, ay, br, bP, cj, aC, aU, Glob.gl, ax, cK, aZ, cm, bv, aj, cD, cS, cB, cW, cu, au, au.ptrOnlys, ak, aM, bY, aB, bI, a8, bU, aQ, bp, cF, Nat.reduceBEq, undef]
  refine D_run [ent16X] 800 ?_
  simp (maxSteps := 4000000) -implicitDefEqProofs only [ent16X, mX, rX, Int.cast_ofNat_Int, Int.natCast_one, Int.natCast_zero, Int.reduceAdd, Int.reduceSub, Int.reduceMul, Int.reduceLT, Int.reduceLE, Int.reduceTMod, Int.reduceTDiv, Int.reduceNeg, Int.reduceEq, Nat.reducePow, Int.reducePow, ne_eq, not_false_eq_true, Ent.of0, Ent.of1, Ent.of2, Ent.of3, V, cc, bE, bN, bR, cV, cT, gt, lk, co, cC, cJ, cd, ca, bV, bV.subCs, cO, bu, bF, bZ, aV, bt, bh, aW, bM, bK, aH, a7, aX, cr, dd, cY, aq, aw, bT, cI, cb, cP, cU, aP, am, bQ, bJ, zC, argS, bO, ce, da, cR, ai, aE, aO, aA, cG, leC, cn, b0, bW, dc, bX, aR, aF, cZ, ah, cL, bf, bf.viewCs, bA, bA.flatCs, aK, aK.LensOks, Value.oneCell', ↓reduceIte, ite_true, ite_false, if_true, if_false, Nat.reduceAdd, Nat.reduceSub, Nat.reduceMul, Nat.reduceEqDiff, Nat.reduceLT, Nat.reduceLeDiff, reduceCtorEq, Int.reduceToNat, forall_const, implies_true, a6, Ent.mk3, bw, bC, bB, bk, bl, bo, bH, bL, bg, be, bz, cH, bn, cQ, rn, bS, bS.renCs, aI, aN, aY, aY.viewOks, aJ, bm, bm.flatBs, aG, an, av, ar, az, bq, bq.keysBs, aT, ap, bj, cp, bD, cg, af, af.passKs, aD, aL, ae, ae.lendKs, cM, cq, cz, bG, setInn, ag, cN, db, ay, br, bP, cj, aC, aU, Glob.gl, ax, cK, aZ, cm, bv, aj, cD, cS, cB, cW, cu, au, au.ptrOnlys, ak, aM, bY, aB, bI, a8, bU, aQ, bp, cF, Nat.reduceBEq, undef]
  refine D_run [ent17, ent10, ent18] 800 ?_
  simp (maxSteps := 4000000) -implicitDefEqProofs only [ent17, ent10, ent18, rv4, Int.cast_ofNat_Int, Int.natCast_one, Int.natCast_zero, Int.reduceAdd, Int.reduceSub, Int.reduceMul, Int.reduceLT, Int.reduceLE, Int.reduceTMod, Int.reduceTDiv, Int.reduceNeg, Int.reduceEq, Nat.reducePow, Int.reducePow, ne_eq, not_false_eq_true, Ent.of0, Ent.of1, Ent.of2, Ent.of3, V, cc, bE, bN, bR, cV, cT, gt, lk, co, cC, cJ, cd, ca, bV, bV.subCs, cO, bu, bF, bZ, aV, bt, bh, aW, bM, bK, aH, a7, aX, cr, dd, cY, aq, aw, bT, cI, cb, cP, cU, aP, am, bQ, bJ, zC, argS, bO, ce, da, cR, ai, aE, aO, aA, cG, leC, cn, b0, bW, dc, bX, aR, aF, cZ, ah, cL, bf, bf.viewCs, bA, bA.flatCs, aK, aK.LensOks, Value.oneCell', ↓reduceIte, ite_true, ite_false, if_true, if_false, Nat.reduceAdd, Nat.reduceSub, Nat.reduceMul, Nat.reduceEqDiff, Nat.reduceLT, Nat.reduceLeDiff, reduceCtorEq, Int.reduceToNat, forall_const, implies_true, a6, Ent.mk3, bw, bC, bB, bk, bl, bo, bH, bL, bg, be, bz, cH, bn, cQ, rn, bS, bS.renCs, aI, aN, aY, aY.viewOks, aJ, bm, bm.flatBs, aG, an, av, ar, az, bq, bq.keysBs, aT, ap, bj, cp, bD, cg, af, af.passKs, aD, aL, ae, ae.lendKs, cM, cq, cz, bG, setInn, ag, cN, db, ay, br, bP, cj, aC, aU, Glob.gl, ax, cK, aZ, cm, bv, aj, cD, cS, cB, cW, cu, au, au.ptrOnlys, ak, aM, bY, aB, bI, a8, bU, aQ, bp, cF, Nat.reduceBEq, undef]
def ent4 : Ent Tryz.prog := .of0 4 (enc true) trivial awake_c
end Go.Proofs.YtfgpbmjmoobcnaaGreatDoor
end
section
open Go Go.Am
open Go.Am.Dat (cells)
namespace Go.Proofs.YtfgpbmjmoobcnaaGreatDoor
set_option maxHeartbeats 4000000
set_option maxRecDepth 100000
set_option linter.unusedSimpArgs false
set_option linter.unusedVariables false
def mkB (l : List UInt8) : ByteArray := ⟨l.toArray⟩
theorem mkB_list (l : List UInt8) : (mkB l).data.toList = l := rfl
theorem mkB_size (l : List UInt8) : (mkB l).size = l.length := by simp [mkB, ByteArray.size]
theorem data_len (s : ByteArray) : s.data.toList.length = s.size := by rw [Array.length_toList]; rfl
theorem extract_mk (s : ByteArray) (a b : Nat) (h : b ≤ s.size) : s.extract a b = mkB ((s.data.toList.drop a).take (b - a)) := by
  refine ByteArray.ext ?_
  rw [ByteArray.data_extract]
  refine Array.toList_inj.1 ?_
  simp [mkB, List.drop_take]
def cutL (c : UInt8) : List UInt8 → List (List UInt8)
  | [] => [[]]
  | b :: l => if b = c then [] :: cutL c l else match cutL c l with
    | p :: ps => (b :: p) :: ps
    | [] => [[b]]
theorem cut_none {c : UInt8} : ∀ {l : List UInt8}, (∀ b ∈ l, b ≠ c) → cutL c l = [l]
  | [], _ => rfl
  | b :: l, h => by rw [cutL, if_neg (h b List.mem_cons_self), cut_none (fun x hx => h x (List.mem_cons_of_mem _ hx))]
theorem cut_hit {c : UInt8} {r : List UInt8} : ∀ {a : List UInt8}, (∀ b ∈ a, b ≠ c) → cutL c (a ++ c :: r) = a :: cutL c r
  | [], _ => by show cutL c (c :: r) = _; rw [cutL, if_pos rfl]
  | b :: l, h => by
    show cutL c (b :: (l ++ c :: r)) = _
    rw [cutL, if_neg (h b List.mem_cons_self), cut_hit (fun x hx => h x (List.mem_cons_of_mem _ hx))]
theorem cut_ne (c : UInt8) (l : List UInt8) : cutL c l ≠ [] := by
  cases l with
  | nil => simp [cutL]
  | cons b l =>
    rw [cutL]
    split
    · simp
    · split <;> simp
theorem drop_split {l : List UInt8} {c : UInt8} {f i : Nat} (hf : f ≤ i) (hi : i < l.length) (hc : l.getD i 0 = c) : l.drop f = (l.drop f).take (i - f) ++ c :: l.drop (i + 1) := by
  rw [List.getD_eq_getElem?_getD, List.getElem?_eq_getElem hi] at hc
  have hc : l[i] = c := hc
  have h1 := List.take_append_drop (i - f) (l.drop f)
  rw [List.drop_drop, show f + (i - f) = i by omega, List.drop_eq_getElem_cons hi, hc] at h1
  exact h1.symm
theorem mem_seg {l : List UInt8} {c : UInt8} {f n : Nat} (h : ∀ k, f ≤ k → k < f + n → l.getD k 0 ≠ c) : ∀ b ∈ (l.drop f).take n, b ≠ c := by
  intro b hb
  obtain ⟨j, hj, rfl⟩ := List.getElem_of_mem hb
  simp only [List.length_take, List.length_drop] at hj
  have := h (f + j) (by omega) (by omega)
  rw [List.getD_eq_getElem?_getD, List.getElem?_eq_getElem (by omega)] at this
  simpa using this
def cutB (c : UInt8) (s : ByteArray) : List ByteArray := (cutL c s.data.toList).map mkB
structure CutAt (c : UInt8) (l : List UInt8) (f i : Nat) (o : List ByteArray) : Prop where
  fi : f ≤ i
  il : i ≤ l.length
  ol : o.length ≤ f
  eq : (cutL c l).map mkB = o ++ (cutL c (l.drop f)).map mkB
  no : ∀ k, f ≤ k → k < i → l.getD k 0 ≠ c
theorem CutAt.skip {c : UInt8} {l : List UInt8} {f i : Nat} {o : List ByteArray} (h : CutAt c l f i o) (hi : i < l.length) (hc : l.getD i 0 ≠ c) : CutAt c l f (i + 1) o :=
  ⟨by have := h.fi; omega, hi, h.ol, h.eq, fun k h1 h2 => if e : k = i then e ▸ hc else h.no k h1 (by omega)⟩
theorem CutAt.hit {c : UInt8} {l : List UInt8} {f i : Nat} {o : List ByteArray} (h : CutAt c l f i o) (hi : i < l.length) (hc : l.getD i 0 = c) : CutAt c l (i + 1) (i + 1) (o ++ [mkB ((l.drop f).take (i - f))]) := by
  have h1 := drop_split h.fi hi hc
  have h2 := mem_seg (l := l) (c := c) (f := f) (n := i - f) (fun k a b => h.no k a (by have := h.fi; omega))
  refine ⟨Nat.le_refl _, hi, by have := h.ol; have := h.fi; simp; omega, ?_, fun k a b => by omega⟩
  rw [h.eq, h1, cut_hit h2, List.map_cons, List.append_assoc]
  rw [← h1]; rfl
theorem CutAt.fin {c : UInt8} {l : List UInt8} {f : Nat} {o : List ByteArray} (h : CutAt c l f l.length o) : (cutL c l).map mkB = o ++ [mkB (l.drop f)] := by
  have h2 := mem_seg (l := l) (c := c) (f := f) (n := l.length - f) (fun k a b => h.no k a (by have := h.fi; omega))
  rw [List.take_of_length_le (by simp)] at h2
  rw [h.eq, cut_none h2]; rfl
theorem Cut_c (s : ByteArray) (c : UInt8) (hs : s.size ≤ 1000000) : FC Tryz.prog 25 [enc s, .s (.int .u8 (c.toNat : Int))] [] (enc (cutB c s)) [] := by
  refine fc_intro' is25 (by simp) (fun cx hl => S_run [] 800 ?_)
  delta c25
  simp (maxSteps := 4000000) -implicitDefEqProofs only [rv25, Ent.of0, Ent.of1, Ent.of2, Ent.of3, V, cc, bE, bN, bR, cV, cT, gt, lk, co, cC, cJ, cd, ca, bV, bV.subCs, cO, bu, bF, bZ, aV, bt, bh, aW, bM, bK, aH, a7, aX, cr, dd, cY, aq, aw, bT, cI, cb, cP, cU, aP, am, bQ, bJ, zC, argS, bO, ce, da, cR, ai, aE, aO, aA, cG, leC, cn, b0, bW, dc, bX, aR, aF, cZ, ah, cL, bf, bf.viewCs, bA, bA.flatCs, aK, aK.LensOks, Value.oneCell', ↓reduceIte, ite_true, ite_false, if_true, if_false, Nat.reduceAdd, Nat.reduceSub, Nat.reduceMul, Nat.reduceEqDiff, Nat.reduceLT, Nat.reduceLeDiff, reduceCtorEq, Int.reduceToNat, forall_const, implies_true, a6, Ent.mk3, bw, bC, bB, bk, bl, bo, bH, bL, bg, be, bz, cH, bn, cQ, rn, bS, bS.renCs, aI, aN, aY, aY.viewOks, aJ, bm, bm.flatBs, aG, an, av, ar, az, bq, bq.keysBs, aT, ap, bj, cp, bD, cg, af, af.passKs, aD, aL, ae, ae.lendKs, cM, cq, cz, bG, setInn, ag, cN, db, ay, br, bP, cj, aC, aU, Glob.gl, ax, cK, aZ, cm, bv, aj, cD, cS, cB, cW, cu, au, au.ptrOnlys, ak, aM, bY, aB, bI, a8, bU, aQ, bp, cF, Nat.reduceBEq, undef]
  refine S_loopU (α := Nat × Nat × List ByteArray) (fun v => [(6, .s (.int .i64 (v.1 : Int))), (7, .s (.int .i64 (v.2.1 : Int)))]) (fun v => [(5, .row 1 9 (v.2.2.map cells))]) (fun v => CutAt c s.data.toList v.1 v.2.1 v.2.2) (fun v => s.size - v.2.1) (0, 0, []) ⟨Nat.le_refl _, Nat.zero_le _, Nat.le_refl _, rfl, fun k a (b : k < 0) => by omega⟩ ?_ (fun v hv => S_run [] 800 ?_)
  · simp (maxSteps := 4000000) -implicitDefEqProofs only [Ent.of0, Ent.of1, Ent.of2, Ent.of3, V, cc, bE, bN, bR, cV, cT, gt, lk, co, cC, cJ, cd, ca, bV, bV.subCs, cO, bu, bF, bZ, aV, bt, bh, aW, bM, bK, aH, a7, aX, cr, dd, cY, aq, aw, bT, cI, cb, cP, cU, aP, am, bQ, bJ, zC, argS, bO, ce, da, cR, ai, aE, aO, aA, cG, leC, cn, b0, bW, dc, bX, aR, aF, cZ, ah, cL, bf, bf.viewCs, bA, bA.flatCs, aK, aK.LensOks, Value.oneCell', ↓reduceIte, ite_true, ite_false, if_true, if_false, Nat.reduceAdd, Nat.reduceSub, Nat.reduceMul, Nat.reduceEqDiff, Nat.reduceLT, Nat.reduceLeDiff, reduceCtorEq, Int.reduceToNat, forall_const, implies_true, a6, Ent.mk3, bw, bC, bB, bk, bl, bo, bH, bL, bg, be, bz, cH, bn, cQ, rn, bS, bS.renCs, aI, aN, aY, aY.viewOks, aJ, bm, bm.flatBs, aG, an, av, ar, az, bq, bq.keysBs, aT, ap, bj, cp, bD, cg, af, af.passKs, aD, aL, ae, ae.lendKs, cM, cq, cz, bG, setInn, ag, cN, db, ay, br, bP, cj, aC, aU, Glob.gl, ax, cK, aZ, cm, bv, aj, cD, cS, cB, cW, cu, au, au.ptrOnlys, ak, aM, bY, aB, bI, a8, bU, aQ, bp, cF, Nat.reduceBEq, undef]; simp
  · obtain ⟨f, i, o⟩ := v
    have hfi := hv.fi
    have hil := hv.il
    have hol := hv.ol
    rw [data_len] at hil
    simp only at hfi hil hol hv
    have hone : ((1 : Nat) : Int) = 1 := rfl
    by_cases h : i < s.size
    · have hi2 : (i : Int) < (s.size : Int) := by omega
      have hex := extract_mk s f i (by omega)
      by_cases hc : s.data.toList.getD i 0 = c
      · have hc2 : ((s.data.toList.getD i 0).toNat : Int) = (c.toNat : Int) := by rw [hc]
        have hh := hv.hit (by rw [data_len]; exact h) hc
        have hap : o.map cells ++ [[C.s (.string (s.extract f i))]] = (o ++ [mkB ((s.data.toList.drop f).take (i - f))]).map cells := by rw [List.map_append, hex]; rfl
        delta c25l1
        simp (maxSteps := 4000000) -implicitDefEqProofs only [rv25, hi2, hc2, hap, InR, Ent.of0, Ent.of1, Ent.of2, Ent.of3, V, cc, bE, bN, bR, cV, cT, gt, lk, co, cC, cJ, cd, ca, bV, bV.subCs, cO, bu, bF, bZ, aV, bt, bh, aW, bM, bK, aH, a7, aX, cr, dd, cY, aq, aw, bT, cI, cb, cP, cU, aP, am, bQ, bJ, zC, argS, bO, ce, da, cR, ai, aE, aO, aA, cG, leC, cn, b0, bW, dc, bX, aR, aF, cZ, ah, cL, bf, bf.viewCs, bA, bA.flatCs, aK, aK.LensOks, Value.oneCell', ↓reduceIte, ite_true, ite_false, if_true, if_false, Nat.reduceAdd, Nat.reduceSub, Nat.reduceMul, Nat.reduceEqDiff, Nat.reduceLT, Nat.reduceLeDiff, reduceCtorEq, Int.reduceToNat, forall_const, implies_true, a6, Ent.mk3, bw, bC, bB, bk, bl, bo, bH, bL, bg, be, bz, cH, bn, cQ, rn, bS, bS.renCs, aI, aN, aY, aY.viewOks, aJ, bm, bm.flatBs, aG, an, av, ar, az, bq, bq.keysBs, aT, ap, bj, cp, bD, cg, af, af.passKs, aD, aL, ae, ae.lendKs, cM, cq, cz, bG, setInn, ag, cN, db, ay, br, bP, cj, aC, aU, Glob.gl, ax, cK, aZ, cm, bv, aj, cD, cS, cB, cW, cu, au, au.ptrOnlys, ak, aM, bY, aB, bI, a8, bU, aQ, bp, cF, Nat.reduceBEq, undef]
        refine ⟨by omega, by omega, by omega, by omega, by omega, (i + 1, i + 1, _), hh, ?_, ⟨rfl, rfl⟩, rfl⟩
        show s.size - (i + 1) < s.size - i
        omega
      · have hc2 : ¬ ((s.data.toList.getD i 0).toNat : Int) = (c.toNat : Int) := fun h => hc (UInt8.toNat_inj.1 (by omega))
        have hh := hv.skip (by rw [data_len]; exact h) hc
        delta c25l1
        simp (maxSteps := 4000000) -implicitDefEqProofs only [rv25, hi2, hc2, InR, Ent.of0, Ent.of1, Ent.of2, Ent.of3, V, cc, bE, bN, bR, cV, cT, gt, lk, co, cC, cJ, cd, ca, bV, bV.subCs, cO, bu, bF, bZ, aV, bt, bh, aW, bM, bK, aH, a7, aX, cr, dd, cY, aq, aw, bT, cI, cb, cP, cU, aP, am, bQ, bJ, zC, argS, bO, ce, da, cR, ai, aE, aO, aA, cG, leC, cn, b0, bW, dc, bX, aR, aF, cZ, ah, cL, bf, bf.viewCs, bA, bA.flatCs, aK, aK.LensOks, Value.oneCell', ↓reduceIte, ite_true, ite_false, if_true, if_false, Nat.reduceAdd, Nat.reduceSub, Nat.reduceMul, Nat.reduceEqDiff, Nat.reduceLT, Nat.reduceLeDiff, reduceCtorEq, Int.reduceToNat, forall_const, implies_true, a6, Ent.mk3, bw, bC, bB, bk, bl, bo, bH, bL, bg, be, bz, cH, bn, cQ, rn, bS, bS.renCs, aI, aN, aY, aY.viewOks, aJ, bm, bm.flatBs, aG, an, av, ar, az, bq, bq.keysBs, aT, ap, bj, cp, bD, cg, af, af.passKs, aD, aL, ae, ae.lendKs, cM, cq, cz, bG, setInn, ag, cN, db, ay, br, bP, cj, aC, aU, Glob.gl, ax, cK, aZ, cm, bv, aj, cD, cS, cB, cW, cu, au, au.ptrOnlys, ak, aM, bY, aB, bI, a8, bU, aQ, bp, cF, Nat.reduceBEq, undef]
        exact ⟨by omega, by omega, (f, i + 1, o), hh, (show s.size - (i + 1) < s.size - i by omega), ⟨rfl, rfl⟩, rfl⟩
    · have hi2 : ¬ (i : Int) < (s.size : Int) := by omega
      have hie : i = s.data.toList.length := by rw [data_len]; omega
      subst hie
      have hh := hv.fin
      have hex := extract_mk s f s.size (Nat.le_refl _)
      rw [List.take_of_length_le (by rw [List.length_drop, data_len]; omega)] at hex
      have hap : o.map cells ++ [[C.s (.string (s.extract f s.size))]] = (cutB c s).map cells := by rw [cutB, hh, List.map_append, hex]; rfl
      delta c25l1
      simp (maxSteps := 4000000) -implicitDefEqProofs only [rv25, hi2, hap, InR, Ent.of0, Ent.of1, Ent.of2, Ent.of3, V, cc, bE, bN, bR, cV, cT, gt, lk, co, cC, cJ, cd, ca, bV, bV.subCs, cO, bu, bF, bZ, aV, bt, bh, aW, bM, bK, aH, a7, aX, cr, dd, cY, aq, aw, bT, cI, cb, cP, cU, aP, am, bQ, bJ, zC, argS, bO, ce, da, cR, ai, aE, aO, aA, cG, leC, cn, b0, bW, dc, bX, aR, aF, cZ, ah, cL, bf, bf.viewCs, bA, bA.flatCs, aK, aK.LensOks, Value.oneCell', ↓reduceIte, ite_true, ite_false, if_true, if_false, Nat.reduceAdd, Nat.reduceSub, Nat.reduceMul, Nat.reduceEqDiff, Nat.reduceLT, Nat.reduceLeDiff, reduceCtorEq, Int.reduceToNat, forall_const, implies_true, a6, Ent.mk3, bw, bC, bB, bk, bl, bo, bH, bL, bg, be, bz, cH, bn, cQ, rn, bS, bS.renCs, aI, aN, aY, aY.viewOks, aJ, bm, bm.flatBs, aG, an, av, ar, az, bq, bq.keysBs, aT, ap, bj, cp, bD, cg, af, af.passKs, aD, aL, ae, ae.lendKs, cM, cq, cz, bG, setInn, ag, cN, db, ay, br, bP, cj, aC, aU, Glob.gl, ax, cK, aZ, cm, bv, aj, cD, cS, cB, cW, cu, au, au.ptrOnlys, ak, aM, bY, aB, bI, a8, bU, aQ, bp, cF, Nat.reduceBEq, undef]
      rw [data_len] at hfi
      omega
def ent25 : Ent Tryz.prog := .mk3 25 (fun args chs => match args, chs with
    | [.s (.string s), .s (.int .u8 c)], [] => some (0 ≤ c ∧ c < 256 ∧ s.size ≤ 1000000, enc (cutB (UInt8.ofNat c.toNat) s), [], [])
    | _, _ => none) (by
  intro args chs p r chs' nk hs hp
  split at hs
  · simp only [Option.some.injEq, Prod.mk.injEq] at hs
    obtain ⟨rfl, rfl, rfl, rfl⟩ := hs
    obtain ⟨h1, h2, h3⟩ := hp
    rename_i s c
    have := Cut_c s (UInt8.ofNat c.toNat) h3
    have e : ((UInt8.ofNat c.toNat).toNat : Int) = c := by simp [UInt8.toNat_ofNat']; omega
    rw [e] at this
    exact ⟨this, .plain trivial⟩
  · cases hs)
end Go.Proofs.YtfgpbmjmoobcnaaGreatDoor
end
section
open Go Go.Am
open Go.Am.Dat (cells)
namespace Go.Proofs.YtfgpbmjmoobcnaaGreatDoor
set_option maxHeartbeats 4000000
set_option maxRecDepth 100000
set_option linter.unusedSimpArgs false
set_option linter.unusedVariables false
theorem idx_bd (l : List UInt8) (c : UInt8) : (Lib.indexByte l c = -1 ∧ ∀ b ∈ l, b ≠ c) ∨ ∃ j : Nat, Lib.indexByte l c = (j : Int) ∧ j < l.length ∧ l.getD j 0 = c ∧ ∀ k, k < j → l.getD k 0 ≠ c := by
  induction l with
  | nil => exact .inl ⟨rfl, fun b h => by cases h⟩
  | cons b l ih =>
    by_cases hb : b = c
    · refine .inr ⟨0, by simp [Lib.indexByte, hb], by simp, by simpa using hb, fun k hk => by omega⟩
    · have e : (b == c) = false := by simpa using hb
      rcases ih with ⟨h1, h2⟩ | ⟨j, h1, h2, h3, h4⟩
      · exact .inl ⟨by simp [Lib.indexByte, e, h1], fun x hx => by rcases List.mem_cons.1 hx with rfl | hx; exact hb; exact h2 x hx⟩
      · have hj : ¬ (j : Int) = -1 := by omega
        refine .inr ⟨j + 1, by simp [Lib.indexByte, e, h1, hj], by simpa using h2, by simpa using h3, fun k hk => ?_⟩
        cases k with
        | zero => simpa using hb
        | succ k => simpa using h4 k (by omega)
def comma : ByteArray := ⟨#[44]⟩
def space : ByteArray := ⟨#[32]⟩
def ent80 : Ent Tryz.prog := .of2 80 (fun _ p => p = comma) (fun (s p : ByteArray) => enc (Lib.indexByte s.data.toList 44)) (fun _ _ => trivial) (fun s p h => by subst h; exact IndexL_c s 44)
def ent79 : Ent Tryz.prog := .of2 79 (fun _ p => p = space) (fun (s p : ByteArray) => enc (Lib.indexByte s.data.toList 32)) (fun _ _ => trivial) (fun s p h => by subst h; exact Index_c s 32)
def cut2 (l : List UInt8) : List UInt8 × List UInt8 := if Lib.indexByte l 44 = -1 then (l, []) else (l.take (Lib.indexByte l 44).toNat, l.drop ((Lib.indexByte l 44).toNat + 1))
def cut2b (l : List UInt8) : Bool := !decide (Lib.indexByte l 44 = -1)
theorem LCut_c (s : ByteArray) (hs : s.size ≤ 1000000) : FC Tryz.prog 55 [enc s, enc comma] [] (.tup [enc (mkB (cut2 s.data.toList).1), enc (mkB (cut2 s.data.toList).2), enc (cut2b s.data.toList)]) [] := by
  refine fc_intro' is55 (by simp) (fun cx hl => S_run [ent80] 800 ?_)
  have hc1 : comma.size = 1 := rfl
  have hone : ((1 : Nat) : Int) = 1 := rfl
  rcases idx_bd s.data.toList 44 with ⟨h1, h2⟩ | ⟨j, h1, h2, h3, h4⟩
  · delta c55
    simp (maxSteps := 4000000) -implicitDefEqProofs only [rv55, ent80, h1, Ent.of0, Ent.of1, Ent.of2, Ent.of3, V, cc, bE, bN, bR, cV, cT, gt, lk, co, cC, cJ, cd, ca, bV, bV.subCs, cO, bu, bF, bZ, aV, bt, bh, aW, bM, bK, aH, a7, aX, cr, dd, cY, aq, aw, bT, cI, cb, cP, cU, aP, am, bQ, bJ, zC, argS, bO, ce, da, cR, ai, aE, aO, aA, cG, leC, cn, b0, bW, dc, bX, aR, aF, cZ, ah, cL, bf, bf.viewCs, bA, bA.flatCs, aK, aK.LensOks, Value.oneCell', ↓reduceIte, ite_true, ite_false, if_true, if_false, Nat.reduceAdd, Nat.reduceSub, Nat.reduceMul, Nat.reduceEqDiff, Nat.reduceLT, Nat.reduceLeDiff, reduceCtorEq, Int.reduceToNat, forall_const, implies_true, a6, Ent.mk3, bw, bC, bB, bk, bl, bo, bH, bL, bg, be, bz, cH, bn, cQ, rn, bS, bS.renCs, aI, aN, aY, aY.viewOks, aJ, bm, bm.flatBs, aG, an, av, ar, az, bq, bq.keysBs, aT, ap, bj, cp, bD, cg, af, af.passKs, aD, aL, ae, ae.lendKs, cM, cq, cz, bG, setInn, ag, cN, db, ay, br, bP, cj, aC, aU, Glob.gl, ax, cK, aZ, cm, bv, aj, cD, cS, cB, cW, cu, au, au.ptrOnlys, ak, aM, bY, aB, bI, a8, bU, aQ, bp, cF, Nat.reduceBEq, undef]
    simp [cut2, cut2b, h1]
    exact ⟨rfl, rfl⟩
  · rw [data_len] at h2
    have hj : ¬ (j : Int) = -1 := by omega
    have hj0 : (j : Int) ≥ 0 := by omega
    have hj1 : (0 : Int) ≤ (j : Int) := by omega
    have e1 := extract_mk s 0 j (by omega)
    have e2 := extract_mk s (j + 1) s.size (Nat.le_refl _)
    rw [List.take_of_length_le (by rw [List.length_drop, data_len]; omega)] at e2
    have hj2 : ((j : Int) + 1).toNat = j + 1 := by omega
    delta c55
    simp (maxSteps := 4000000) -implicitDefEqProofs only [rv55, ent80, h1, hj0, hj1, hc1, hone, hj2, Int.toNat_natCast, InR, Ent.of0, Ent.of1, Ent.of2, Ent.of3, V, cc, bE, bN, bR, cV, cT, gt, lk, co, cC, cJ, cd, ca, bV, bV.subCs, cO, bu, bF, bZ, aV, bt, bh, aW, bM, bK, aH, a7, aX, cr, dd, cY, aq, aw, bT, cI, cb, cP, cU, aP, am, bQ, bJ, zC, argS, bO, ce, da, cR, ai, aE, aO, aA, cG, leC, cn, b0, bW, dc, bX, aR, aF, cZ, ah, cL, bf, bf.viewCs, bA, bA.flatCs, aK, aK.LensOks, Value.oneCell', ↓reduceIte, ite_true, ite_false, if_true, if_false, Nat.reduceAdd, Nat.reduceSub, Nat.reduceMul, Nat.reduceEqDiff, Nat.reduceLT, Nat.reduceLeDiff, reduceCtorEq, Int.reduceToNat, forall_const, implies_true, a6, Ent.mk3, bw, bC, bB, bk, bl, bo, bH, bL, bg, be, bz, cH, bn, cQ, rn, bS, bS.renCs, aI, aN, aY, aY.viewOks, aJ, bm, bm.flatBs, aG, an, av, ar, az, bq, bq.keysBs, aT, ap, bj, cp, bD, cg, af, af.passKs, aD, aL, ae, ae.lendKs, cM, cq, cz, bG, setInn, ag, cN, db, ay, br, bP, cj, aC, aU, Glob.gl, ax, cK, aZ, cm, bv, aj, cD, cS, cB, cW, cu, au, au.ptrOnlys, ak, aM, bY, aB, bI, a8, bU, aQ, bp, cF, Nat.reduceBEq, undef]
    refine ⟨by omega, by omega, by omega, ?_⟩
    simp [cut2, cut2b, h1, hj, e1, e2]
theorem SCut_c (s : ByteArray) (hs : s.size ≤ 1000000) : FC Tryz.prog 22 [enc s, enc comma] [] (.tup [enc (mkB (cut2 s.data.toList).1), enc (mkB (cut2 s.data.toList).2), enc (cut2b s.data.toList)]) [] := by
  refine fc_intro' is22 (by simp) (fun cx hl => S_run [.of2 55 (fun s p => p = comma ∧ s.size ≤ 1000000) (fun (s p : ByteArray) => .tup [enc (mkB (cut2 s.data.toList).1), enc (mkB (cut2 s.data.toList).2), enc (cut2b s.data.toList)]) (fun _ _ => ⟨trivial, trivial, trivial, trivial⟩) (fun s p h => by obtain ⟨rfl, h2⟩ := h; exact LCut_c s h2)] 800 ?_)
  delta c22
  simp (maxSteps := 4000000) -implicitDefEqProofs only [rv22, hs, Ent.of0, Ent.of1, Ent.of2, Ent.of3, V, cc, bE, bN, bR, cV, cT, gt, lk, co, cC, cJ, cd, ca, bV, bV.subCs, cO, bu, bF, bZ, aV, bt, bh, aW, bM, bK, aH, a7, aX, cr, dd, cY, aq, aw, bT, cI, cb, cP, cU, aP, am, bQ, bJ, zC, argS, bO, ce, da, cR, ai, aE, aO, aA, cG, leC, cn, b0, bW, dc, bX, aR, aF, cZ, ah, cL, bf, bf.viewCs, bA, bA.flatCs, aK, aK.LensOks, Value.oneCell', ↓reduceIte, ite_true, ite_false, if_true, if_false, Nat.reduceAdd, Nat.reduceSub, Nat.reduceMul, Nat.reduceEqDiff, Nat.reduceLT, Nat.reduceLeDiff, reduceCtorEq, Int.reduceToNat, forall_const, implies_true, a6, Ent.mk3, bw, bC, bB, bk, bl, bo, bH, bL, bg, be, bz, cH, bn, cQ, rn, bS, bS.renCs, aI, aN, aY, aY.viewOks, aJ, bm, bm.flatBs, aG, an, av, ar, az, bq, bq.keysBs, aT, ap, bj, cp, bD, cg, af, af.passKs, aD, aL, ae, ae.lendKs, cM, cq, cz, bG, setInn, ag, cN, db, ay, br, bP, cj, aC, aU, Glob.gl, ax, cK, aZ, cm, bv, aj, cD, cS, cB, cW, cu, au, au.ptrOnlys, ak, aM, bY, aB, bI, a8, bU, aQ, bp, cF, Nat.reduceBEq, undef]
def ent22 : Ent Tryz.prog := .of2 22 (fun s p => p = comma ∧ s.size ≤ 1000000) (fun (s p : ByteArray) => .tup [enc (mkB (cut2 s.data.toList).1), enc (mkB (cut2 s.data.toList).2), enc (cut2b s.data.toList)]) (fun _ _ => ⟨trivial, trivial, trivial, trivial⟩) (fun s p h => by obtain ⟨rfl, h2⟩ := h; exact SCut_c s h2)
def restL (l : List UInt8) : Nat → List UInt8
  | 0 => l
  | i + 1 => (restL l i).drop ((Lib.indexByte (restL l i) 32).toNat + 1)
def pieceV (l : List UInt8) (i : Nat) : List C := [.s (.string (mkB ((cutL 32 l).getD i [])))]
theorem rest_len (l : List UInt8) : ∀ i, (restL l i).length ≤ l.length
  | 0 => Nat.le_refl _
  | i + 1 => by have := rest_len l i; rw [restL, List.length_drop]; omega
theorem rest_cut (l : List UInt8) : ∀ i, i < (cutL 32 l).length → cutL 32 (restL l i) = (cutL 32 l).drop i ∧
    ((i + 1 < (cutL 32 l).length ∧ ∃ j : Nat, Lib.indexByte (restL l i) 32 = (j : Int) ∧ j < (restL l i).length ∧ (cutL 32 l).getD i [] = (restL l i).take j ∧ restL l (i + 1) = (restL l i).drop (j + 1)) ∨
      (i + 1 = (cutL 32 l).length ∧ Lib.indexByte (restL l i) 32 = -1 ∧ (cutL 32 l).getD i [] = restL l i)) := by
  intro i
  induction i with
  | zero =>
    intro h0
    refine ⟨rfl, ?_⟩
    rcases idx_bd l 32 with ⟨h1, h2⟩ | ⟨j, h1, h2, h3, h4⟩
    · have e := cut_none h2
      exact .inr ⟨by rw [e]; rfl, h1, by rw [e]; rfl⟩
    · have hm := mem_seg (l := l) (c := 32) (f := 0) (n := j) (fun k _ b => h4 k (by omega))
      have e0 := drop_split (l := l) (c := 32) (f := 0) (i := j) (Nat.zero_le _) h2 h3
      simp only [List.drop_zero, Nat.sub_zero] at hm e0
      have e : cutL 32 l = l.take j :: cutL 32 (l.drop (j + 1)) := (congrArg _ e0).trans (cut_hit hm)
      have hp : 0 < (cutL 32 (l.drop (j + 1))).length := List.length_pos_iff.2 (cut_ne _ _)
      refine .inl ⟨by rw [e, List.length_cons]; omega, j, h1, h2, by rw [e]; rfl, ?_⟩
      show (restL l 0).drop ((Lib.indexByte (restL l 0) 32).toNat + 1) = l.drop (j + 1)
      rw [show restL l 0 = l from rfl, h1, Int.toNat_natCast]
  | succ i ih =>
    intro h0
    obtain ⟨g1, g2⟩ := ih (by omega)
    rcases g2 with ⟨_, j, q1, q2, q3, q4⟩ | ⟨q1, _, _⟩
    rotate_left
    · omega
    generalize hR : restL l i = R at *
    rcases idx_bd R 32 with ⟨k1, k2⟩ | ⟨j', k1, k2, k3, k4⟩
    · rw [k1] at q1; omega
    have hjj : j' = j := by rw [k1] at q1; omega
    subst hjj
    have hm := mem_seg (l := R) (c := 32) (f := 0) (n := j') (fun k _ b => k4 k (by omega))
    have e0 := drop_split (l := R) (c := 32) (f := 0) (i := j') (Nat.zero_le _) k2 k3
    simp only [List.drop_zero, Nat.sub_zero] at hm e0
    have e : cutL 32 R = R.take j' :: cutL 32 (R.drop (j' + 1)) := (congrArg _ e0).trans (cut_hit hm)
    have hR1 : cutL 32 (restL l (i + 1)) = (cutL 32 l).drop (i + 1) := by
      have : (cutL 32 l).drop (i + 1) = ((cutL 32 l).drop i).drop 1 := by rw [List.drop_drop]
      rw [this, ← g1, e, q4]; rfl
    refine ⟨hR1, ?_⟩
    have hg : (cutL 32 l).getD (i + 1) [] = (cutL 32 (restL l (i + 1))).getD 0 [] := by
      rw [hR1, List.getD_eq_getElem?_getD, List.getD_eq_getElem?_getD, List.getElem?_drop]
    have hlen : (cutL 32 (restL l (i + 1))).length = (cutL 32 l).length - (i + 1) := by rw [hR1, List.length_drop]
    rw [hg]
    clear hg g1 q1 q3 k1 k2 k3 k4 hm e0 e
    generalize hS : restL l (i + 1) = S at *
    rcases idx_bd S 32 with ⟨h1, h2⟩ | ⟨j, h1, h2, h3, h4⟩
    · have e := cut_none h2
      rw [e] at hlen ⊢
      exact .inr ⟨by simp at hlen; omega, h1, rfl⟩
    · have hm := mem_seg (l := S) (c := 32) (f := 0) (n := j) (fun k _ b => h4 k (by omega))
      have e0 := drop_split (l := S) (c := 32) (f := 0) (i := j) (Nat.zero_le _) h2 h3
      simp only [List.drop_zero, Nat.sub_zero] at hm e0
      have e : cutL 32 S = S.take j :: cutL 32 (S.drop (j + 1)) := (congrArg _ e0).trans (cut_hit hm)
      have hp : 0 < (cutL 32 (S.drop (j + 1))).length := List.length_pos_iff.2 (cut_ne _ _)
      rw [e] at hlen ⊢
      refine .inl ⟨by simp at hlen; omega, j, h1, h2, rfl, ?_⟩
      show (restL l (i + 1)).drop ((Lib.indexByte (restL l (i + 1)) 32).toNat + 1) = _
      rw [hS, h1, Int.toNat_natCast]
end Go.Proofs.YtfgpbmjmoobcnaaGreatDoor
end
section
open Go Go.Am
open Go.Am.Dat (cells)
namespace Go.Proofs.YtfgpbmjmoobcnaaGreatDoor
set_option maxHeartbeats 4000000
set_option maxRecDepth 100000
set_option linter.unusedSimpArgs false
set_option linter.unusedVariables false
theorem split_c (l : List UInt8) (hl : l.length ≤ 1000000) (N : Nat) (fin : Bool) (hN : 0 < N) (hM : N ≤ (cutL 32 l).length) (hf : fin = true → N = (cutL 32 l).length) :
    ItC Tryz.prog 77 [] [.ptr 201015 0, .ptr 200015 0, .ptr 202015 0] [(200015, .box [.s (.string (mkB l))]), (201015, .box [.s (.string space)]), (202015, .box [.s (.int .i64 0)])] 100000 (pieceV l) N fin := by
  intro yl R Rf hy
  have hsz : space.size = 1 := rfl
  refine fco_intro [] is77 (by simp) (by intro o ho; simp only [List.mem_cons] at ho; rcases ho with rfl | ho; · simp
                                         · split at ho <;> simp at ho; subst ho; simp) (fun o ho k cs hm => by
    simp only [List.mem_cons] at ho; rcases ho with rfl | ho
    · simp at hm
    · split at ho <;> simp at ho; subst ho; simp at hm) (fun cx _ _ _ => S_run [] 800 ?_)
  have h10 : ¬ ((1 : Nat) : Int) = 0 := by decide
  delta c77
  simp (maxSteps := 4000000) -implicitDefEqProofs only [rv77, List.append_nil, hsz, h10, Ent.of0, Ent.of1, Ent.of2, Ent.of3, V, cc, bE, bN, bR, cV, cT, gt, lk, co, cC, cJ, cd, ca, bV, bV.subCs, cO, bu, bF, bZ, aV, bt, bh, aW, bM, bK, aH, a7, aX, cr, dd, cY, aq, aw, bT, cI, cb, cP, cU, aP, am, bQ, bJ, zC, argS, bO, ce, da, cR, ai, aE, aO, aA, cG, leC, cn, b0, bW, dc, bX, aR, aF, cZ, ah, cL, bf, bf.viewCs, bA, bA.flatCs, aK, aK.LensOks, Value.oneCell', ↓reduceIte, ite_true, ite_false, if_true, if_false, Nat.reduceAdd, Nat.reduceSub, Nat.reduceMul, Nat.reduceEqDiff, Nat.reduceLT, Nat.reduceLeDiff, reduceCtorEq, Int.reduceToNat, forall_const, implies_true, a6, Ent.mk3, bw, bC, bB, bk, bl, bo, bH, bL, bg, be, bz, cH, bn, cQ, rn, bS, bS.renCs, aI, aN, aY, aY.viewOks, aJ, bm, bm.flatBs, aG, an, av, ar, az, bq, bq.keysBs, aT, ap, bj, cp, bD, cg, af, af.passKs, aD, aL, ae, ae.lendKs, cM, cq, cz, bG, setInn, ag, cN, db, ay, br, bP, cj, aC, aU, Glob.gl, ax, cK, aZ, cm, bv, aj, cD, cS, cB, cW, cu, au, au.ptrOnlys, ak, aM, bY, aB, bI, a8, bU, aQ, bp, cF, Nat.reduceBEq, undef]
  refine S_loopU (α := Nat) (fun i => []) (fun i => [(200015, .box [.s (.string (mkB (restL l i)))]), (201015, .box [.s (.string space)]), (202015, .box [.s (.int .i64 0)]), (100000, .res (R i))]) (fun i => i < N) (fun i => N - i) 0 hN ?_ (fun i hi => S_run [ent79] 800 ?_)
  · simp (maxSteps := 4000000) -implicitDefEqProofs only [restL, Ent.of0, Ent.of1, Ent.of2, Ent.of3, V, cc, bE, bN, bR, cV, cT, gt, lk, co, cC, cJ, cd, ca, bV, bV.subCs, cO, bu, bF, bZ, aV, bt, bh, aW, bM, bK, aH, a7, aX, cr, dd, cY, aq, aw, bT, cI, cb, cP, cU, aP, am, bQ, bJ, zC, argS, bO, ce, da, cR, ai, aE, aO, aA, cG, leC, cn, b0, bW, dc, bX, aR, aF, cZ, ah, cL, bf, bf.viewCs, bA, bA.flatCs, aK, aK.LensOks, Value.oneCell', ↓reduceIte, ite_true, ite_false, if_true, if_false, Nat.reduceAdd, Nat.reduceSub, Nat.reduceMul, Nat.reduceEqDiff, Nat.reduceLT, Nat.reduceLeDiff, reduceCtorEq, Int.reduceToNat, forall_const, implies_true, a6, Ent.mk3, bw, bC, bB, bk, bl, bo, bH, bL, bg, be, bz, cH, bn, cQ, rn, bS, bS.renCs, aI, aN, aY, aY.viewOks, aJ, bm, bm.flatBs, aG, an, av, ar, az, bq, bq.keysBs, aT, ap, bj, cp, bD, cg, af, af.passKs, aD, aL, ae, ae.lendKs, cM, cq, cz, bG, setInn, ag, cN, db, ay, br, bP, cj, aC, aU, Glob.gl, ax, cK, aZ, cm, bv, aj, cD, cS, cB, cW, cu, au, au.ptrOnlys, ak, aM, bY, aB, bI, a8, bU, aQ, bp, cF, Nat.reduceBEq, undef]
  · obtain ⟨g1, g2⟩ := rest_cut l i (by omega)
    have hrl := rest_len l i
    have hone : ((1 : Nat) : Int) = 1 := rfl
    rcases g2 with ⟨q0, j, q1, q2, q3, q4⟩ | ⟨q0, q1, q2⟩
    · have hj0 : ¬ (j : Int) < 0 := by omega
      have e1 := extract_mk (mkB (restL l i)) 0 j (by rw [mkB_size]; omega)
      have e2 := extract_mk (mkB (restL l i)) (j + 1) (mkB (restL l i)).size (Nat.le_refl _)
      rw [mkB_size, mkB_list] at e2
      rw [mkB_list] at e1
      rw [List.take_of_length_le (by rw [List.length_drop]; omega), ← q4] at e2
      rw [List.drop_zero, Nat.sub_zero, ← q3] at e1
      have hj2 : ((j : Int) + 1).toNat = j + 1 := by omega
      have hj3 : (j : Int) + 0 = (j : Int) := by omega
      delta c77l2
      simp (maxSteps := 4000000) -implicitDefEqProofs only [rv77, ent79, mkB_list, mkB_size, q1, hj0, hj3, e1, Int.toNat_natCast, InR, Ent.of0, Ent.of1, Ent.of2, Ent.of3, V, cc, bE, bN, bR, cV, cT, gt, lk, co, cC, cJ, cd, ca, bV, bV.subCs, cO, bu, bF, bZ, aV, bt, bh, aW, bM, bK, aH, a7, aX, cr, dd, cY, aq, aw, bT, cI, cb, cP, cU, aP, am, bQ, bJ, zC, argS, bO, ce, da, cR, ai, aE, aO, aA, cG, leC, cn, b0, bW, dc, bX, aR, aF, cZ, ah, cL, bf, bf.viewCs, bA, bA.flatCs, aK, aK.LensOks, Value.oneCell', ↓reduceIte, ite_true, ite_false, if_true, if_false, Nat.reduceAdd, Nat.reduceSub, Nat.reduceMul, Nat.reduceEqDiff, Nat.reduceLT, Nat.reduceLeDiff, reduceCtorEq, Int.reduceToNat, forall_const, implies_true, a6, Ent.mk3, bw, bC, bB, bk, bl, bo, bH, bL, bg, be, bz, cH, bn, cQ, rn, bS, bS.renCs, aI, aN, aY, aY.viewOks, aJ, bm, bm.flatBs, aG, an, av, ar, az, bq, bq.keysBs, aT, ap, bj, cp, bD, cg, af, af.passKs, aD, aL, ae, ae.lendKs, cM, cq, cz, bG, setInn, ag, cN, db, ay, br, bP, cj, aC, aU, Glob.gl, ax, cK, aZ, cm, bv, aj, cD, cS, cB, cW, cu, au, au.ptrOnlys, ak, aM, bY, aB, bI, a8, bU, aQ, bp, cF, Nat.reduceBEq, undef]
      refine ⟨by omega, by omega, ?_⟩
      refine D_outs rfl (OpM.yield (l := yl) (kr := 100000) (xs := pieceV l i) (R := R i) rfl rfl rfl (hy i hi)) (fun ef hef => ?_)
      have hno : ef = bU [(100000, .res (R i)), (200015, .box [.s (.string (mkB (restL l i)))]), (201015, .box [.s (.string space)]), (202015, .box [.s (.int .i64 0)])] 100000 false Rf ∨
          (i + 1 < N ∧ ef = bU [(100000, .res (R i)), (200015, .box [.s (.string (mkB (restL l i)))]), (201015, .box [.s (.string space)]), (202015, .box [.s (.int .i64 0)])] 100000 true (R (i + 1))) := by
        simp only [a8] at hef
        split at hef
        · rename_i hh
          split at hh
          · rename_i h2
            cases hh
            simp only [List.mem_cons, List.not_mem_nil, or_false] at hef
            rcases hef with h | h
            · refine .inr ⟨?_, h⟩
              rcases h2 with h2 | h2
              · exact h2
              · rw [hf h2]; exact q0
            · exact .inl h
          · cases hh
        · simp only [List.mem_cons, List.not_mem_nil, or_false] at hef
          exact .inl hef
      rcases hno with rfl | ⟨h2, rfl⟩
      · refine D_run [] 800 ?_
        simp (maxSteps := 4000000) -implicitDefEqProofs only [rv77, Ent.of0, Ent.of1, Ent.of2, Ent.of3, V, cc, bE, bN, bR, cV, cT, gt, lk, co, cC, cJ, cd, ca, bV, bV.subCs, cO, bu, bF, bZ, aV, bt, bh, aW, bM, bK, aH, a7, aX, cr, dd, cY, aq, aw, bT, cI, cb, cP, cU, aP, am, bQ, bJ, zC, argS, bO, ce, da, cR, ai, aE, aO, aA, cG, leC, cn, b0, bW, dc, bX, aR, aF, cZ, ah, cL, bf, bf.viewCs, bA, bA.flatCs, aK, aK.LensOks, Value.oneCell', ↓reduceIte, ite_true, ite_false, if_true, if_false, Nat.reduceAdd, Nat.reduceSub, Nat.reduceMul, Nat.reduceEqDiff, Nat.reduceLT, Nat.reduceLeDiff, reduceCtorEq, Int.reduceToNat, forall_const, implies_true, a6, Ent.mk3, bw, bC, bB, bk, bl, bo, bH, bL, bg, be, bz, cH, bn, cQ, rn, bS, bS.renCs, aI, aN, aY, aY.viewOks, aJ, bm, bm.flatBs, aG, an, av, ar, az, bq, bq.keysBs, aT, ap, bj, cp, bD, cg, af, af.passKs, aD, aL, ae, ae.lendKs, cM, cq, cz, bG, setInn, ag, cN, db, ay, br, bP, cj, aC, aU, Glob.gl, ax, cK, aZ, cm, bv, aj, cD, cS, cB, cW, cu, au, au.ptrOnlys, ak, aM, bY, aB, bI, a8, bU, aQ, bp, cF, Nat.reduceBEq, undef]
        exact ⟨_, List.mem_cons_self, trivial, rfl, trivial⟩
      · refine D_run [] 800 ?_
        simp (maxSteps := 4000000) -implicitDefEqProofs only [rv77, hsz, hone, hj2, e2, mkB_size, InR, Ent.of0, Ent.of1, Ent.of2, Ent.of3, V, cc, bE, bN, bR, cV, cT, gt, lk, co, cC, cJ, cd, ca, bV, bV.subCs, cO, bu, bF, bZ, aV, bt, bh, aW, bM, bK, aH, a7, aX, cr, dd, cY, aq, aw, bT, cI, cb, cP, cU, aP, am, bQ, bJ, zC, argS, bO, ce, da, cR, ai, aE, aO, aA, cG, leC, cn, b0, bW, dc, bX, aR, aF, cZ, ah, cL, bf, bf.viewCs, bA, bA.flatCs, aK, aK.LensOks, Value.oneCell', ↓reduceIte, ite_true, ite_false, if_true, if_false, Nat.reduceAdd, Nat.reduceSub, Nat.reduceMul, Nat.reduceEqDiff, Nat.reduceLT, Nat.reduceLeDiff, reduceCtorEq, Int.reduceToNat, forall_const, implies_true, a6, Ent.mk3, bw, bC, bB, bk, bl, bo, bH, bL, bg, be, bz, cH, bn, cQ, rn, bS, bS.renCs, aI, aN, aY, aY.viewOks, aJ, bm, bm.flatBs, aG, an, av, ar, az, bq, bq.keysBs, aT, ap, bj, cp, bD, cg, af, af.passKs, aD, aL, ae, ae.lendKs, cM, cq, cz, bG, setInn, ag, cN, db, ay, br, bP, cj, aC, aU, Glob.gl, ax, cK, aZ, cm, bv, aj, cD, cS, cB, cW, cu, au, au.ptrOnlys, ak, aM, bY, aB, bI, a8, bU, aQ, bp, cF, Nat.reduceBEq, undef]
        exact ⟨by omega, by omega, i + 1, h2, by omega, rfl, rfl⟩
    · have hNi : N = i + 1 := by omega
      delta c77l2
      simp (maxSteps := 4000000) -implicitDefEqProofs only [rv77, ent79, mkB_list, mkB_size, q1, InR, Ent.of0, Ent.of1, Ent.of2, Ent.of3, V, cc, bE, bN, bR, cV, cT, gt, lk, co, cC, cJ, cd, ca, bV, bV.subCs, cO, bu, bF, bZ, aV, bt, bh, aW, bM, bK, aH, a7, aX, cr, dd, cY, aq, aw, bT, cI, cb, cP, cU, aP, am, bQ, bJ, zC, argS, bO, ce, da, cR, ai, aE, aO, aA, cG, leC, cn, b0, bW, dc, bX, aR, aF, cZ, ah, cL, bf, bf.viewCs, bA, bA.flatCs, aK, aK.LensOks, Value.oneCell', ↓reduceIte, ite_true, ite_false, if_true, if_false, Nat.reduceAdd, Nat.reduceSub, Nat.reduceMul, Nat.reduceEqDiff, Nat.reduceLT, Nat.reduceLeDiff, reduceCtorEq, Int.reduceToNat, forall_const, implies_true, a6, Ent.mk3, bw, bC, bB, bk, bl, bo, bH, bL, bg, be, bz, cH, bn, cQ, rn, bS, bS.renCs, aI, aN, aY, aY.viewOks, aJ, bm, bm.flatBs, aG, an, av, ar, az, bq, bq.keysBs, aT, ap, bj, cp, bD, cg, af, af.passKs, aD, aL, ae, ae.lendKs, cM, cq, cz, bG, setInn, ag, cN, db, ay, br, bP, cj, aC, aU, Glob.gl, ax, cK, aZ, cm, bv, aj, cD, cS, cB, cW, cu, au, au.ptrOnlys, ak, aM, bY, aB, bI, a8, bU, aQ, bp, cF, Nat.reduceBEq, undef]
      have hxs : pieceV l i = [C.s (.string (mkB (restL l i)))] := by simp only [pieceV, q2]
      refine D_outs rfl (OpM.yield (l := yl) (kr := 100000) (xs := pieceV l i) (R := R i) rfl (by rw [hxs]; rfl) rfl (hy i hi)) (fun ef hef => ?_)
      have hno : ef = bU [(100000, .res (R i)), (200015, .box [.s (.string (mkB (restL l i)))]), (201015, .box [.s (.string space)]), (202015, .box [.s (.int .i64 0)])] 100000 false Rf ∨
          (fin = true ∧ ef = bU [(100000, .res (R i)), (200015, .box [.s (.string (mkB (restL l i)))]), (201015, .box [.s (.string space)]), (202015, .box [.s (.int .i64 0)])] 100000 true (R (i + 1))) := by
        simp only [a8] at hef
        split at hef
        · rename_i hh
          split at hh
          · rename_i h2
            cases hh
            simp only [List.mem_cons, List.not_mem_nil, or_false] at hef
            rcases hef with h | h
            · refine .inr ⟨?_, h⟩
              rcases h2 with h2 | h2
              · omega
              · exact h2
            · exact .inl h
          · cases hh
        · simp only [List.mem_cons, List.not_mem_nil, or_false] at hef
          exact .inl hef
      rcases hno with rfl | ⟨h2, rfl⟩
      · refine D_run [] 800 ?_
        simp (maxSteps := 4000000) -implicitDefEqProofs only [rv77, Ent.of0, Ent.of1, Ent.of2, Ent.of3, V, cc, bE, bN, bR, cV, cT, gt, lk, co, cC, cJ, cd, ca, bV, bV.subCs, cO, bu, bF, bZ, aV, bt, bh, aW, bM, bK, aH, a7, aX, cr, dd, cY, aq, aw, bT, cI, cb, cP, cU, aP, am, bQ, bJ, zC, argS, bO, ce, da, cR, ai, aE, aO, aA, cG, leC, cn, b0, bW, dc, bX, aR, aF, cZ, ah, cL, bf, bf.viewCs, bA, bA.flatCs, aK, aK.LensOks, Value.oneCell', ↓reduceIte, ite_true, ite_false, if_true, if_false, Nat.reduceAdd, Nat.reduceSub, Nat.reduceMul, Nat.reduceEqDiff, Nat.reduceLT, Nat.reduceLeDiff, reduceCtorEq, Int.reduceToNat, forall_const, implies_true, a6, Ent.mk3, bw, bC, bB, bk, bl, bo, bH, bL, bg, be, bz, cH, bn, cQ, rn, bS, bS.renCs, aI, aN, aY, aY.viewOks, aJ, bm, bm.flatBs, aG, an, av, ar, az, bq, bq.keysBs, aT, ap, bj, cp, bD, cg, af, af.passKs, aD, aL, ae, ae.lendKs, cM, cq, cz, bG, setInn, ag, cN, db, ay, br, bP, cj, aC, aU, Glob.gl, ax, cK, aZ, cm, bv, aj, cD, cS, cB, cW, cu, au, au.ptrOnlys, ak, aM, bY, aB, bI, a8, bU, aQ, bp, cF, Nat.reduceBEq, undef]
        exact ⟨_, List.mem_cons_self, trivial, rfl, trivial⟩
      · refine D_run [] 800 ?_
        simp (maxSteps := 4000000) -implicitDefEqProofs only [rv77, h2, Ent.of0, Ent.of1, Ent.of2, Ent.of3, V, cc, bE, bN, bR, cV, cT, gt, lk, co, cC, cJ, cd, ca, bV, bV.subCs, cO, bu, bF, bZ, aV, bt, bh, aW, bM, bK, aH, a7, aX, cr, dd, cY, aq, aw, bT, cI, cb, cP, cU, aP, am, bQ, bJ, zC, argS, bO, ce, da, cR, ai, aE, aO, aA, cG, leC, cn, b0, bW, dc, bX, aR, aF, cZ, ah, cL, bf, bf.viewCs, bA, bA.flatCs, aK, aK.LensOks, Value.oneCell', ↓reduceIte, ite_true, ite_false, if_true, if_false, Nat.reduceAdd, Nat.reduceSub, Nat.reduceMul, Nat.reduceEqDiff, Nat.reduceLT, Nat.reduceLeDiff, reduceCtorEq, Int.reduceToNat, forall_const, implies_true, a6, Ent.mk3, bw, bC, bB, bk, bl, bo, bH, bL, bg, be, bz, cH, bn, cQ, rn, bS, bS.renCs, aI, aN, aY, aY.viewOks, aJ, bm, bm.flatBs, aG, an, av, ar, az, bq, bq.keysBs, aT, ap, bj, cp, bD, cg, af, af.passKs, aD, aL, ae, ae.lendKs, cM, cq, cz, bG, setInn, ag, cN, db, ay, br, bP, cj, aC, aU, Glob.gl, ax, cK, aZ, cm, bv, aj, cD, cS, cB, cW, cu, au, au.ptrOnlys, ak, aM, bY, aB, bI, a8, bU, aQ, bp, cF, Nat.reduceBEq, undef]
        subst hNi
        exact ⟨_, List.mem_cons_of_mem _ List.mem_cons_self, trivial, rfl, trivial⟩
theorem splitSeq_c (s p : ByteArray) : FC Tryz.prog 54 [enc s, enc p, enc (0 : Int)] [] (.fn (.func 77) [] [.ptr 4 0, .ptr 3 0, .ptr 5 0]) [(3, .box [enc s]), (4, .box [enc p]), (5, .box [enc (0 : Int)])] := by
  refine fc_introC [] is54 (by simp) (by simp [cD]) (by simp [aR, aF, bZ]) (by simp [aR, aF, bZ]) (by simp [aj, lk]) (fun cx _ _ _ => S_run [] 800 ?_)
  delta c54
  simp (maxSteps := 4000000) -implicitDefEqProofs only [rv54, Ent.of0, Ent.of1, Ent.of2, Ent.of3, V, cc, bE, bN, bR, cV, cT, gt, lk, co, cC, cJ, cd, ca, bV, bV.subCs, cO, bu, bF, bZ, aV, bt, bh, aW, bM, bK, aH, a7, aX, cr, dd, cY, aq, aw, bT, cI, cb, cP, cU, aP, am, bQ, bJ, zC, argS, bO, ce, da, cR, ai, aE, aO, aA, cG, leC, cn, b0, bW, dc, bX, aR, aF, cZ, ah, cL, bf, bf.viewCs, bA, bA.flatCs, aK, aK.LensOks, Value.oneCell', ↓reduceIte, ite_true, ite_false, if_true, if_false, Nat.reduceAdd, Nat.reduceSub, Nat.reduceMul, Nat.reduceEqDiff, Nat.reduceLT, Nat.reduceLeDiff, reduceCtorEq, Int.reduceToNat, forall_const, implies_true, a6, Ent.mk3, bw, bC, bB, bk, bl, bo, bH, bL, bg, be, bz, cH, bn, cQ, rn, bS, bS.renCs, aI, aN, aY, aY.viewOks, aJ, bm, bm.flatBs, aG, an, av, ar, az, bq, bq.keysBs, aT, ap, bj, cp, bD, cg, af, af.passKs, aD, aL, ae, ae.lendKs, cM, cq, cz, bG, setInn, ag, cN, db, ay, br, bP, cj, aC, aU, Glob.gl, ax, cK, aZ, cm, bv, aj, cD, cS, cB, cW, cu, au, au.ptrOnlys, ak, aM, bY, aB, bI, a8, bU, aQ, bp, cF, Nat.reduceBEq, undef]
def ent54 : Ent Tryz.prog where
  id := 54
  sp := fun args chs => match args, chs with
    | [.s (.string s), .s (.string p), .s (.int .i64 n)], [] => some (n = 0, .fn (.func 77) [] [.ptr 4 0, .ptr 3 0, .ptr 5 0], [(3, .box [.s (.string s)]), (4, .box [.s (.string p)]), (5, .box [.s (.int .i64 n)])], [3, 4, 5])
    | _, _ => none
  ok := by
    intro args chs p r chs' nk hs hp
    split at hs
    · simp only [Option.some.injEq, Prod.mk.injEq] at hs
      obtain ⟨rfl, rfl, rfl, rfl⟩ := hs
      cases hp
      refine ⟨splitSeq_c _ _, ⟨fun k c h => ?_, fun k cs h => by simp at h, ?_, fun k c h => ?_⟩⟩
      · simp only [List.mem_cons, Prod.mk.injEq, List.not_mem_nil, or_false] at h
        left; rcases h with h | h | h <;> rw [h.1] <;> simp
      · exact ⟨trivial, by simp [keysIn.keysIns, keysIn]⟩
      · simp only [List.mem_cons, Prod.mk.injEq, List.not_mem_nil, or_false] at h
        rcases h with h | h | h <;> rw [h.2] <;> exact ⟨trivial, trivial⟩
    · cases hs
theorem SplitSeq_c (s p : ByteArray) : FC Tryz.prog 21 [enc s, enc p] [] (.fn (.func 77) [] [.ptr 1007 0, .ptr 7 0, .ptr 2007 0]) [(7, .box [enc s]), (1007, .box [enc p]), (2007, .box [enc (0 : Int)])] := by
  refine fc_introC [] is21 (by simp) (by simp [cD]) (by simp [aR, aF, bZ]) (by simp [aR, aF, bZ]) (by simp [aj, lk]) (fun cx _ _ _ => S_run [ent54] 800 ?_)
  delta c21
  simp (maxSteps := 4000000) -implicitDefEqProofs only [rv21, ent54, Ent.of0, Ent.of1, Ent.of2, Ent.of3, V, cc, bE, bN, bR, cV, cT, gt, lk, co, cC, cJ, cd, ca, bV, bV.subCs, cO, bu, bF, bZ, aV, bt, bh, aW, bM, bK, aH, a7, aX, cr, dd, cY, aq, aw, bT, cI, cb, cP, cU, aP, am, bQ, bJ, zC, argS, bO, ce, da, cR, ai, aE, aO, aA, cG, leC, cn, b0, bW, dc, bX, aR, aF, cZ, ah, cL, bf, bf.viewCs, bA, bA.flatCs, aK, aK.LensOks, Value.oneCell', ↓reduceIte, ite_true, ite_false, if_true, if_false, Nat.reduceAdd, Nat.reduceSub, Nat.reduceMul, Nat.reduceEqDiff, Nat.reduceLT, Nat.reduceLeDiff, reduceCtorEq, Int.reduceToNat, forall_const, implies_true, a6, Ent.mk3, bw, bC, bB, bk, bl, bo, bH, bL, bg, be, bz, cH, bn, cQ, rn, bS, bS.renCs, aI, aN, aY, aY.viewOks, aJ, bm, bm.flatBs, aG, an, av, ar, az, bq, bq.keysBs, aT, ap, bj, cp, bD, cg, af, af.passKs, aD, aL, ae, ae.lendKs, cM, cq, cz, bG, setInn, ag, cN, db, ay, br, bP, cj, aC, aU, Glob.gl, ax, cK, aZ, cm, bv, aj, cD, cS, cB, cW, cu, au, au.ptrOnlys, ak, aM, bY, aB, bI, a8, bU, aQ, bp, cF, Nat.reduceBEq, undef]
def ent21 : Ent Tryz.prog where
  id := 21
  sp := fun args chs => match args, chs with
    | [.s (.string s), .s (.string p)], [] => some (True, .fn (.func 77) [] [.ptr 1007 0, .ptr 7 0, .ptr 2007 0], [(7, .box [.s (.string s)]), (1007, .box [.s (.string p)]), (2007, .box [.s (.int .i64 0)])], [7, 1007, 2007])
    | _, _ => none
  ok := by
    intro args chs p r chs' nk hs hp
    split at hs
    · simp only [Option.some.injEq, Prod.mk.injEq] at hs
      obtain ⟨rfl, rfl, rfl, rfl⟩ := hs
      refine ⟨SplitSeq_c _ _, ⟨fun k c h => ?_, fun k cs h => by simp at h, ?_, fun k c h => ?_⟩⟩
      · simp only [List.mem_cons, Prod.mk.injEq, List.not_mem_nil, or_false] at h
        left; rcases h with h | h | h <;> rw [h.1] <;> simp
      · exact ⟨trivial, by simp [keysIn.keysIns, keysIn]⟩
      · simp only [List.mem_cons, Prod.mk.injEq, List.not_mem_nil, or_false] at h
        rcases h with h | h | h <;> rw [h.2] <;> exact ⟨trivial, trivial⟩
    · cases hs
end Go.Proofs.YtfgpbmjmoobcnaaGreatDoor
end
section
open Go Go.Am
open Go.Am.Dat (cells)
namespace Go.Proofs.YtfgpbmjmoobcnaaGreatDoor
set_option maxHeartbeats 4000000
set_option maxRecDepth 100000
set_option linter.unusedSimpArgs false
set_option linter.unusedVariables false
theorem decDigits_len : ∀ (k u : Nat), u < 10 ^ (k + 1) → (Lib.decDigits u).length ≤ k + 1
  | 0, u, h => by rw [Lib.decDigits, dif_pos (by omega)]; simp
  | k + 1, u, h => by
    rw [Lib.decDigits]
    split
    · simp
    · have := decDigits_len k (u / 10) (by rw [Nat.pow_succ] at h; omega)
      rw [List.length_append]; simp; omega
theorem app_mk (a b : List UInt8) : mkB a ++ mkB b = mkB (a ++ b) := by
  refine ByteArray.ext ?_
  rw [ByteArray.data_append]
  simp [mkB]
theorem str1 (n : Int) : strOfNums [n] = mkB [UInt8.ofNat n.toNat] := rfl
structure DecAt (n m : Int) (t : List UInt8) : Prop where
  le : m.natAbs ≤ n.natAbs
  z : m = 0 → t = Lib.decDigits n.natAbs
  nz : m ≠ 0 → Lib.decDigits m.natAbs ++ t = Lib.decDigits n.natAbs
theorem DecAt.step {n m : Int} {t : List UInt8} (h : DecAt n m t) (hm : m ≠ 0) : DecAt n (m.tdiv 10) (UInt8.ofNat (48 + m.natAbs % 10) :: t) := by
  have hq : (m.tdiv 10).natAbs = m.natAbs / 10 := by rw [Int.natAbs_tdiv]; rfl
  have hnz := h.nz hm
  refine ⟨by rw [hq]; have := h.le; omega, fun h0 => ?_, fun h0 => ?_⟩
  · have : m.natAbs / 10 = 0 := by rw [← hq, h0]; rfl
    rw [Lib.decDigits, dif_pos (by omega)] at hnz
    rw [← hnz, Nat.mod_eq_of_lt (by omega)]; rfl
  · have h1 : m.natAbs / 10 ≠ 0 := by rw [← hq]; omega
    rw [Lib.decDigits, dif_neg (by omega)] at hnz
    rw [← hnz, hq, List.append_assoc]; rfl
theorem DecAt.len {n m : Int} {t : List UInt8} (h : DecAt n m t) (hn : n.natAbs < 10 ^ 20) : t.length ≤ 20 := by
  have h1 := decDigits_len 19 n.natAbs hn
  by_cases hm : m = 0
  · rw [h.z hm]; exact h1
  · have := congrArg List.length (h.nz hm)
    rw [List.length_append] at this; omega
theorem Decimal_c (n : Int) (h : InR .i64 n) : FC Tryz.prog 27 [enc n] [] (enc (itoaB n)) [] := by
  have h : -9223372036854775808 ≤ n ∧ n ≤ 9223372036854775807 := by simpa [InR] using h
  refine fc_intro' is27 (by simp) (fun cx hl => S_run [] 800 ?_)
  by_cases h0 : n = 0
  · subst h0
    have e : itoaB 0 = ⟨#[48]⟩ := by rw [itoaB, Lib.itoa, if_neg (by omega)]; rw [show (0 : Int).toNat = 0 from rfl, Lib.decDigits, dif_pos (by omega)]; rfl
    delta c27
    simp (maxSteps := 4000000) -implicitDefEqProofs only [rv27, e, Ent.of0, Ent.of1, Ent.of2, Ent.of3, V, cc, bE, bN, bR, cV, cT, gt, lk, co, cC, cJ, cd, ca, bV, bV.subCs, cO, bu, bF, bZ, aV, bt, bh, aW, bM, bK, aH, a7, aX, cr, dd, cY, aq, aw, bT, cI, cb, cP, cU, aP, am, bQ, bJ, zC, argS, bO, ce, da, cR, ai, aE, aO, aA, cG, leC, cn, b0, bW, dc, bX, aR, aF, cZ, ah, cL, bf, bf.viewCs, bA, bA.flatCs, aK, aK.LensOks, Value.oneCell', ↓reduceIte, ite_true, ite_false, if_true, if_false, Nat.reduceAdd, Nat.reduceSub, Nat.reduceMul, Nat.reduceEqDiff, Nat.reduceLT, Nat.reduceLeDiff, reduceCtorEq, Int.reduceToNat, forall_const, implies_true, a6, Ent.mk3, bw, bC, bB, bk, bl, bo, bH, bL, bg, be, bz, cH, bn, cQ, rn, bS, bS.renCs, aI, aN, aY, aY.viewOks, aJ, bm, bm.flatBs, aG, an, av, ar, az, bq, bq.keysBs, aT, ap, bj, cp, bD, cg, af, af.passKs, aD, aL, ae, ae.lendKs, cM, cq, cz, bG, setInn, ag, cN, db, ay, br, bP, cj, aC, aU, Glob.gl, ax, cK, aZ, cm, bv, aj, cD, cS, cB, cW, cu, au, au.ptrOnlys, ak, aM, bY, aB, bI, a8, bU, aQ, bp, cF, Nat.reduceBEq, undef]
  have key : ∀ (sg : ByteArray), sg ++ mkB (Lib.decDigits n.natAbs) = itoaB n → sg.size ≤ 1 → SG Tryz.prog cx (bO rv27 [] (enc (itoaB n)) []) [.c (.loop c27l1), .blk 0, .c (.keep [3, 4] (.seq (.region false [⟨some 24, none, .mv (.tmp 4), false⟩, ⟨some 25, none, .mv (.tmp 3), false⟩, ⟨some 26, none, .bin .add 9 (.tmp 24) (.tmp 25), false⟩, ⟨some 2, none, .mv (.tmp 26), false⟩]) (.keep [2] (.ret))))] ⟨[(0, .s (.int .i64 n)), (3, .s (.string ⟨#[]⟩)), (4, .s (.string sg))], []⟩ := fun sg hsg hs1 => by
    refine S_loopU (α := Int × List UInt8) (fun v => [(0, .s (.int .i64 v.1)), (3, .s (.string (mkB v.2)))]) (fun _ => []) (fun v => DecAt n v.1 v.2) (fun v => v.1.natAbs) (n, []) ⟨Nat.le_refl _, fun e => absurd e h0, fun _ => by simp⟩ ?_ (fun v hv => S_run [ent60] 800 ?_)
    · simp (maxSteps := 4000000) -implicitDefEqProofs only [Ent.of0, Ent.of1, Ent.of2, Ent.of3, V, cc, bE, bN, bR, cV, cT, gt, lk, co, cC, cJ, cd, ca, bV, bV.subCs, cO, bu, bF, bZ, aV, bt, bh, aW, bM, bK, aH, a7, aX, cr, dd, cY, aq, aw, bT, cI, cb, cP, cU, aP, am, bQ, bJ, zC, argS, bO, ce, da, cR, ai, aE, aO, aA, cG, leC, cn, b0, bW, dc, bX, aR, aF, cZ, ah, cL, bf, bf.viewCs, bA, bA.flatCs, aK, aK.LensOks, Value.oneCell', ↓reduceIte, ite_true, ite_false, if_true, if_false, Nat.reduceAdd, Nat.reduceSub, Nat.reduceMul, Nat.reduceEqDiff, Nat.reduceLT, Nat.reduceLeDiff, reduceCtorEq, Int.reduceToNat, forall_const, implies_true, a6, Ent.mk3, bw, bC, bB, bk, bl, bo, bH, bL, bg, be, bz, cH, bn, cQ, rn, bS, bS.renCs, aI, aN, aY, aY.viewOks, aJ, bm, bm.flatBs, aG, an, av, ar, az, bq, bq.keysBs, aT, ap, bj, cp, bD, cg, af, af.passKs, aD, aL, ae, ae.lendKs, cM, cq, cz, bG, setInn, ag, cN, db, ay, br, bP, cj, aC, aU, Glob.gl, ax, cK, aZ, cm, bv, aj, cD, cS, cB, cW, cu, au, au.ptrOnlys, ak, aM, bY, aB, bI, a8, bU, aQ, bp, cF, Nat.reduceBEq, undef]
      rfl
    · obtain ⟨m, t⟩ := v
      simp only at hv
      have hln := hv.len (by omega)
      have hle := hv.le
      by_cases hm : m = 0
      · subst hm
        have ht := hv.z rfl
        rw [ht] at hln
        delta c27l1
        simp (maxSteps := 4000000) -implicitDefEqProofs only [rv27, ht, hsg, mkB_size, InR, Ent.of0, Ent.of1, Ent.of2, Ent.of3, V, cc, bE, bN, bR, cV, cT, gt, lk, co, cC, cJ, cd, ca, bV, bV.subCs, cO, bu, bF, bZ, aV, bt, bh, aW, bM, bK, aH, a7, aX, cr, dd, cY, aq, aw, bT, cI, cb, cP, cU, aP, am, bQ, bJ, zC, argS, bO, ce, da, cR, ai, aE, aO, aA, cG, leC, cn, b0, bW, dc, bX, aR, aF, cZ, ah, cL, bf, bf.viewCs, bA, bA.flatCs, aK, aK.LensOks, Value.oneCell', ↓reduceIte, ite_true, ite_false, if_true, if_false, Nat.reduceAdd, Nat.reduceSub, Nat.reduceMul, Nat.reduceEqDiff, Nat.reduceLT, Nat.reduceLeDiff, reduceCtorEq, Int.reduceToNat, forall_const, implies_true, a6, Ent.mk3, bw, bC, bB, bk, bl, bo, bH, bL, bg, be, bz, cH, bn, cQ, rn, bS, bS.renCs, aI, aN, aY, aY.viewOks, aJ, bm, bm.flatBs, aG, an, av, ar, az, bq, bq.keysBs, aT, ap, bj, cp, bD, cg, af, af.passKs, aD, aL, ae, ae.lendKs, cM, cq, cz, bG, setInn, ag, cN, db, ay, br, bP, cj, aC, aU, Glob.gl, ax, cK, aZ, cm, bv, aj, cD, cS, cB, cW, cu, au, au.ptrOnlys, ak, aM, bY, aB, bI, a8, bU, aQ, bp, cF, Nat.reduceBEq, undef]
        omega
      · have hq : (m.tdiv 10).natAbs = m.natAbs / 10 := by rw [Int.natAbs_tdiv]; rfl
        have hr : (m.tmod 10).natAbs = m.natAbs % 10 := by rw [Int.natAbs_tmod]; rfl
        have hst := hv.step hm
        have hd : (if -(m.tmod 10) > m.tmod 10 then -(m.tmod 10) else m.tmod 10) = ((m.natAbs % 10 : Nat) : Int) := by split <;> omega
        have hb : ((48 : Int) + ((m.natAbs % 10 : Nat) : Int)).toNat = 48 + m.natAbs % 10 := by omega
        have hap : strOfNums [(48 : Int) + ((m.natAbs % 10 : Nat) : Int)] ++ mkB t = mkB (UInt8.ofNat (48 + m.natAbs % 10) :: t) := by rw [str1, hb, app_mk]; rfl
        have hs2 : (strOfNums [(48 : Int) + ((m.natAbs % 10 : Nat) : Int)]).size = 1 := rfl
        delta c27l1
        simp (maxSteps := 4000000) -implicitDefEqProofs only [rv27, hm, ent60, hd, bytesL, hap, hs2, mkB_size, InR, Ent.of0, Ent.of1, Ent.of2, Ent.of3, V, cc, bE, bN, bR, cV, cT, gt, lk, co, cC, cJ, cd, ca, bV, bV.subCs, cO, bu, bF, bZ, aV, bt, bh, aW, bM, bK, aH, a7, aX, cr, dd, cY, aq, aw, bT, cI, cb, cP, cU, aP, am, bQ, bJ, zC, argS, bO, ce, da, cR, ai, aE, aO, aA, cG, leC, cn, b0, bW, dc, bX, aR, aF, cZ, ah, cL, bf, bf.viewCs, bA, bA.flatCs, aK, aK.LensOks, Value.oneCell', ↓reduceIte, ite_true, ite_false, if_true, if_false, Nat.reduceAdd, Nat.reduceSub, Nat.reduceMul, Nat.reduceEqDiff, Nat.reduceLT, Nat.reduceLeDiff, reduceCtorEq, Int.reduceToNat, forall_const, implies_true, a6, Ent.mk3, bw, bC, bB, bk, bl, bo, bH, bL, bg, be, bz, cH, bn, cQ, rn, bS, bS.renCs, aI, aN, aY, aY.viewOks, aJ, bm, bm.flatBs, aG, an, av, ar, az, bq, bq.keysBs, aT, ap, bj, cp, bD, cg, af, af.passKs, aD, aL, ae, ae.lendKs, cM, cq, cz, bG, setInn, ag, cN, db, ay, br, bP, cj, aC, aU, Glob.gl, ax, cK, aZ, cm, bv, aj, cD, cS, cB, cW, cu, au, au.ptrOnlys, ak, aM, bY, aB, bI, a8, bU, aQ, bp, cF, Nat.reduceBEq, undef]
        exact ⟨by decide, by omega, by omega, by omega, by omega, ⟨by decide, by omega, by omega⟩, (m.tdiv 10, _), hst, (by show (m.tdiv 10).natAbs < m.natAbs; omega), rfl, rfl⟩
  by_cases hn : n < 0
  · delta c27
    simp (maxSteps := 4000000) -implicitDefEqProofs only [rv27, h0, hn, Ent.of0, Ent.of1, Ent.of2, Ent.of3, V, cc, bE, bN, bR, cV, cT, gt, lk, co, cC, cJ, cd, ca, bV, bV.subCs, cO, bu, bF, bZ, aV, bt, bh, aW, bM, bK, aH, a7, aX, cr, dd, cY, aq, aw, bT, cI, cb, cP, cU, aP, am, bQ, bJ, zC, argS, bO, ce, da, cR, ai, aE, aO, aA, cG, leC, cn, b0, bW, dc, bX, aR, aF, cZ, ah, cL, bf, bf.viewCs, bA, bA.flatCs, aK, aK.LensOks, Value.oneCell', ↓reduceIte, ite_true, ite_false, if_true, if_false, Nat.reduceAdd, Nat.reduceSub, Nat.reduceMul, Nat.reduceEqDiff, Nat.reduceLT, Nat.reduceLeDiff, reduceCtorEq, Int.reduceToNat, forall_const, implies_true, a6, Ent.mk3, bw, bC, bB, bk, bl, bo, bH, bL, bg, be, bz, cH, bn, cQ, rn, bS, bS.renCs, aI, aN, aY, aY.viewOks, aJ, bm, bm.flatBs, aG, an, av, ar, az, bq, bq.keysBs, aT, ap, bj, cp, bD, cg, af, af.passKs, aD, aL, ae, ae.lendKs, cM, cq, cz, bG, setInn, ag, cN, db, ay, br, bP, cj, aC, aU, Glob.gl, ax, cK, aZ, cm, bv, aj, cD, cS, cB, cW, cu, au, au.ptrOnlys, ak, aM, bY, aB, bI, a8, bU, aQ, bp, cF, Nat.reduceBEq, undef]
    refine key ⟨#[45]⟩ ?_ (Nat.le_refl _)
    rw [itoaB, Lib.itoa, if_pos hn]
    exact app_mk [45] _
  · delta c27
    simp (maxSteps := 4000000) -implicitDefEqProofs only [rv27, h0, hn, Ent.of0, Ent.of1, Ent.of2, Ent.of3, V, cc, bE, bN, bR, cV, cT, gt, lk, co, cC, cJ, cd, ca, bV, bV.subCs, cO, bu, bF, bZ, aV, bt, bh, aW, bM, bK, aH, a7, aX, cr, dd, cY, aq, aw, bT, cI, cb, cP, cU, aP, am, bQ, bJ, zC, argS, bO, ce, da, cR, ai, aE, aO, aA, cG, leC, cn, b0, bW, dc, bX, aR, aF, cZ, ah, cL, bf, bf.viewCs, bA, bA.flatCs, aK, aK.LensOks, Value.oneCell', ↓reduceIte, ite_true, ite_false, if_true, if_false, Nat.reduceAdd, Nat.reduceSub, Nat.reduceMul, Nat.reduceEqDiff, Nat.reduceLT, Nat.reduceLeDiff, reduceCtorEq, Int.reduceToNat, forall_const, implies_true, a6, Ent.mk3, bw, bC, bB, bk, bl, bo, bH, bL, bg, be, bz, cH, bn, cQ, rn, bS, bS.renCs, aI, aN, aY, aY.viewOks, aJ, bm, bm.flatBs, aG, an, av, ar, az, bq, bq.keysBs, aT, ap, bj, cp, bD, cg, af, af.passKs, aD, aL, ae, ae.lendKs, cM, cq, cz, bG, setInn, ag, cN, db, ay, br, bP, cj, aC, aU, Glob.gl, ax, cK, aZ, cm, bv, aj, cD, cS, cB, cW, cu, au, au.ptrOnlys, ak, aM, bY, aB, bI, a8, bU, aQ, bp, cF, Nat.reduceBEq, undef]
    refine key ⟨#[]⟩ ?_ (Nat.zero_le _)
    rw [itoaB, Lib.itoa, if_neg hn, show n.toNat = n.natAbs by omega]
    exact app_mk [] _
def ent27 : Ent Tryz.prog := .of1 27 (fun n => InR .i64 n) (fun n : Int => enc (itoaB n)) (fun _ => trivial) (fun n h => Decimal_c n h)
end Go.Proofs.YtfgpbmjmoobcnaaGreatDoor
end
section
open Go Go.Am
open Go.Am.Dat (cells)
namespace Go.Proofs.YtfgpbmjmoobcnaaGreatDoor
set_option maxHeartbeats 4000000
set_option maxRecDepth 100000
set_option linter.unusedSimpArgs false
set_option linter.unusedVariables false
def isDig (b : UInt8) : Bool := decide (48 ≤ b.toNat ∧ b.toNat ≤ 57)
def valF (a : Nat) (l : List UInt8) : Nat := l.foldl (fun a b => 10 * a + (b.toNat - 48)) a
def digs (l : List UInt8) : List UInt8 := if l.head? = some 45 then l.drop 1 else l
def numR (l : List UInt8) : Option Int :=
  if digs l = [] ∨ 9 < (digs l).length ∨ ((digs l).head? = some 48 ∧ 1 < l.length) then none
  else if (digs l).all isDig = true then some (if l.head? = some 45 then -(valF 0 (digs l) : Int) else (valF 0 (digs l) : Int)) else none
theorem valF_lt : ∀ (l : List UInt8) (a k : Nat), l.all isDig = true → a < 10 ^ k → valF a l < 10 ^ (k + l.length)
  | [], a, k, _, h => h
  | b :: l, a, k, hd, h => by
    simp only [List.all_cons, Bool.and_eq_true] at hd
    have h1 : 48 ≤ b.toNat ∧ b.toNat ≤ 57 := by simpa [isDig] using hd.1
    have := valF_lt l (10 * a + (b.toNat - 48)) (k + 1) hd.2 (by rw [Nat.pow_succ]; omega)
    rw [List.length_cons, show k + (l.length + 1) = k + 1 + l.length by omega]
    exact this
theorem valF_snoc (a : Nat) (l : List UInt8) (b : UInt8) : valF a (l ++ [b]) = 10 * valF a l + (b.toNat - 48) := by simp [valF]
theorem all_take_succ {ds : List UInt8} {k : Nat} (hk : k < ds.length) (h : (ds.take k).all isDig = true) (hc : isDig (ds.getD k 0) = true) : (ds.take (k + 1)).all isDig = true := by
  rw [List.getD_eq_getElem?_getD, List.getElem?_eq_getElem hk] at hc
  rw [← List.take_append_getElem hk, List.all_append, h]
  simpa using hc
theorem all_not {ds : List UInt8} {k : Nat} (hk : k < ds.length) (hc : isDig (ds.getD k 0) = false) : ds.all isDig = false := by
  rw [List.getD_eq_getElem?_getD, List.getElem?_eq_getElem hk] at hc
  rw [Bool.eq_false_iff]
  intro h
  have := List.all_eq_true.1 h _ (List.getElem_mem hk)
  simp only [Option.getD_some] at hc
  rw [hc] at this; cases this
theorem num_key (cx : Cx) (s : ByteArray) (hs : s.size ≤ 1000000) (a : Nat) (ha : a = 0 ∨ a = 1) (ds : List UInt8) (hds : s.data.toList.drop a = ds) (hl : s.size = a + ds.length) (h9 : ds.length ≤ 9)
    (hall : ds.all isDig = true → numR s.data.toList = some (if a = 1 then -(valF 0 ds : Int) else (valF 0 ds : Int))) (hbad : ds.all isDig = false → numR s.data.toList = none) :
    SG Tryz.prog cx (bO rv26 [] (.tup [enc ((numR s.data.toList).getD 0), enc (numR s.data.toList).isSome]) []) [.c (.loop c26l1), .blk 0, .c (.keep [6, 7] (.seq (.seq (.region false [⟨some 65, none, .mv (.tmp 6), false⟩, ⟨some 66, none, .bin .eql 3 (.tmp 65) (.const (.int .i64 1)), false⟩]) (.keep [7, 66] (.cond (.tmp 66) (.region false [⟨some 67, none, .mv (.tmp 7), false⟩, ⟨some 68, none, .un .neg (.tmp 67), false⟩, ⟨some 7, none, .mv (.tmp 68), false⟩]) (.skip)))) (.keep [7] (.seq (.region false [⟨some 69, none, .mv (.tmp 7), false⟩, ⟨some 4, none, .mv (.tmp 69), false⟩, ⟨some 5, none, .mv (.const (.bool true)), false⟩]) (.keep [4, 5] (.ret))))))]
      ⟨[(0, .s (.string s)), (6, .s (.int .i64 (a : Int))), (7, .s (.int .i64 0)), (8, .s (.int .i64 (a : Int)))], []⟩ := by
  refine S_forU ds.length (fun k => [(7, .s (.int .i64 (valF 0 (ds.take k) : Int))), (8, .s (.int .i64 ((a + k : Nat) : Int)))]) (fun _ => []) (fun k => (ds.take k).all isDig = true) rfl ?_ (fun k hk hv => S_run [] 800 ?_)
  · simp (maxSteps := 4000000) -implicitDefEqProofs only [Ent.of0, Ent.of1, Ent.of2, Ent.of3, V, cc, bE, bN, bR, cV, cT, gt, lk, co, cC, cJ, cd, ca, bV, bV.subCs, cO, bu, bF, bZ, aV, bt, bh, aW, bM, bK, aH, a7, aX, cr, dd, cY, aq, aw, bT, cI, cb, cP, cU, aP, am, bQ, bJ, zC, argS, bO, ce, da, cR, ai, aE, aO, aA, cG, leC, cn, b0, bW, dc, bX, aR, aF, cZ, ah, cL, bf, bf.viewCs, bA, bA.flatCs, aK, aK.LensOks, Value.oneCell', ↓reduceIte, ite_true, ite_false, if_true, if_false, Nat.reduceAdd, Nat.reduceSub, Nat.reduceMul, Nat.reduceEqDiff, Nat.reduceLT, Nat.reduceLeDiff, reduceCtorEq, Int.reduceToNat, forall_const, implies_true, a6, Ent.mk3, bw, bC, bB, bk, bl, bo, bH, bL, bg, be, bz, cH, bn, cQ, rn, bS, bS.renCs, aI, aN, aY, aY.viewOks, aJ, bm, bm.flatBs, aG, an, av, ar, az, bq, bq.keysBs, aT, ap, bj, cp, bD, cg, af, af.passKs, aD, aL, ae, ae.lendKs, cM, cq, cz, bG, setInn, ag, cN, db, ay, br, bP, cj, aC, aU, Glob.gl, ax, cK, aZ, cm, bv, aj, cD, cS, cB, cW, cu, au, au.ptrOnlys, ak, aM, bY, aB, bI, a8, bU, aQ, bp, cF, Nat.reduceBEq, undef]; simp [valF]
  · by_cases h : k < ds.length
    · have hi2 : ((a + k : Nat) : Int) < (s.size : Int) := by omega
      have hg : s.data.toList.getD (a + k) 0 = ds.getD k 0 := by rw [← hds, List.getD_eq_getElem?_getD, List.getD_eq_getElem?_getD, List.getElem?_drop]
      have hsn : ds.take (k + 1) = ds.take k ++ [ds.getD k 0] := by
        rw [List.getD_eq_getElem?_getD, List.getElem?_eq_getElem h]; exact (List.take_append_getElem h).symm
      have hvn : valF 0 (ds.take (k + 1)) = 10 * valF 0 (ds.take k) + ((ds.getD k 0).toNat - 48) := by rw [hsn, valF_snoc]
      have hvb := valF_lt (ds.take k) 0 0 hv (by decide)
      rw [List.length_take, Nat.min_eq_left (by omega), Nat.zero_add] at hvb
      have hvb : valF 0 (ds.take k) < 10 ^ 8 := Nat.lt_of_lt_of_le hvb (Nat.pow_le_pow_right (by decide) (by omega))
      have hcb := (ds.getD k 0).toNat_lt
      generalize hcd : ds.getD k 0 = ch at *
      by_cases hc : 48 ≤ ch.toNat ∧ ch.toNat ≤ 57
      · have hc1 : ¬ ((ch.toNat : Nat) : Int) < 48 := by omega
        have hc2 : ¬ ((ch.toNat : Nat) : Int) > 57 := by omega
        have hc3 : ¬ 57 < ((ch.toNat : Nat) : Int) := by omega
        have hnx := all_take_succ h hv (by rw [hcd]; simpa [isDig] using hc)
        delta c26l1
        simp (maxSteps := 4000000) -implicitDefEqProofs only [rv26, hi2, hg, hc1, hc2, hc3, Int.toNat_natCast, InR, Ent.of0, Ent.of1, Ent.of2, Ent.of3, V, cc, bE, bN, bR, cV, cT, gt, lk, co, cC, cJ, cd, ca, bV, bV.subCs, cO, bu, bF, bZ, aV, bt, bh, aW, bM, bK, aH, a7, aX, cr, dd, cY, aq, aw, bT, cI, cb, cP, cU, aP, am, bQ, bJ, zC, argS, bO, ce, da, cR, ai, aE, aO, aA, cG, leC, cn, b0, bW, dc, bX, aR, aF, cZ, ah, cL, bf, bf.viewCs, bA, bA.flatCs, aK, aK.LensOks, Value.oneCell', ↓reduceIte, ite_true, ite_false, if_true, if_false, Nat.reduceAdd, Nat.reduceSub, Nat.reduceMul, Nat.reduceEqDiff, Nat.reduceLT, Nat.reduceLeDiff, reduceCtorEq, Int.reduceToNat, forall_const, implies_true, a6, Ent.mk3, bw, bC, bB, bk, bl, bo, bH, bL, bg, be, bz, cH, bn, cQ, rn, bS, bS.renCs, aI, aN, aY, aY.viewOks, aJ, bm, bm.flatBs, aG, an, av, ar, az, bq, bq.keysBs, aT, ap, bj, cp, bD, cg, af, af.passKs, aD, aL, ae, ae.lendKs, cM, cq, cz, bG, setInn, ag, cN, db, ay, br, bP, cj, aC, aU, Glob.gl, ax, cK, aZ, cm, bv, aj, cD, cS, cB, cW, cu, au, au.ptrOnlys, ak, aM, bY, aB, bI, a8, bU, aQ, bp, cF, Nat.reduceBEq, undef]
        generalize valF 0 (ds.take k) = V at *
        refine ⟨by omega, by omega, by omega, by omega, by omega, by omega, by omega, by omega, h, hnx, ?_⟩
        rw [hvn]
        refine ⟨?_, ?_⟩ <;> push_cast <;> omega
      · have hnd : numR s.data.toList = none := hbad (all_not h (by rw [hcd]; simpa [isDig] using hc))
        by_cases hc1 : ((ch.toNat : Nat) : Int) < 48
        · delta c26l1
          simp (maxSteps := 4000000) -implicitDefEqProofs only [rv26, hi2, hg, hc1, hnd, Int.toNat_natCast, InR, Ent.of0, Ent.of1, Ent.of2, Ent.of3, V, cc, bE, bN, bR, cV, cT, gt, lk, co, cC, cJ, cd, ca, bV, bV.subCs, cO, bu, bF, bZ, aV, bt, bh, aW, bM, bK, aH, a7, aX, cr, dd, cY, aq, aw, bT, cI, cb, cP, cU, aP, am, bQ, bJ, zC, argS, bO, ce, da, cR, ai, aE, aO, aA, cG, leC, cn, b0, bW, dc, bX, aR, aF, cZ, ah, cL, bf, bf.viewCs, bA, bA.flatCs, aK, aK.LensOks, Value.oneCell', ↓reduceIte, ite_true, ite_false, if_true, if_false, Nat.reduceAdd, Nat.reduceSub, Nat.reduceMul, Nat.reduceEqDiff, Nat.reduceLT, Nat.reduceLeDiff, reduceCtorEq, Int.reduceToNat, forall_const, implies_true, a6, Ent.mk3, bw, bC, bB, bk, bl, bo, bH, bL, bg, be, bz, cH, bn, cQ, rn, bS, bS.renCs, aI, aN, aY, aY.viewOks, aJ, bm, bm.flatBs, aG, an, av, ar, az, bq, bq.keysBs, aT, ap, bj, cp, bD, cg, af, af.passKs, aD, aL, ae, ae.lendKs, cM, cq, cz, bG, setInn, ag, cN, db, ay, br, bP, cj, aC, aU, Glob.gl, ax, cK, aZ, cm, bv, aj, cD, cS, cB, cW, cu, au, au.ptrOnlys, ak, aM, bY, aB, bI, a8, bU, aQ, bp, cF, Nat.reduceBEq, undef]
          omega
        · have hc2 : ((ch.toNat : Nat) : Int) > 57 := by omega
          have hc3 : 57 < ((ch.toNat : Nat) : Int) := by omega
          delta c26l1
          simp (maxSteps := 4000000) -implicitDefEqProofs only [rv26, hi2, hg, hc1, hc2, hc3, hnd, Int.toNat_natCast, InR, Ent.of0, Ent.of1, Ent.of2, Ent.of3, V, cc, bE, bN, bR, cV, cT, gt, lk, co, cC, cJ, cd, ca, bV, bV.subCs, cO, bu, bF, bZ, aV, bt, bh, aW, bM, bK, aH, a7, aX, cr, dd, cY, aq, aw, bT, cI, cb, cP, cU, aP, am, bQ, bJ, zC, argS, bO, ce, da, cR, ai, aE, aO, aA, cG, leC, cn, b0, bW, dc, bX, aR, aF, cZ, ah, cL, bf, bf.viewCs, bA, bA.flatCs, aK, aK.LensOks, Value.oneCell', ↓reduceIte, ite_true, ite_false, if_true, if_false, Nat.reduceAdd, Nat.reduceSub, Nat.reduceMul, Nat.reduceEqDiff, Nat.reduceLT, Nat.reduceLeDiff, reduceCtorEq, Int.reduceToNat, forall_const, implies_true, a6, Ent.mk3, bw, bC, bB, bk, bl, bo, bH, bL, bg, be, bz, cH, bn, cQ, rn, bS, bS.renCs, aI, aN, aY, aY.viewOks, aJ, bm, bm.flatBs, aG, an, av, ar, az, bq, bq.keysBs, aT, ap, bj, cp, bD, cg, af, af.passKs, aD, aL, ae, ae.lendKs, cM, cq, cz, bG, setInn, ag, cN, db, ay, br, bP, cj, aC, aU, Glob.gl, ax, cK, aZ, cm, bv, aj, cD, cS, cB, cW, cu, au, au.ptrOnlys, ak, aM, bY, aB, bI, a8, bU, aQ, bp, cF, Nat.reduceBEq, undef]
          omega
    · have hi2 : ¬ ((a + k : Nat) : Int) < (s.size : Int) := by omega
      have hke : k = ds.length := by omega
      subst hke
      rw [List.take_length] at hv
      have hr := hall hv
      have hvb := valF_lt ds 0 0 hv (by decide)
      have hvb : valF 0 ds < 10 ^ 9 := Nat.lt_of_lt_of_le hvb (Nat.pow_le_pow_right (by decide) (by omega))
      rcases ha with rfl | rfl
      · have h01 : ¬ ((0 : Nat) : Int) = 1 := by decide
        have hi3 : ¬ ((ds.length : Nat) : Int) < (s.size : Int) := by omega
        delta c26l1
        simp (maxSteps := 4000000) -implicitDefEqProofs only [rv26, hi2, hi3, h01, hr, List.take_length, InR, Ent.of0, Ent.of1, Ent.of2, Ent.of3, V, cc, bE, bN, bR, cV, cT, gt, lk, co, cC, cJ, cd, ca, bV, bV.subCs, cO, bu, bF, bZ, aV, bt, bh, aW, bM, bK, aH, a7, aX, cr, dd, cY, aq, aw, bT, cI, cb, cP, cU, aP, am, bQ, bJ, zC, argS, bO, ce, da, cR, ai, aE, aO, aA, cG, leC, cn, b0, bW, dc, bX, aR, aF, cZ, ah, cL, bf, bf.viewCs, bA, bA.flatCs, aK, aK.LensOks, Value.oneCell', ↓reduceIte, ite_true, ite_false, if_true, if_false, Nat.reduceAdd, Nat.reduceSub, Nat.reduceMul, Nat.reduceEqDiff, Nat.reduceLT, Nat.reduceLeDiff, reduceCtorEq, Int.reduceToNat, forall_const, implies_true, a6, Ent.mk3, bw, bC, bB, bk, bl, bo, bH, bL, bg, be, bz, cH, bn, cQ, rn, bS, bS.renCs, aI, aN, aY, aY.viewOks, aJ, bm, bm.flatBs, aG, an, av, ar, az, bq, bq.keysBs, aT, ap, bj, cp, bD, cg, af, af.passKs, aD, aL, ae, ae.lendKs, cM, cq, cz, bG, setInn, ag, cN, db, ay, br, bP, cj, aC, aU, Glob.gl, ax, cK, aZ, cm, bv, aj, cD, cS, cB, cW, cu, au, au.ptrOnlys, ak, aM, bY, aB, bI, a8, bU, aQ, bp, cF, Nat.reduceBEq, undef]
      · have h01 : ((1 : Nat) : Int) = 1 := rfl
        delta c26l1
        simp (maxSteps := 4000000) -implicitDefEqProofs only [rv26, hi2, h01, hr, List.take_length, InR, Ent.of0, Ent.of1, Ent.of2, Ent.of3, V, cc, bE, bN, bR, cV, cT, gt, lk, co, cC, cJ, cd, ca, bV, bV.subCs, cO, bu, bF, bZ, aV, bt, bh, aW, bM, bK, aH, a7, aX, cr, dd, cY, aq, aw, bT, cI, cb, cP, cU, aP, am, bQ, bJ, zC, argS, bO, ce, da, cR, ai, aE, aO, aA, cG, leC, cn, b0, bW, dc, bX, aR, aF, cZ, ah, cL, bf, bf.viewCs, bA, bA.flatCs, aK, aK.LensOks, Value.oneCell', ↓reduceIte, ite_true, ite_false, if_true, if_false, Nat.reduceAdd, Nat.reduceSub, Nat.reduceMul, Nat.reduceEqDiff, Nat.reduceLT, Nat.reduceLeDiff, reduceCtorEq, Int.reduceToNat, forall_const, implies_true, a6, Ent.mk3, bw, bC, bB, bk, bl, bo, bH, bL, bg, be, bz, cH, bn, cQ, rn, bS, bS.renCs, aI, aN, aY, aY.viewOks, aJ, bm, bm.flatBs, aG, an, av, ar, az, bq, bq.keysBs, aT, ap, bj, cp, bD, cg, af, af.passKs, aD, aL, ae, ae.lendKs, cM, cq, cz, bG, setInn, ag, cN, db, ay, br, bP, cj, aC, aU, Glob.gl, ax, cK, aZ, cm, bv, aj, cD, cS, cB, cW, cu, au, au.ptrOnlys, ak, aM, bY, aB, bI, a8, bU, aQ, bp, cF, Nat.reduceBEq, undef]
        omega
theorem Number_c (s : ByteArray) (hs : s.size ≤ 1000000) : FC Tryz.prog 26 [enc s, enc (9 : Int)] [] (.tup [enc ((numR s.data.toList).getD 0), enc (numR s.data.toList).isSome]) [] := by
  refine fc_intro' is26 (by simp) (fun cx hl => S_run [] 800 ?_)
  have h1n : (1 : Int).toNat = 1 := rfl
  by_cases h0 : s.size = 0
  · have hz : s.data.toList = [] := List.eq_nil_of_length_eq_zero (by rw [data_len]; exact h0)
    have hz0 : ¬ ((s.size : Nat) : Int) > 0 := by omega
    have hz1 : ¬ (0 : Int) < ((s.size : Nat) : Int) := by omega
    have hz2 : ((s.size : Nat) : Int) = 0 := by omega
    delta c26
    simp (maxSteps := 4000000) -implicitDefEqProofs only [rv26, hz0, hz1, hz2, Ent.of0, Ent.of1, Ent.of2, Ent.of3, V, cc, bE, bN, bR, cV, cT, gt, lk, co, cC, cJ, cd, ca, bV, bV.subCs, cO, bu, bF, bZ, aV, bt, bh, aW, bM, bK, aH, a7, aX, cr, dd, cY, aq, aw, bT, cI, cb, cP, cU, aP, am, bQ, bJ, zC, argS, bO, ce, da, cR, ai, aE, aO, aA, cG, leC, cn, b0, bW, dc, bX, aR, aF, cZ, ah, cL, bf, bf.viewCs, bA, bA.flatCs, aK, aK.LensOks, Value.oneCell', ↓reduceIte, ite_true, ite_false, if_true, if_false, Nat.reduceAdd, Nat.reduceSub, Nat.reduceMul, Nat.reduceEqDiff, Nat.reduceLT, Nat.reduceLeDiff, reduceCtorEq, Int.reduceToNat, forall_const, implies_true, a6, Ent.mk3, bw, bC, bB, bk, bl, bo, bH, bL, bg, be, bz, cH, bn, cQ, rn, bS, bS.renCs, aI, aN, aY, aY.viewOks, aJ, bm, bm.flatBs, aG, an, av, ar, az, bq, bq.keysBs, aT, ap, bj, cp, bD, cg, af, af.passKs, aD, aL, ae, ae.lendKs, cM, cq, cz, bG, setInn, ag, cN, db, ay, br, bP, cj, aC, aU, Glob.gl, ax, cK, aZ, cm, bv, aj, cD, cS, cB, cW, cu, au, au.ptrOnlys, ak, aM, bY, aB, bI, a8, bU, aQ, bp, cF, Nat.reduceBEq, undef]
    rw [hz]
    exact ⟨rfl, rfl⟩
  have hp0 : ((s.size : Nat) : Int) > 0 := by omega
  have hp1 : (0 : Int) < ((s.size : Nat) : Int) := by omega
  have hp2 : ¬ ((s.size : Nat) : Int) = 0 := by omega
  have hhd : s.data.toList.head? = some (s.data.toList.getD 0 0) := by
    cases hq : s.data.toList with
    | nil => have := data_len s; rw [hq] at this; simp at this; omega
    | cons b r => rfl
  have hlen := data_len s
  by_cases hb : ((s.data.toList.getD 0 0).toNat : Int) = 45
  · have hb' : s.data.toList.head? = some 45 := by rw [hhd]; congr 1; exact UInt8.toNat_inj.1 (by simpa using (by omega : (s.data.toList.getD 0 0).toNat = 45))
    have hds : digs s.data.toList = s.data.toList.drop 1 := by rw [digs, if_pos hb']
    have hdl : (s.data.toList.drop 1).length = s.size - 1 := by rw [List.length_drop, hlen]
    by_cases q1 : ((s.size : Nat) : Int) = 1
    · have hn : numR s.data.toList = none := by rw [numR, if_pos (.inl (by rw [hds]; exact List.eq_nil_of_length_eq_zero (by omega)))]
      delta c26
      simp (maxSteps := 4000000) -implicitDefEqProofs only [rv26, hp0, hp1, hp2, hb, q1, h1n, hn, Int.cast_ofNat_Int, Int.natCast_one, Int.natCast_zero, Int.reduceAdd, Int.reduceSub, Int.reduceMul, Int.reduceLT, Int.reduceLE, Int.reduceTMod, Int.reduceTDiv, Int.reduceNeg, Int.reduceEq, Nat.reducePow, Int.reducePow, ne_eq, not_false_eq_true, Ent.of0, Ent.of1, Ent.of2, Ent.of3, V, cc, bE, bN, bR, cV, cT, gt, lk, co, cC, cJ, cd, ca, bV, bV.subCs, cO, bu, bF, bZ, aV, bt, bh, aW, bM, bK, aH, a7, aX, cr, dd, cY, aq, aw, bT, cI, cb, cP, cU, aP, am, bQ, bJ, zC, argS, bO, ce, da, cR, ai, aE, aO, aA, cG, leC, cn, b0, bW, dc, bX, aR, aF, cZ, ah, cL, bf, bf.viewCs, bA, bA.flatCs, aK, aK.LensOks, Value.oneCell', ↓reduceIte, ite_true, ite_false, if_true, if_false, Nat.reduceAdd, Nat.reduceSub, Nat.reduceMul, Nat.reduceEqDiff, Nat.reduceLT, Nat.reduceLeDiff, reduceCtorEq, Int.reduceToNat, forall_const, implies_true, a6, Ent.mk3, bw, bC, bB, bk, bl, bo, bH, bL, bg, be, bz, cH, bn, cQ, rn, bS, bS.renCs, aI, aN, aY, aY.viewOks, aJ, bm, bm.flatBs, aG, an, av, ar, az, bq, bq.keysBs, aT, ap, bj, cp, bD, cg, af, af.passKs, aD, aL, ae, ae.lendKs, cM, cq, cz, bG, setInn, ag, cN, db, ay, br, bP, cj, aC, aU, Glob.gl, ax, cK, aZ, cm, bv, aj, cD, cS, cB, cW, cu, au, au.ptrOnlys, ak, aM, bY, aB, bI, a8, bU, aQ, bp, cF, Nat.reduceBEq, undef]
    by_cases q2 : ((s.size : Nat) : Int) - 1 > 9
    · have hn : numR s.data.toList = none := by rw [numR, if_pos (.inr (.inl (by rw [hds]; omega)))]
      delta c26
      simp (maxSteps := 4000000) -implicitDefEqProofs only [rv26, hp0, hp1, hp2, hb, q1, q2, h1n, hn, InR, Int.cast_ofNat_Int, Int.natCast_one, Int.natCast_zero, Int.reduceAdd, Int.reduceSub, Int.reduceMul, Int.reduceLT, Int.reduceLE, Int.reduceTMod, Int.reduceTDiv, Int.reduceNeg, Int.reduceEq, Nat.reducePow, Int.reducePow, ne_eq, not_false_eq_true, Ent.of0, Ent.of1, Ent.of2, Ent.of3, V, cc, bE, bN, bR, cV, cT, gt, lk, co, cC, cJ, cd, ca, bV, bV.subCs, cO, bu, bF, bZ, aV, bt, bh, aW, bM, bK, aH, a7, aX, cr, dd, cY, aq, aw, bT, cI, cb, cP, cU, aP, am, bQ, bJ, zC, argS, bO, ce, da, cR, ai, aE, aO, aA, cG, leC, cn, b0, bW, dc, bX, aR, aF, cZ, ah, cL, bf, bf.viewCs, bA, bA.flatCs, aK, aK.LensOks, Value.oneCell', ↓reduceIte, ite_true, ite_false, if_true, if_false, Nat.reduceAdd, Nat.reduceSub, Nat.reduceMul, Nat.reduceEqDiff, Nat.reduceLT, Nat.reduceLeDiff, reduceCtorEq, Int.reduceToNat, forall_const, implies_true, a6, Ent.mk3, bw, bC, bB, bk, bl, bo, bH, bL, bg, be, bz, cH, bn, cQ, rn, bS, bS.renCs, aI, aN, aY, aY.viewOks, aJ, bm, bm.flatBs, aG, an, av, ar, az, bq, bq.keysBs, aT, ap, bj, cp, bD, cg, af, af.passKs, aD, aL, ae, ae.lendKs, cM, cq, cz, bG, setInn, ag, cN, db, ay, br, bP, cj, aC, aU, Glob.gl, ax, cK, aZ, cm, bv, aj, cD, cS, cB, cW, cu, au, au.ptrOnlys, ak, aM, bY, aB, bI, a8, bU, aQ, bp, cF, Nat.reduceBEq, undef]
      omega
    have hg1 : (s.data.toList.drop 1).head? = some (s.data.toList.getD 1 0) := by
      rw [List.head?_drop, List.getD_eq_getElem?_getD, List.getElem?_eq_getElem (by omega)]; rfl
    have q5 : (1 : Int) < ((s.size : Nat) : Int) := by omega
    have q6 : ((s.size : Nat) : Int) > 1 := by omega
    by_cases q3 : ((s.data.toList.getD 1 0).toNat : Int) = 48
    · have hn : numR s.data.toList = none := by
        have hx : (digs s.data.toList).head? = some 48 := by
          rw [hds, hg1, show s.data.toList.getD 1 0 = 48 from UInt8.toNat_inj.1 (by have : (s.data.toList.getD 1 0).toNat = 48 := by omega
                                                                                    rw [this]; rfl)]
        rw [numR, if_pos (.inr (.inr ⟨hx, by omega⟩))]
      delta c26
      simp (maxSteps := 4000000) -implicitDefEqProofs only [rv26, hp0, hp1, hp2, hb, q1, q2, q3, q5, q6, h1n, hn, InR, Int.cast_ofNat_Int, Int.natCast_one, Int.natCast_zero, Int.reduceAdd, Int.reduceSub, Int.reduceMul, Int.reduceLT, Int.reduceLE, Int.reduceTMod, Int.reduceTDiv, Int.reduceNeg, Int.reduceEq, Nat.reducePow, Int.reducePow, ne_eq, not_false_eq_true, Ent.of0, Ent.of1, Ent.of2, Ent.of3, V, cc, bE, bN, bR, cV, cT, gt, lk, co, cC, cJ, cd, ca, bV, bV.subCs, cO, bu, bF, bZ, aV, bt, bh, aW, bM, bK, aH, a7, aX, cr, dd, cY, aq, aw, bT, cI, cb, cP, cU, aP, am, bQ, bJ, zC, argS, bO, ce, da, cR, ai, aE, aO, aA, cG, leC, cn, b0, bW, dc, bX, aR, aF, cZ, ah, cL, bf, bf.viewCs, bA, bA.flatCs, aK, aK.LensOks, Value.oneCell', ↓reduceIte, ite_true, ite_false, if_true, if_false, Nat.reduceAdd, Nat.reduceSub, Nat.reduceMul, Nat.reduceEqDiff, Nat.reduceLT, Nat.reduceLeDiff, reduceCtorEq, Int.reduceToNat, forall_const, implies_true, a6, Ent.mk3, bw, bC, bB, bk, bl, bo, bH, bL, bg, be, bz, cH, bn, cQ, rn, bS, bS.renCs, aI, aN, aY, aY.viewOks, aJ, bm, bm.flatBs, aG, an, av, ar, az, bq, bq.keysBs, aT, ap, bj, cp, bD, cg, af, af.passKs, aD, aL, ae, ae.lendKs, cM, cq, cz, bG, setInn, ag, cN, db, ay, br, bP, cj, aC, aU, Glob.gl, ax, cK, aZ, cm, bv, aj, cD, cS, cB, cW, cu, au, au.ptrOnlys, ak, aM, bY, aB, bI, a8, bU, aQ, bp, cF, Nat.reduceBEq, undef]
      omega
    have hnn : ¬ (digs s.data.toList = [] ∨ 9 < (digs s.data.toList).length ∨ (digs s.data.toList).head? = some 48 ∧ 1 < s.data.toList.length) := by
      rw [hds]
      rintro (h | h | ⟨h, _⟩)
      · rw [h] at hdl; simp at hdl; omega
      · omega
      · rw [hg1] at h; exact q3 (by rw [Option.some.inj h]; decide)
    have hk := num_key cx s hs 1 (.inr rfl) _ rfl (by omega) (by omega) (fun h => by rw [numR, if_neg hnn, hds, if_pos h, if_pos hb', if_pos rfl]) (fun h => by rw [numR, if_neg hnn, hds, if_neg (by rw [h]; decide)])
    delta c26
    simp (maxSteps := 4000000) -implicitDefEqProofs only [rv26, hp0, hp1, hp2, hb, q1, q2, q3, h1n, InR, Int.cast_ofNat_Int, Int.natCast_one, Int.natCast_zero, Int.reduceAdd, Int.reduceSub, Int.reduceMul, Int.reduceLT, Int.reduceLE, Int.reduceTMod, Int.reduceTDiv, Int.reduceNeg, Int.reduceEq, Nat.reducePow, Int.reducePow, ne_eq, not_false_eq_true, Ent.of0, Ent.of1, Ent.of2, Ent.of3, V, cc, bE, bN, bR, cV, cT, gt, lk, co, cC, cJ, cd, ca, bV, bV.subCs, cO, bu, bF, bZ, aV, bt, bh, aW, bM, bK, aH, a7, aX, cr, dd, cY, aq, aw, bT, cI, cb, cP, cU, aP, am, bQ, bJ, zC, argS, bO, ce, da, cR, ai, aE, aO, aA, cG, leC, cn, b0, bW, dc, bX, aR, aF, cZ, ah, cL, bf, bf.viewCs, bA, bA.flatCs, aK, aK.LensOks, Value.oneCell', ↓reduceIte, ite_true, ite_false, if_true, if_false, Nat.reduceAdd, Nat.reduceSub, Nat.reduceMul, Nat.reduceEqDiff, Nat.reduceLT, Nat.reduceLeDiff, reduceCtorEq, Int.reduceToNat, forall_const, implies_true, a6, Ent.mk3, bw, bC, bB, bk, bl, bo, bH, bL, bg, be, bz, cH, bn, cQ, rn, bS, bS.renCs, aI, aN, aY, aY.viewOks, aJ, bm, bm.flatBs, aG, an, av, ar, az, bq, bq.keysBs, aT, ap, bj, cp, bD, cg, af, af.passKs, aD, aL, ae, ae.lendKs, cM, cq, cz, bG, setInn, ag, cN, db, ay, br, bP, cj, aC, aU, Glob.gl, ax, cK, aZ, cm, bv, aj, cD, cS, cB, cW, cu, au, au.ptrOnlys, ak, aM, bY, aB, bI, a8, bU, aQ, bp, cF, Nat.reduceBEq, undef]
    exact ⟨by omega, by omega, hk⟩
  · have hb' : ¬ s.data.toList.head? = some 45 := by rw [hhd]; intro h; exact hb (by rw [Option.some.inj h]; decide)
    have hds : digs s.data.toList = s.data.toList := by rw [digs, if_neg hb']
    have hdr : s.data.toList.drop 0 = s.data.toList := rfl
    by_cases q2 : ((s.size : Nat) : Int) - 0 > 9
    · have hn : numR s.data.toList = none := by rw [numR, if_pos (.inr (.inl (by rw [hds]; omega)))]
      have q2' : (9 : Int) < ((s.size : Nat) : Int) := by omega
      have q2'' : ((s.size : Nat) : Int) > 9 := by omega
      delta c26
      simp (maxSteps := 4000000) -implicitDefEqProofs only [rv26, hp0, hp1, hp2, hb, q2, q2', q2'', Int.sub_zero, h1n, hn, InR, Int.cast_ofNat_Int, Int.natCast_one, Int.natCast_zero, Int.reduceAdd, Int.reduceSub, Int.reduceMul, Int.reduceLT, Int.reduceLE, Int.reduceTMod, Int.reduceTDiv, Int.reduceNeg, Int.reduceEq, Nat.reducePow, Int.reducePow, ne_eq, not_false_eq_true, Ent.of0, Ent.of1, Ent.of2, Ent.of3, V, cc, bE, bN, bR, cV, cT, gt, lk, co, cC, cJ, cd, ca, bV, bV.subCs, cO, bu, bF, bZ, aV, bt, bh, aW, bM, bK, aH, a7, aX, cr, dd, cY, aq, aw, bT, cI, cb, cP, cU, aP, am, bQ, bJ, zC, argS, bO, ce, da, cR, ai, aE, aO, aA, cG, leC, cn, b0, bW, dc, bX, aR, aF, cZ, ah, cL, bf, bf.viewCs, bA, bA.flatCs, aK, aK.LensOks, Value.oneCell', ↓reduceIte, ite_true, ite_false, if_true, if_false, Nat.reduceAdd, Nat.reduceSub, Nat.reduceMul, Nat.reduceEqDiff, Nat.reduceLT, Nat.reduceLeDiff, reduceCtorEq, Int.reduceToNat, forall_const, implies_true, a6, Ent.mk3, bw, bC, bB, bk, bl, bo, bH, bL, bg, be, bz, cH, bn, cQ, rn, bS, bS.renCs, aI, aN, aY, aY.viewOks, aJ, bm, bm.flatBs, aG, an, av, ar, az, bq, bq.keysBs, aT, ap, bj, cp, bD, cg, af, af.passKs, aD, aL, ae, ae.lendKs, cM, cq, cz, bG, setInn, ag, cN, db, ay, br, bP, cj, aC, aU, Glob.gl, ax, cK, aZ, cm, bv, aj, cD, cS, cB, cW, cu, au, au.ptrOnlys, ak, aM, bY, aB, bI, a8, bU, aQ, bp, cF, Nat.reduceBEq, undef]
      omega
    have q2' : ¬ (9 : Int) < ((s.size : Nat) : Int) := by omega
    have q2'' : ¬ ((s.size : Nat) : Int) > 9 := by omega
    by_cases q3 : ((s.data.toList.getD 0 0).toNat : Int) = 48
    · by_cases q5 : (1 : Int) < ((s.size : Nat) : Int)
      · have q6 : ((s.size : Nat) : Int) > 1 := by omega
        have hn : numR s.data.toList = none := by
          have hx : (digs s.data.toList).head? = some 48 := by
            rw [hds, hhd, show s.data.toList.getD 0 0 = 48 from UInt8.toNat_inj.1 (by have : (s.data.toList.getD 0 0).toNat = 48 := by omega
                                                                                      rw [this]; rfl)]
          rw [numR, if_pos (.inr (.inr ⟨hx, by omega⟩))]
        delta c26
        simp (maxSteps := 4000000) -implicitDefEqProofs only [rv26, hp0, hp1, hp2, hb, q2, q2', q2'', q3, q5, q6, Int.sub_zero, h1n, hn, InR, Int.cast_ofNat_Int, Int.natCast_one, Int.natCast_zero, Int.reduceAdd, Int.reduceSub, Int.reduceMul, Int.reduceLT, Int.reduceLE, Int.reduceTMod, Int.reduceTDiv, Int.reduceNeg, Int.reduceEq, Nat.reducePow, Int.reducePow, ne_eq, not_false_eq_true, Ent.of0, Ent.of1, Ent.of2, Ent.of3, V, cc, bE, bN, bR, cV, cT, gt, lk, co, cC, cJ, cd, ca, bV, bV.subCs, cO, bu, bF, bZ, aV, bt, bh, aW, bM, bK, aH, a7, aX, cr, dd, cY, aq, aw, bT, cI, cb, cP, cU, aP, am, bQ, bJ, zC, argS, bO, ce, da, cR, ai, aE, aO, aA, cG, leC, cn, b0, bW, dc, bX, aR, aF, cZ, ah, cL, bf, bf.viewCs, bA, bA.flatCs, aK, aK.LensOks, Value.oneCell', ↓reduceIte, ite_true, ite_false, if_true, if_false, Nat.reduceAdd, Nat.reduceSub, Nat.reduceMul, Nat.reduceEqDiff, Nat.reduceLT, Nat.reduceLeDiff, reduceCtorEq, Int.reduceToNat, forall_const, implies_true, a6, Ent.mk3, bw, bC, bB, bk, bl, bo, bH, bL, bg, be, bz, cH, bn, cQ, rn, bS, bS.renCs, aI, aN, aY, aY.viewOks, aJ, bm, bm.flatBs, aG, an, av, ar, az, bq, bq.keysBs, aT, ap, bj, cp, bD, cg, af, af.passKs, aD, aL, ae, ae.lendKs, cM, cq, cz, bG, setInn, ag, cN, db, ay, br, bP, cj, aC, aU, Glob.gl, ax, cK, aZ, cm, bv, aj, cD, cS, cB, cW, cu, au, au.ptrOnlys, ak, aM, bY, aB, bI, a8, bU, aQ, bp, cF, Nat.reduceBEq, undef]
        omega
      · have q6 : ¬ ((s.size : Nat) : Int) > 1 := by omega
        have hnn : ¬ (digs s.data.toList = [] ∨ 9 < (digs s.data.toList).length ∨ (digs s.data.toList).head? = some 48 ∧ 1 < s.data.toList.length) := by
          rw [hds]
          rintro (h | h | ⟨_, h⟩)
          · rw [h] at hlen; simp at hlen; omega
          · omega
          · omega
        have hk := num_key cx s hs 0 (.inl rfl) _ rfl (by rw [List.drop_zero]; omega) (by rw [List.drop_zero]; omega) (fun h => by rw [List.drop_zero] at h ⊢; rw [numR, if_neg hnn, hds, if_pos h, if_neg hb', if_neg (by decide)]) (fun h => by rw [List.drop_zero] at h; rw [numR, if_neg hnn, hds, if_neg (by rw [h]; decide)])
        delta c26
        simp (maxSteps := 4000000) -implicitDefEqProofs only [rv26, hp0, hp1, hp2, hb, q2, q2', q2'', q3, q5, q6, Int.sub_zero, h1n, InR, Int.cast_ofNat_Int, Int.natCast_one, Int.natCast_zero, Int.reduceAdd, Int.reduceSub, Int.reduceMul, Int.reduceLT, Int.reduceLE, Int.reduceTMod, Int.reduceTDiv, Int.reduceNeg, Int.reduceEq, Nat.reducePow, Int.reducePow, ne_eq, not_false_eq_true, Ent.of0, Ent.of1, Ent.of2, Ent.of3, V, cc, bE, bN, bR, cV, cT, gt, lk, co, cC, cJ, cd, ca, bV, bV.subCs, cO, bu, bF, bZ, aV, bt, bh, aW, bM, bK, aH, a7, aX, cr, dd, cY, aq, aw, bT, cI, cb, cP, cU, aP, am, bQ, bJ, zC, argS, bO, ce, da, cR, ai, aE, aO, aA, cG, leC, cn, b0, bW, dc, bX, aR, aF, cZ, ah, cL, bf, bf.viewCs, bA, bA.flatCs, aK, aK.LensOks, Value.oneCell', ↓reduceIte, ite_true, ite_false, if_true, if_false, Nat.reduceAdd, Nat.reduceSub, Nat.reduceMul, Nat.reduceEqDiff, Nat.reduceLT, Nat.reduceLeDiff, reduceCtorEq, Int.reduceToNat, forall_const, implies_true, a6, Ent.mk3, bw, bC, bB, bk, bl, bo, bH, bL, bg, be, bz, cH, bn, cQ, rn, bS, bS.renCs, aI, aN, aY, aY.viewOks, aJ, bm, bm.flatBs, aG, an, av, ar, az, bq, bq.keysBs, aT, ap, bj, cp, bD, cg, af, af.passKs, aD, aL, ae, ae.lendKs, cM, cq, cz, bG, setInn, ag, cN, db, ay, br, bP, cj, aC, aU, Glob.gl, ax, cK, aZ, cm, bv, aj, cD, cS, cB, cW, cu, au, au.ptrOnlys, ak, aM, bY, aB, bI, a8, bU, aQ, bp, cF, Nat.reduceBEq, undef]
        exact ⟨by omega, hk⟩
    · have hnn : ¬ (digs s.data.toList = [] ∨ 9 < (digs s.data.toList).length ∨ (digs s.data.toList).head? = some 48 ∧ 1 < s.data.toList.length) := by
        rw [hds]
        rintro (h | h | ⟨h, _⟩)
        · rw [h] at hlen; simp at hlen; omega
        · omega
        · rw [hhd] at h; exact q3 (by rw [Option.some.inj h]; decide)
      have hk := num_key cx s hs 0 (.inl rfl) _ rfl (by rw [List.drop_zero]; omega) (by rw [List.drop_zero]; omega) (fun h => by rw [List.drop_zero] at h ⊢; rw [numR, if_neg hnn, hds, if_pos h, if_neg hb', if_neg (by decide)]) (fun h => by rw [List.drop_zero] at h; rw [numR, if_neg hnn, hds, if_neg (by rw [h]; decide)])
      delta c26
      simp (maxSteps := 4000000) -implicitDefEqProofs only [rv26, hp0, hp1, hp2, hb, q2, q2', q2'', q3, Int.sub_zero, h1n, InR, Int.cast_ofNat_Int, Int.natCast_one, Int.natCast_zero, Int.reduceAdd, Int.reduceSub, Int.reduceMul, Int.reduceLT, Int.reduceLE, Int.reduceTMod, Int.reduceTDiv, Int.reduceNeg, Int.reduceEq, Nat.reducePow, Int.reducePow, ne_eq, not_false_eq_true, Ent.of0, Ent.of1, Ent.of2, Ent.of3, V, cc, bE, bN, bR, cV, cT, gt, lk, co, cC, cJ, cd, ca, bV, bV.subCs, cO, bu, bF, bZ, aV, bt, bh, aW, bM, bK, aH, a7, aX, cr, dd, cY, aq, aw, bT, cI, cb, cP, cU, aP, am, bQ, bJ, zC, argS, bO, ce, da, cR, ai, aE, aO, aA, cG, leC, cn, b0, bW, dc, bX, aR, aF, cZ, ah, cL, bf, bf.viewCs, bA, bA.flatCs, aK, aK.LensOks, Value.oneCell', ↓reduceIte, ite_true, ite_false, if_true, if_false, Nat.reduceAdd, Nat.reduceSub, Nat.reduceMul, Nat.reduceEqDiff, Nat.reduceLT, Nat.reduceLeDiff, reduceCtorEq, Int.reduceToNat, forall_const, implies_true, a6, Ent.mk3, bw, bC, bB, bk, bl, bo, bH, bL, bg, be, bz, cH, bn, cQ, rn, bS, bS.renCs, aI, aN, aY, aY.viewOks, aJ, bm, bm.flatBs, aG, an, av, ar, az, bq, bq.keysBs, aT, ap, bj, cp, bD, cg, af, af.passKs, aD, aL, ae, ae.lendKs, cM, cq, cz, bG, setInn, ag, cN, db, ay, br, bP, cj, aC, aU, Glob.gl, ax, cK, aZ, cm, bv, aj, cD, cS, cB, cW, cu, au, au.ptrOnlys, ak, aM, bY, aB, bI, a8, bU, aQ, bp, cF, Nat.reduceBEq, undef]
      exact ⟨by omega, hk⟩
def ent26 : Ent Tryz.prog := .of2 26 (fun s k => s.size ≤ 1000000 ∧ k = 9) (fun (s : ByteArray) (k : Int) => .tup [enc ((numR s.data.toList).getD 0), enc (numR s.data.toList).isSome]) (fun _ _ => ⟨trivial, trivial, trivial⟩) (fun s k h => by obtain ⟨h1, rfl⟩ := h; exact Number_c s h1)
end Go.Proofs.YtfgpbmjmoobcnaaGreatDoor
end
section
open Go Go.Am
open Go.Am.Dat (cells)
namespace Go.Proofs.YtfgpbmjmoobcnaaGreatDoor
set_option maxHeartbeats 4000000
set_option maxRecDepth 100000
set_option linter.unusedSimpArgs false
set_option linter.unusedVariables false
theorem dig_of (k : Nat) (hk : k < 10) : isDig (UInt8.ofNat (48 + k)) = true ∧ (UInt8.ofNat (48 + k)).toNat = 48 + k := by
  have h : (UInt8.ofNat (48 + k)).toNat = 48 + k := by rw [UInt8.toNat_ofNat']; omega
  refine ⟨?_, h⟩
  simp only [isDig, h, decide_eq_true_eq]
  omega
theorem head_app {a b : List UInt8} (h : a ≠ []) : (a ++ b).head? = a.head? := by
  cases a with
  | nil => exact absurd rfl h
  | cons x r => rfl
theorem dec_ne (u : Nat) : Lib.decDigits u ≠ [] := by
  rw [Lib.decDigits]
  split <;> simp
theorem dec_dig : ∀ (n u : Nat), u ≤ n → (Lib.decDigits u).all isDig = true
  | n, u, h => by
    rw [Lib.decDigits]
    split
    · rw [List.all_cons, (dig_of u (by omega)).1]; rfl
    · have := (dig_of (u % 10) (by omega)).1
      rw [List.all_append, dec_dig (n - 1) (u / 10) (by omega)]
      simpa using this
termination_by n => n
decreasing_by omega
theorem dec_head : ∀ (n u : Nat), u ≤ n → (Lib.decDigits u).head? = some 48 → u = 0
  | n, u, h => by
    rw [Lib.decDigits]
    split
    · intro h1
      have h1 : UInt8.ofNat (48 + u) = 48 := by simpa using h1
      have := (dig_of u (by omega)).2
      rw [h1] at this
      have h48 : (48 : UInt8).toNat = 48 := rfl
      omega
    · intro h1
      rw [head_app (dec_ne _)] at h1
      have := dec_head (n - 1) (u / 10) (by omega) h1
      omega
termination_by n => n
decreasing_by omega
theorem dec_val : ∀ (n u : Nat), u ≤ n → valF 0 (Lib.decDigits u) = u
  | n, u, h => by
    rw [Lib.decDigits]
    split
    · simp only [valF, List.foldl_cons, List.foldl_nil, (dig_of u (by omega)).2]; omega
    · rw [valF_snoc, dec_val (n - 1) (u / 10) (by omega), (dig_of (u % 10) (by omega)).2]; omega
termination_by n => n
decreasing_by omega
theorem byte_dig {b : UInt8} (h : isDig b = true) : UInt8.ofNat (48 + (b.toNat - 48)) = b := by
  have h : 48 ≤ b.toNat ∧ b.toNat ≤ 57 := by simpa [isDig] using h
  refine UInt8.toNat_inj.1 ?_
  rw [UInt8.toNat_ofNat']; omega
theorem val_dec : ∀ (n : Nat) (ds : List UInt8), ds.length = n + 1 → ds.all isDig = true → ((ds.head? = some 48) → n = 0) → Lib.decDigits (valF 0 ds) = ds ∧ (0 < n → 10 ^ n ≤ valF 0 ds)
  | 0, ds, hl, hd, _ => by
    match ds, hl with
    | [b], _ =>
      simp only [List.all_cons, List.all_nil, Bool.and_true] at hd
      have h : 48 ≤ b.toNat ∧ b.toNat ≤ 57 := by simpa [isDig] using hd
      refine ⟨?_, fun h => by omega⟩
      have e : valF 0 [b] = b.toNat - 48 := by simp [valF]
      rw [e, Lib.decDigits, dif_pos (by omega), byte_dig hd]
  | n + 1, ds, hl, hd, hh => by
    obtain ⟨b, hb⟩ : ∃ b, ds = ds.take (n + 1) ++ [b] := ⟨ds.getD (n + 1) 0, by
      have h1 := List.take_append_drop (n + 1) ds
      rw [List.getD_eq_getElem?_getD, List.getElem?_eq_getElem (by omega), Option.getD_some]
      rw [List.take_append_getElem, List.take_of_length_le (by omega)]⟩
    generalize hp : ds.take (n + 1) = p at hb
    have hpl : p.length = n + 1 := by rw [← hp, List.length_take]; omega
    rw [hb, List.all_append, Bool.and_eq_true] at hd
    have hd2 : isDig b = true := by simpa using hd.2
    have hbd : 48 ≤ b.toNat ∧ b.toNat ≤ 57 := by simpa [isDig] using hd2
    have hhp : p.head? ≠ some 48 := fun h => by
      have : ds.head? = some 48 := by rw [hb, head_app (by intro e; rw [e] at hpl; simp at hpl)]; exact h
      have := hh this; omega
    obtain ⟨g1, g2⟩ := val_dec n p hpl hd.1 (fun h => absurd h hhp)
    have hv : 10 ^ n ≤ valF 0 p := by
      rcases Nat.eq_zero_or_pos n with e | e
      · subst e
        rcases Nat.eq_zero_or_pos (valF 0 p) with e2 | e2
        · exfalso
          rw [e2] at g1
          exact hhp (by rw [← g1, Lib.decDigits, dif_pos (by omega)]; rfl)
        · rw [Nat.pow_zero]; exact e2
      · exact g2 e
    have hpos : 1 ≤ 10 ^ n := Nat.pow_pos (by decide)
    have e : valF 0 ds = 10 * valF 0 p + (b.toNat - 48) := by rw [hb, valF_snoc]
    refine ⟨?_, fun _ => by rw [e, Nat.pow_succ]; omega⟩
    rw [e, Lib.decDigits, dif_neg (by omega), show (10 * valF 0 p + (b.toNat - 48)) / 10 = valF 0 p by omega, show (10 * valF 0 p + (b.toNat - 48)) % 10 = b.toNat - 48 by omega, g1, byte_dig hd2]
    exact hb.symm
theorem num_itoa {l : List UInt8} {v : Int} (h : numR l = some v) : Lib.itoa v = l ∧ (digs l).length ≤ 9 ∧ (digs l).all isDig = true ∧ digs l ≠ [] ∧ v = (if l.head? = some 45 then -(valF 0 (digs l) : Int) else (valF 0 (digs l) : Int)) := by
  unfold numR at h
  split at h
  · cases h
  · rename_i h1
    split at h
    · rename_i h2
      have hv := Option.some.inj h
      have hne : digs l ≠ [] := fun e => h1 (.inl e)
      have hlen : ¬ 9 < (digs l).length := fun e => h1 (.inr (.inl e))
      have hh : (digs l).head? = some 48 → ¬ 1 < l.length := fun e f => h1 (.inr (.inr ⟨e, f⟩))
      refine ⟨?_, by omega, h2, hne, hv.symm⟩
      obtain ⟨n, hn⟩ : ∃ n, (digs l).length = n + 1 := ⟨(digs l).length - 1, by have := List.length_pos_iff.2 hne; omega⟩
      by_cases h45 : l.head? = some 45
      · rw [if_pos h45] at hv
        have hd : digs l = l.drop 1 := by rw [digs, if_pos h45]
        have hl : l = 45 :: digs l := by
          cases l with
          | nil => cases h45
          | cons b r => rw [hd]; cases h45; rfl
        have hl1 : l.length = (digs l).length + 1 := by have := congrArg List.length hl; simpa using this
        have hnh : (digs l).head? ≠ some 48 := fun e => hh e (by omega)
        obtain ⟨g1, _⟩ := val_dec n _ hn h2 (fun e => absurd e hnh)
        have hpos : 0 < valF 0 (digs l) := by
          rcases Nat.eq_zero_or_pos (valF 0 (digs l)) with e | e
          · exfalso
            rw [e] at g1
            exact hnh (by rw [← g1, Lib.decDigits, dif_pos (by omega)]; rfl)
          · exact e
        rw [Lib.itoa, if_pos (by omega), ← hv, Int.natAbs_neg, Int.natAbs_natCast, g1]
        exact hl.symm
      · rw [if_neg h45] at hv
        have hd : digs l = l := by rw [digs, if_neg h45]
        obtain ⟨g1, _⟩ := val_dec n _ hn h2 (fun e => by have := hh e; rw [hd] at hn; omega)
        rw [Lib.itoa, if_neg (by omega), ← hv, Int.toNat_natCast, g1, hd]
    · cases h
theorem itoa_num {v : Int} (h9 : (digs (Lib.itoa v)).length ≤ 9) : numR (Lib.itoa v) = some v := by
  by_cases hv : v < 0
  · have hi : Lib.itoa v = 45 :: Lib.decDigits v.natAbs := by rw [Lib.itoa, if_pos hv]
    have h45 : (Lib.itoa v).head? = some 45 := by rw [hi]; rfl
    have hd : digs (Lib.itoa v) = Lib.decDigits v.natAbs := by rw [digs, if_pos h45, hi]; rfl
    rw [hd] at h9
    unfold numR
    rw [hd, if_neg, if_pos (dec_dig _ _ (Nat.le_refl _)), if_pos h45, dec_val _ _ (Nat.le_refl _)]
    · congr 1; omega
    · rintro (e | e | ⟨e, _⟩)
      · exact dec_ne _ e
      · omega
      · have := dec_head _ _ (Nat.le_refl _) e; omega
  · have hi : Lib.itoa v = Lib.decDigits v.toNat := by rw [Lib.itoa, if_neg hv]
    have hdg := dec_dig _ _ (Nat.le_refl v.toNat)
    have h45 : ¬ (Lib.itoa v).head? = some 45 := by
      rw [hi]
      intro e
      cases hq : Lib.decDigits v.toNat with
      | nil => exact dec_ne _ hq
      | cons b r =>
        rw [hq] at e hdg
        have e : b = 45 := by simpa using e
        subst e
        simp [isDig] at hdg
    have hd : digs (Lib.itoa v) = Lib.decDigits v.toNat := by rw [digs, if_neg h45, hi]
    rw [hd] at h9
    unfold numR
    rw [hd, if_neg, if_pos hdg, if_neg h45, dec_val _ _ (Nat.le_refl _)]
    · congr 1; omega
    · rintro (e | e | ⟨e, e2⟩)
      · exact dec_ne _ e
      · omega
      · have := dec_head _ _ (Nat.le_refl _) e
        rw [hi, this, Lib.decDigits, dif_pos (by omega)] at e2
        simp at e2
theorem decFrom_val : ∀ (ds : List UInt8) (a : Nat), ds.all isDig = true → Lib.decFrom a ds = some (valF a ds)
  | [], a, _ => rfl
  | b :: ds, a, h => by
    simp only [List.all_cons, Bool.and_eq_true] at h
    have hb : 48 ≤ b.toNat ∧ b.toNat ≤ 57 := by simpa [isDig] using h.1
    have hd : Lib.digitVal b = some (b.toNat - 48) := by simp [Lib.digitVal, hb]
    simp only [Lib.decFrom, hd]
    have := decFrom_val ds (a * 10 + (b.toNat - 48)) h.2
    rw [show valF a (b :: ds) = valF (10 * a + (b.toNat - 48)) ds from rfl, Nat.mul_comm 10 a]
    simpa using this
theorem num_atoi {l : List UInt8} {v : Int} (h : numR l = some v) : Lib.atoiAll l = .ok v := by
  obtain ⟨h1, h2, h3, h4, h5⟩ := num_itoa h
  have hdn : Lib.decNat (digs l) = some (valF 0 (digs l)) := by
    rw [Lib.decNat, if_neg (by simpa using h4), decFrom_val _ _ h3]
  by_cases h45 : l.head? = some 45
  · have hd : digs l = l.drop 1 := by rw [digs, if_pos h45]
    have hl : l = 45 :: digs l := by
      cases l with
      | nil => cases h45
      | cons b r => rw [hd]; cases h45; rfl
    rw [if_pos h45] at h5
    rw [Lib.atoiAll_short l (by rw [hl]; simp; omega), hl, Lib.atoi, if_pos (by decide), hdn, h5]; rfl
  · have hd : digs l = l := by rw [digs, if_neg h45]
    rw [if_neg h45] at h5
    rw [hd] at hdn h2 h3 h4
    rw [Lib.atoiAll_short l (by omega)]
    cases hq : l with
    | nil => exact absurd hq h4
    | cons b r =>
      rw [hq] at h3 hdn h5
      simp only [List.all_cons, Bool.and_eq_true] at h3
      have hb : 48 ≤ b.toNat ∧ b.toNat ≤ 57 := by simpa [isDig] using h3.1
      have n1 : (b == 45) = false := by rw [beq_eq_false_iff_ne]; intro e; rw [e] at hb; exact absurd hb.1 (by decide)
      have n2 : (b == 43) = false := by rw [beq_eq_false_iff_ne]; intro e; rw [e] at hb; exact absurd hb.1 (by decide)
      rw [Lib.atoi, if_neg (by simp [n1]), if_neg (by simp [n2]), hdn, h5, ← hq, hd]
      rfl
theorem trim_digs (l : List UInt8) : Lib.trimPrefix l [45] = digs l := by
  unfold Lib.trimPrefix Lib.hasPrefix digs
  cases l with
  | nil => rfl
  | cons b r =>
    by_cases hb : b = 45
    · subst hb; rfl
    · have h1 : ¬ (b :: r).head? = some 45 := by simpa using hb
      have h2 : ¬ ([45] : List UInt8).isPrefixOf (b :: r) = true := by simp [List.isPrefixOf]; exact fun e => hb e.symm
      rw [if_neg h1, if_neg h2]
def numV (l : List UInt8) : Int := match Lib.atoiAll l with
  | .ok v => v
  | .range => Lib.atoiSat l
  | _ => 0
theorem numV_some {l : List UInt8} {v : Int} (h : numR l = some v) : numV l = v := by rw [numV, num_atoi h]
theorem num_c (s : ByteArray) (hs : s.size ≤ 1000000) : FC Tryz.prog 23 [enc s] [] (.tup [enc (numV s.data.toList), enc (numR s.data.toList).isSome]) [] := by
  refine FC.scal (vs := [.string s]) ⟨_, Tryz.func23, by kernel_rfl, by kernel_rfl⟩ (fun U w hg hU => ?_)
  have fin : ∀ (n : Int) (b : Bool), numV s.data.toList = n → (numR s.data.toList).isSome = b → ∀ e w', (e = Ending.returned (.tuple #[.int .i64 n, .bool b]) ∧ RowKit.Below w.heap.size w w') →
      ∃ v, e = .returned v ∧ (∀ E U h, Rep E U h (.tup [enc (numV s.data.toList), enc (numR s.data.toList).isSome]) v) ∧ RowKit.Below w.heap.size w w' := by
    rintro n b rfl rfl e w' ⟨rfl, hb⟩
    refine ⟨_, rfl, fun E U h => .tup _ _ rfl (fun j c hj => ?_), hb⟩
    match j, hj with
    | 0, hj => cases hj; exact .d (.s _)
    | 1, hj => cases hj; exact .d (.s _)
  cases ha : Lib.atoiAll s.data.toList with
  | ok v =>
    refine (num_ok s v hs ha (Lib.atoiAll_bounds ha) w (fun w' hb => tab_ok (hg.mono (h' := w'.heap) (fun b h => ⟨h, hb.block b (hU b h)⟩)))).mono (fin v _ (by rw [numV, ha]) ?_)
    have e2 : (trimB s minusB).size = (digs s.data.toList).length := by rw [trimB, Lib.size_eq, ← trim_digs]; simp [minusB]
    rw [e2]
    by_cases h1 : Lib.itoa v = s.data.toList
    · have e1 : itoaB v = s := by rw [itoaB, h1]
      by_cases h2 : (digs s.data.toList).length ≤ 9
      · have := itoa_num (v := v) (by rw [h1]; exact h2)
        rw [h1] at this
        simp [e1, h2, this]
      · have hn : numR s.data.toList = none := by
          cases hq : numR s.data.toList with
          | none => rfl
          | some w => exact absurd (num_itoa hq).2.1 h2
        simp [h2, hn]
    · have e1 : ¬ itoaB v = s := fun e => h1 (by rw [← e]; simp [itoaB])
      have hn : numR s.data.toList = none := by
        cases hq : numR s.data.toList with
        | none => rfl
        | some w =>
          have h3 := num_atoi hq
          rw [ha] at h3
          cases h3
          exact absurd (num_itoa hq).1 h1
      simp [e1, hn]
  | range =>
    obtain ⟨tp, p, hv⟩ := rng_ok hg
    refine (num_rng s hs ha tp p w hv).mono (fin _ false (by rw [numV, ha]) ?_)
    cases hq : numR s.data.toList with
    | none => rfl
    | some w => have := num_atoi hq; rw [ha] at this; cases this
  | _ =>
    obtain ⟨tp, p, hv⟩ := syn_ok hg
    refine (num_syn s hs ha tp p w hv).mono (fin 0 false (by rw [numV, ha]) ?_)
    cases hq : numR s.data.toList with
    | none => rfl
    | some w => have := num_atoi hq; rw [ha] at this; cases this
def ent23 : Ent Tryz.prog := .of1 23 (fun s => s.size ≤ 1000000) (fun s : ByteArray => .tup [enc (numV s.data.toList), enc (numR s.data.toList).isSome]) (fun _ => ⟨trivial, trivial, trivial⟩) (fun s h => num_c s h)
end Go.Proofs.YtfgpbmjmoobcnaaGreatDoor
end
