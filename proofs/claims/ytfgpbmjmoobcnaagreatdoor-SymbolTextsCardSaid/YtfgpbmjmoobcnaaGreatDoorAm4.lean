/- Part 4 of the proof of: SymbolTexts returns true for every input and never panics: the text of symbols, and the symbols with any text, or the errors, are as the reference says; right symbols are read back; conditions: those of the given statement, that the library variables it lists hold what their initialisers lay. -/
import Derived.Test.YtfgpbmjmoobcnaaGreatDoorAm3
set_option linter.all false
section
open Go Go.Am Go.Shelf Go.RowKit
open Go.Am.Dat (cells)
namespace Go.Proofs.YtfgpbmjmoobcnaaGreatDoor
set_option maxHeartbeats 4000000
set_option maxRecDepth 100000
theorem num_ok (s : ByteArray) (n : Int) (hs : s.size ≤ 1000000) (h : Lib.atoiAll s.data.toList = .ok n) (hn : -9223372036854775808 ≤ n ∧ n ≤ 9223372036854775807) (w : World) (htab : ∀ w', Below w.heap.size w w' → ∀ nm, Tryz.prog.globalNamed nm = some 1 → Lib.TabIs Tryz.prog w' nm .u64 Lib.pow10Tab) :
    Calls Tryz.prog 23 #[.string s] w fun e w' => e = .returned (.tuple #[.int .i64 n, .bool (decide (itoaB n = s) && decide ((trimB s minusB).size ≤ 9))]) ∧ Below w.heap.size w w' := by
  have hb0 : ∀ w1, (w1 = w ∨ ∃ t, w1 = Lib.bytesWorld w (Tryz.laysC172_ren.t 5) t) → Below w.heap.size w w1 := by
    rintro w1 (rfl | ⟨t, rfl⟩)
    · exact .refl _ _
    · exact Lib.bytesWorld_below _ _ _
  go_enter Tryz.func23, Tryz.ntmps23
  go_wp2_with (first
    | (go_at_call 56; refine (Any.strconv_Atoi_ok Tryz.laysC172 s (by omega) n h _).mono ?_; rintro e w1 ⟨rfl, hw⟩; have hb1 := hb0 _ hw; clear hw)
    | (go_at_call 19; refine (Any.strconv_Itoa Tryz.laysM171 n hn.1 hn.2 _ (htab _ hb1 _ (by kernel_rfl))).mono ?_; rintro e w2 ⟨rfl, k, os, rfl⟩)
    | (go_at_call 57; refine (Any.strings_TrimPrefix Tryz.lays101 s ⟨#[45]⟩ _).mono ?_; rintro e w' ⟨rfl, rfl⟩))
  · go_ret2
    rename_i h1
    have e1 : itoaB n = s := ByteArray.ext (by simp [itoaB, h1, Go.ByteArray.toList_eq])
    have e2 : (trimB s minusB).size = (Lib.trimPrefix s.data.toList [45]).length := by rw [trimB, Lib.size_eq]; simp [minusB]
    refine ⟨?_, hb1.trans (below_growB w1 hb1.size k os)⟩
    rw [show decide ((trimB s minusB).size ≤ 9) = decide (((Lib.trimPrefix s.data.toList [45]).length : Int) ≤ 9) from decide_eq_decide.2 (by rw [e2]; omega)]
    simp only [e1, decide_true, Bool.true_and]
    rfl
  · go_ret2
    rename_i h1
    have e1 : ¬ itoaB n = s := fun h => h1 (by rw [← h]; simp [itoaB, Go.ByteArray.toList_eq])
    refine ⟨?_, hb1.trans (below_growB w1 hb1.size k os)⟩
    simp only [e1, decide_false, Bool.false_and]
    rfl
theorem num_syn (s : ByteArray) (hs : s.size ≤ 1000000) (h : Lib.atoiAll s.data.toList = Lib.NumEnd.ofOption none) (tp : TypeId) (p : Value) (w : World) (hv : w.var? Tryz.prog "strconv.ErrSyntax" = some #[.iface tp p]) :
    Calls Tryz.prog 23 #[.string s] w fun e w' => e = .returned (.tuple #[.int .i64 0, .bool false]) ∧ Below w.heap.size w w' := by
  go_enter Tryz.func23, Tryz.ntmps23
  go_wp2_with (go_at_call 56; refine (Any.strconv_Atoi_syntax_var Tryz.laysC172 s (by omega) h tp p _ hv).mono ?_; rintro e w1 ⟨N, rfl, -, -, hb⟩)
  all_goals go_ret2
  all_goals exact ⟨rfl, hb⟩
theorem num_rng (s : ByteArray) (hs : s.size ≤ 1000000) (h : Lib.atoiAll s.data.toList = .range) (tp : TypeId) (p : Value) (w : World) (hv : w.var? Tryz.prog "strconv.ErrRange" = some #[.iface tp p]) :
    Calls Tryz.prog 23 #[.string s] w fun e w' => e = .returned (.tuple #[.int .i64 (Lib.atoiSat s.data.toList), .bool false]) ∧ Below w.heap.size w w' := by
  go_enter Tryz.func23, Tryz.ntmps23
  go_wp2_with (go_at_call 56; refine (Any.strconv_Atoi_range_var Tryz.laysC172 s (by omega) h tp p _ hv).mono ?_; rintro e w1 ⟨N, rfl, -, -, hb⟩)
  all_goals go_ret2
  all_goals exact ⟨rfl, hb⟩
end Go.Proofs.YtfgpbmjmoobcnaaGreatDoor
end
section
open Go Go.Am
open Go.Am.Dat (cells)
namespace Go.Proofs.YtfgpbmjmoobcnaaGreatDoor
set_option maxHeartbeats 400000
set_option linter.unusedSimpArgs false
theorem within_c (n lo hi : Int) : FC Tryz.prog 32 [enc n, enc lo, enc hi] [] (enc (decide (lo ≤ n ∧ n ≤ hi))) [] := by
  refine fc_intro' is32 (by simp) (fun cx hl => S_run [] 800 ?_)
  delta c32
  simp (maxSteps := 4000000) -implicitDefEqProofs only [rv32, Ent.of0, Ent.of1, Ent.of2, Ent.of3, V, cc, bE, bN, bR, cV, cT, gt, lk, co, cC, cJ, cd, ca, bV, bV.subCs, cO, bu, bF, bZ, aV, bt, bh, aW, bM, bK, aH, a7, aX, cr, dd, cY, aq, aw, bT, cI, cb, cP, cU, aP, am, bQ, bJ, zC, argS, bO, ce, da, cR, ai, aE, aO, aA, cG, leC, cn, b0, bW, dc, bX, aR, aF, cZ, ah, cL, bf, bf.viewCs, bA, bA.flatCs, aK, aK.LensOks, Value.oneCell', ↓reduceIte, ite_true, ite_false, if_true, if_false, Nat.reduceAdd, Nat.reduceSub, Nat.reduceMul, Nat.reduceEqDiff, Nat.reduceLT, Nat.reduceLeDiff, reduceCtorEq, Int.reduceToNat, forall_const, implies_true, a6, Ent.mk3, bw, bC, bB, bk, bl, bo, bH, bL, bg, be, bz, cH, bn, cQ, rn, bS, bS.renCs, aI, aN, aY, aY.viewOks, aJ, bm, bm.flatBs, aG, an, av, ar, az, bq, bq.keysBs, aT, ap, bj, cp, bD, cg, af, af.passKs, aD, aL, ae, ae.lendKs, cM, cq, cz, bG, setInn, ag, cN, db, ay, br, bP, cj, aC, aU, Glob.gl, ax, cK, aZ, cm, bv, aj, cD, cS, cB, cW, cu, au, au.ptrOnlys, ak, aM, bY, aB, bI, a8, bU, aQ, bp, cF, Nat.reduceBEq, undef]
  by_cases h : lo ≤ n <;> simp [h]
def ent32 : Ent Tryz.prog := .of3 32 (fun _ _ _ => True) (fun n lo hi : Int => enc (decide (lo ≤ n ∧ n ≤ hi))) (fun _ _ _ => trivial) (fun n lo hi _ => within_c n lo hi)
theorem Within_c (n lo hi : Int) : FC Tryz.prog 61 [enc n, enc lo, enc hi] [] (enc (decide (lo ≤ n ∧ n ≤ hi))) [] := by
  refine fc_intro' is61 (by simp) (fun cx hl => S_run [] 800 ?_)
  delta c61
  simp (maxSteps := 4000000) -implicitDefEqProofs only [rv61, Ent.of0, Ent.of1, Ent.of2, Ent.of3, V, cc, bE, bN, bR, cV, cT, gt, lk, co, cC, cJ, cd, ca, bV, bV.subCs, cO, bu, bF, bZ, aV, bt, bh, aW, bM, bK, aH, a7, aX, cr, dd, cY, aq, aw, bT, cI, cb, cP, cU, aP, am, bQ, bJ, zC, argS, bO, ce, da, cR, ai, aE, aO, aA, cG, leC, cn, b0, bW, dc, bX, aR, aF, cZ, ah, cL, bf, bf.viewCs, bA, bA.flatCs, aK, aK.LensOks, Value.oneCell', ↓reduceIte, ite_true, ite_false, if_true, if_false, Nat.reduceAdd, Nat.reduceSub, Nat.reduceMul, Nat.reduceEqDiff, Nat.reduceLT, Nat.reduceLeDiff, reduceCtorEq, Int.reduceToNat, forall_const, implies_true, a6, Ent.mk3, bw, bC, bB, bk, bl, bo, bH, bL, bg, be, bz, cH, bn, cQ, rn, bS, bS.renCs, aI, aN, aY, aY.viewOks, aJ, bm, bm.flatBs, aG, an, av, ar, az, bq, bq.keysBs, aT, ap, bj, cp, bD, cg, af, af.passKs, aD, aL, ae, ae.lendKs, cM, cq, cz, bG, setInn, ag, cN, db, ay, br, bP, cj, aC, aU, Glob.gl, ax, cK, aZ, cm, bv, aj, cD, cS, cB, cW, cu, au, au.ptrOnlys, ak, aM, bY, aB, bI, a8, bU, aQ, bp, cF, Nat.reduceBEq, undef]
  by_cases h : lo ≤ n <;> simp [h]
def ent61 : Ent Tryz.prog := .of3 61 (fun _ _ _ => True) (fun n lo hi : Int => enc (decide (lo ≤ n ∧ n ≤ hi))) (fun _ _ _ => trivial) (fun n lo hi _ => Within_c n lo hi)
theorem unless_c (b : Bool) (e : Int) : FC Tryz.prog 31 [enc b, enc e] [] (enc (if b then 0 else e)) [] := by
  refine fc_intro' is31 (by simp) (fun cx hl => S_run [] 800 ?_)
  delta c31
  simp (maxSteps := 4000000) -implicitDefEqProofs only [rv31, Ent.of0, Ent.of1, Ent.of2, Ent.of3, V, cc, bE, bN, bR, cV, cT, gt, lk, co, cC, cJ, cd, ca, bV, bV.subCs, cO, bu, bF, bZ, aV, bt, bh, aW, bM, bK, aH, a7, aX, cr, dd, cY, aq, aw, bT, cI, cb, cP, cU, aP, am, bQ, bJ, zC, argS, bO, ce, da, cR, ai, aE, aO, aA, cG, leC, cn, b0, bW, dc, bX, aR, aF, cZ, ah, cL, bf, bf.viewCs, bA, bA.flatCs, aK, aK.LensOks, Value.oneCell', ↓reduceIte, ite_true, ite_false, if_true, if_false, Nat.reduceAdd, Nat.reduceSub, Nat.reduceMul, Nat.reduceEqDiff, Nat.reduceLT, Nat.reduceLeDiff, reduceCtorEq, Int.reduceToNat, forall_const, implies_true, a6, Ent.mk3, bw, bC, bB, bk, bl, bo, bH, bL, bg, be, bz, cH, bn, cQ, rn, bS, bS.renCs, aI, aN, aY, aY.viewOks, aJ, bm, bm.flatBs, aG, an, av, ar, az, bq, bq.keysBs, aT, ap, bj, cp, bD, cg, af, af.passKs, aD, aL, ae, ae.lendKs, cM, cq, cz, bG, setInn, ag, cN, db, ay, br, bP, cj, aC, aU, Glob.gl, ax, cK, aZ, cm, bv, aj, cD, cS, cB, cW, cu, au, au.ptrOnlys, ak, aM, bY, aB, bI, a8, bU, aQ, bp, cF, Nat.reduceBEq, undef]
  cases b <;> simp
def ent31 : Ent Tryz.prog := .of2 31 (fun _ _ => True) (fun (b : Bool) (e : Int) => enc (if b then 0 else e)) (fun _ _ => trivial) (fun b e _ => unless_c b e)
theorem small_c (n most : Int) (h : InR .i64 (-most)) : FC Tryz.prog 73 [enc n, enc most] [] (enc (decide (-most ≤ n ∧ n ≤ most))) [] := by
  refine fc_intro' is73 (by simp) (fun cx hl => S_run [ent32] 800 ?_)
  delta c73
  simp (maxSteps := 4000000) -implicitDefEqProofs only [rv73, ent32, h, Ent.of0, Ent.of1, Ent.of2, Ent.of3, V, cc, bE, bN, bR, cV, cT, gt, lk, co, cC, cJ, cd, ca, bV, bV.subCs, cO, bu, bF, bZ, aV, bt, bh, aW, bM, bK, aH, a7, aX, cr, dd, cY, aq, aw, bT, cI, cb, cP, cU, aP, am, bQ, bJ, zC, argS, bO, ce, da, cR, ai, aE, aO, aA, cG, leC, cn, b0, bW, dc, bX, aR, aF, cZ, ah, cL, bf, bf.viewCs, bA, bA.flatCs, aK, aK.LensOks, Value.oneCell', ↓reduceIte, ite_true, ite_false, if_true, if_false, Nat.reduceAdd, Nat.reduceSub, Nat.reduceMul, Nat.reduceEqDiff, Nat.reduceLT, Nat.reduceLeDiff, reduceCtorEq, Int.reduceToNat, forall_const, implies_true, a6, Ent.mk3, bw, bC, bB, bk, bl, bo, bH, bL, bg, be, bz, cH, bn, cQ, rn, bS, bS.renCs, aI, aN, aY, aY.viewOks, aJ, bm, bm.flatBs, aG, an, av, ar, az, bq, bq.keysBs, aT, ap, bj, cp, bD, cg, af, af.passKs, aD, aL, ae, ae.lendKs, cM, cq, cz, bG, setInn, ag, cN, db, ay, br, bP, cj, aC, aU, Glob.gl, ax, cK, aZ, cm, bv, aj, cD, cS, cB, cW, cu, au, au.ptrOnlys, ak, aM, bY, aB, bI, a8, bU, aQ, bp, cF, Nat.reduceBEq, undef]
def ent73 : Ent Tryz.prog := .of2 73 (fun _ most => InR .i64 (-most)) (fun n most : Int => enc (decide (-most ≤ n ∧ n ≤ most))) (fun _ _ => trivial) (fun n most h => small_c n most h)
def firstS : List Int → Int
  | [] => 0
  | e :: l => if e ≠ 0 then e else firstS l
theorem first_c (l : List Int) : FC Tryz.prog 29 [enc l] [] (enc (firstS l)) [] := by
  refine fc_intro' is29 (by simp) (fun cx hl => S_run [] 800 ?_)
  simp only [V, cc, bE, bN, bR, cV, cT, gt, lk, co, cC, cJ, cd, ca, bV, bV.subCs, cO, bu, bF, bZ, aV, bt, bh, aW, bM, bK, aH, a7, aX, cr, dd, cY, aq, aw, bT, cI, cb, cP, cU, aP, am, bQ, bJ, zC, argS, bO, ce, da, cR, ai, aE, aO, aA, cG, leC, cn, b0, bW, dc, bX, aR, aF, cZ, ah, cL, bf, bf.viewCs, bA, bA.flatCs, aK, aK.LensOks, Value.oneCell', ↓reduceIte, ite_true, ite_false, if_true, if_false, Nat.reduceAdd, Nat.reduceSub, Nat.reduceMul, Nat.reduceEqDiff, Nat.reduceLT, Nat.reduceLeDiff, reduceCtorEq, Int.reduceToNat, forall_const, implies_true, a6, Ent.mk3, bw, bC, bB, bk, bl, bo, bH, bL, bg, be, bz, cH, bn, cQ, rn, bS, bS.renCs, aI, aN, aY, aY.viewOks, aJ, bm, bm.flatBs, aG, an, av, ar, az, bq, bq.keysBs, aT, ap, bj, cp, bD, cg, af, af.passKs, aD, aL, ae, ae.lendKs, cM, cq, cz, bG, setInn, ag, cN, db, ay, br, bP, cj, aC, aU, Glob.gl, ax, cK, aZ, cm, bv, aj, cD, cS, cB, cW, cu, au, au.ptrOnlys, ak, aM, bY, aB, bI, a8, bU, aQ, bp, cF, Nat.reduceBEq, undef] at hl
  have hlen := hl.list
  delta c29
  simp (maxSteps := 4000000) -implicitDefEqProofs only [rv29, Ent.of0, Ent.of1, Ent.of2, Ent.of3, V, cc, bE, bN, bR, cV, cT, gt, lk, co, cC, cJ, cd, ca, bV, bV.subCs, cO, bu, bF, bZ, aV, bt, bh, aW, bM, bK, aH, a7, aX, cr, dd, cY, aq, aw, bT, cI, cb, cP, cU, aP, am, bQ, bJ, zC, argS, bO, ce, da, cR, ai, aE, aO, aA, cG, leC, cn, b0, bW, dc, bX, aR, aF, cZ, ah, cL, bf, bf.viewCs, bA, bA.flatCs, aK, aK.LensOks, Value.oneCell', ↓reduceIte, ite_true, ite_false, if_true, if_false, Nat.reduceAdd, Nat.reduceSub, Nat.reduceMul, Nat.reduceEqDiff, Nat.reduceLT, Nat.reduceLeDiff, reduceCtorEq, Int.reduceToNat, forall_const, implies_true, a6, Ent.mk3, bw, bC, bB, bk, bl, bo, bH, bL, bg, be, bz, cH, bn, cQ, rn, bS, bS.renCs, aI, aN, aY, aY.viewOks, aJ, bm, bm.flatBs, aG, an, av, ar, az, bq, bq.keysBs, aT, ap, bj, cp, bD, cg, af, af.passKs, aD, aL, ae, ae.lendKs, cM, cq, cz, bG, setInn, ag, cN, db, ay, br, bP, cj, aC, aU, Glob.gl, ax, cK, aZ, cm, bv, aj, cD, cS, cB, cW, cu, au, au.ptrOnlys, ak, aM, bY, aB, bI, a8, bU, aQ, bp, cF, Nat.reduceBEq, undef]
  refine S_for l.length (fun i => ⟨[(5, enc l), (6, .s (.int .i64 l.length)), (7, .s (.int .i64 i))], []⟩) (fun i => firstS l = firstS (l.drop i)) rfl ?_ (fun i hi hv => S_run [] 800 ?_)
  · simp only [V, cc, bE, bN, bR, cV, cT, gt, lk, co, cC, cJ, cd, ca, bV, bV.subCs, cO, bu, bF, bZ, aV, bt, bh, aW, bM, bK, aH, a7, aX, cr, dd, cY, aq, aw, bT, cI, cb, cP, cU, aP, am, bQ, bJ, zC, argS, bO, ce, da, cR, ai, aE, aO, aA, cG, leC, cn, b0, bW, dc, bX, aR, aF, cZ, ah, cL, bf, bf.viewCs, bA, bA.flatCs, aK, aK.LensOks, Value.oneCell', ↓reduceIte, ite_true, ite_false, if_true, if_false, Nat.reduceAdd, Nat.reduceSub, Nat.reduceMul, Nat.reduceEqDiff, Nat.reduceLT, Nat.reduceLeDiff, reduceCtorEq, Int.reduceToNat, forall_const, implies_true, a6, Ent.mk3, bw, bC, bB, bk, bl, bo, bH, bL, bg, be, bz, cH, bn, cQ, rn, bS, bS.renCs, aI, aN, aY, aY.viewOks, aJ, bm, bm.flatBs, aG, an, av, ar, az, bq, bq.keysBs, aT, ap, bj, cp, bD, cg, af, af.passKs, aD, aL, ae, ae.lendKs, cM, cq, cz, bG, setInn, ag, cN, db, ay, br, bP, cj, aC, aU, Glob.gl, ax, cK, aZ, cm, bv, aj, cD, cS, cB, cW, cu, au, au.ptrOnlys, ak, aM, bY, aB, bI, a8, bU, aQ, bp, cF, Nat.reduceBEq, undef]; simp
  · delta c29l1
    simp (maxSteps := 4000000) -implicitDefEqProofs only [Ent.of0, Ent.of1, Ent.of2, Ent.of3, V, cc, bE, bN, bR, cV, cT, gt, lk, co, cC, cJ, cd, ca, bV, bV.subCs, cO, bu, bF, bZ, aV, bt, bh, aW, bM, bK, aH, a7, aX, cr, dd, cY, aq, aw, bT, cI, cb, cP, cU, aP, am, bQ, bJ, zC, argS, bO, ce, da, cR, ai, aE, aO, aA, cG, leC, cn, b0, bW, dc, bX, aR, aF, cZ, ah, cL, bf, bf.viewCs, bA, bA.flatCs, aK, aK.LensOks, Value.oneCell', ↓reduceIte, ite_true, ite_false, if_true, if_false, Nat.reduceAdd, Nat.reduceSub, Nat.reduceMul, Nat.reduceEqDiff, Nat.reduceLT, Nat.reduceLeDiff, reduceCtorEq, Int.reduceToNat, forall_const, implies_true, a6, Ent.mk3, bw, bC, bB, bk, bl, bo, bH, bL, bg, be, bz, cH, bn, cQ, rn, bS, bS.renCs, aI, aN, aY, aY.viewOks, aJ, bm, bm.flatBs, aG, an, av, ar, az, bq, bq.keysBs, aT, ap, bj, cp, bD, cg, af, af.passKs, aD, aL, ae, ae.lendKs, cM, cq, cz, bG, setInn, ag, cN, db, ay, br, bP, cj, aC, aU, Glob.gl, ax, cK, aZ, cm, bv, aj, cD, cS, cB, cW, cu, au, au.ptrOnlys, ak, aM, bY, aB, bI, a8, bU, aQ, bp, cF, Nat.reduceBEq, undef]
    by_cases h : i < l.length
    · rw [drop_getD 0 h, firstS] at hv
      rw [if_pos (by omega)]
      refine ⟨by omega, ?_⟩
      split
      · rename_i hc; rw [hv, if_pos hc]
      · rename_i hc; exact ⟨by simp only [InR]; omega, h, by rw [hv, if_neg hc], by omega⟩
    · rw [if_neg (by omega), hv, List.drop_eq_nil_of_le (by omega)]; rfl
def ent29 : Ent Tryz.prog := .of1 29 (fun _ => True) (fun l : List Int => enc (firstS l)) (fun _ => trivial) (fun l _ => first_c l)
def smallG (g : Gs) (most : Int) : Bool := decide (-most ≤ g.re ∧ g.re ≤ most) && decide (-most ≤ g.im ∧ g.im ≤ most)
theorem smallPoint_c (g : Gs) (most : Int) (h : InR .i64 (-most)) : FC Tryz.prog 49 [enc g, enc most] [] (enc (smallG g most)) [] := by
  refine fc_intro' is49 (by simp) (fun cx hl => S_run [ent73] 800 ?_)
  delta c49
  simp (maxSteps := 4000000) -implicitDefEqProofs only [rv49, ent73, h, Ent.of0, Ent.of1, Ent.of2, Ent.of3, V, cc, bE, bN, bR, cV, cT, gt, lk, co, cC, cJ, cd, ca, bV, bV.subCs, cO, bu, bF, bZ, aV, bt, bh, aW, bM, bK, aH, a7, aX, cr, dd, cY, aq, aw, bT, cI, cb, cP, cU, aP, am, bQ, bJ, zC, argS, bO, ce, da, cR, ai, aE, aO, aA, cG, leC, cn, b0, bW, dc, bX, aR, aF, cZ, ah, cL, bf, bf.viewCs, bA, bA.flatCs, aK, aK.LensOks, Value.oneCell', ↓reduceIte, ite_true, ite_false, if_true, if_false, Nat.reduceAdd, Nat.reduceSub, Nat.reduceMul, Nat.reduceEqDiff, Nat.reduceLT, Nat.reduceLeDiff, reduceCtorEq, Int.reduceToNat, forall_const, implies_true, a6, Ent.mk3, bw, bC, bB, bk, bl, bo, bH, bL, bg, be, bz, cH, bn, cQ, rn, bS, bS.renCs, aI, aN, aY, aY.viewOks, aJ, bm, bm.flatBs, aG, an, av, ar, az, bq, bq.keysBs, aT, ap, bj, cp, bD, cg, af, af.passKs, aD, aL, ae, ae.lendKs, cM, cq, cz, bG, setInn, ag, cN, db, ay, br, bP, cj, aC, aU, Glob.gl, ax, cK, aZ, cm, bv, aj, cD, cS, cB, cW, cu, au, au.ptrOnlys, ak, aM, bY, aB, bI, a8, bU, aQ, bp, cF, Nat.reduceBEq, undef]
  unfold smallG
  by_cases h2 : (-most ≤ g.re ∧ g.re ≤ most) <;> simp [h2]
def ent49 : Ent Tryz.prog := .of2 49 (fun _ most => InR .i64 (-most)) (fun (g : Gs) (most : Int) => enc (smallG g most)) (fun _ _ => trivial) (fun g most h => smallPoint_c g most h)
theorem sized_c (g : Gs) (most : Int) (h : InR .i64 (-most)) : FC Tryz.prog 28 [enc g, enc most] [] (enc (smallG g most)) [] := by
  refine fc_intro' is28 (by simp) (fun cx hl => S_run [ent61] 800 ?_)
  delta c28
  simp (maxSteps := 4000000) -implicitDefEqProofs only [rv28, ent61, h, Ent.of0, Ent.of1, Ent.of2, Ent.of3, V, cc, bE, bN, bR, cV, cT, gt, lk, co, cC, cJ, cd, ca, bV, bV.subCs, cO, bu, bF, bZ, aV, bt, bh, aW, bM, bK, aH, a7, aX, cr, dd, cY, aq, aw, bT, cI, cb, cP, cU, aP, am, bQ, bJ, zC, argS, bO, ce, da, cR, ai, aE, aO, aA, cG, leC, cn, b0, bW, dc, bX, aR, aF, cZ, ah, cL, bf, bf.viewCs, bA, bA.flatCs, aK, aK.LensOks, Value.oneCell', ↓reduceIte, ite_true, ite_false, if_true, if_false, Nat.reduceAdd, Nat.reduceSub, Nat.reduceMul, Nat.reduceEqDiff, Nat.reduceLT, Nat.reduceLeDiff, reduceCtorEq, Int.reduceToNat, forall_const, implies_true, a6, Ent.mk3, bw, bC, bB, bk, bl, bo, bH, bL, bg, be, bz, cH, bn, cQ, rn, bS, bS.renCs, aI, aN, aY, aY.viewOks, aJ, bm, bm.flatBs, aG, an, av, ar, az, bq, bq.keysBs, aT, ap, bj, cp, bD, cg, af, af.passKs, aD, aL, ae, ae.lendKs, cM, cq, cz, bG, setInn, ag, cN, db, ay, br, bP, cj, aC, aU, Glob.gl, ax, cK, aZ, cm, bv, aj, cD, cS, cB, cW, cu, au, au.ptrOnlys, ak, aM, bY, aB, bI, a8, bU, aQ, bp, cF, Nat.reduceBEq, undef]
  unfold smallG
  by_cases h2 : (-most ≤ g.re ∧ g.re ≤ most) <;> simp [h2]
def ent28 : Ent Tryz.prog := .of2 28 (fun _ most => InR .i64 (-most)) (fun (g : Gs) (most : Int) => enc (smallG g most)) (fun _ _ => trivial) (fun g most h => sized_c g most h)
theorem Ints_c (a b : List Int) : FC Tryz.prog 17 [enc a, enc b] [] (enc (decide (a = b))) [] := by
  refine fc_intro' is17 (by simp) (fun cx hl => S_run [] 800 ?_)
  simp only [V, cc, bE, bN, bR, cV, cT, gt, lk, co, cC, cJ, cd, ca, bV, bV.subCs, cO, bu, bF, bZ, aV, bt, bh, aW, bM, bK, aH, a7, aX, cr, dd, cY, aq, aw, bT, cI, cb, cP, cU, aP, am, bQ, bJ, zC, argS, bO, ce, da, cR, ai, aE, aO, aA, cG, leC, cn, b0, bW, dc, bX, aR, aF, cZ, ah, cL, bf, bf.viewCs, bA, bA.flatCs, aK, aK.LensOks, Value.oneCell', ↓reduceIte, ite_true, ite_false, if_true, if_false, Nat.reduceAdd, Nat.reduceSub, Nat.reduceMul, Nat.reduceEqDiff, Nat.reduceLT, Nat.reduceLeDiff, reduceCtorEq, Int.reduceToNat, forall_const, implies_true, a6, Ent.mk3, bw, bC, bB, bk, bl, bo, bH, bL, bg, be, bz, cH, bn, cQ, rn, bS, bS.renCs, aI, aN, aY, aY.viewOks, aJ, bm, bm.flatBs, aG, an, av, ar, az, bq, bq.keysBs, aT, ap, bj, cp, bD, cg, af, af.passKs, aD, aL, ae, ae.lendKs, cM, cq, cz, bG, setInn, ag, cN, db, ay, br, bP, cj, aC, aU, Glob.gl, ax, cK, aZ, cm, bv, aj, cD, cS, cB, cW, cu, au, au.ptrOnlys, ak, aM, bY, aB, bI, a8, bU, aQ, bp, cF, Nat.reduceBEq, undef] at hl
  have hlen := hl.1.list
  delta c17
  simp (maxSteps := 4000000) -implicitDefEqProofs only [rv17, Ent.of0, Ent.of1, Ent.of2, Ent.of3, V, cc, bE, bN, bR, cV, cT, gt, lk, co, cC, cJ, cd, ca, bV, bV.subCs, cO, bu, bF, bZ, aV, bt, bh, aW, bM, bK, aH, a7, aX, cr, dd, cY, aq, aw, bT, cI, cb, cP, cU, aP, am, bQ, bJ, zC, argS, bO, ce, da, cR, ai, aE, aO, aA, cG, leC, cn, b0, bW, dc, bX, aR, aF, cZ, ah, cL, bf, bf.viewCs, bA, bA.flatCs, aK, aK.LensOks, Value.oneCell', ↓reduceIte, ite_true, ite_false, if_true, if_false, Nat.reduceAdd, Nat.reduceSub, Nat.reduceMul, Nat.reduceEqDiff, Nat.reduceLT, Nat.reduceLeDiff, reduceCtorEq, Int.reduceToNat, forall_const, implies_true, a6, Ent.mk3, bw, bC, bB, bk, bl, bo, bH, bL, bg, be, bz, cH, bn, cQ, rn, bS, bS.renCs, aI, aN, aY, aY.viewOks, aJ, bm, bm.flatBs, aG, an, av, ar, az, bq, bq.keysBs, aT, ap, bj, cp, bD, cg, af, af.passKs, aD, aL, ae, ae.lendKs, cM, cq, cz, bG, setInn, ag, cN, db, ay, br, bP, cj, aC, aU, Glob.gl, ax, cK, aZ, cm, bv, aj, cD, cS, cB, cW, cu, au, au.ptrOnlys, ak, aM, bY, aB, bI, a8, bU, aQ, bp, cF, Nat.reduceBEq, undef]
  by_cases hab : a.length = b.length
  · rw [if_neg (by simp [hab])]
    refine S_for a.length (fun i => ⟨[(0, enc a), (1, enc b), (5, .s (.int .i64 i))], []⟩) (fun i => decide (a = b) = decide (a.drop i = b.drop i)) (by simp) ?_ (fun i hi hv => S_run [] 800 ?_)
    · simp only [V, cc, bE, bN, bR, cV, cT, gt, lk, co, cC, cJ, cd, ca, bV, bV.subCs, cO, bu, bF, bZ, aV, bt, bh, aW, bM, bK, aH, a7, aX, cr, dd, cY, aq, aw, bT, cI, cb, cP, cU, aP, am, bQ, bJ, zC, argS, bO, ce, da, cR, ai, aE, aO, aA, cG, leC, cn, b0, bW, dc, bX, aR, aF, cZ, ah, cL, bf, bf.viewCs, bA, bA.flatCs, aK, aK.LensOks, Value.oneCell', ↓reduceIte, ite_true, ite_false, if_true, if_false, Nat.reduceAdd, Nat.reduceSub, Nat.reduceMul, Nat.reduceEqDiff, Nat.reduceLT, Nat.reduceLeDiff, reduceCtorEq, Int.reduceToNat, forall_const, implies_true, a6, Ent.mk3, bw, bC, bB, bk, bl, bo, bH, bL, bg, be, bz, cH, bn, cQ, rn, bS, bS.renCs, aI, aN, aY, aY.viewOks, aJ, bm, bm.flatBs, aG, an, av, ar, az, bq, bq.keysBs, aT, ap, bj, cp, bD, cg, af, af.passKs, aD, aL, ae, ae.lendKs, cM, cq, cz, bG, setInn, ag, cN, db, ay, br, bP, cj, aC, aU, Glob.gl, ax, cK, aZ, cm, bv, aj, cD, cS, cB, cW, cu, au, au.ptrOnlys, ak, aM, bY, aB, bI, a8, bU, aQ, bp, cF, Nat.reduceBEq, undef]; simp
    · delta c17l1
      simp (maxSteps := 4000000) -implicitDefEqProofs only [Ent.of0, Ent.of1, Ent.of2, Ent.of3, V, cc, bE, bN, bR, cV, cT, gt, lk, co, cC, cJ, cd, ca, bV, bV.subCs, cO, bu, bF, bZ, aV, bt, bh, aW, bM, bK, aH, a7, aX, cr, dd, cY, aq, aw, bT, cI, cb, cP, cU, aP, am, bQ, bJ, zC, argS, bO, ce, da, cR, ai, aE, aO, aA, cG, leC, cn, b0, bW, dc, bX, aR, aF, cZ, ah, cL, bf, bf.viewCs, bA, bA.flatCs, aK, aK.LensOks, Value.oneCell', ↓reduceIte, ite_true, ite_false, if_true, if_false, Nat.reduceAdd, Nat.reduceSub, Nat.reduceMul, Nat.reduceEqDiff, Nat.reduceLT, Nat.reduceLeDiff, reduceCtorEq, Int.reduceToNat, forall_const, implies_true, a6, Ent.mk3, bw, bC, bB, bk, bl, bo, bH, bL, bg, be, bz, cH, bn, cQ, rn, bS, bS.renCs, aI, aN, aY, aY.viewOks, aJ, bm, bm.flatBs, aG, an, av, ar, az, bq, bq.keysBs, aT, ap, bj, cp, bD, cg, af, af.passKs, aD, aL, ae, ae.lendKs, cM, cq, cz, bG, setInn, ag, cN, db, ay, br, bP, cj, aC, aU, Glob.gl, ax, cK, aZ, cm, bv, aj, cD, cS, cB, cW, cu, au, au.ptrOnlys, ak, aM, bY, aB, bI, a8, bU, aQ, bp, cF, Nat.reduceBEq, undef]
      by_cases h : i < a.length
      · rw [drop_getD 0 h, drop_getD 0 (by omega : i < b.length)] at hv
        rw [if_pos (by omega)]
        refine ⟨⟨by omega, by omega⟩, ⟨by omega, by omega⟩, ?_⟩
        simp only [InR]
        grind
      · rw [if_neg (by omega), hv, List.drop_eq_nil_of_le (by omega), List.drop_eq_nil_of_le (by omega)]; simp
  · rw [if_pos (by omega)]
    grind
def ent17 : Ent Tryz.prog := .of2 17 (fun _ _ => True) (fun a b : List Int => enc (decide (a = b))) (fun _ _ => trivial) (fun a b _ => Ints_c a b)
theorem Gausses_c (a b : List Gs) : FC Tryz.prog 10 [enc a, enc b] [] (enc (decide (a = b))) [] := by
  refine fc_intro' is10 (by simp) (fun cx hl => S_run [] 800 ?_)
  simp only [V, cc, bE, bN, bR, cV, cT, gt, lk, co, cC, cJ, cd, ca, bV, bV.subCs, cO, bu, bF, bZ, aV, bt, bh, aW, bM, bK, aH, a7, aX, cr, dd, cY, aq, aw, bT, cI, cb, cP, cU, aP, am, bQ, bJ, zC, argS, bO, ce, da, cR, ai, aE, aO, aA, cG, leC, cn, b0, bW, dc, bX, aR, aF, cZ, ah, cL, bf, bf.viewCs, bA, bA.flatCs, aK, aK.LensOks, Value.oneCell', ↓reduceIte, ite_true, ite_false, if_true, if_false, Nat.reduceAdd, Nat.reduceSub, Nat.reduceMul, Nat.reduceEqDiff, Nat.reduceLT, Nat.reduceLeDiff, reduceCtorEq, Int.reduceToNat, forall_const, implies_true, a6, Ent.mk3, bw, bC, bB, bk, bl, bo, bH, bL, bg, be, bz, cH, bn, cQ, rn, bS, bS.renCs, aI, aN, aY, aY.viewOks, aJ, bm, bm.flatBs, aG, an, av, ar, az, bq, bq.keysBs, aT, ap, bj, cp, bD, cg, af, af.passKs, aD, aL, ae, ae.lendKs, cM, cq, cz, bG, setInn, ag, cN, db, ay, br, bP, cj, aC, aU, Glob.gl, ax, cK, aZ, cm, bv, aj, cD, cS, cB, cW, cu, au, au.ptrOnlys, ak, aM, bY, aB, bI, a8, bU, aQ, bp, cF, Nat.reduceBEq, undef] at hl
  have hlen := hl.1.list
  delta c10
  simp (maxSteps := 4000000) -implicitDefEqProofs only [rv10, Ent.of0, Ent.of1, Ent.of2, Ent.of3, V, cc, bE, bN, bR, cV, cT, gt, lk, co, cC, cJ, cd, ca, bV, bV.subCs, cO, bu, bF, bZ, aV, bt, bh, aW, bM, bK, aH, a7, aX, cr, dd, cY, aq, aw, bT, cI, cb, cP, cU, aP, am, bQ, bJ, zC, argS, bO, ce, da, cR, ai, aE, aO, aA, cG, leC, cn, b0, bW, dc, bX, aR, aF, cZ, ah, cL, bf, bf.viewCs, bA, bA.flatCs, aK, aK.LensOks, Value.oneCell', ↓reduceIte, ite_true, ite_false, if_true, if_false, Nat.reduceAdd, Nat.reduceSub, Nat.reduceMul, Nat.reduceEqDiff, Nat.reduceLT, Nat.reduceLeDiff, reduceCtorEq, Int.reduceToNat, forall_const, implies_true, a6, Ent.mk3, bw, bC, bB, bk, bl, bo, bH, bL, bg, be, bz, cH, bn, cQ, rn, bS, bS.renCs, aI, aN, aY, aY.viewOks, aJ, bm, bm.flatBs, aG, an, av, ar, az, bq, bq.keysBs, aT, ap, bj, cp, bD, cg, af, af.passKs, aD, aL, ae, ae.lendKs, cM, cq, cz, bG, setInn, ag, cN, db, ay, br, bP, cj, aC, aU, Glob.gl, ax, cK, aZ, cm, bv, aj, cD, cS, cB, cW, cu, au, au.ptrOnlys, ak, aM, bY, aB, bI, a8, bU, aQ, bp, cF, Nat.reduceBEq, undef]
  by_cases hab : a.length = b.length
  · rw [if_neg (by simp [hab])]
    refine S_for a.length (fun i => ⟨[(0, enc a), (1, enc b), (5, .s (.int .i64 i))], []⟩) (fun i => decide (a = b) = decide (a.drop i = b.drop i)) (by simp) ?_ (fun i hi hv => S_run [] 800 ?_)
    · simp only [V, cc, bE, bN, bR, cV, cT, gt, lk, co, cC, cJ, cd, ca, bV, bV.subCs, cO, bu, bF, bZ, aV, bt, bh, aW, bM, bK, aH, a7, aX, cr, dd, cY, aq, aw, bT, cI, cb, cP, cU, aP, am, bQ, bJ, zC, argS, bO, ce, da, cR, ai, aE, aO, aA, cG, leC, cn, b0, bW, dc, bX, aR, aF, cZ, ah, cL, bf, bf.viewCs, bA, bA.flatCs, aK, aK.LensOks, Value.oneCell', ↓reduceIte, ite_true, ite_false, if_true, if_false, Nat.reduceAdd, Nat.reduceSub, Nat.reduceMul, Nat.reduceEqDiff, Nat.reduceLT, Nat.reduceLeDiff, reduceCtorEq, Int.reduceToNat, forall_const, implies_true, a6, Ent.mk3, bw, bC, bB, bk, bl, bo, bH, bL, bg, be, bz, cH, bn, cQ, rn, bS, bS.renCs, aI, aN, aY, aY.viewOks, aJ, bm, bm.flatBs, aG, an, av, ar, az, bq, bq.keysBs, aT, ap, bj, cp, bD, cg, af, af.passKs, aD, aL, ae, ae.lendKs, cM, cq, cz, bG, setInn, ag, cN, db, ay, br, bP, cj, aC, aU, Glob.gl, ax, cK, aZ, cm, bv, aj, cD, cS, cB, cW, cu, au, au.ptrOnlys, ak, aM, bY, aB, bI, a8, bU, aQ, bp, cF, Nat.reduceBEq, undef]; simp
    · delta c10l1
      simp (maxSteps := 4000000) -implicitDefEqProofs only [InR, Ent.of0, Ent.of1, Ent.of2, Ent.of3, V, cc, bE, bN, bR, cV, cT, gt, lk, co, cC, cJ, cd, ca, bV, bV.subCs, cO, bu, bF, bZ, aV, bt, bh, aW, bM, bK, aH, a7, aX, cr, dd, cY, aq, aw, bT, cI, cb, cP, cU, aP, am, bQ, bJ, zC, argS, bO, ce, da, cR, ai, aE, aO, aA, cG, leC, cn, b0, bW, dc, bX, aR, aF, cZ, ah, cL, bf, bf.viewCs, bA, bA.flatCs, aK, aK.LensOks, Value.oneCell', ↓reduceIte, ite_true, ite_false, if_true, if_false, Nat.reduceAdd, Nat.reduceSub, Nat.reduceMul, Nat.reduceEqDiff, Nat.reduceLT, Nat.reduceLeDiff, reduceCtorEq, Int.reduceToNat, forall_const, implies_true, a6, Ent.mk3, bw, bC, bB, bk, bl, bo, bH, bL, bg, be, bz, cH, bn, cQ, rn, bS, bS.renCs, aI, aN, aY, aY.viewOks, aJ, bm, bm.flatBs, aG, an, av, ar, az, bq, bq.keysBs, aT, ap, bj, cp, bD, cg, af, af.passKs, aD, aL, ae, ae.lendKs, cM, cq, cz, bG, setInn, ag, cN, db, ay, br, bP, cj, aC, aU, Glob.gl, ax, cK, aZ, cm, bv, aj, cD, cS, cB, cW, cu, au, au.ptrOnlys, ak, aM, bY, aB, bI, a8, bU, aQ, bp, cF, Nat.reduceBEq, undef]
      by_cases h : i < a.length
      · rw [drop_getD ⟨0, 0⟩ h, drop_getD ⟨0, 0⟩ (by omega : i < b.length)] at hv
        have e : ∀ x y : Gs, x = y ↔ x.re = y.re ∧ x.im = y.im := fun x y => by cases x; cases y; simp
        grind
      · rw [if_neg (by omega), hv, List.drop_eq_nil_of_le (by omega), List.drop_eq_nil_of_le (by omega)]; simp
  · rw [if_pos (by omega)]
    grind
def ent10 : Ent Tryz.prog := .of2 10 (fun _ _ => True) (fun a b : List Gs => enc (decide (a = b))) (fun _ _ => trivial) (fun a b _ => Gausses_c a b)
end Go.Proofs.YtfgpbmjmoobcnaaGreatDoor
end
section
open Go Go.Am
open Go.Am.Dat (cells)
namespace Go.Proofs.YtfgpbmjmoobcnaaGreatDoor
set_option maxHeartbeats 1000000
set_option linter.unusedSimpArgs false
def bitsErrS (l : List Int) : Int := if l.length = 0 then 10 else if l.length > 400 then 8 else if l.all (fun b => decide (b = 0 ∨ b = 1)) then 0 else 15
theorem CopyGausses_c (l : List Gs) (h : l.length ≤ 1000000) : FC Tryz.prog 6 [enc l] [] (enc l) [] := by
  refine fc_intro' is6 (by simp) (fun cx hl => S_run [] 800 ?_)
  delta c6
  simp (maxSteps := 4000000) -implicitDefEqProofs only [rv6, Ent.of0, Ent.of1, Ent.of2, Ent.of3, V, cc, bE, bN, bR, cV, cT, gt, lk, co, cC, cJ, cd, ca, bV, bV.subCs, cO, bu, bF, bZ, aV, bt, bh, aW, bM, bK, aH, a7, aX, cr, dd, cY, aq, aw, bT, cI, cb, cP, cU, aP, am, bQ, bJ, zC, argS, bO, ce, da, cR, ai, aE, aO, aA, cG, leC, cn, b0, bW, dc, bX, aR, aF, cZ, ah, cL, bf, bf.viewCs, bA, bA.flatCs, aK, aK.LensOks, Value.oneCell', ↓reduceIte, ite_true, ite_false, if_true, if_false, Nat.reduceAdd, Nat.reduceSub, Nat.reduceMul, Nat.reduceEqDiff, Nat.reduceLT, Nat.reduceLeDiff, reduceCtorEq, Int.reduceToNat, forall_const, implies_true, a6, Ent.mk3, bw, bC, bB, bk, bl, bo, bH, bL, bg, be, bz, cH, bn, cQ, rn, bS, bS.renCs, aI, aN, aY, aY.viewOks, aJ, bm, bm.flatBs, aG, an, av, ar, az, bq, bq.keysBs, aT, ap, bj, cp, bD, cg, af, af.passKs, aD, aL, ae, ae.lendKs, cM, cq, cz, bG, setInn, ag, cN, db, ay, br, bP, cj, aC, aU, Glob.gl, ax, cK, aZ, cm, bv, aj, cD, cS, cB, cW, cu, au, au.ptrOnlys, ak, aM, bY, aB, bI, a8, bU, aQ, bp, cF, Nat.reduceBEq, undef]
  omega
def ent6 : Ent Tryz.prog := .of1 6 (fun l => l.length ≤ 1000000) (fun l : List Gs => enc l) (fun _ => trivial) (fun l h => CopyGausses_c l h)
end Go.Proofs.YtfgpbmjmoobcnaaGreatDoor
end
section
open Go Go.Am
open Go.Am.Dat (cells)
namespace Go.Proofs.YtfgpbmjmoobcnaaGreatDoor
set_option maxHeartbeats 1000000
set_option linter.unusedSimpArgs false
theorem SameAll_c (a b : List (List Gs)) : FC Tryz.prog 18 [enc a, enc b] [] (enc (decide (a = b))) [] := by
  refine fc_intro' is18 (by simp) (fun cx hl => S_run [] 800 ?_)
  simp only [V, cc, bE, bN, bR, cV, cT, gt, lk, co, cC, cJ, cd, ca, bV, bV.subCs, cO, bu, bF, bZ, aV, bt, bh, aW, bM, bK, aH, a7, aX, cr, dd, cY, aq, aw, bT, cI, cb, cP, cU, aP, am, bQ, bJ, zC, argS, bO, ce, da, cR, ai, aE, aO, aA, cG, leC, cn, b0, bW, dc, bX, aR, aF, cZ, ah, cL, bf, bf.viewCs, bA, bA.flatCs, aK, aK.LensOks, Value.oneCell', ↓reduceIte, ite_true, ite_false, if_true, if_false, Nat.reduceAdd, Nat.reduceSub, Nat.reduceMul, Nat.reduceEqDiff, Nat.reduceLT, Nat.reduceLeDiff, reduceCtorEq, Int.reduceToNat, forall_const, implies_true, a6, Ent.mk3, bw, bC, bB, bk, bl, bo, bH, bL, bg, be, bz, cH, bn, cQ, rn, bS, bS.renCs, aI, aN, aY, aY.viewOks, aJ, bm, bm.flatBs, aG, an, av, ar, az, bq, bq.keysBs, aT, ap, bj, cp, bD, cg, af, af.passKs, aD, aL, ae, ae.lendKs, cM, cq, cz, bG, setInn, ag, cN, db, ay, br, bP, cj, aC, aU, Glob.gl, ax, cK, aZ, cm, bv, aj, cD, cS, cB, cW, cu, au, au.ptrOnlys, ak, aM, bY, aB, bI, a8, bU, aQ, bp, cF, Nat.reduceBEq, undef] at hl
  have hlen := hl.1.list
  delta c18
  simp (maxSteps := 4000000) -implicitDefEqProofs only [rv18, Ent.of0, Ent.of1, Ent.of2, Ent.of3, V, cc, bE, bN, bR, cV, cT, gt, lk, co, cC, cJ, cd, ca, bV, bV.subCs, cO, bu, bF, bZ, aV, bt, bh, aW, bM, bK, aH, a7, aX, cr, dd, cY, aq, aw, bT, cI, cb, cP, cU, aP, am, bQ, bJ, zC, argS, bO, ce, da, cR, ai, aE, aO, aA, cG, leC, cn, b0, bW, dc, bX, aR, aF, cZ, ah, cL, bf, bf.viewCs, bA, bA.flatCs, aK, aK.LensOks, Value.oneCell', ↓reduceIte, ite_true, ite_false, if_true, if_false, Nat.reduceAdd, Nat.reduceSub, Nat.reduceMul, Nat.reduceEqDiff, Nat.reduceLT, Nat.reduceLeDiff, reduceCtorEq, Int.reduceToNat, forall_const, implies_true, a6, Ent.mk3, bw, bC, bB, bk, bl, bo, bH, bL, bg, be, bz, cH, bn, cQ, rn, bS, bS.renCs, aI, aN, aY, aY.viewOks, aJ, bm, bm.flatBs, aG, an, av, ar, az, bq, bq.keysBs, aT, ap, bj, cp, bD, cg, af, af.passKs, aD, aL, ae, ae.lendKs, cM, cq, cz, bG, setInn, ag, cN, db, ay, br, bP, cj, aC, aU, Glob.gl, ax, cK, aZ, cm, bv, aj, cD, cS, cB, cW, cu, au, au.ptrOnlys, ak, aM, bY, aB, bI, a8, bU, aQ, bp, cF, Nat.reduceBEq, undef]
  by_cases hab : a.length = b.length
  · rw [if_neg (by simp [hab])]
    refine S_for a.length (fun i => ⟨[(0, enc a), (1, enc b), (5, .s (.int .i64 i))], []⟩) (fun i => decide (a = b) = decide (a.drop i = b.drop i)) (by simp) ?_ (fun i hi hv => S_run [ent10] 800 ?_)
    · simp (maxSteps := 4000000) -implicitDefEqProofs only [Ent.of0, Ent.of1, Ent.of2, Ent.of3, V, cc, bE, bN, bR, cV, cT, gt, lk, co, cC, cJ, cd, ca, bV, bV.subCs, cO, bu, bF, bZ, aV, bt, bh, aW, bM, bK, aH, a7, aX, cr, dd, cY, aq, aw, bT, cI, cb, cP, cU, aP, am, bQ, bJ, zC, argS, bO, ce, da, cR, ai, aE, aO, aA, cG, leC, cn, b0, bW, dc, bX, aR, aF, cZ, ah, cL, bf, bf.viewCs, bA, bA.flatCs, aK, aK.LensOks, Value.oneCell', ↓reduceIte, ite_true, ite_false, if_true, if_false, Nat.reduceAdd, Nat.reduceSub, Nat.reduceMul, Nat.reduceEqDiff, Nat.reduceLT, Nat.reduceLeDiff, reduceCtorEq, Int.reduceToNat, forall_const, implies_true, a6, Ent.mk3, bw, bC, bB, bk, bl, bo, bH, bL, bg, be, bz, cH, bn, cQ, rn, bS, bS.renCs, aI, aN, aY, aY.viewOks, aJ, bm, bm.flatBs, aG, an, av, ar, az, bq, bq.keysBs, aT, ap, bj, cp, bD, cg, af, af.passKs, aD, aL, ae, ae.lendKs, cM, cq, cz, bG, setInn, ag, cN, db, ay, br, bP, cj, aC, aU, Glob.gl, ax, cK, aZ, cm, bv, aj, cD, cS, cB, cW, cu, au, au.ptrOnlys, ak, aM, bY, aB, bI, a8, bU, aQ, bp, cF, Nat.reduceBEq, undef]; simp
    · by_cases h : i < a.length
      · have hb : i < b.length := by omega
        delta c18l1
        simp (maxSteps := 4000000) -implicitDefEqProofs only [getD_list, h, hb, ent10, InR, Ent.of0, Ent.of1, Ent.of2, Ent.of3, V, cc, bE, bN, bR, cV, cT, gt, lk, co, cC, cJ, cd, ca, bV, bV.subCs, cO, bu, bF, bZ, aV, bt, bh, aW, bM, bK, aH, a7, aX, cr, dd, cY, aq, aw, bT, cI, cb, cP, cU, aP, am, bQ, bJ, zC, argS, bO, ce, da, cR, ai, aE, aO, aA, cG, leC, cn, b0, bW, dc, bX, aR, aF, cZ, ah, cL, bf, bf.viewCs, bA, bA.flatCs, aK, aK.LensOks, Value.oneCell', ↓reduceIte, ite_true, ite_false, if_true, if_false, Nat.reduceAdd, Nat.reduceSub, Nat.reduceMul, Nat.reduceEqDiff, Nat.reduceLT, Nat.reduceLeDiff, reduceCtorEq, Int.reduceToNat, forall_const, implies_true, a6, Ent.mk3, bw, bC, bB, bk, bl, bo, bH, bL, bg, be, bz, cH, bn, cQ, rn, bS, bS.renCs, aI, aN, aY, aY.viewOks, aJ, bm, bm.flatBs, aG, an, av, ar, az, bq, bq.keysBs, aT, ap, bj, cp, bD, cg, af, af.passKs, aD, aL, ae, ae.lendKs, cM, cq, cz, bG, setInn, ag, cN, db, ay, br, bP, cj, aC, aU, Glob.gl, ax, cK, aZ, cm, bv, aj, cD, cS, cB, cW, cu, au, au.ptrOnlys, ak, aM, bY, aB, bI, a8, bU, aQ, bp, cF, Nat.reduceBEq, undef]
        rw [drop_getD [] h, drop_getD [] hb] at hv
        grind
      · have : i = a.length := by omega
        subst this
        delta c18l1
        simp (maxSteps := 4000000) -implicitDefEqProofs only [Ent.of0, Ent.of1, Ent.of2, Ent.of3, V, cc, bE, bN, bR, cV, cT, gt, lk, co, cC, cJ, cd, ca, bV, bV.subCs, cO, bu, bF, bZ, aV, bt, bh, aW, bM, bK, aH, a7, aX, cr, dd, cY, aq, aw, bT, cI, cb, cP, cU, aP, am, bQ, bJ, zC, argS, bO, ce, da, cR, ai, aE, aO, aA, cG, leC, cn, b0, bW, dc, bX, aR, aF, cZ, ah, cL, bf, bf.viewCs, bA, bA.flatCs, aK, aK.LensOks, Value.oneCell', ↓reduceIte, ite_true, ite_false, if_true, if_false, Nat.reduceAdd, Nat.reduceSub, Nat.reduceMul, Nat.reduceEqDiff, Nat.reduceLT, Nat.reduceLeDiff, reduceCtorEq, Int.reduceToNat, forall_const, implies_true, a6, Ent.mk3, bw, bC, bB, bk, bl, bo, bH, bL, bg, be, bz, cH, bn, cQ, rn, bS, bS.renCs, aI, aN, aY, aY.viewOks, aJ, bm, bm.flatBs, aG, an, av, ar, az, bq, bq.keysBs, aT, ap, bj, cp, bD, cg, af, af.passKs, aD, aL, ae, ae.lendKs, cM, cq, cz, bG, setInn, ag, cN, db, ay, br, bP, cj, aC, aU, Glob.gl, ax, cK, aZ, cm, bv, aj, cD, cS, cB, cW, cu, au, au.ptrOnlys, ak, aM, bY, aB, bI, a8, bU, aQ, bp, cF, Nat.reduceBEq, undef]
        rw [hv, List.drop_eq_nil_of_le (by omega), List.drop_eq_nil_of_le (by omega)]; simp
  · rw [if_pos (by omega)]
    grind
def ent18 : Ent Tryz.prog := .of2 18 (fun _ _ => True) (fun a b : List (List Gs) => enc (decide (a = b))) (fun _ _ => trivial) (fun a b _ => SameAll_c a b)
def symErr (l : List Gs) : Int := if l.length = 0 then 10 else if l.length > 200 then 8 else if l.all (smallG · 100000000) then 0 else 2
theorem SymbolsErr_c (l : List Gs) : FC Tryz.prog 11 [enc l] [] (enc (symErr l)) [] := by
  refine fc_intro' is11 (by simp) (fun cx hl => S_run [] 800 ?_)
  simp only [V, cc, bE, bN, bR, cV, cT, gt, lk, co, cC, cJ, cd, ca, bV, bV.subCs, cO, bu, bF, bZ, aV, bt, bh, aW, bM, bK, aH, a7, aX, cr, dd, cY, aq, aw, bT, cI, cb, cP, cU, aP, am, bQ, bJ, zC, argS, bO, ce, da, cR, ai, aE, aO, aA, cG, leC, cn, b0, bW, dc, bX, aR, aF, cZ, ah, cL, bf, bf.viewCs, bA, bA.flatCs, aK, aK.LensOks, Value.oneCell', ↓reduceIte, ite_true, ite_false, if_true, if_false, Nat.reduceAdd, Nat.reduceSub, Nat.reduceMul, Nat.reduceEqDiff, Nat.reduceLT, Nat.reduceLeDiff, reduceCtorEq, Int.reduceToNat, forall_const, implies_true, a6, Ent.mk3, bw, bC, bB, bk, bl, bo, bH, bL, bg, be, bz, cH, bn, cQ, rn, bS, bS.renCs, aI, aN, aY, aY.viewOks, aJ, bm, bm.flatBs, aG, an, av, ar, az, bq, bq.keysBs, aT, ap, bj, cp, bD, cg, af, af.passKs, aD, aL, ae, ae.lendKs, cM, cq, cz, bG, setInn, ag, cN, db, ay, br, bP, cj, aC, aU, Glob.gl, ax, cK, aZ, cm, bv, aj, cD, cS, cB, cW, cu, au, au.ptrOnlys, ak, aM, bY, aB, bI, a8, bU, aQ, bp, cF, Nat.reduceBEq, undef] at hl
  have hlen := hl.list
  delta c11
  simp (maxSteps := 4000000) -implicitDefEqProofs only [rv11, Ent.of0, Ent.of1, Ent.of2, Ent.of3, V, cc, bE, bN, bR, cV, cT, gt, lk, co, cC, cJ, cd, ca, bV, bV.subCs, cO, bu, bF, bZ, aV, bt, bh, aW, bM, bK, aH, a7, aX, cr, dd, cY, aq, aw, bT, cI, cb, cP, cU, aP, am, bQ, bJ, zC, argS, bO, ce, da, cR, ai, aE, aO, aA, cG, leC, cn, b0, bW, dc, bX, aR, aF, cZ, ah, cL, bf, bf.viewCs, bA, bA.flatCs, aK, aK.LensOks, Value.oneCell', ↓reduceIte, ite_true, ite_false, if_true, if_false, Nat.reduceAdd, Nat.reduceSub, Nat.reduceMul, Nat.reduceEqDiff, Nat.reduceLT, Nat.reduceLeDiff, reduceCtorEq, Int.reduceToNat, forall_const, implies_true, a6, Ent.mk3, bw, bC, bB, bk, bl, bo, bH, bL, bg, be, bz, cH, bn, cQ, rn, bS, bS.renCs, aI, aN, aY, aY.viewOks, aJ, bm, bm.flatBs, aG, an, av, ar, az, bq, bq.keysBs, aT, ap, bj, cp, bD, cg, af, af.passKs, aD, aL, ae, ae.lendKs, cM, cq, cz, bG, setInn, ag, cN, db, ay, br, bP, cj, aC, aU, Glob.gl, ax, cK, aZ, cm, bv, aj, cD, cS, cB, cW, cu, au, au.ptrOnlys, ak, aM, bY, aB, bI, a8, bU, aQ, bp, cF, Nat.reduceBEq, undef]
  unfold symErr
  by_cases h0 : l.length = 0
  · simp [h0]
  by_cases h1 : l.length > 200
  · simp [h0, h1]; omega
  rw [if_neg (by omega), if_neg (by omega), if_neg h0, if_neg h1]
  refine S_for l.length (fun i => ⟨[(0, enc l), (3, .s (.int .i64 i))], []⟩) (fun i => l.all (smallG · 100000000) = (l.drop i).all (smallG · 100000000)) (by simp) ?_ (fun i hi hv => S_run [ent28] 800 ?_)
  · simp (maxSteps := 4000000) -implicitDefEqProofs only [Ent.of0, Ent.of1, Ent.of2, Ent.of3, V, cc, bE, bN, bR, cV, cT, gt, lk, co, cC, cJ, cd, ca, bV, bV.subCs, cO, bu, bF, bZ, aV, bt, bh, aW, bM, bK, aH, a7, aX, cr, dd, cY, aq, aw, bT, cI, cb, cP, cU, aP, am, bQ, bJ, zC, argS, bO, ce, da, cR, ai, aE, aO, aA, cG, leC, cn, b0, bW, dc, bX, aR, aF, cZ, ah, cL, bf, bf.viewCs, bA, bA.flatCs, aK, aK.LensOks, Value.oneCell', ↓reduceIte, ite_true, ite_false, if_true, if_false, Nat.reduceAdd, Nat.reduceSub, Nat.reduceMul, Nat.reduceEqDiff, Nat.reduceLT, Nat.reduceLeDiff, reduceCtorEq, Int.reduceToNat, forall_const, implies_true, a6, Ent.mk3, bw, bC, bB, bk, bl, bo, bH, bL, bg, be, bz, cH, bn, cQ, rn, bS, bS.renCs, aI, aN, aY, aY.viewOks, aJ, bm, bm.flatBs, aG, an, av, ar, az, bq, bq.keysBs, aT, ap, bj, cp, bD, cg, af, af.passKs, aD, aL, ae, ae.lendKs, cM, cq, cz, bG, setInn, ag, cN, db, ay, br, bP, cj, aC, aU, Glob.gl, ax, cK, aZ, cm, bv, aj, cD, cS, cB, cW, cu, au, au.ptrOnlys, ak, aM, bY, aB, bI, a8, bU, aQ, bp, cF, Nat.reduceBEq, undef]; simp
  · delta c11l1
    simp (maxSteps := 4000000) -implicitDefEqProofs only [ent28, InR, Ent.of0, Ent.of1, Ent.of2, Ent.of3, V, cc, bE, bN, bR, cV, cT, gt, lk, co, cC, cJ, cd, ca, bV, bV.subCs, cO, bu, bF, bZ, aV, bt, bh, aW, bM, bK, aH, a7, aX, cr, dd, cY, aq, aw, bT, cI, cb, cP, cU, aP, am, bQ, bJ, zC, argS, bO, ce, da, cR, ai, aE, aO, aA, cG, leC, cn, b0, bW, dc, bX, aR, aF, cZ, ah, cL, bf, bf.viewCs, bA, bA.flatCs, aK, aK.LensOks, Value.oneCell', ↓reduceIte, ite_true, ite_false, if_true, if_false, Nat.reduceAdd, Nat.reduceSub, Nat.reduceMul, Nat.reduceEqDiff, Nat.reduceLT, Nat.reduceLeDiff, reduceCtorEq, Int.reduceToNat, forall_const, implies_true, a6, Ent.mk3, bw, bC, bB, bk, bl, bo, bH, bL, bg, be, bz, cH, bn, cQ, rn, bS, bS.renCs, aI, aN, aY, aY.viewOks, aJ, bm, bm.flatBs, aG, an, av, ar, az, bq, bq.keysBs, aT, ap, bj, cp, bD, cg, af, af.passKs, aD, aL, ae, ae.lendKs, cM, cq, cz, bG, setInn, ag, cN, db, ay, br, bP, cj, aC, aU, Glob.gl, ax, cK, aZ, cm, bv, aj, cD, cS, cB, cW, cu, au, au.ptrOnlys, ak, aM, bY, aB, bI, a8, bU, aQ, bp, cF, Nat.reduceBEq, undef]
    by_cases h : i < l.length
    · rw [drop_getD ⟨0, 0⟩ h, List.all_cons] at hv
      grind
    · rw [List.drop_eq_nil_of_le (by omega)] at hv
      grind
def ent11 : Ent Tryz.prog := .of1 11 (fun _ => True) (fun l : List Gs => enc (symErr l)) (fun _ => trivial) (fun l _ => SymbolsErr_c l)
def idxOf (l : List Gs) (p : Gs → Bool) : Int := match l.findIdx? p with | some i => (i : Int) | none => -1
theorem IndexFuncG_c (f : FuncId) (p : Gs → Bool) (hf : ∀ g, FC Tryz.prog f [enc g] [] (enc (p g)) []) (l : List Gs) : FC Tryz.prog 84 [enc l, .fn (.func f) [] []] [] (enc (idxOf l p)) [] := by
  refine fc_intro' is84 (by simp) (fun cx hl => S_run [] 800 ?_)
  simp only [V, cc, bE, bN, bR, cV, cT, gt, lk, co, cC, cJ, cd, ca, bV, bV.subCs, cO, bu, bF, bZ, aV, bt, bh, aW, bM, bK, aH, a7, aX, cr, dd, cY, aq, aw, bT, cI, cb, cP, cU, aP, am, bQ, bJ, zC, argS, bO, ce, da, cR, ai, aE, aO, aA, cG, leC, cn, b0, bW, dc, bX, aR, aF, cZ, ah, cL, bf, bf.viewCs, bA, bA.flatCs, aK, aK.LensOks, Value.oneCell', ↓reduceIte, ite_true, ite_false, if_true, if_false, Nat.reduceAdd, Nat.reduceSub, Nat.reduceMul, Nat.reduceEqDiff, Nat.reduceLT, Nat.reduceLeDiff, reduceCtorEq, Int.reduceToNat, forall_const, implies_true, a6, Ent.mk3, bw, bC, bB, bk, bl, bo, bH, bL, bg, be, bz, cH, bn, cQ, rn, bS, bS.renCs, aI, aN, aY, aY.viewOks, aJ, bm, bm.flatBs, aG, an, av, ar, az, bq, bq.keysBs, aT, ap, bj, cp, bD, cg, af, af.passKs, aD, aL, ae, ae.lendKs, cM, cq, cz, bG, setInn, ag, cN, db, ay, br, bP, cj, aC, aU, Glob.gl, ax, cK, aZ, cm, bv, aj, cD, cS, cB, cW, cu, au, au.ptrOnlys, ak, aM, bY, aB, bI, a8, bU, aQ, bp, cF, Nat.reduceBEq, undef] at hl
  have hlen := hl.list
  delta c84
  simp (maxSteps := 4000000) -implicitDefEqProofs only [rv84, Ent.of0, Ent.of1, Ent.of2, Ent.of3, V, cc, bE, bN, bR, cV, cT, gt, lk, co, cC, cJ, cd, ca, bV, bV.subCs, cO, bu, bF, bZ, aV, bt, bh, aW, bM, bK, aH, a7, aX, cr, dd, cY, aq, aw, bT, cI, cb, cP, cU, aP, am, bQ, bJ, zC, argS, bO, ce, da, cR, ai, aE, aO, aA, cG, leC, cn, b0, bW, dc, bX, aR, aF, cZ, ah, cL, bf, bf.viewCs, bA, bA.flatCs, aK, aK.LensOks, Value.oneCell', ↓reduceIte, ite_true, ite_false, if_true, if_false, Nat.reduceAdd, Nat.reduceSub, Nat.reduceMul, Nat.reduceEqDiff, Nat.reduceLT, Nat.reduceLeDiff, reduceCtorEq, Int.reduceToNat, forall_const, implies_true, a6, Ent.mk3, bw, bC, bB, bk, bl, bo, bH, bL, bg, be, bz, cH, bn, cQ, rn, bS, bS.renCs, aI, aN, aY, aY.viewOks, aJ, bm, bm.flatBs, aG, an, av, ar, az, bq, bq.keysBs, aT, ap, bj, cp, bD, cg, af, af.passKs, aD, aL, ae, ae.lendKs, cM, cq, cz, bG, setInn, ag, cN, db, ay, br, bP, cj, aC, aU, Glob.gl, ax, cK, aZ, cm, bv, aj, cD, cS, cB, cW, cu, au, au.ptrOnlys, ak, aM, bY, aB, bI, a8, bU, aQ, bp, cF, Nat.reduceBEq, undef]
  refine S_for l.length (fun i => ⟨[(0, enc l), (1, .fn (.func f) [] []), (7, .s (.int .i64 l.length)), (8, .s (.int .i64 i))], []⟩) (fun i => ∀ j, j < i → p (l.getD j ⟨0, 0⟩) = false) (by omega) ?_
    (fun i hi hv => S_run [.of1 f (fun _ => True) (fun g => enc (p g)) (fun _ => trivial) (fun g _ => hf g)] 800 ?_)
  · simp (maxSteps := 4000000) -implicitDefEqProofs only [Ent.of0, Ent.of1, Ent.of2, Ent.of3, V, cc, bE, bN, bR, cV, cT, gt, lk, co, cC, cJ, cd, ca, bV, bV.subCs, cO, bu, bF, bZ, aV, bt, bh, aW, bM, bK, aH, a7, aX, cr, dd, cY, aq, aw, bT, cI, cb, cP, cU, aP, am, bQ, bJ, zC, argS, bO, ce, da, cR, ai, aE, aO, aA, cG, leC, cn, b0, bW, dc, bX, aR, aF, cZ, ah, cL, bf, bf.viewCs, bA, bA.flatCs, aK, aK.LensOks, Value.oneCell', ↓reduceIte, ite_true, ite_false, if_true, if_false, Nat.reduceAdd, Nat.reduceSub, Nat.reduceMul, Nat.reduceEqDiff, Nat.reduceLT, Nat.reduceLeDiff, reduceCtorEq, Int.reduceToNat, forall_const, implies_true, a6, Ent.mk3, bw, bC, bB, bk, bl, bo, bH, bL, bg, be, bz, cH, bn, cQ, rn, bS, bS.renCs, aI, aN, aY, aY.viewOks, aJ, bm, bm.flatBs, aG, an, av, ar, az, bq, bq.keysBs, aT, ap, bj, cp, bD, cg, af, af.passKs, aD, aL, ae, ae.lendKs, cM, cq, cz, bG, setInn, ag, cN, db, ay, br, bP, cj, aC, aU, Glob.gl, ax, cK, aZ, cm, bv, aj, cD, cS, cB, cW, cu, au, au.ptrOnlys, ak, aM, bY, aB, bI, a8, bU, aQ, bp, cF, Nat.reduceBEq, undef]; simp
  · delta c84l1
    simp (maxSteps := 4000000) -implicitDefEqProofs only [InR, Ent.of0, Ent.of1, Ent.of2, Ent.of3, V, cc, bE, bN, bR, cV, cT, gt, lk, co, cC, cJ, cd, ca, bV, bV.subCs, cO, bu, bF, bZ, aV, bt, bh, aW, bM, bK, aH, a7, aX, cr, dd, cY, aq, aw, bT, cI, cb, cP, cU, aP, am, bQ, bJ, zC, argS, bO, ce, da, cR, ai, aE, aO, aA, cG, leC, cn, b0, bW, dc, bX, aR, aF, cZ, ah, cL, bf, bf.viewCs, bA, bA.flatCs, aK, aK.LensOks, Value.oneCell', ↓reduceIte, ite_true, ite_false, if_true, if_false, Nat.reduceAdd, Nat.reduceSub, Nat.reduceMul, Nat.reduceEqDiff, Nat.reduceLT, Nat.reduceLeDiff, reduceCtorEq, Int.reduceToNat, forall_const, implies_true, a6, Ent.mk3, bw, bC, bB, bk, bl, bo, bH, bL, bg, be, bz, cH, bn, cQ, rn, bS, bS.renCs, aI, aN, aY, aY.viewOks, aJ, bm, bm.flatBs, aG, an, av, ar, az, bq, bq.keysBs, aT, ap, bj, cp, bD, cg, af, af.passKs, aD, aL, ae, ae.lendKs, cM, cq, cz, bG, setInn, ag, cN, db, ay, br, bP, cj, aC, aU, Glob.gl, ax, cK, aZ, cm, bv, aj, cD, cS, cB, cW, cu, au, au.ptrOnlys, ak, aM, bY, aB, bI, a8, bU, aQ, bp, cF, Nat.reduceBEq, undef]
    by_cases h : i < l.length
    · rw [if_pos (by omega)]
      refine ⟨by omega, ?_⟩
      cases hp : p (l.getD i ⟨0, 0⟩) with
      | true =>
        simp only [if_true]
        have : l.findIdx? p = some i := by
          rw [List.findIdx?_eq_some_iff_getElem]
          rw [List.getD_eq_getElem?_getD, List.getElem?_eq_getElem h] at hp
          refine ⟨h, hp, fun j hj => ?_⟩
          have := hv j hj
          rw [List.getD_eq_getElem?_getD, List.getElem?_eq_getElem (by omega)] at this
          simpa using this
        simp [idxOf, this]
      | false =>
        simp only [Bool.false_eq_true, if_false]
        refine ⟨by omega, h, fun j hj => ?_, by omega⟩
        by_cases hj2 : j = i
        · rw [hj2]; exact hp
        · exact hv j (by omega)
    · rw [if_neg (by omega)]
      have : l.findIdx? p = none := by
        rw [List.findIdx?_eq_none_iff]
        intro x hx
        obtain ⟨j, hj, rfl⟩ := List.getElem_of_mem hx
        have := hv j (by omega)
        rwa [List.getD_eq_getElem?_getD, List.getElem?_eq_getElem hj] at this
      simp [idxOf, this]
theorem ContainsFuncG_c (f : FuncId) (p : Gs → Bool) (hf : ∀ g, FC Tryz.prog f [enc g] [] (enc (p g)) []) (l : List Gs) : FC Tryz.prog 58 [enc l, .fn (.func f) [] []] [] (enc (l.any p)) [] := by
  let e : Ent Tryz.prog := .mk3 84 (fun args chs => match args, chs with | [x, .fn (.func g) [] []], [] => if g = f then (decV x).bind fun l => some (True, enc (idxOf l p), [], []) else none | _, _ => none) (by
    intro args chs q r chs' nk h1 h2
    split at h1
    · split at h1
      · rename_i hg; subst hg
        simp only [Option.bind_eq_some_iff, Option.some.injEq, Prod.mk.injEq] at h1
        obtain ⟨a, ha, rfl, rfl, rfl, rfl⟩ := h1
        exact ⟨(IndexFuncG_c _ p hf a).le (args' := [_, _]) ⟨decV_ok ha, leC1_refl _, trivial⟩, .plain trivial⟩
      · cases h1
    · cases h1)
  refine fc_intro' is58 (by simp) (fun cx hl => S_run [e] 800 ?_)
  delta c58
  simp (maxSteps := 4000000) -implicitDefEqProofs only [rv58, e, Ent.of0, Ent.of1, Ent.of2, Ent.of3, V, cc, bE, bN, bR, cV, cT, gt, lk, co, cC, cJ, cd, ca, bV, bV.subCs, cO, bu, bF, bZ, aV, bt, bh, aW, bM, bK, aH, a7, aX, cr, dd, cY, aq, aw, bT, cI, cb, cP, cU, aP, am, bQ, bJ, zC, argS, bO, ce, da, cR, ai, aE, aO, aA, cG, leC, cn, b0, bW, dc, bX, aR, aF, cZ, ah, cL, bf, bf.viewCs, bA, bA.flatCs, aK, aK.LensOks, Value.oneCell', ↓reduceIte, ite_true, ite_false, if_true, if_false, Nat.reduceAdd, Nat.reduceSub, Nat.reduceMul, Nat.reduceEqDiff, Nat.reduceLT, Nat.reduceLeDiff, reduceCtorEq, Int.reduceToNat, forall_const, implies_true, a6, Ent.mk3, bw, bC, bB, bk, bl, bo, bH, bL, bg, be, bz, cH, bn, cQ, rn, bS, bS.renCs, aI, aN, aY, aY.viewOks, aJ, bm, bm.flatBs, aG, an, av, ar, az, bq, bq.keysBs, aT, ap, bj, cp, bD, cg, af, af.passKs, aD, aL, ae, ae.lendKs, cM, cq, cz, bG, setInn, ag, cN, db, ay, br, bP, cj, aC, aU, Glob.gl, ax, cK, aZ, cm, bv, aj, cD, cS, cB, cW, cu, au, au.ptrOnlys, ak, aM, bY, aB, bI, a8, bU, aQ, bp, cF, Nat.reduceBEq, undef]
  unfold idxOf
  cases hq : l.findIdx? p with
  | none =>
    rw [List.findIdx?_eq_none_iff] at hq
    have : l.any p = false := by simpa using hq
    simp [this]
  | some i =>
    rw [List.findIdx?_eq_some_iff_getElem] at hq
    obtain ⟨h1, h2, _⟩ := hq
    have : l.any p = true := List.any_eq_true.2 ⟨_, List.getElem_mem h1, h2⟩
    simp [this]
def eAny (f : FuncId) (p : Gs → Bool) (hf : ∀ g, FC Tryz.prog f [enc g] [] (enc (p g)) []) : Ent Tryz.prog := .mk3 58 (fun args chs => match args, chs with | [x, .fn (.func g) [] []], [] => if g = f then (decV x).bind fun l => some (True, enc (List.any l p), [], []) else none | _, _ => none) (by
    intro args chs q r chs' nk h1 h2
    split at h1
    · split at h1
      · rename_i hg; subst hg
        simp only [Option.bind_eq_some_iff, Option.some.injEq, Prod.mk.injEq] at h1
        obtain ⟨a, ha, rfl, rfl, rfl, rfl⟩ := h1
        exact ⟨(ContainsFuncG_c _ p hf a).le (args' := [_, _]) ⟨decV_ok ha, leC1_refl _, trivial⟩, .plain trivial⟩
      · cases h1
    · cases h1)
theorem closure140_c (g : Gs) : FC Tryz.prog 59 [enc g] [] (enc (!smallG g 100000000)) [] := by
  refine fc_intro' is59 (by simp) (fun cx hl => S_run [ent49] 800 ?_)
  delta c59
  simp (maxSteps := 4000000) -implicitDefEqProofs only [rv59, ent49, InR, Ent.of0, Ent.of1, Ent.of2, Ent.of3, V, cc, bE, bN, bR, cV, cT, gt, lk, co, cC, cJ, cd, ca, bV, bV.subCs, cO, bu, bF, bZ, aV, bt, bh, aW, bM, bK, aH, a7, aX, cr, dd, cY, aq, aw, bT, cI, cb, cP, cU, aP, am, bQ, bJ, zC, argS, bO, ce, da, cR, ai, aE, aO, aA, cG, leC, cn, b0, bW, dc, bX, aR, aF, cZ, ah, cL, bf, bf.viewCs, bA, bA.flatCs, aK, aK.LensOks, Value.oneCell', ↓reduceIte, ite_true, ite_false, if_true, if_false, Nat.reduceAdd, Nat.reduceSub, Nat.reduceMul, Nat.reduceEqDiff, Nat.reduceLT, Nat.reduceLeDiff, reduceCtorEq, Int.reduceToNat, forall_const, implies_true, a6, Ent.mk3, bw, bC, bB, bk, bl, bo, bH, bL, bg, be, bz, cH, bn, cQ, rn, bS, bS.renCs, aI, aN, aY, aY.viewOks, aJ, bm, bm.flatBs, aG, an, av, ar, az, bq, bq.keysBs, aT, ap, bj, cp, bD, cg, af, af.passKs, aD, aL, ae, ae.lendKs, cM, cq, cz, bG, setInn, ag, cN, db, ay, br, bP, cj, aC, aU, Glob.gl, ax, cK, aZ, cm, bv, aj, cD, cS, cB, cW, cu, au, au.ptrOnlys, ak, aM, bY, aB, bI, a8, bU, aQ, bp, cF, Nat.reduceBEq, undef]
  simp
theorem closure111_c (g : Gs) : FC Tryz.prog 89 [enc g] [] (enc (!smallG g 1000)) [] := by
  refine fc_intro' is89 (by simp) (fun cx hl => S_run [ent49] 800 ?_)
  delta c89
  simp (maxSteps := 4000000) -implicitDefEqProofs only [rv89, ent49, InR, Ent.of0, Ent.of1, Ent.of2, Ent.of3, V, cc, bE, bN, bR, cV, cT, gt, lk, co, cC, cJ, cd, ca, bV, bV.subCs, cO, bu, bF, bZ, aV, bt, bh, aW, bM, bK, aH, a7, aX, cr, dd, cY, aq, aw, bT, cI, cb, cP, cU, aP, am, bQ, bJ, zC, argS, bO, ce, da, cR, ai, aE, aO, aA, cG, leC, cn, b0, bW, dc, bX, aR, aF, cZ, ah, cL, bf, bf.viewCs, bA, bA.flatCs, aK, aK.LensOks, Value.oneCell', ↓reduceIte, ite_true, ite_false, if_true, if_false, Nat.reduceAdd, Nat.reduceSub, Nat.reduceMul, Nat.reduceEqDiff, Nat.reduceLT, Nat.reduceLeDiff, reduceCtorEq, Int.reduceToNat, forall_const, implies_true, a6, Ent.mk3, bw, bC, bB, bk, bl, bo, bH, bL, bg, be, bz, cH, bn, cQ, rn, bS, bS.renCs, aI, aN, aY, aY.viewOks, aJ, bm, bm.flatBs, aG, an, av, ar, az, bq, bq.keysBs, aT, ap, bj, cp, bD, cg, af, af.passKs, aD, aL, ae, ae.lendKs, cM, cq, cz, bG, setInn, ag, cN, db, ay, br, bP, cj, aC, aU, Glob.gl, ax, cK, aZ, cm, bv, aj, cD, cS, cB, cW, cu, au, au.ptrOnlys, ak, aM, bY, aB, bI, a8, bU, aQ, bp, cF, Nat.reduceBEq, undef]
  simp
theorem symbolsErr_c (l : List Gs) : FC Tryz.prog 24 [enc l] [] (enc (symErr l)) [] := by
  refine fc_intro' is24 (by simp) (fun cx hl => S_run [eAny 59 _ closure140_c, ent29, ent31] 800 ?_)
  delta c24
  simp (maxSteps := 4000000) -implicitDefEqProofs only [rv24, eAny, ent29, ent31, Ent.of0, Ent.of1, Ent.of2, Ent.of3, V, cc, bE, bN, bR, cV, cT, gt, lk, co, cC, cJ, cd, ca, bV, bV.subCs, cO, bu, bF, bZ, aV, bt, bh, aW, bM, bK, aH, a7, aX, cr, dd, cY, aq, aw, bT, cI, cb, cP, cU, aP, am, bQ, bJ, zC, argS, bO, ce, da, cR, ai, aE, aO, aA, cG, leC, cn, b0, bW, dc, bX, aR, aF, cZ, ah, cL, bf, bf.viewCs, bA, bA.flatCs, aK, aK.LensOks, Value.oneCell', ↓reduceIte, ite_true, ite_false, if_true, if_false, Nat.reduceAdd, Nat.reduceSub, Nat.reduceMul, Nat.reduceEqDiff, Nat.reduceLT, Nat.reduceLeDiff, reduceCtorEq, Int.reduceToNat, forall_const, implies_true, a6, Ent.mk3, bw, bC, bB, bk, bl, bo, bH, bL, bg, be, bz, cH, bn, cQ, rn, bS, bS.renCs, aI, aN, aY, aY.viewOks, aJ, bm, bm.flatBs, aG, an, av, ar, az, bq, bq.keysBs, aT, ap, bj, cp, bD, cg, af, af.passKs, aD, aL, ae, ae.lendKs, cM, cq, cz, bG, setInn, ag, cN, db, ay, br, bP, cj, aC, aU, Glob.gl, ax, cK, aZ, cm, bv, aj, cD, cS, cB, cW, cu, au, au.ptrOnlys, ak, aM, bY, aB, bI, a8, bU, aQ, bp, cF, Nat.reduceBEq, undef]
  have h : (List.any l fun g => !smallG g 100000000) = !(l.all (smallG · 100000000)) := by rw [List.not_all_eq_any_not]
  unfold symErr
  simp only [firstS, h]
  grind
def ent24 : Ent Tryz.prog := .of1 24 (fun _ => True) (fun l : List Gs => enc (symErr l)) (fun _ => trivial) (fun l _ => symbolsErr_c l)
end Go.Proofs.YtfgpbmjmoobcnaaGreatDoor
end
section
open Go Go.Am
open Go.Am.Dat (cells)
namespace Go.Proofs.YtfgpbmjmoobcnaaGreatDoor
set_option maxHeartbeats 4000000
set_option maxRecDepth 20000
set_option linter.unusedSimpArgs false
def layErr (m : List (List Gs)) : Int :=
  if m.length = 0 then 10 else if m.length > 4 then 8 else firstS (m.map fun r => if symErr r ≠ 0 then symErr r else if r.length ≠ (m.getD 0 []).length then 13 else 0)
theorem layersErr_c (m : List (List Gs)) : FC Tryz.prog 43 [enc m] [] (enc (layErr m)) [] := by
  refine fc_intro' is43 (by simp) (fun cx hl => S_run [ent29, ent31] 800 ?_)
  delta c43
  simp (maxSteps := 4000000) -implicitDefEqProofs only [rv43, ent29, ent31, Ent.of0, Ent.of1, Ent.of2, Ent.of3, V, cc, bE, bN, bR, cV, cT, gt, lk, co, cC, cJ, cd, ca, bV, bV.subCs, cO, bu, bF, bZ, aV, bt, bh, aW, bM, bK, aH, a7, aX, cr, dd, cY, aq, aw, bT, cI, cb, cP, cU, aP, am, bQ, bJ, zC, argS, bO, ce, da, cR, ai, aE, aO, aA, cG, leC, cn, b0, bW, dc, bX, aR, aF, cZ, ah, cL, bf, bf.viewCs, bA, bA.flatCs, aK, aK.LensOks, Value.oneCell', ↓reduceIte, ite_true, ite_false, if_true, if_false, Nat.reduceAdd, Nat.reduceSub, Nat.reduceMul, Nat.reduceEqDiff, Nat.reduceLT, Nat.reduceLeDiff, reduceCtorEq, Int.reduceToNat, forall_const, implies_true, a6, Ent.mk3, bw, bC, bB, bk, bl, bo, bH, bL, bg, be, bz, cH, bn, cQ, rn, bS, bS.renCs, aI, aN, aY, aY.viewOks, aJ, bm, bm.flatBs, aG, an, av, ar, az, bq, bq.keysBs, aT, ap, bj, cp, bD, cg, af, af.passKs, aD, aL, ae, ae.lendKs, cM, cq, cz, bG, setInn, ag, cN, db, ay, br, bP, cj, aC, aU, Glob.gl, ax, cK, aZ, cm, bv, aj, cD, cS, cB, cW, cu, au, au.ptrOnlys, ak, aM, bY, aB, bI, a8, bU, aQ, bp, cF, Nat.reduceBEq, undef]
  unfold layErr
  by_cases h0 : m.length = 0
  · simp [h0, firstS]
  by_cases h1 : m.length > 4
  · have : ¬ m.length ≤ 4 := by omega
    simp only [firstS]
    grind
  have h2 : m.length ≤ 4 := by omega
  rw [if_neg (by simp [firstS]; omega), if_neg h0, if_neg h1]
  generalize hf : (fun r : List Gs => if symErr r ≠ 0 then symErr r else if r.length ≠ (m.getD 0 []).length then 13 else 0) = f
  refine S_for m.length (fun i => ⟨[(0, enc m), (20, enc m), (21, .s (.int .i64 m.length)), (22, .s (.int .i64 i))], []⟩) (fun i => firstS (m.map f) = firstS ((m.drop i).map f)) (by simp) ?_ (fun i hi hv => S_run [ent29, ent31, ent24] 800 ?_)
  · simp (maxSteps := 4000000) -implicitDefEqProofs only [Ent.of0, Ent.of1, Ent.of2, Ent.of3, V, cc, bE, bN, bR, cV, cT, gt, lk, co, cC, cJ, cd, ca, bV, bV.subCs, cO, bu, bF, bZ, aV, bt, bh, aW, bM, bK, aH, a7, aX, cr, dd, cY, aq, aw, bT, cI, cb, cP, cU, aP, am, bQ, bJ, zC, argS, bO, ce, da, cR, ai, aE, aO, aA, cG, leC, cn, b0, bW, dc, bX, aR, aF, cZ, ah, cL, bf, bf.viewCs, bA, bA.flatCs, aK, aK.LensOks, Value.oneCell', ↓reduceIte, ite_true, ite_false, if_true, if_false, Nat.reduceAdd, Nat.reduceSub, Nat.reduceMul, Nat.reduceEqDiff, Nat.reduceLT, Nat.reduceLeDiff, reduceCtorEq, Int.reduceToNat, forall_const, implies_true, a6, Ent.mk3, bw, bC, bB, bk, bl, bo, bH, bL, bg, be, bz, cH, bn, cQ, rn, bS, bS.renCs, aI, aN, aY, aY.viewOks, aJ, bm, bm.flatBs, aG, an, av, ar, az, bq, bq.keysBs, aT, ap, bj, cp, bD, cg, af, af.passKs, aD, aL, ae, ae.lendKs, cM, cq, cz, bG, setInn, ag, cN, db, ay, br, bP, cj, aC, aU, Glob.gl, ax, cK, aZ, cm, bv, aj, cD, cS, cB, cW, cu, au, au.ptrOnlys, ak, aM, bY, aB, bI, a8, bU, aQ, bp, cF, Nat.reduceBEq, undef]; simp
  · by_cases h : i < m.length
    · have h3 : 0 < m.length := by omega
      delta c43l1
      simp (maxSteps := 4000000) -implicitDefEqProofs only [ent29, ent31, ent24, InR, getD_list, h, h3, firstS, Ent.of0, Ent.of1, Ent.of2, Ent.of3, V, cc, bE, bN, bR, cV, cT, gt, lk, co, cC, cJ, cd, ca, bV, bV.subCs, cO, bu, bF, bZ, aV, bt, bh, aW, bM, bK, aH, a7, aX, cr, dd, cY, aq, aw, bT, cI, cb, cP, cU, aP, am, bQ, bJ, zC, argS, bO, ce, da, cR, ai, aE, aO, aA, cG, leC, cn, b0, bW, dc, bX, aR, aF, cZ, ah, cL, bf, bf.viewCs, bA, bA.flatCs, aK, aK.LensOks, Value.oneCell', ↓reduceIte, ite_true, ite_false, if_true, if_false, Nat.reduceAdd, Nat.reduceSub, Nat.reduceMul, Nat.reduceEqDiff, Nat.reduceLT, Nat.reduceLeDiff, reduceCtorEq, Int.reduceToNat, forall_const, implies_true, a6, Ent.mk3, bw, bC, bB, bk, bl, bo, bH, bL, bg, be, bz, cH, bn, cQ, rn, bS, bS.renCs, aI, aN, aY, aY.viewOks, aJ, bm, bm.flatBs, aG, an, av, ar, az, bq, bq.keysBs, aT, ap, bj, cp, bD, cg, af, af.passKs, aD, aL, ae, ae.lendKs, cM, cq, cz, bG, setInn, ag, cN, db, ay, br, bP, cj, aC, aU, Glob.gl, ax, cK, aZ, cm, bv, aj, cD, cS, cB, cW, cu, au, au.ptrOnlys, ak, aM, bY, aB, bI, a8, bU, aQ, bp, cF, Nat.reduceBEq, undef]
      rw [drop_getD [] h, List.map_cons, firstS] at hv
      subst hf
      grind
    · have : i = m.length := by omega
      subst this
      delta c43l1
      simp (maxSteps := 4000000) -implicitDefEqProofs only [Ent.of0, Ent.of1, Ent.of2, Ent.of3, V, cc, bE, bN, bR, cV, cT, gt, lk, co, cC, cJ, cd, ca, bV, bV.subCs, cO, bu, bF, bZ, aV, bt, bh, aW, bM, bK, aH, a7, aX, cr, dd, cY, aq, aw, bT, cI, cb, cP, cU, aP, am, bQ, bJ, zC, argS, bO, ce, da, cR, ai, aE, aO, aA, cG, leC, cn, b0, bW, dc, bX, aR, aF, cZ, ah, cL, bf, bf.viewCs, bA, bA.flatCs, aK, aK.LensOks, Value.oneCell', ↓reduceIte, ite_true, ite_false, if_true, if_false, Nat.reduceAdd, Nat.reduceSub, Nat.reduceMul, Nat.reduceEqDiff, Nat.reduceLT, Nat.reduceLeDiff, reduceCtorEq, Int.reduceToNat, forall_const, implies_true, a6, Ent.mk3, bw, bC, bB, bk, bl, bo, bH, bL, bg, be, bz, cH, bn, cQ, rn, bS, bS.renCs, aI, aN, aY, aY.viewOks, aJ, bm, bm.flatBs, aG, an, av, ar, az, bq, bq.keysBs, aT, ap, bj, cp, bD, cg, af, af.passKs, aD, aL, ae, ae.lendKs, cM, cq, cz, bG, setInn, ag, cN, db, ay, br, bP, cj, aC, aU, Glob.gl, ax, cK, aZ, cm, bv, aj, cD, cS, cB, cW, cu, au, au.ptrOnlys, ak, aM, bY, aB, bI, a8, bU, aQ, bp, cF, Nat.reduceBEq, undef]
      simp [firstS] at hv ⊢
      exact hv.symm
def ent43 : Ent Tryz.prog := .of1 43 (fun _ => True) (fun l : List (List Gs) => enc (layErr l)) (fun _ => trivial) (fun l _ => layersErr_c l)
def rowErr (n0 : Nat) (r : List Gs) : Int := if r.length = 0 ∨ r.length ≠ n0 then 10 else if r.length > 4 then 8 else if r.all (smallG · 1000) then 0 else 2
def matErr (m : List (List Gs)) : Int := if m.length = 0 then 10 else if m.length > 4 then 8 else firstS (m.map (rowErr (m.getD 0 []).length))
end Go.Proofs.YtfgpbmjmoobcnaaGreatDoor
end
section
open Go Go.Am
open Go.Am.Dat (cells)
namespace Go.Proofs.YtfgpbmjmoobcnaaGreatDoor
set_option maxHeartbeats 4000000
set_option maxRecDepth 20000
set_option linter.unusedSimpArgs false
theorem checkMatrix_c (m : List (List Gs)) : FC Tryz.prog 71 [enc m] [] (enc (matErr m)) [] := by
  refine fc_intro' is71 (by simp) (fun cx hl => S_run [ent29, ent31] 800 ?_)
  delta c71
  simp (maxSteps := 4000000) -implicitDefEqProofs only [rv71, ent29, ent31, Ent.of0, Ent.of1, Ent.of2, Ent.of3, V, cc, bE, bN, bR, cV, cT, gt, lk, co, cC, cJ, cd, ca, bV, bV.subCs, cO, bu, bF, bZ, aV, bt, bh, aW, bM, bK, aH, a7, aX, cr, dd, cY, aq, aw, bT, cI, cb, cP, cU, aP, am, bQ, bJ, zC, argS, bO, ce, da, cR, ai, aE, aO, aA, cG, leC, cn, b0, bW, dc, bX, aR, aF, cZ, ah, cL, bf, bf.viewCs, bA, bA.flatCs, aK, aK.LensOks, Value.oneCell', ↓reduceIte, ite_true, ite_false, if_true, if_false, Nat.reduceAdd, Nat.reduceSub, Nat.reduceMul, Nat.reduceEqDiff, Nat.reduceLT, Nat.reduceLeDiff, reduceCtorEq, Int.reduceToNat, forall_const, implies_true, a6, Ent.mk3, bw, bC, bB, bk, bl, bo, bH, bL, bg, be, bz, cH, bn, cQ, rn, bS, bS.renCs, aI, aN, aY, aY.viewOks, aJ, bm, bm.flatBs, aG, an, av, ar, az, bq, bq.keysBs, aT, ap, bj, cp, bD, cg, af, af.passKs, aD, aL, ae, ae.lendKs, cM, cq, cz, bG, setInn, ag, cN, db, ay, br, bP, cj, aC, aU, Glob.gl, ax, cK, aZ, cm, bv, aj, cD, cS, cB, cW, cu, au, au.ptrOnlys, ak, aM, bY, aB, bI, a8, bU, aQ, bp, cF, Nat.reduceBEq, undef]
  unfold matErr
  by_cases h0 : m.length = 0
  · simp [h0, firstS]
  by_cases h1 : m.length > 4
  · have : ¬ m.length ≤ 4 := by omega
    simp only [firstS]
    grind
  have h2 : m.length ≤ 4 := by omega
  rw [if_neg (by simp [firstS]; omega), if_neg h0, if_neg h1]
  generalize hf : rowErr (m.getD 0 []).length = f
  refine S_for m.length (fun i => ⟨[(0, enc m), (21, enc m), (22, .s (.int .i64 m.length)), (23, .s (.int .i64 i))], []⟩) (fun i => firstS (m.map f) = firstS ((m.drop i).map f)) (by simp) ?_ (fun i hi hv => S_run [ent29, ent31, eAny 89 _ closure111_c] 800 ?_)
  · simp (maxSteps := 4000000) -implicitDefEqProofs only [Ent.of0, Ent.of1, Ent.of2, Ent.of3, V, cc, bE, bN, bR, cV, cT, gt, lk, co, cC, cJ, cd, ca, bV, bV.subCs, cO, bu, bF, bZ, aV, bt, bh, aW, bM, bK, aH, a7, aX, cr, dd, cY, aq, aw, bT, cI, cb, cP, cU, aP, am, bQ, bJ, zC, argS, bO, ce, da, cR, ai, aE, aO, aA, cG, leC, cn, b0, bW, dc, bX, aR, aF, cZ, ah, cL, bf, bf.viewCs, bA, bA.flatCs, aK, aK.LensOks, Value.oneCell', ↓reduceIte, ite_true, ite_false, if_true, if_false, Nat.reduceAdd, Nat.reduceSub, Nat.reduceMul, Nat.reduceEqDiff, Nat.reduceLT, Nat.reduceLeDiff, reduceCtorEq, Int.reduceToNat, forall_const, implies_true, a6, Ent.mk3, bw, bC, bB, bk, bl, bo, bH, bL, bg, be, bz, cH, bn, cQ, rn, bS, bS.renCs, aI, aN, aY, aY.viewOks, aJ, bm, bm.flatBs, aG, an, av, ar, az, bq, bq.keysBs, aT, ap, bj, cp, bD, cg, af, af.passKs, aD, aL, ae, ae.lendKs, cM, cq, cz, bG, setInn, ag, cN, db, ay, br, bP, cj, aC, aU, Glob.gl, ax, cK, aZ, cm, bv, aj, cD, cS, cB, cW, cu, au, au.ptrOnlys, ak, aM, bY, aB, bI, a8, bU, aQ, bp, cF, Nat.reduceBEq, undef]; simp
  · by_cases h : i < m.length
    · have h3 : 0 < m.length := by omega
      rw [drop_getD [] h, List.map_cons, firstS] at hv
      have hfr : f (m.getD i []) = rowErr (m.getD 0 []).length (m.getD i []) := by rw [hf]
      unfold rowErr at hfr
      have ha : (List.any (m.getD i []) fun g => !smallG g 1000) = !((m.getD i []).all (smallG · 1000)) := by rw [List.not_all_eq_any_not]
      have hi2 : (i : Int) < (m.length : Int) := by omega
      by_cases hz : (0 : Int) < ((m.getD i []).length : Int)
      · delta c71l1
        simp (maxSteps := 4000000) -implicitDefEqProofs only [ent29, ent31, eAny, InR, getD_list, h, h3, hz, hi2, firstS, Ent.of0, Ent.of1, Ent.of2, Ent.of3, V, cc, bE, bN, bR, cV, cT, gt, lk, co, cC, cJ, cd, ca, bV, bV.subCs, cO, bu, bF, bZ, aV, bt, bh, aW, bM, bK, aH, a7, aX, cr, dd, cY, aq, aw, bT, cI, cb, cP, cU, aP, am, bQ, bJ, zC, argS, bO, ce, da, cR, ai, aE, aO, aA, cG, leC, cn, b0, bW, dc, bX, aR, aF, cZ, ah, cL, bf, bf.viewCs, bA, bA.flatCs, aK, aK.LensOks, Value.oneCell', ↓reduceIte, ite_true, ite_false, if_true, if_false, Nat.reduceAdd, Nat.reduceSub, Nat.reduceMul, Nat.reduceEqDiff, Nat.reduceLT, Nat.reduceLeDiff, reduceCtorEq, Int.reduceToNat, forall_const, implies_true, a6, Ent.mk3, bw, bC, bB, bk, bl, bo, bH, bL, bg, be, bz, cH, bn, cQ, rn, bS, bS.renCs, aI, aN, aY, aY.viewOks, aJ, bm, bm.flatBs, aG, an, av, ar, az, bq, bq.keysBs, aT, ap, bj, cp, bD, cg, af, af.passKs, aD, aL, ae, ae.lendKs, cM, cq, cz, bG, setInn, ag, cN, db, ay, br, bP, cj, aC, aU, Glob.gl, ax, cK, aZ, cm, bv, aj, cD, cS, cB, cW, cu, au, au.ptrOnlys, ak, aM, bY, aB, bI, a8, bU, aQ, bp, cF, Nat.reduceBEq, undef]
        simp only [ha]
        grind
      · delta c71l1
        simp (maxSteps := 4000000) -implicitDefEqProofs only [ent29, ent31, eAny, InR, getD_list, h, h3, hz, hi2, firstS, Ent.of0, Ent.of1, Ent.of2, Ent.of3, V, cc, bE, bN, bR, cV, cT, gt, lk, co, cC, cJ, cd, ca, bV, bV.subCs, cO, bu, bF, bZ, aV, bt, bh, aW, bM, bK, aH, a7, aX, cr, dd, cY, aq, aw, bT, cI, cb, cP, cU, aP, am, bQ, bJ, zC, argS, bO, ce, da, cR, ai, aE, aO, aA, cG, leC, cn, b0, bW, dc, bX, aR, aF, cZ, ah, cL, bf, bf.viewCs, bA, bA.flatCs, aK, aK.LensOks, Value.oneCell', ↓reduceIte, ite_true, ite_false, if_true, if_false, Nat.reduceAdd, Nat.reduceSub, Nat.reduceMul, Nat.reduceEqDiff, Nat.reduceLT, Nat.reduceLeDiff, reduceCtorEq, Int.reduceToNat, forall_const, implies_true, a6, Ent.mk3, bw, bC, bB, bk, bl, bo, bH, bL, bg, be, bz, cH, bn, cQ, rn, bS, bS.renCs, aI, aN, aY, aY.viewOks, aJ, bm, bm.flatBs, aG, an, av, ar, az, bq, bq.keysBs, aT, ap, bj, cp, bD, cg, af, af.passKs, aD, aL, ae, ae.lendKs, cM, cq, cz, bG, setInn, ag, cN, db, ay, br, bP, cj, aC, aU, Glob.gl, ax, cK, aZ, cm, bv, aj, cD, cS, cB, cW, cu, au, au.ptrOnlys, ak, aM, bY, aB, bI, a8, bU, aQ, bp, cF, Nat.reduceBEq, undef]
        simp only [ha]
        grind
    · have : i = m.length := by omega
      subst this
      delta c71l1
      simp (maxSteps := 4000000) -implicitDefEqProofs only [Ent.of0, Ent.of1, Ent.of2, Ent.of3, V, cc, bE, bN, bR, cV, cT, gt, lk, co, cC, cJ, cd, ca, bV, bV.subCs, cO, bu, bF, bZ, aV, bt, bh, aW, bM, bK, aH, a7, aX, cr, dd, cY, aq, aw, bT, cI, cb, cP, cU, aP, am, bQ, bJ, zC, argS, bO, ce, da, cR, ai, aE, aO, aA, cG, leC, cn, b0, bW, dc, bX, aR, aF, cZ, ah, cL, bf, bf.viewCs, bA, bA.flatCs, aK, aK.LensOks, Value.oneCell', ↓reduceIte, ite_true, ite_false, if_true, if_false, Nat.reduceAdd, Nat.reduceSub, Nat.reduceMul, Nat.reduceEqDiff, Nat.reduceLT, Nat.reduceLeDiff, reduceCtorEq, Int.reduceToNat, forall_const, implies_true, a6, Ent.mk3, bw, bC, bB, bk, bl, bo, bH, bL, bg, be, bz, cH, bn, cQ, rn, bS, bS.renCs, aI, aN, aY, aY.viewOks, aJ, bm, bm.flatBs, aG, an, av, ar, az, bq, bq.keysBs, aT, ap, bj, cp, bD, cg, af, af.passKs, aD, aL, ae, ae.lendKs, cM, cq, cz, bG, setInn, ag, cN, db, ay, br, bP, cj, aC, aU, Glob.gl, ax, cK, aZ, cm, bv, aj, cD, cS, cB, cW, cu, au, au.ptrOnlys, ak, aM, bY, aB, bI, a8, bU, aQ, bp, cF, Nat.reduceBEq, undef]
      simp [firstS] at hv ⊢
      exact hv.symm
def ent71 : Ent Tryz.prog := .of1 71 (fun _ => True) (fun l : List (List Gs) => enc (matErr l)) (fun _ => trivial) (fun l _ => checkMatrix_c l)
end Go.Proofs.YtfgpbmjmoobcnaaGreatDoor
end
section
open Go Go.Am
open Go.Am.Dat (cells)
namespace Go.Proofs.YtfgpbmjmoobcnaaGreatDoor
set_option maxHeartbeats 4000000
set_option maxRecDepth 20000
set_option linter.unusedSimpArgs false
def gmul (a b : Gs) : Gs := ⟨a.re * b.re - a.im * b.im, a.re * b.im + a.im * b.re⟩
def gsub (a b : Gs) : Gs := ⟨a.re - b.re, a.im - b.im⟩
def gadd (a b : Gs) : Gs := ⟨a.re + b.re, a.im + b.im⟩
def gconj (a : Gs) : Gs := ⟨a.re, -a.im⟩
def bd (g : Gs) (n : Nat) : Prop := g.re.natAbs ≤ n ∧ g.im.natAbs ≤ n
theorem mul_bd {a b : Int} {A B : Nat} (ha : a.natAbs ≤ A) (hb : b.natAbs ≤ B) : (a * b).natAbs ≤ A * B := by
  rw [Int.natAbs_mul]; exact Nat.mul_le_mul ha hb
theorem bd_gmul {a b : Gs} {A B : Nat} (ha : bd a A) (hb : bd b B) : bd (gmul a b) (2 * (A * B)) := by
  have h1 := mul_bd ha.1 hb.1
  have h2 := mul_bd ha.2 hb.2
  have h3 := mul_bd ha.1 hb.2
  have h4 := mul_bd ha.2 hb.1
  unfold gmul
  generalize A * B = N at *
  constructor <;> simp only <;> omega
def mulOk (a b : Gs) : Prop := ∃ A B, bd a A ∧ bd b B ∧ 2 * (A * B) ≤ 9223372036854775807
theorem mulOk_in {a b : Gs} (h : mulOk a b) : InR .i64 (a.re * b.re) ∧ InR .i64 (a.im * b.im) ∧ InR .i64 (a.re * b.im) ∧ InR .i64 (a.im * b.re) ∧ InR .i64 (a.re * b.re - a.im * b.im) ∧ InR .i64 (a.re * b.im + a.im * b.re) := by
  obtain ⟨A, B, ha, hb, h⟩ := h
  have h1 := mul_bd ha.1 hb.1
  have h2 := mul_bd ha.2 hb.2
  have h3 := mul_bd ha.1 hb.2
  have h4 := mul_bd ha.2 hb.1
  generalize A * B = N at *
  simp only [InR]
  omega
theorem times_c (a b : Gs) (h : mulOk a b) : FC Tryz.prog 44 [enc a, enc b] [] (enc (gmul a b)) [] := by
  obtain ⟨h1, h2, h3, h4, h5, h6⟩ := mulOk_in h
  refine fc_intro' is44 (by simp) (fun cx hl => S_run [] 800 ?_)
  delta c44
  simp (maxSteps := 4000000) -implicitDefEqProofs only [rv44, h1, h2, h3, h4, h5, h6, gmul, Ent.of0, Ent.of1, Ent.of2, Ent.of3, V, cc, bE, bN, bR, cV, cT, gt, lk, co, cC, cJ, cd, ca, bV, bV.subCs, cO, bu, bF, bZ, aV, bt, bh, aW, bM, bK, aH, a7, aX, cr, dd, cY, aq, aw, bT, cI, cb, cP, cU, aP, am, bQ, bJ, zC, argS, bO, ce, da, cR, ai, aE, aO, aA, cG, leC, cn, b0, bW, dc, bX, aR, aF, cZ, ah, cL, bf, bf.viewCs, bA, bA.flatCs, aK, aK.LensOks, Value.oneCell', ↓reduceIte, ite_true, ite_false, if_true, if_false, Nat.reduceAdd, Nat.reduceSub, Nat.reduceMul, Nat.reduceEqDiff, Nat.reduceLT, Nat.reduceLeDiff, reduceCtorEq, Int.reduceToNat, forall_const, implies_true, a6, Ent.mk3, bw, bC, bB, bk, bl, bo, bH, bL, bg, be, bz, cH, bn, cQ, rn, bS, bS.renCs, aI, aN, aY, aY.viewOks, aJ, bm, bm.flatBs, aG, an, av, ar, az, bq, bq.keysBs, aT, ap, bj, cp, bD, cg, af, af.passKs, aD, aL, ae, ae.lendKs, cM, cq, cz, bG, setInn, ag, cN, db, ay, br, bP, cj, aC, aU, Glob.gl, ax, cK, aZ, cm, bv, aj, cD, cS, cB, cW, cu, au, au.ptrOnlys, ak, aM, bY, aB, bI, a8, bU, aQ, bp, cF, Nat.reduceBEq, undef]
def ent44 : Ent Tryz.prog := .of2 44 mulOk (fun a b => enc (gmul a b)) (fun _ _ => by simp [enc_gs, keysIn, keysIn.keysIns]) (fun a b h => times_c a b h)
def addOk (a b : Gs) : Prop := ∃ A B, bd a A ∧ bd b B ∧ A + B ≤ 9223372036854775807
theorem addOk_in {a b : Gs} (h : addOk a b) : InR .i64 (a.re + b.re) ∧ InR .i64 (a.im + b.im) ∧ InR .i64 (a.re - b.re) ∧ InR .i64 (a.im - b.im) := by
  obtain ⟨A, B, ha, hb, h⟩ := h
  simp only [bd] at ha hb
  simp only [InR]
  omega
theorem less_c (a b : Gs) (h : addOk a b) : FC Tryz.prog 72 [enc a, enc b] [] (enc (gsub a b)) [] := by
  obtain ⟨h1, h2, h3, h4⟩ := addOk_in h
  refine fc_intro' is72 (by simp) (fun cx hl => S_run [] 800 ?_)
  delta c72
  simp (maxSteps := 4000000) -implicitDefEqProofs only [rv72, h1, h2, h3, h4, gsub, Ent.of0, Ent.of1, Ent.of2, Ent.of3, V, cc, bE, bN, bR, cV, cT, gt, lk, co, cC, cJ, cd, ca, bV, bV.subCs, cO, bu, bF, bZ, aV, bt, bh, aW, bM, bK, aH, a7, aX, cr, dd, cY, aq, aw, bT, cI, cb, cP, cU, aP, am, bQ, bJ, zC, argS, bO, ce, da, cR, ai, aE, aO, aA, cG, leC, cn, b0, bW, dc, bX, aR, aF, cZ, ah, cL, bf, bf.viewCs, bA, bA.flatCs, aK, aK.LensOks, Value.oneCell', ↓reduceIte, ite_true, ite_false, if_true, if_false, Nat.reduceAdd, Nat.reduceSub, Nat.reduceMul, Nat.reduceEqDiff, Nat.reduceLT, Nat.reduceLeDiff, reduceCtorEq, Int.reduceToNat, forall_const, implies_true, a6, Ent.mk3, bw, bC, bB, bk, bl, bo, bH, bL, bg, be, bz, cH, bn, cQ, rn, bS, bS.renCs, aI, aN, aY, aY.viewOks, aJ, bm, bm.flatBs, aG, an, av, ar, az, bq, bq.keysBs, aT, ap, bj, cp, bD, cg, af, af.passKs, aD, aL, ae, ae.lendKs, cM, cq, cz, bG, setInn, ag, cN, db, ay, br, bP, cj, aC, aU, Glob.gl, ax, cK, aZ, cm, bv, aj, cD, cS, cB, cW, cu, au, au.ptrOnlys, ak, aM, bY, aB, bI, a8, bU, aQ, bp, cF, Nat.reduceBEq, undef]
def ent72 : Ent Tryz.prog := .of2 72 addOk (fun a b => enc (gsub a b)) (fun _ _ => by simp [enc_gs, keysIn, keysIn.keysIns]) (fun a b h => less_c a b h)
end Go.Proofs.YtfgpbmjmoobcnaaGreatDoor
end
section
open Go Go.Am
open Go.Am.Dat (cells)
namespace Go.Proofs.YtfgpbmjmoobcnaaGreatDoor
set_option maxHeartbeats 4000000
set_option maxRecDepth 20000
set_option linter.unusedSimpArgs false
theorem firstS_zero : ∀ {l : List Int}, firstS l = 0 → ∀ e ∈ l, e = 0
  | [], _, e, h => by simp at h
  | x :: l, h, e, he => by
    simp only [firstS] at h
    split at h
    · rename_i hx; exact absurd h hx
    · rename_i hx
      rcases List.mem_cons.1 he with rfl | he
      · omega
      · exact firstS_zero h e he
structure Right (m : List (List Gs)) : Prop where
  pos : 0 < m.length
  le : m.length ≤ 4
  row : ∀ r ∈ m, r.length = (m.getD 0 []).length ∧ 0 < r.length ∧ r.length ≤ 4 ∧ ∀ g ∈ r, smallG g 1000 = true
theorem right_of {m : List (List Gs)} (h : matErr m = 0) : Right m := by
  unfold matErr at h
  split at h
  · cases h
  · split at h
    · cases h
    · refine ⟨by omega, by omega, fun r hr => ?_⟩
      have := firstS_zero h _ (List.mem_map.2 ⟨r, hr, rfl⟩)
      unfold rowErr at this
      split at this
      · cases this
      · split at this
        · cases this
        · split at this
          · rename_i h1 h2 h3
            exact ⟨by omega, by omega, by omega, fun g hg => by simpa using List.all_eq_true.1 h3 g hg⟩
          · cases this
theorem smallG_bd {g : Gs} {n : Nat} (h : smallG g n = true) : bd g n := by
  simp only [smallG, Bool.and_eq_true, decide_eq_true_eq] at h
  constructor <;> omega
def detS (m : List (List Gs)) : Gs :=
  match m with
  | [[a]] => a
  | [[a, b], [c, d]] => gsub (gmul a d) (gmul b c)
  | _ => ⟨0, 0⟩
def detE (m : List (List Gs)) : Int := if m.length ≠ (m.getD 0 []).length then 13 else if m.length > 2 then 8 else 0
theorem bd_mul1000 {a b : Gs} (ha : bd a 1000) (hb : bd b 1000) : mulOk a b := ⟨1000, 1000, ha, hb, by omega⟩
theorem det_add {a b c d : Gs} (ha : bd a 1000) (hb : bd b 1000) (hc : bd c 1000) (hd : bd d 1000) : addOk (gmul a d) (gmul b c) :=
  ⟨_, _, bd_gmul ha hd, bd_gmul hb hc, by omega⟩
def symDetE (m : List (List Gs)) : Int := if matErr m ≠ 0 then matErr m else detE m
def symDetS (m : List (List Gs)) : Gs := if matErr m ≠ 0 then ⟨0, 0⟩ else detS m
theorem SDet_c (m : List (List Gs)) : FC Tryz.prog 42 [enc m] [] (.tup [enc (symDetS m), enc (symDetE m)]) [] := by
  refine fc_intro' is42 (by simp) (fun cx hl => S_run [ent71, ent44, ent72] 800 ?_)
  by_cases h0 : matErr m = 0
  rotate_left
  · have hs : symDetS m = ⟨0, 0⟩ := by unfold symDetS; rw [if_pos h0]
    have he : symDetE m = matErr m := by unfold symDetE; rw [if_pos h0]
    delta c42
    simp (maxSteps := 4000000) -implicitDefEqProofs only [rv42, ent71, h0, hs, he, Ent.of0, Ent.of1, Ent.of2, Ent.of3, V, cc, bE, bN, bR, cV, cT, gt, lk, co, cC, cJ, cd, ca, bV, bV.subCs, cO, bu, bF, bZ, aV, bt, bh, aW, bM, bK, aH, a7, aX, cr, dd, cY, aq, aw, bT, cI, cb, cP, cU, aP, am, bQ, bJ, zC, argS, bO, ce, da, cR, ai, aE, aO, aA, cG, leC, cn, b0, bW, dc, bX, aR, aF, cZ, ah, cL, bf, bf.viewCs, bA, bA.flatCs, aK, aK.LensOks, Value.oneCell', ↓reduceIte, ite_true, ite_false, if_true, if_false, Nat.reduceAdd, Nat.reduceSub, Nat.reduceMul, Nat.reduceEqDiff, Nat.reduceLT, Nat.reduceLeDiff, reduceCtorEq, Int.reduceToNat, forall_const, implies_true, a6, Ent.mk3, bw, bC, bB, bk, bl, bo, bH, bL, bg, be, bz, cH, bn, cQ, rn, bS, bS.renCs, aI, aN, aY, aY.viewOks, aJ, bm, bm.flatBs, aG, an, av, ar, az, bq, bq.keysBs, aT, ap, bj, cp, bD, cg, af, af.passKs, aD, aL, ae, ae.lendKs, cM, cq, cz, bG, setInn, ag, cN, db, ay, br, bP, cj, aC, aU, Glob.gl, ax, cK, aZ, cm, bv, aj, cD, cS, cB, cW, cu, au, au.ptrOnlys, ak, aM, bY, aB, bI, a8, bU, aQ, bp, cF, Nat.reduceBEq, undef]
  have hs : symDetS m = detS m := by unfold symDetS; rw [if_neg (by simp [h0])]
  have he0 : symDetE m = detE m := by unfold symDetE; rw [if_neg (by simp [h0])]
  have h := right_of h0
  have h3 := h.pos
  by_cases h1 : m.length ≠ (m.getD 0 []).length
  · have hd : detS m = ⟨0, 0⟩ := by
      unfold detS; split
      · simp at h1
      · simp at h1
      · rfl
    have he : detE m = 13 := by unfold detE; rw [if_pos h1]
    have h1' : ¬ ((m.length : Int) = ((m.getD 0 []).length : Int)) := by omega
    delta c42
    simp (maxSteps := 4000000) -implicitDefEqProofs only [rv42, ent71, h0, hs, he0, getD_list, h3, hd, he, h1', Ent.of0, Ent.of1, Ent.of2, Ent.of3, V, cc, bE, bN, bR, cV, cT, gt, lk, co, cC, cJ, cd, ca, bV, bV.subCs, cO, bu, bF, bZ, aV, bt, bh, aW, bM, bK, aH, a7, aX, cr, dd, cY, aq, aw, bT, cI, cb, cP, cU, aP, am, bQ, bJ, zC, argS, bO, ce, da, cR, ai, aE, aO, aA, cG, leC, cn, b0, bW, dc, bX, aR, aF, cZ, ah, cL, bf, bf.viewCs, bA, bA.flatCs, aK, aK.LensOks, Value.oneCell', ↓reduceIte, ite_true, ite_false, if_true, if_false, Nat.reduceAdd, Nat.reduceSub, Nat.reduceMul, Nat.reduceEqDiff, Nat.reduceLT, Nat.reduceLeDiff, reduceCtorEq, Int.reduceToNat, forall_const, implies_true, a6, Ent.mk3, bw, bC, bB, bk, bl, bo, bH, bL, bg, be, bz, cH, bn, cQ, rn, bS, bS.renCs, aI, aN, aY, aY.viewOks, aJ, bm, bm.flatBs, aG, an, av, ar, az, bq, bq.keysBs, aT, ap, bj, cp, bD, cg, af, af.passKs, aD, aL, ae, ae.lendKs, cM, cq, cz, bG, setInn, ag, cN, db, ay, br, bP, cj, aC, aU, Glob.gl, ax, cK, aZ, cm, bv, aj, cD, cS, cB, cW, cu, au, au.ptrOnlys, ak, aM, bY, aB, bI, a8, bU, aQ, bp, cF, Nat.reduceBEq, undef]
    simp; omega
  by_cases h2 : m.length > 2
  · have hd : detS m = ⟨0, 0⟩ := by
      unfold detS; split
      · simp at h2
      · simp at h2
      · rfl
    have he : detE m = 8 := by unfold detE; rw [if_neg h1, if_pos h2]
    have h1' : (m.length : Int) = ((m.getD 0 []).length : Int) := by omega
    have h2' : ¬ ((m.getD 0 []).length : Int) = 2 := by omega
    have h2'' : ¬ ((m.getD 0 []).length : Int) = 1 := by omega
    have h3' : 0 < (m.getD 0 []).length := by omega
    delta c42
    simp (maxSteps := 4000000) -implicitDefEqProofs only [rv42, ent71, h0, hs, he0, getD_list, h3, hd, he, h1', h2', h2'', Ent.of0, Ent.of1, Ent.of2, Ent.of3, V, cc, bE, bN, bR, cV, cT, gt, lk, co, cC, cJ, cd, ca, bV, bV.subCs, cO, bu, bF, bZ, aV, bt, bh, aW, bM, bK, aH, a7, aX, cr, dd, cY, aq, aw, bT, cI, cb, cP, cU, aP, am, bQ, bJ, zC, argS, bO, ce, da, cR, ai, aE, aO, aA, cG, leC, cn, b0, bW, dc, bX, aR, aF, cZ, ah, cL, bf, bf.viewCs, bA, bA.flatCs, aK, aK.LensOks, Value.oneCell', ↓reduceIte, ite_true, ite_false, if_true, if_false, Nat.reduceAdd, Nat.reduceSub, Nat.reduceMul, Nat.reduceEqDiff, Nat.reduceLT, Nat.reduceLeDiff, reduceCtorEq, Int.reduceToNat, forall_const, implies_true, a6, Ent.mk3, bw, bC, bB, bk, bl, bo, bH, bL, bg, be, bz, cH, bn, cQ, rn, bS, bS.renCs, aI, aN, aY, aY.viewOks, aJ, bm, bm.flatBs, aG, an, av, ar, az, bq, bq.keysBs, aT, ap, bj, cp, bD, cg, af, af.passKs, aD, aL, ae, ae.lendKs, cM, cq, cz, bG, setInn, ag, cN, db, ay, br, bP, cj, aC, aU, Glob.gl, ax, cK, aZ, cm, bv, aj, cD, cS, cB, cW, cu, au, au.ptrOnlys, ak, aM, bY, aB, bI, a8, bU, aQ, bp, cF, Nat.reduceBEq, undef]
    simp at h3' ⊢; exact h3'
  have he : detE m = 0 := by unfold detE; rw [if_neg h1, if_neg h2]
  match m, h, h1, h2, h3 with
  | [r], h, h1, h2, h3 =>
    simp at h1
    match r, h1 with
    | [a], _ =>
      delta c42
      simp (maxSteps := 4000000) -implicitDefEqProofs only [rv42, ent71, h0, hs, he0, he, detS, Ent.of0, Ent.of1, Ent.of2, Ent.of3, V, cc, bE, bN, bR, cV, cT, gt, lk, co, cC, cJ, cd, ca, bV, bV.subCs, cO, bu, bF, bZ, aV, bt, bh, aW, bM, bK, aH, a7, aX, cr, dd, cY, aq, aw, bT, cI, cb, cP, cU, aP, am, bQ, bJ, zC, argS, bO, ce, da, cR, ai, aE, aO, aA, cG, leC, cn, b0, bW, dc, bX, aR, aF, cZ, ah, cL, bf, bf.viewCs, bA, bA.flatCs, aK, aK.LensOks, Value.oneCell', ↓reduceIte, ite_true, ite_false, if_true, if_false, Nat.reduceAdd, Nat.reduceSub, Nat.reduceMul, Nat.reduceEqDiff, Nat.reduceLT, Nat.reduceLeDiff, reduceCtorEq, Int.reduceToNat, forall_const, implies_true, a6, Ent.mk3, bw, bC, bB, bk, bl, bo, bH, bL, bg, be, bz, cH, bn, cQ, rn, bS, bS.renCs, aI, aN, aY, aY.viewOks, aJ, bm, bm.flatBs, aG, an, av, ar, az, bq, bq.keysBs, aT, ap, bj, cp, bD, cg, af, af.passKs, aD, aL, ae, ae.lendKs, cM, cq, cz, bG, setInn, ag, cN, db, ay, br, bP, cj, aC, aU, Glob.gl, ax, cK, aZ, cm, bv, aj, cD, cS, cB, cW, cu, au, au.ptrOnlys, ak, aM, bY, aB, bI, a8, bU, aQ, bp, cF, Nat.reduceBEq, undef]
      simp
  | [r, s], h, h1, h2, h3 =>
    simp at h1
    have hs' := (h.row s (by simp)).1
    simp at hs'
    match r, s, h1, hs' with
    | [a, b], [c, d], _, _ =>
      have hb : ∀ g, g ∈ [a, b] ∨ g ∈ [c, d] → bd g 1000 := fun g hg => by
        rcases hg with hg | hg
        · exact smallG_bd ((h.row [a, b] (by simp)).2.2.2 g hg)
        · exact smallG_bd ((h.row [c, d] (by simp)).2.2.2 g hg)
      have ba := hb a (by simp); have bb := hb b (by simp); have bc := hb c (by simp); have b_d := hb d (by simp)
      have m1 := bd_mul1000 ba b_d
      have m2 := bd_mul1000 bb bc
      have m3 := det_add ba bb bc b_d
      delta c42
      simp (maxSteps := 4000000) -implicitDefEqProofs only [rv42, ent71, ent44, ent72, h0, hs, he0, he, detS, m1, m2, m3, Ent.of0, Ent.of1, Ent.of2, Ent.of3, V, cc, bE, bN, bR, cV, cT, gt, lk, co, cC, cJ, cd, ca, bV, bV.subCs, cO, bu, bF, bZ, aV, bt, bh, aW, bM, bK, aH, a7, aX, cr, dd, cY, aq, aw, bT, cI, cb, cP, cU, aP, am, bQ, bJ, zC, argS, bO, ce, da, cR, ai, aE, aO, aA, cG, leC, cn, b0, bW, dc, bX, aR, aF, cZ, ah, cL, bf, bf.viewCs, bA, bA.flatCs, aK, aK.LensOks, Value.oneCell', ↓reduceIte, ite_true, ite_false, if_true, if_false, Nat.reduceAdd, Nat.reduceSub, Nat.reduceMul, Nat.reduceEqDiff, Nat.reduceLT, Nat.reduceLeDiff, reduceCtorEq, Int.reduceToNat, forall_const, implies_true, a6, Ent.mk3, bw, bC, bB, bk, bl, bo, bH, bL, bg, be, bz, cH, bn, cQ, rn, bS, bS.renCs, aI, aN, aY, aY.viewOks, aJ, bm, bm.flatBs, aG, an, av, ar, az, bq, bq.keysBs, aT, ap, bj, cp, bD, cg, af, af.passKs, aD, aL, ae, ae.lendKs, cM, cq, cz, bG, setInn, ag, cN, db, ay, br, bP, cj, aC, aU, Glob.gl, ax, cK, aZ, cm, bv, aj, cD, cS, cB, cW, cu, au, au.ptrOnlys, ak, aM, bY, aB, bI, a8, bU, aQ, bp, cF, Nat.reduceBEq, undef]
      simp
  | a :: b :: c :: l, h, h1, h2, h3 => exact absurd (by simp) h2
def ent42 : Ent Tryz.prog := .of1 42 (fun _ => True) (fun m => .tup [enc (symDetS m), enc (symDetE m)]) (fun _ => by simp [enc_gs, enc_int, keysIn, keysIn.keysIns]) (fun m _ => SDet_c m)
end Go.Proofs.YtfgpbmjmoobcnaaGreatDoor
end
section
open Go Go.Am
open Go.Am.Dat (cells)
namespace Go.Proofs.YtfgpbmjmoobcnaaGreatDoor
set_option maxHeartbeats 4000000
set_option maxRecDepth 20000
set_option linter.unusedSimpArgs false
def dotS (row : List Gs) (ls : List (List Gs)) (i : Nat) : Nat → Gs
  | 0 => ⟨0, 0⟩
  | k + 1 => gadd (dotS row ls i k) (gmul (row.getD k ⟨0, 0⟩) ((ls.getD k []).getD i ⟨0, 0⟩))
def rowS' (ls : List (List Gs)) (row : List Gs) : List Gs := (List.range (ls.getD 0 []).length).map fun i => dotS row ls i ls.length
def applS (m ls : List (List Gs)) : List (List Gs) := m.map (rowS' ls)
structure Fits (m ls : List (List Gs)) (A B : Nat) : Prop where
  pos : 0 < ls.length
  le : ls.length ≤ 4
  mle : m.length ≤ 1000
  len : ∀ r ∈ ls, r.length = (ls.getD 0 []).length
  short : (ls.getD 0 []).length ≤ 1000000
  cols : ∀ r ∈ m, r.length = ls.length
  ma : ∀ r ∈ m, ∀ g ∈ r, bd g A
  mb : ∀ r ∈ ls, ∀ g ∈ r, bd g B
  small : 8 * (A * B) ≤ 9223372036854775807
theorem getD_mem {α : Type} {l : List α} {i : Nat} (d : α) (h : i < l.length) : l.getD i d ∈ l := by
  rw [List.getD_eq_getElem?_getD, List.getElem?_eq_getElem h]; exact List.getElem_mem h
theorem bd_dot {m ls : List (List Gs)} {A B : Nat} (hf : Fits m ls A B) {row : List Gs} (hr : row ∈ m) {i : Nat} (hi : i < (ls.getD 0 []).length) : ∀ k, k ≤ ls.length → bd (dotS row ls i k) (k * (2 * (A * B)))
  | 0, _ => by constructor <;> simp [dotS]
  | k + 1, hk => by
    have h1 := bd_dot hf hr hi k (by omega)
    have hc := hf.cols row hr
    have hl := hf.len (ls.getD k []) (getD_mem [] (by omega))
    have h2 := bd_gmul (hf.ma row hr _ (getD_mem ⟨0, 0⟩ (by omega : k < row.length))) (hf.mb _ (getD_mem [] (by omega)) _ (getD_mem ⟨0, 0⟩ (by omega : i < (ls.getD k []).length)))
    have e : (k + 1) * (2 * (A * B)) = k * (2 * (A * B)) + 2 * (A * B) := Nat.succ_mul _ _
    rw [e]
    simp only [dotS, gadd]
    generalize k * (2 * (A * B)) = X at *
    generalize 2 * (A * B) = Y at *
    obtain ⟨p1, p2⟩ := h1
    obtain ⟨q1, q2⟩ := h2
    constructor <;> simp only <;> omega
end Go.Proofs.YtfgpbmjmoobcnaaGreatDoor
end
section
open Go Go.Am
open Go.Am.Dat (cells)
namespace Go.Proofs.YtfgpbmjmoobcnaaGreatDoor
set_option maxHeartbeats 4000000
set_option maxRecDepth 20000
set_option linter.unusedSimpArgs false
theorem Size_c (n : Int) (h : InR .i64 (-n)) : FC Tryz.prog 60 [enc n] [] (enc (if -n > n then -n else n)) [] := by
  refine fc_intro' is60 (by simp) (fun cx hl => S_run [] 800 ?_)
  delta c60
  simp (maxSteps := 4000000) -implicitDefEqProofs only [rv60, h, Ent.of0, Ent.of1, Ent.of2, Ent.of3, V, cc, bE, bN, bR, cV, cT, gt, lk, co, cC, cJ, cd, ca, bV, bV.subCs, cO, bu, bF, bZ, aV, bt, bh, aW, bM, bK, aH, a7, aX, cr, dd, cY, aq, aw, bT, cI, cb, cP, cU, aP, am, bQ, bJ, zC, argS, bO, ce, da, cR, ai, aE, aO, aA, cG, leC, cn, b0, bW, dc, bX, aR, aF, cZ, ah, cL, bf, bf.viewCs, bA, bA.flatCs, aK, aK.LensOks, Value.oneCell', ↓reduceIte, ite_true, ite_false, if_true, if_false, Nat.reduceAdd, Nat.reduceSub, Nat.reduceMul, Nat.reduceEqDiff, Nat.reduceLT, Nat.reduceLeDiff, reduceCtorEq, Int.reduceToNat, forall_const, implies_true, a6, Ent.mk3, bw, bC, bB, bk, bl, bo, bH, bL, bg, be, bz, cH, bn, cQ, rn, bS, bS.renCs, aI, aN, aY, aY.viewOks, aJ, bm, bm.flatBs, aG, an, av, ar, az, bq, bq.keysBs, aT, ap, bj, cp, bD, cg, af, af.passKs, aD, aL, ae, ae.lendKs, cM, cq, cz, bG, setInn, ag, cN, db, ay, br, bP, cj, aC, aU, Glob.gl, ax, cK, aZ, cm, bv, aj, cD, cS, cB, cW, cu, au, au.ptrOnlys, ak, aM, bY, aB, bI, a8, bU, aQ, bp, cF, Nat.reduceBEq, undef]
def ent60 : Ent Tryz.prog := .of1 60 (fun n => InR .i64 (-n)) (fun n : Int => enc (if -n > n then -n else n)) (fun _ => trivial) (fun n h => Size_c n h)
end Go.Proofs.YtfgpbmjmoobcnaaGreatDoor
end
section
open Go Go.Am
open Go.Am.Dat (cells)
namespace Go.Proofs.YtfgpbmjmoobcnaaGreatDoor
set_option maxHeartbeats 4000000
set_option maxRecDepth 100000
set_option linter.unusedSimpArgs false
theorem wrap16 {a : Nat} (ha : a < 65536) : IntKind.wrap .u16 (a : Int) = a := by
  show (if (false && decide ((a : Int) % 65536 ≥ 32768)) = true then (a : Int) % 65536 - 65536 else (a : Int) % 65536) = a
  rw [if_neg (by simp)]
  omega
theorem of16 {a : Nat} (ha : a < 65536) : (BitVec.ofInt 16 (a : Int)).toNat = a := by
  rw [BitVec.ofInt_natCast, BitVec.toNat_ofNat]
  exact Nat.mod_eq_of_lt ha
theorem and16 {a b : Nat} (ha : a < 65536) (hb : b < 65536) : bitF .and .u16 (a : Int) (b : Int) = ((a &&& b : Nat) : Int) := by
  show IntKind.wrap .u16 ((BitVec.ofInt 16 (a : Int) &&& BitVec.ofInt 16 (b : Int)).toNat : Int) = _
  rw [BitVec.toNat_and, of16 ha, of16 hb]
  exact wrap16 (Nat.lt_of_le_of_lt Nat.and_le_left ha)
theorem or16 {a b : Nat} (ha : a < 65536) (hb : b < 65536) : bitF .or .u16 (a : Int) (b : Int) = ((a ||| b : Nat) : Int) := by
  show IntKind.wrap .u16 ((BitVec.ofInt 16 (a : Int) ||| BitVec.ofInt 16 (b : Int)).toNat : Int) = _
  rw [BitVec.toNat_or, of16 ha, of16 hb]
  exact wrap16 (Nat.or_lt_two_pow (n := 16) ha hb)
theorem xor16 {a b : Nat} (ha : a < 65536) (hb : b < 65536) : bitF .xor .u16 (a : Int) (b : Int) = ((a ^^^ b : Nat) : Int) := by
  show IntKind.wrap .u16 ((BitVec.ofInt 16 (a : Int) ^^^ BitVec.ofInt 16 (b : Int)).toNat : Int) = _
  rw [BitVec.toNat_xor, of16 ha, of16 hb]
  exact wrap16 (Nat.xor_lt_two_pow (n := 16) ha hb)
theorem inR16 {a : Int} (h : 0 ≤ a ∧ a < 65536) : InR .u16 a := by
  show (0 : Int) ≤ a ∧ a ≤ 65535
  omega
structure Wire where
  bits : Nat
  taps : Nat
  top : Nat
structure Wire.Ok (w : Wire) : Prop where
  top : w.top < 15
  bits : w.bits < 2 ^ (w.top + 1)
  taps : w.taps < 65536
def wireC (w : Wire) : List C := [.s (.int .u16 w.bits), .s (.int .u16 w.taps), .s (.int .i64 w.top)]
def parF : Nat → Nat → Nat → Nat
  | 0, _, f => f
  | j + 1, n, f => if n = 0 then f else parF j (n &&& (n - 1)) (f ^^^ 1)
def parS (n : Nat) : Nat := parF n n 0
def stepS (w : Wire) : Wire := { w with bits := (w.bits / 2) ||| (parS (w.bits &&& w.taps) * 2 ^ w.top) }
def outS (w : Wire) : Nat := w.bits % 2
theorem and_pred_lt {n : Nat} (h : n ≠ 0) : n &&& (n - 1) < n := Nat.lt_of_le_of_lt Nat.and_le_right (by omega)
theorem parF_fuel : ∀ (j k n f : Nat), n ≤ j → n ≤ k → parF j n f = parF k n f := by
  intro j
  induction j with
  | zero =>
    intro k n f h1 h2
    have : n = 0 := by omega
    subst this
    cases k <;> simp [parF]
  | succ j ih =>
    intro k n f h1 h2
    cases k with
    | zero =>
      have : n = 0 := by omega
      subst this
      simp [parF]
    | succ k =>
      simp only [parF]
      by_cases hn : n = 0
      · rw [if_pos hn, if_pos hn]
      · rw [if_neg hn, if_neg hn]
        have := and_pred_lt hn
        exact ih k _ _ (by omega) (by omega)
theorem parF_le : ∀ (j n f : Nat), f ≤ 1 → parF j n f ≤ 1
  | 0, _, f, h => h
  | j + 1, n, f, h => by
    simp only [parF]
    split
    · exact h
    · refine parF_le j _ _ ?_
      have : f = 0 ∨ f = 1 := by omega
      rcases this with rfl | rfl <;> decide
theorem step_c (w : Wire) (hw : w.Ok) : FC Tryz.prog 63 [.ptr 100000 0] [(100000, .box (wireC w))] (enc (outS w : Int)) [(100000, .box (wireC (stepS w)))] := by
  obtain ⟨b, tp, top⟩ := w
  obtain ⟨h1, h2, h3⟩ := hw
  simp only at h1 h2 h3
  have hb : b < 65536 := Nat.lt_of_lt_of_le h2 (Nat.pow_le_pow_right (by decide) (by omega : top + 1 ≤ 16))
  have hone : ((1 : Nat) : Int) = 1 := rfl
  have hand1 := and16 hb (show 1 < 65536 by decide)
  have hand2 := and16 hb h3
  refine fc_introC [] is63 (by simp) (by simp [cD]) (by simp [aR, aF, bZ]) (by simp [aR, aF, bZ]) (by simp [aj, lk]) (fun cx _ _ _ => S_run [] 800 ?_)
  simp only [hone] at hand1
  delta c63
  simp (maxSteps := 4000000) -implicitDefEqProofs only [rv63, wireC, hand1, hand2, InR, Ent.of0, Ent.of1, Ent.of2, Ent.of3, V, cc, bE, bN, bR, cV, cT, gt, lk, co, cC, cJ, cd, ca, bV, bV.subCs, cO, bu, bF, bZ, aV, bt, bh, aW, bM, bK, aH, a7, aX, cr, dd, cY, aq, aw, bT, cI, cb, cP, cU, aP, am, bQ, bJ, zC, argS, bO, ce, da, cR, ai, aE, aO, aA, cG, leC, cn, b0, bW, dc, bX, aR, aF, cZ, ah, cL, bf, bf.viewCs, bA, bA.flatCs, aK, aK.LensOks, Value.oneCell', ↓reduceIte, ite_true, ite_false, if_true, if_false, Nat.reduceAdd, Nat.reduceSub, Nat.reduceMul, Nat.reduceEqDiff, Nat.reduceLT, Nat.reduceLeDiff, reduceCtorEq, Int.reduceToNat, forall_const, implies_true, a6, Ent.mk3, bw, bC, bB, bk, bl, bo, bH, bL, bg, be, bz, cH, bn, cQ, rn, bS, bS.renCs, aI, aN, aY, aY.viewOks, aJ, bm, bm.flatBs, aG, an, av, ar, az, bq, bq.keysBs, aT, ap, bj, cp, bD, cg, af, af.passKs, aD, aL, ae, ae.lendKs, cM, cq, cz, bG, setInn, ag, cN, db, ay, br, bP, cj, aC, aU, Glob.gl, ax, cK, aZ, cm, bv, aj, cD, cS, cB, cW, cu, au, au.ptrOnlys, ak, aM, bY, aB, bI, a8, bU, aQ, bp, cF, Nat.reduceBEq, undef]
  have hle : b &&& 1 ≤ 1 := Nat.and_le_right
  refine ⟨by omega, ?_⟩
  have hr : b &&& tp < 65536 := Nat.lt_of_le_of_lt Nat.and_le_left hb
  refine S_loopU (α := Nat × Nat) (fun v => [(5, .s (.int .u16 (v.1 : Int))), (4, .s (.int .u16 (v.2 : Int)))]) (fun _ => []) (fun v => parF v.1 v.1 v.2 = parS (b &&& tp) ∧ v.1 < 65536 ∧ v.2 ≤ 1) (fun v => v.1) (b &&& tp, 0) ⟨rfl, hr, by omega⟩ ?_ (fun v hv => S_run [] 800 ?_)
  · simp only [V, cc, bE, bN, bR, cV, cT, gt, lk, co, cC, cJ, cd, ca, bV, bV.subCs, cO, bu, bF, bZ, aV, bt, bh, aW, bM, bK, aH, a7, aX, cr, dd, cY, aq, aw, bT, cI, cb, cP, cU, aP, am, bQ, bJ, zC, argS, bO, ce, da, cR, ai, aE, aO, aA, cG, leC, cn, b0, bW, dc, bX, aR, aF, cZ, ah, cL, bf, bf.viewCs, bA, bA.flatCs, aK, aK.LensOks, Value.oneCell', ↓reduceIte, ite_true, ite_false, if_true, if_false, Nat.reduceAdd, Nat.reduceSub, Nat.reduceMul, Nat.reduceEqDiff, Nat.reduceLT, Nat.reduceLeDiff, reduceCtorEq, Int.reduceToNat, forall_const, implies_true, a6, Ent.mk3, bw, bC, bB, bk, bl, bo, bH, bL, bg, be, bz, cH, bn, cQ, rn, bS, bS.renCs, aI, aN, aY, aY.viewOks, aJ, bm, bm.flatBs, aG, an, av, ar, az, bq, bq.keysBs, aT, ap, bj, cp, bD, cg, af, af.passKs, aD, aL, ae, ae.lendKs, cM, cq, cz, bG, setInn, ag, cN, db, ay, br, bP, cj, aC, aU, Glob.gl, ax, cK, aZ, cm, bv, aj, cD, cS, cB, cW, cu, au, au.ptrOnlys, ak, aM, bY, aB, bI, a8, bU, aQ, bp, cF, Nat.reduceBEq, undef]; simp
  · obtain ⟨n, f⟩ := v
    obtain ⟨hv1, hv2, hv3⟩ := hv
    simp only at hv1 hv2 hv3
    have hx : bitF .xor .u16 (f : Int) 1 = ((f ^^^ 1 : Nat) : Int) := xor16 (by omega) (show 1 < 65536 by decide)
    have hf : f = 0 ∨ f = 1 := by omega
    by_cases hn : n = 0
    · have hn' : ((n : Int) = 0) := by omega
      have hp : parS (b &&& tp) = f := by rw [← hv1, hn]; rfl
      have hsh : min (1 : Nat) 16 = 1 := rfl
      have hmt : min (top : Nat) 16 = top := Nat.min_eq_left (by omega)
      have hpow : 2 ^ top ≤ 2 ^ 14 := Nat.pow_le_pow_right (by decide) (by omega)
      have hlt : f * 2 ^ top < 65536 := by rcases hf with rfl | rfl <;> omega
      have hor := or16 (a := b / 2) (b := f * 2 ^ top) (by omega) hlt
      have hdiv : (b : Int).fdiv (2 ^ 1) = ((b / 2 : Nat) : Int) := by
        rw [Int.fdiv_eq_ediv_of_nonneg _ (by decide)]; omega
      have hmul : (f : Int) * 2 ^ top = ((f * 2 ^ top : Nat) : Int) := by push_cast; rfl
      delta c63l1
      simp (maxSteps := 4000000) -implicitDefEqProofs only [hn', rv63, IntKind.bits, hsh, hmt, hdiv, hmul, hor, Ent.of0, Ent.of1, Ent.of2, Ent.of3, V, cc, bE, bN, bR, cV, cT, gt, lk, co, cC, cJ, cd, ca, bV, bV.subCs, cO, bu, bF, bZ, aV, bt, bh, aW, bM, bK, aH, a7, aX, cr, dd, cY, aq, aw, bT, cI, cb, cP, cU, aP, am, bQ, bJ, zC, argS, bO, ce, da, cR, ai, aE, aO, aA, cG, leC, cn, b0, bW, dc, bX, aR, aF, cZ, ah, cL, bf, bf.viewCs, bA, bA.flatCs, aK, aK.LensOks, Value.oneCell', ↓reduceIte, ite_true, ite_false, if_true, if_false, Nat.reduceAdd, Nat.reduceSub, Nat.reduceMul, Nat.reduceEqDiff, Nat.reduceLT, Nat.reduceLeDiff, reduceCtorEq, Int.reduceToNat, forall_const, implies_true, a6, Ent.mk3, bw, bC, bB, bk, bl, bo, bH, bL, bg, be, bz, cH, bn, cQ, rn, bS, bS.renCs, aI, aN, aY, aY.viewOks, aJ, bm, bm.flatBs, aG, an, av, ar, az, bq, bq.keysBs, aT, ap, bj, cp, bD, cg, af, af.passKs, aD, aL, ae, ae.lendKs, cM, cq, cz, bG, setInn, ag, cN, db, ay, br, bP, cj, aC, aU, Glob.gl, ax, cK, aZ, cm, bv, aj, cD, cS, cB, cW, cu, au, au.ptrOnlys, ak, aM, bY, aB, bI, a8, bU, aQ, bp, cF, Nat.reduceBEq, undef]
      simp only [outS, stepS, hp]
      exact ⟨by omega, ⟨by omega, inR16 (by omega)⟩, by rw [Nat.and_one_is_mod], trivial⟩
    · have hn' : ¬ ((n : Int) = 0) := by omega
      delta c63l1
      simp (maxSteps := 4000000) -implicitDefEqProofs only [hn', hx, Ent.of0, Ent.of1, Ent.of2, Ent.of3, V, cc, bE, bN, bR, cV, cT, gt, lk, co, cC, cJ, cd, ca, bV, bV.subCs, cO, bu, bF, bZ, aV, bt, bh, aW, bM, bK, aH, a7, aX, cr, dd, cY, aq, aw, bT, cI, cb, cP, cU, aP, am, bQ, bJ, zC, argS, bO, ce, da, cR, ai, aE, aO, aA, cG, leC, cn, b0, bW, dc, bX, aR, aF, cZ, ah, cL, bf, bf.viewCs, bA, bA.flatCs, aK, aK.LensOks, Value.oneCell', ↓reduceIte, ite_true, ite_false, if_true, if_false, Nat.reduceAdd, Nat.reduceSub, Nat.reduceMul, Nat.reduceEqDiff, Nat.reduceLT, Nat.reduceLeDiff, reduceCtorEq, Int.reduceToNat, forall_const, implies_true, a6, Ent.mk3, bw, bC, bB, bk, bl, bo, bH, bL, bg, be, bz, cH, bn, cQ, rn, bS, bS.renCs, aI, aN, aY, aY.viewOks, aJ, bm, bm.flatBs, aG, an, av, ar, az, bq, bq.keysBs, aT, ap, bj, cp, bD, cg, af, af.passKs, aD, aL, ae, ae.lendKs, cM, cq, cz, bG, setInn, ag, cN, db, ay, br, bP, cj, aC, aU, Glob.gl, ax, cK, aZ, cm, bv, aj, cD, cS, cB, cW, cu, au, au.ptrOnlys, ak, aM, bY, aB, bI, a8, bU, aQ, bp, cF, Nat.reduceBEq, undef]
      have hpl := and_pred_lt hn
      have hand : bitF .and .u16 (n : Int) ((n : Int) - 1) = ((n &&& (n - 1) : Nat) : Int) := by
        have := and16 hv2 (show n - 1 < 65536 by omega)
        rwa [show ((n - 1 : Nat) : Int) = (n : Int) - 1 by omega] at this
      refine ⟨inR16 (by omega), (n &&& (n - 1), f ^^^ 1), ⟨?_, by omega, ?_⟩, hpl, rfl, hand⟩
      · rw [← hv1]
        obtain ⟨m, rfl⟩ : ∃ m, n = m + 1 := ⟨n - 1, by omega⟩
        simp only [parF]
        exact parF_fuel _ _ _ _ (Nat.le_refl _) (by omega)
      · rcases hf with rfl | rfl
        · show (0 ^^^ 1 : Nat) ≤ 1; decide
        · show (1 ^^^ 1 : Nat) ≤ 1; decide
theorem stepS_ok {w : Wire} (hw : w.Ok) : (stepS w).Ok := by
  obtain ⟨h1, h2, h3⟩ := hw
  refine ⟨h1, ?_, h3⟩
  show (w.bits / 2) ||| (parS (w.bits &&& w.taps) * 2 ^ w.top) < 2 ^ (w.top + 1)
  have e : 2 ^ (w.top + 1) = 2 * 2 ^ w.top := by rw [Nat.pow_succ]; omega
  refine Nat.or_lt_two_pow (by omega) ?_
  have := parF_le (w.bits &&& w.taps) (w.bits &&& w.taps) 0 (by omega)
  have hp : parS (w.bits &&& w.taps) ≤ 1 := this
  have hpos : 0 < 2 ^ w.top := Nat.pow_pos (by decide)
  have := Nat.mul_le_mul_right (2 ^ w.top) hp
  omega
def wireI (b t p : Int) : Wire := ⟨b.toNat, t.toNat, p.toNat⟩
def ent63 : Ent Tryz.prog where
  id := 63
  sp := fun args chs => match args, chs with
    | [.ptr k o], [(k', .box [.s (.int .u16 b), .s (.int .u16 t), .s (.int .i64 p)])] => some ((k = 100000 ∧ o = 0 ∧ k' = 100000) ∧ (0 ≤ b ∧ 0 ≤ t ∧ 0 ≤ p) ∧ (wireI b t p).Ok, .s (.int .i64 (outS (wireI b t p))), [(100000, .box [.s (.int .u16 ((stepS (wireI b t p)).bits)), .s (.int .u16 t), .s (.int .i64 p)])], [])
    | _, _ => none
  ok := by
    intro args chs p r chs' nk hs hp
    split at hs
    · simp only [Option.some.injEq, Prod.mk.injEq] at hs
      obtain ⟨rfl, rfl, rfl, rfl⟩ := hs
      obtain ⟨⟨rfl, rfl, rfl⟩, ⟨h1, h2, h3⟩, hw⟩ := hp
      rename_i b t p
      have hc : wireC (wireI b t p) = [.s (.int .u16 b), .s (.int .u16 t), .s (.int .i64 p)] := by
        simp only [wireC, wireI, Int.toNat_of_nonneg h1, Int.toNat_of_nonneg h2, Int.toNat_of_nonneg h3]
      have hc' : wireC (stepS (wireI b t p)) = [.s (.int .u16 ((stepS (wireI b t p)).bits)), .s (.int .u16 t), .s (.int .i64 p)] := by
        simp only [wireC, stepS, wireI, Int.toNat_of_nonneg h2, Int.toNat_of_nonneg h3]
      have := step_c (wireI b t p) hw
      rw [hc, hc'] at this
      refine ⟨this, ⟨fun k c h => ?_, fun k cs h => ?_, trivial, fun k c h => ?_⟩⟩
      · simp only [List.mem_singleton, Prod.mk.injEq] at h; exact .inr ⟨_, by rw [h.1]; exact List.mem_singleton.2 rfl⟩
      · simp only [List.mem_singleton, Prod.mk.injEq] at h; exact ⟨_, by rw [h.1]; exact List.mem_singleton.2 rfl⟩
      · simp only [List.mem_singleton, Prod.mk.injEq] at h; rw [h.2]; exact ⟨trivial, trivial, trivial, trivial⟩
    · cases hs
end Go.Proofs.YtfgpbmjmoobcnaaGreatDoor
end
section
open Go Go.Am
open Go.Am.Dat (cells)
namespace Go.Proofs.YtfgpbmjmoobcnaaGreatDoor
set_option maxHeartbeats 4000000
set_option maxRecDepth 100000
set_option linter.unusedSimpArgs false
def runW (w : Wire) : Nat → Wire
  | 0 => w
  | i + 1 => stepS (runW w i)
theorem runW_ok {w : Wire} (h : w.Ok) : ∀ i, (runW w i).Ok
  | 0 => h
  | i + 1 => stepS_ok (runW_ok h i)
theorem runW_same (w : Wire) : ∀ i, (runW w i).taps = w.taps ∧ (runW w i).top = w.top
  | 0 => ⟨rfl, rfl⟩
  | i + 1 => runW_same w i
def outsW (w : Wire) (i : Nat) : List C := [.s (.int .i64 (outS (runW w i)))]
theorem given_c (w : Wire) (hw : w.Ok) (N : Nat) (hN : 0 < N) : ItC Tryz.prog 34 [.agg (wireC w)] [] [] 100000 (outsW w) N false := by
  intro l R Rf hy
  refine fco_intro [] is34 (by simp) (by simp) (fun o ho k cs hm => by simp at ho; rw [ho] at hm; simp at hm) (fun cx _ _ _ => S_run [] 800 ?_)
  delta c34
  simp (maxSteps := 4000000) -implicitDefEqProofs only [rv34, wireC, List.append_nil, Ent.of0, Ent.of1, Ent.of2, Ent.of3, V, cc, bE, bN, bR, cV, cT, gt, lk, co, cC, cJ, cd, ca, bV, bV.subCs, cO, bu, bF, bZ, aV, bt, bh, aW, bM, bK, aH, a7, aX, cr, dd, cY, aq, aw, bT, cI, cb, cP, cU, aP, am, bQ, bJ, zC, argS, bO, ce, da, cR, ai, aE, aO, aA, cG, leC, cn, b0, bW, dc, bX, aR, aF, cZ, ah, cL, bf, bf.viewCs, bA, bA.flatCs, aK, aK.LensOks, Value.oneCell', ↓reduceIte, ite_true, ite_false, if_true, if_false, Nat.reduceAdd, Nat.reduceSub, Nat.reduceMul, Nat.reduceEqDiff, Nat.reduceLT, Nat.reduceLeDiff, reduceCtorEq, Int.reduceToNat, forall_const, implies_true, a6, Ent.mk3, bw, bC, bB, bk, bl, bo, bH, bL, bg, be, bz, cH, bn, cQ, rn, bS, bS.renCs, aI, aN, aY, aY.viewOks, aJ, bm, bm.flatBs, aG, an, av, ar, az, bq, bq.keysBs, aT, ap, bj, cp, bD, cg, af, af.passKs, aD, aL, ae, ae.lendKs, cM, cq, cz, bG, setInn, ag, cN, db, ay, br, bP, cj, aC, aU, Glob.gl, ax, cK, aZ, cm, bv, aj, cD, cS, cB, cW, cu, au, au.ptrOnlys, ak, aM, bY, aB, bI, a8, bU, aQ, bp, cF, Nat.reduceBEq, undef]
  refine S_loopU (α := Nat) (fun i => []) (fun i => [(2, .box (wireC (runW w i))), (100000, .res (R i))]) (fun i => i < N) (fun i => N - i) 0 hN ?_ (fun i hi => S_run [ent63] 800 ?_)
  · simp (maxSteps := 4000000) -implicitDefEqProofs only [wireC, runW, Ent.of0, Ent.of1, Ent.of2, Ent.of3, V, cc, bE, bN, bR, cV, cT, gt, lk, co, cC, cJ, cd, ca, bV, bV.subCs, cO, bu, bF, bZ, aV, bt, bh, aW, bM, bK, aH, a7, aX, cr, dd, cY, aq, aw, bT, cI, cb, cP, cU, aP, am, bQ, bJ, zC, argS, bO, ce, da, cR, ai, aE, aO, aA, cG, leC, cn, b0, bW, dc, bX, aR, aF, cZ, ah, cL, bf, bf.viewCs, bA, bA.flatCs, aK, aK.LensOks, Value.oneCell', ↓reduceIte, ite_true, ite_false, if_true, if_false, Nat.reduceAdd, Nat.reduceSub, Nat.reduceMul, Nat.reduceEqDiff, Nat.reduceLT, Nat.reduceLeDiff, reduceCtorEq, Int.reduceToNat, forall_const, implies_true, a6, Ent.mk3, bw, bC, bB, bk, bl, bo, bH, bL, bg, be, bz, cH, bn, cQ, rn, bS, bS.renCs, aI, aN, aY, aY.viewOks, aJ, bm, bm.flatBs, aG, an, av, ar, az, bq, bq.keysBs, aT, ap, bj, cp, bD, cg, af, af.passKs, aD, aL, ae, ae.lendKs, cM, cq, cz, bG, setInn, ag, cN, db, ay, br, bP, cj, aC, aU, Glob.gl, ax, cK, aZ, cm, bv, aj, cD, cS, cB, cW, cu, au, au.ptrOnlys, ak, aM, bY, aB, bI, a8, bU, aQ, bp, cF, Nat.reduceBEq, undef]
  · have hok := runW_ok hw i
    have heta : ({ bits := (runW w i).bits, taps := (runW w i).taps, top := (runW w i).top } : Wire) = runW w i := rfl
    delta c34l1
    simp (maxSteps := 4000000) -implicitDefEqProofs only [rv34, wireC, ent63, wireI, heta, Ent.of0, Ent.of1, Ent.of2, Ent.of3, V, cc, bE, bN, bR, cV, cT, gt, lk, co, cC, cJ, cd, ca, bV, bV.subCs, cO, bu, bF, bZ, aV, bt, bh, aW, bM, bK, aH, a7, aX, cr, dd, cY, aq, aw, bT, cI, cb, cP, cU, aP, am, bQ, bJ, zC, argS, bO, ce, da, cR, ai, aE, aO, aA, cG, leC, cn, b0, bW, dc, bX, aR, aF, cZ, ah, cL, bf, bf.viewCs, bA, bA.flatCs, aK, aK.LensOks, Value.oneCell', ↓reduceIte, ite_true, ite_false, if_true, if_false, Nat.reduceAdd, Nat.reduceSub, Nat.reduceMul, Nat.reduceEqDiff, Nat.reduceLT, Nat.reduceLeDiff, reduceCtorEq, Int.reduceToNat, forall_const, implies_true, a6, Ent.mk3, bw, bC, bB, bk, bl, bo, bH, bL, bg, be, bz, cH, bn, cQ, rn, bS, bS.renCs, aI, aN, aY, aY.viewOks, aJ, bm, bm.flatBs, aG, an, av, ar, az, bq, bq.keysBs, aT, ap, bj, cp, bD, cg, af, af.passKs, aD, aL, ae, ae.lendKs, cM, cq, cz, bG, setInn, ag, cN, db, ay, br, bP, cj, aC, aU, Glob.gl, ax, cK, aZ, cm, bv, aj, cD, cS, cB, cW, cu, au, au.ptrOnlys, ak, aM, bY, aB, bI, a8, bU, aQ, bp, cF, Nat.reduceBEq, undef]
    refine ⟨⟨by omega, hok⟩, D_outs rfl (OpM.yield (l := l) (kr := 100000) (xs := outsW w i) (R := R i) rfl rfl rfl (hy i hi)) (fun ef hef => ?_)⟩
    have hno : ef = bU [(2, .box [.s (.int .u16 (stepS (runW w i)).bits), .s (.int .u16 (runW w i).taps), .s (.int .i64 (runW w i).top)]), (100000, .res (R i))] 100000 false Rf ∨
        (i + 1 < N ∧ ef = bU [(2, .box [.s (.int .u16 (stepS (runW w i)).bits), .s (.int .u16 (runW w i).taps), .s (.int .i64 (runW w i).top)]), (100000, .res (R i))] 100000 true (R (i + 1))) := by
      by_cases h2 : i + 1 < N
      · rw [if_pos (.inl h2)] at hef
        simp only [a8, List.mem_cons, List.not_mem_nil, or_false] at hef
        rcases hef with h | h
        · exact .inr ⟨h2, h⟩
        · exact .inl h
      · rw [if_neg (by simp [h2])] at hef
        simp only [a8, List.mem_cons, List.not_mem_nil, or_false] at hef
        exact .inl hef
    have hs := runW_same w i
    rcases hno with rfl | ⟨h2, rfl⟩
    · refine D_run [] 800 ?_
      simp (maxSteps := 4000000) -implicitDefEqProofs only [rv34, Ent.of0, Ent.of1, Ent.of2, Ent.of3, V, cc, bE, bN, bR, cV, cT, gt, lk, co, cC, cJ, cd, ca, bV, bV.subCs, cO, bu, bF, bZ, aV, bt, bh, aW, bM, bK, aH, a7, aX, cr, dd, cY, aq, aw, bT, cI, cb, cP, cU, aP, am, bQ, bJ, zC, argS, bO, ce, da, cR, ai, aE, aO, aA, cG, leC, cn, b0, bW, dc, bX, aR, aF, cZ, ah, cL, bf, bf.viewCs, bA, bA.flatCs, aK, aK.LensOks, Value.oneCell', ↓reduceIte, ite_true, ite_false, if_true, if_false, Nat.reduceAdd, Nat.reduceSub, Nat.reduceMul, Nat.reduceEqDiff, Nat.reduceLT, Nat.reduceLeDiff, reduceCtorEq, Int.reduceToNat, forall_const, implies_true, a6, Ent.mk3, bw, bC, bB, bk, bl, bo, bH, bL, bg, be, bz, cH, bn, cQ, rn, bS, bS.renCs, aI, aN, aY, aY.viewOks, aJ, bm, bm.flatBs, aG, an, av, ar, az, bq, bq.keysBs, aT, ap, bj, cp, bD, cg, af, af.passKs, aD, aL, ae, ae.lendKs, cM, cq, cz, bG, setInn, ag, cN, db, ay, br, bP, cj, aC, aU, Glob.gl, ax, cK, aZ, cm, bv, aj, cD, cS, cB, cW, cu, au, au.ptrOnlys, ak, aM, bY, aB, bI, a8, bU, aQ, bp, cF, Nat.reduceBEq, undef]
      exact ⟨_, List.mem_cons_self, trivial, rfl, trivial⟩
    · refine D_run [] 800 ?_
      simp (maxSteps := 4000000) -implicitDefEqProofs only [rv34, wireC, runW, Ent.of0, Ent.of1, Ent.of2, Ent.of3, V, cc, bE, bN, bR, cV, cT, gt, lk, co, cC, cJ, cd, ca, bV, bV.subCs, cO, bu, bF, bZ, aV, bt, bh, aW, bM, bK, aH, a7, aX, cr, dd, cY, aq, aw, bT, cI, cb, cP, cU, aP, am, bQ, bJ, zC, argS, bO, ce, da, cR, ai, aE, aO, aA, cG, leC, cn, b0, bW, dc, bX, aR, aF, cZ, ah, cL, bf, bf.viewCs, bA, bA.flatCs, aK, aK.LensOks, Value.oneCell', ↓reduceIte, ite_true, ite_false, if_true, if_false, Nat.reduceAdd, Nat.reduceSub, Nat.reduceMul, Nat.reduceEqDiff, Nat.reduceLT, Nat.reduceLeDiff, reduceCtorEq, Int.reduceToNat, forall_const, implies_true, a6, Ent.mk3, bw, bC, bB, bk, bl, bo, bH, bL, bg, be, bz, cH, bn, cQ, rn, bS, bS.renCs, aI, aN, aY, aY.viewOks, aJ, bm, bm.flatBs, aG, an, av, ar, az, bq, bq.keysBs, aT, ap, bj, cp, bD, cg, af, af.passKs, aD, aL, ae, ae.lendKs, cM, cq, cz, bG, setInn, ag, cN, db, ay, br, bP, cj, aC, aU, Glob.gl, ax, cK, aZ, cm, bv, aj, cD, cS, cB, cW, cu, au, au.ptrOnlys, ak, aM, bY, aB, bI, a8, bU, aQ, bp, cF, Nat.reduceBEq, undef]
      exact ⟨i + 1, h2, by omega, rfl, rfl⟩
end Go.Proofs.YtfgpbmjmoobcnaaGreatDoor
end
section
open Go Go.Am
open Go.Am.Dat (cells)
namespace Go.Proofs.YtfgpbmjmoobcnaaGreatDoor
set_option maxHeartbeats 4000000
set_option maxRecDepth 100000
set_option linter.unusedSimpArgs false
def idxOfI (l : List Int) (p : Int → Bool) : Int := match l.findIdx? p with | some i => (i : Int) | none => -1
theorem IndexFuncI_c (f : FuncId) (p : Int → Bool) (hf : ∀ g, FC Tryz.prog f [enc g] [] (enc (p g)) []) (l : List Int) : FC Tryz.prog 107 [enc l, .fn (.func f) [] []] [] (enc (idxOfI l p)) [] := by
  refine fc_intro' is107 (by simp) (fun cx hl => S_run [] 800 ?_)
  simp only [V, cc, bE, bN, bR, cV, cT, gt, lk, co, cC, cJ, cd, ca, bV, bV.subCs, cO, bu, bF, bZ, aV, bt, bh, aW, bM, bK, aH, a7, aX, cr, dd, cY, aq, aw, bT, cI, cb, cP, cU, aP, am, bQ, bJ, zC, argS, bO, ce, da, cR, ai, aE, aO, aA, cG, leC, cn, b0, bW, dc, bX, aR, aF, cZ, ah, cL, bf, bf.viewCs, bA, bA.flatCs, aK, aK.LensOks, Value.oneCell', ↓reduceIte, ite_true, ite_false, if_true, if_false, Nat.reduceAdd, Nat.reduceSub, Nat.reduceMul, Nat.reduceEqDiff, Nat.reduceLT, Nat.reduceLeDiff, reduceCtorEq, Int.reduceToNat, forall_const, implies_true, a6, Ent.mk3, bw, bC, bB, bk, bl, bo, bH, bL, bg, be, bz, cH, bn, cQ, rn, bS, bS.renCs, aI, aN, aY, aY.viewOks, aJ, bm, bm.flatBs, aG, an, av, ar, az, bq, bq.keysBs, aT, ap, bj, cp, bD, cg, af, af.passKs, aD, aL, ae, ae.lendKs, cM, cq, cz, bG, setInn, ag, cN, db, ay, br, bP, cj, aC, aU, Glob.gl, ax, cK, aZ, cm, bv, aj, cD, cS, cB, cW, cu, au, au.ptrOnlys, ak, aM, bY, aB, bI, a8, bU, aQ, bp, cF, Nat.reduceBEq, undef] at hl
  have hlen := hl.list
  delta c107
  simp (maxSteps := 4000000) -implicitDefEqProofs only [rv107, Ent.of0, Ent.of1, Ent.of2, Ent.of3, V, cc, bE, bN, bR, cV, cT, gt, lk, co, cC, cJ, cd, ca, bV, bV.subCs, cO, bu, bF, bZ, aV, bt, bh, aW, bM, bK, aH, a7, aX, cr, dd, cY, aq, aw, bT, cI, cb, cP, cU, aP, am, bQ, bJ, zC, argS, bO, ce, da, cR, ai, aE, aO, aA, cG, leC, cn, b0, bW, dc, bX, aR, aF, cZ, ah, cL, bf, bf.viewCs, bA, bA.flatCs, aK, aK.LensOks, Value.oneCell', ↓reduceIte, ite_true, ite_false, if_true, if_false, Nat.reduceAdd, Nat.reduceSub, Nat.reduceMul, Nat.reduceEqDiff, Nat.reduceLT, Nat.reduceLeDiff, reduceCtorEq, Int.reduceToNat, forall_const, implies_true, a6, Ent.mk3, bw, bC, bB, bk, bl, bo, bH, bL, bg, be, bz, cH, bn, cQ, rn, bS, bS.renCs, aI, aN, aY, aY.viewOks, aJ, bm, bm.flatBs, aG, an, av, ar, az, bq, bq.keysBs, aT, ap, bj, cp, bD, cg, af, af.passKs, aD, aL, ae, ae.lendKs, cM, cq, cz, bG, setInn, ag, cN, db, ay, br, bP, cj, aC, aU, Glob.gl, ax, cK, aZ, cm, bv, aj, cD, cS, cB, cW, cu, au, au.ptrOnlys, ak, aM, bY, aB, bI, a8, bU, aQ, bp, cF, Nat.reduceBEq, undef]
  refine S_for l.length (fun i => ⟨[(0, enc l), (1, .fn (.func f) [] []), (7, .s (.int .i64 l.length)), (8, .s (.int .i64 i))], []⟩) (fun i => ∀ j, j < i → p (l.getD j 0) = false) (by omega) ?_
    (fun i hi hv => S_run [.of1 f (fun _ => True) (fun g => enc (p g)) (fun _ => trivial) (fun g _ => hf g)] 800 ?_)
  · simp (maxSteps := 4000000) -implicitDefEqProofs only [Ent.of0, Ent.of1, Ent.of2, Ent.of3, V, cc, bE, bN, bR, cV, cT, gt, lk, co, cC, cJ, cd, ca, bV, bV.subCs, cO, bu, bF, bZ, aV, bt, bh, aW, bM, bK, aH, a7, aX, cr, dd, cY, aq, aw, bT, cI, cb, cP, cU, aP, am, bQ, bJ, zC, argS, bO, ce, da, cR, ai, aE, aO, aA, cG, leC, cn, b0, bW, dc, bX, aR, aF, cZ, ah, cL, bf, bf.viewCs, bA, bA.flatCs, aK, aK.LensOks, Value.oneCell', ↓reduceIte, ite_true, ite_false, if_true, if_false, Nat.reduceAdd, Nat.reduceSub, Nat.reduceMul, Nat.reduceEqDiff, Nat.reduceLT, Nat.reduceLeDiff, reduceCtorEq, Int.reduceToNat, forall_const, implies_true, a6, Ent.mk3, bw, bC, bB, bk, bl, bo, bH, bL, bg, be, bz, cH, bn, cQ, rn, bS, bS.renCs, aI, aN, aY, aY.viewOks, aJ, bm, bm.flatBs, aG, an, av, ar, az, bq, bq.keysBs, aT, ap, bj, cp, bD, cg, af, af.passKs, aD, aL, ae, ae.lendKs, cM, cq, cz, bG, setInn, ag, cN, db, ay, br, bP, cj, aC, aU, Glob.gl, ax, cK, aZ, cm, bv, aj, cD, cS, cB, cW, cu, au, au.ptrOnlys, ak, aM, bY, aB, bI, a8, bU, aQ, bp, cF, Nat.reduceBEq, undef]; simp
  · delta c107l1
    simp (maxSteps := 4000000) -implicitDefEqProofs only [InR, Ent.of0, Ent.of1, Ent.of2, Ent.of3, V, cc, bE, bN, bR, cV, cT, gt, lk, co, cC, cJ, cd, ca, bV, bV.subCs, cO, bu, bF, bZ, aV, bt, bh, aW, bM, bK, aH, a7, aX, cr, dd, cY, aq, aw, bT, cI, cb, cP, cU, aP, am, bQ, bJ, zC, argS, bO, ce, da, cR, ai, aE, aO, aA, cG, leC, cn, b0, bW, dc, bX, aR, aF, cZ, ah, cL, bf, bf.viewCs, bA, bA.flatCs, aK, aK.LensOks, Value.oneCell', ↓reduceIte, ite_true, ite_false, if_true, if_false, Nat.reduceAdd, Nat.reduceSub, Nat.reduceMul, Nat.reduceEqDiff, Nat.reduceLT, Nat.reduceLeDiff, reduceCtorEq, Int.reduceToNat, forall_const, implies_true, a6, Ent.mk3, bw, bC, bB, bk, bl, bo, bH, bL, bg, be, bz, cH, bn, cQ, rn, bS, bS.renCs, aI, aN, aY, aY.viewOks, aJ, bm, bm.flatBs, aG, an, av, ar, az, bq, bq.keysBs, aT, ap, bj, cp, bD, cg, af, af.passKs, aD, aL, ae, ae.lendKs, cM, cq, cz, bG, setInn, ag, cN, db, ay, br, bP, cj, aC, aU, Glob.gl, ax, cK, aZ, cm, bv, aj, cD, cS, cB, cW, cu, au, au.ptrOnlys, ak, aM, bY, aB, bI, a8, bU, aQ, bp, cF, Nat.reduceBEq, undef]
    by_cases h : i < l.length
    · rw [if_pos (by omega)]
      refine ⟨by omega, ?_⟩
      cases hp : p (l.getD i 0) with
      | true =>
        simp only [if_true]
        have : l.findIdx? p = some i := by
          rw [List.findIdx?_eq_some_iff_getElem]
          rw [List.getD_eq_getElem?_getD, List.getElem?_eq_getElem h] at hp
          refine ⟨h, hp, fun j hj => ?_⟩
          have := hv j hj
          rw [List.getD_eq_getElem?_getD, List.getElem?_eq_getElem (by omega)] at this
          simpa using this
        simp [idxOfI, this]
      | false =>
        simp only [Bool.false_eq_true, if_false]
        refine ⟨by omega, h, fun j hj => ?_, by omega⟩
        by_cases hj2 : j = i
        · rw [hj2]; exact hp
        · exact hv j (by omega)
    · rw [if_neg (by omega)]
      have : l.findIdx? p = none := by
        rw [List.findIdx?_eq_none_iff]
        intro x hx
        obtain ⟨j, hj, rfl⟩ := List.getElem_of_mem hx
        have := hv j (by omega)
        rwa [List.getD_eq_getElem?_getD, List.getElem?_eq_getElem hj] at this
      simp [idxOfI, this]
theorem ContainsFuncI_c (f : FuncId) (p : Int → Bool) (hf : ∀ g, FC Tryz.prog f [enc g] [] (enc (p g)) []) (l : List Int) : FC Tryz.prog 85 [enc l, .fn (.func f) [] []] [] (enc (l.any p)) [] := by
  let e : Ent Tryz.prog := .mk3 107 (fun args chs => match args, chs with | [x, .fn (.func g) [] []], [] => if g = f then (decV x).bind fun l => some (True, enc (idxOfI l p), [], []) else none | _, _ => none) (by
    intro args chs q r chs' nk h1 h2
    split at h1
    · split at h1
      · rename_i hg; subst hg
        simp only [Option.bind_eq_some_iff, Option.some.injEq, Prod.mk.injEq] at h1
        obtain ⟨a, ha, rfl, rfl, rfl, rfl⟩ := h1
        exact ⟨(IndexFuncI_c _ p hf a).le (args' := [_, _]) ⟨decV_ok ha, leC1_refl _, trivial⟩, .plain trivial⟩
      · cases h1
    · cases h1)
  refine fc_intro' is85 (by simp) (fun cx hl => S_run [e] 800 ?_)
  delta c85
  simp (maxSteps := 4000000) -implicitDefEqProofs only [rv85, e, Ent.of0, Ent.of1, Ent.of2, Ent.of3, V, cc, bE, bN, bR, cV, cT, gt, lk, co, cC, cJ, cd, ca, bV, bV.subCs, cO, bu, bF, bZ, aV, bt, bh, aW, bM, bK, aH, a7, aX, cr, dd, cY, aq, aw, bT, cI, cb, cP, cU, aP, am, bQ, bJ, zC, argS, bO, ce, da, cR, ai, aE, aO, aA, cG, leC, cn, b0, bW, dc, bX, aR, aF, cZ, ah, cL, bf, bf.viewCs, bA, bA.flatCs, aK, aK.LensOks, Value.oneCell', ↓reduceIte, ite_true, ite_false, if_true, if_false, Nat.reduceAdd, Nat.reduceSub, Nat.reduceMul, Nat.reduceEqDiff, Nat.reduceLT, Nat.reduceLeDiff, reduceCtorEq, Int.reduceToNat, forall_const, implies_true, a6, Ent.mk3, bw, bC, bB, bk, bl, bo, bH, bL, bg, be, bz, cH, bn, cQ, rn, bS, bS.renCs, aI, aN, aY, aY.viewOks, aJ, bm, bm.flatBs, aG, an, av, ar, az, bq, bq.keysBs, aT, ap, bj, cp, bD, cg, af, af.passKs, aD, aL, ae, ae.lendKs, cM, cq, cz, bG, setInn, ag, cN, db, ay, br, bP, cj, aC, aU, Glob.gl, ax, cK, aZ, cm, bv, aj, cD, cS, cB, cW, cu, au, au.ptrOnlys, ak, aM, bY, aB, bI, a8, bU, aQ, bp, cF, Nat.reduceBEq, undef]
  unfold idxOfI
  cases hq : l.findIdx? p with
  | none =>
    rw [List.findIdx?_eq_none_iff] at hq
    have : l.any p = false := by simpa using hq
    simp [this]
  | some i =>
    rw [List.findIdx?_eq_some_iff_getElem] at hq
    obtain ⟨h1, h2, _⟩ := hq
    have : l.any p = true := List.any_eq_true.2 ⟨_, List.getElem_mem h1, h2⟩
    simp [this]
def eAnyI (f : FuncId) (p : Int → Bool) (hf : ∀ g, FC Tryz.prog f [enc g] [] (enc (p g)) []) : Ent Tryz.prog := .mk3 85 (fun args chs => match args, chs with | [x, .fn (.func g) [] []], [] => if g = f then (decV x).bind fun l => some (True, enc (List.any l p), [], []) else none | _, _ => none) (by
    intro args chs q r chs' nk h1 h2
    split at h1
    · split at h1
      · rename_i hg; subst hg
        simp only [Option.bind_eq_some_iff, Option.some.injEq, Prod.mk.injEq] at h1
        obtain ⟨a, ha, rfl, rfl, rfl, rfl⟩ := h1
        exact ⟨(ContainsFuncI_c _ p hf a).le (args' := [_, _]) ⟨decV_ok ha, leC1_refl _, trivial⟩, .plain trivial⟩
      · cases h1
    · cases h1)
def isBit (b : Int) : Bool := decide (0 ≤ b ∧ b ≤ 1)
theorem closure133_c (b : Int) : FC Tryz.prog 86 [enc b] [] (enc (!isBit b)) [] := by
  refine fc_intro' is86 (by simp) (fun cx hl => S_run [ent32] 800 ?_)
  delta c86
  simp (maxSteps := 4000000) -implicitDefEqProofs only [rv86, ent32, InR, Ent.of0, Ent.of1, Ent.of2, Ent.of3, V, cc, bE, bN, bR, cV, cT, gt, lk, co, cC, cJ, cd, ca, bV, bV.subCs, cO, bu, bF, bZ, aV, bt, bh, aW, bM, bK, aH, a7, aX, cr, dd, cY, aq, aw, bT, cI, cb, cP, cU, aP, am, bQ, bJ, zC, argS, bO, ce, da, cR, ai, aE, aO, aA, cG, leC, cn, b0, bW, dc, bX, aR, aF, cZ, ah, cL, bf, bf.viewCs, bA, bA.flatCs, aK, aK.LensOks, Value.oneCell', ↓reduceIte, ite_true, ite_false, if_true, if_false, Nat.reduceAdd, Nat.reduceSub, Nat.reduceMul, Nat.reduceEqDiff, Nat.reduceLT, Nat.reduceLeDiff, reduceCtorEq, Int.reduceToNat, forall_const, implies_true, a6, Ent.mk3, bw, bC, bB, bk, bl, bo, bH, bL, bg, be, bz, cH, bn, cQ, rn, bS, bS.renCs, aI, aN, aY, aY.viewOks, aJ, bm, bm.flatBs, aG, an, av, ar, az, bq, bq.keysBs, aT, ap, bj, cp, bD, cg, af, af.passKs, aD, aL, ae, ae.lendKs, cM, cq, cz, bG, setInn, ag, cN, db, ay, br, bP, cj, aC, aU, Glob.gl, ax, cK, aZ, cm, bv, aj, cD, cS, cB, cW, cu, au, au.ptrOnlys, ak, aM, bY, aB, bI, a8, bU, aQ, bp, cF, Nat.reduceBEq, undef]
  rfl
theorem areBits_c (l : List Int) : FC Tryz.prog 62 [enc l] [] (enc (l.all isBit)) [] := by
  refine fc_intro' is62 (by simp) (fun cx hl => S_run [eAnyI 86 _ closure133_c] 800 ?_)
  delta c62
  simp (maxSteps := 4000000) -implicitDefEqProofs only [rv62, eAnyI, Ent.of0, Ent.of1, Ent.of2, Ent.of3, V, cc, bE, bN, bR, cV, cT, gt, lk, co, cC, cJ, cd, ca, bV, bV.subCs, cO, bu, bF, bZ, aV, bt, bh, aW, bM, bK, aH, a7, aX, cr, dd, cY, aq, aw, bT, cI, cb, cP, cU, aP, am, bQ, bJ, zC, argS, bO, ce, da, cR, ai, aE, aO, aA, cG, leC, cn, b0, bW, dc, bX, aR, aF, cZ, ah, cL, bf, bf.viewCs, bA, bA.flatCs, aK, aK.LensOks, Value.oneCell', ↓reduceIte, ite_true, ite_false, if_true, if_false, Nat.reduceAdd, Nat.reduceSub, Nat.reduceMul, Nat.reduceEqDiff, Nat.reduceLT, Nat.reduceLeDiff, reduceCtorEq, Int.reduceToNat, forall_const, implies_true, a6, Ent.mk3, bw, bC, bB, bk, bl, bo, bH, bL, bg, be, bz, cH, bn, cQ, rn, bS, bS.renCs, aI, aN, aY, aY.viewOks, aJ, bm, bm.flatBs, aG, an, av, ar, az, bq, bq.keysBs, aT, ap, bj, cp, bD, cg, af, af.passKs, aD, aL, ae, ae.lendKs, cM, cq, cz, bG, setInn, ag, cN, db, ay, br, bP, cj, aC, aU, Glob.gl, ax, cK, aZ, cm, bv, aj, cD, cS, cB, cW, cu, au, au.ptrOnlys, ak, aM, bY, aB, bI, a8, bU, aQ, bp, cF, Nat.reduceBEq, undef]
  rw [List.not_any_eq_all_not]
  simp
def ent62 : Ent Tryz.prog := .of1 62 (fun _ => True) (fun l : List Int => enc (l.all isBit)) (fun _ => trivial) (fun l _ => areBits_c l)
theorem bitsErr_c (l : List Int) : FC Tryz.prog 36 [enc l] [] (enc (bitsErrS l)) [] := by
  refine fc_intro' is36 (by simp) (fun cx hl => S_run [ent62, ent29, ent31] 800 ?_)
  delta c36
  simp (maxSteps := 4000000) -implicitDefEqProofs only [rv36, ent62, ent29, ent31, Ent.of0, Ent.of1, Ent.of2, Ent.of3, V, cc, bE, bN, bR, cV, cT, gt, lk, co, cC, cJ, cd, ca, bV, bV.subCs, cO, bu, bF, bZ, aV, bt, bh, aW, bM, bK, aH, a7, aX, cr, dd, cY, aq, aw, bT, cI, cb, cP, cU, aP, am, bQ, bJ, zC, argS, bO, ce, da, cR, ai, aE, aO, aA, cG, leC, cn, b0, bW, dc, bX, aR, aF, cZ, ah, cL, bf, bf.viewCs, bA, bA.flatCs, aK, aK.LensOks, Value.oneCell', ↓reduceIte, ite_true, ite_false, if_true, if_false, Nat.reduceAdd, Nat.reduceSub, Nat.reduceMul, Nat.reduceEqDiff, Nat.reduceLT, Nat.reduceLeDiff, reduceCtorEq, Int.reduceToNat, forall_const, implies_true, a6, Ent.mk3, bw, bC, bB, bk, bl, bo, bH, bL, bg, be, bz, cH, bn, cQ, rn, bS, bS.renCs, aI, aN, aY, aY.viewOks, aJ, bm, bm.flatBs, aG, an, av, ar, az, bq, bq.keysBs, aT, ap, bj, cp, bD, cg, af, af.passKs, aD, aL, ae, ae.lendKs, cM, cq, cz, bG, setInn, ag, cN, db, ay, br, bP, cj, aC, aU, Glob.gl, ax, cK, aZ, cm, bv, aj, cD, cS, cB, cW, cu, au, au.ptrOnlys, ak, aM, bY, aB, bI, a8, bU, aQ, bp, cF, Nat.reduceBEq, undef]
  have hb : l.all isBit = l.all fun b => decide (b = 0 ∨ b = 1) := by
    congr 1; funext b; unfold isBit; grind
  rw [hb]
  unfold bitsErrS
  simp only [firstS]
  grind
def ent36 : Ent Tryz.prog := .of1 36 (fun _ => True) (fun l : List Int => enc (bitsErrS l)) (fun _ => trivial) (fun l _ => bitsErr_c l)
structure Reg where
  length : Int
  taps : List Int
  state : List Int
instance : DatL Reg where
  sz := 3
  agg := true
  cells g := [.s (.int .i64 g.length), .sl 1 (g.taps.map cells), .sl 1 (g.state.map cells)]
  dec | [.s (.int .i64 a), .sl 1 t, .sl 1 s] => (decL t).bind fun t' => (decL s).map fun s' => ⟨a, t', s'⟩ | _ => none
  ok := by
    intro l a h
    split at h
    · simp only [Option.bind_eq_some_iff, Option.map_eq_some_iff] at h
      obtain ⟨t', h1, s', h2, rfl⟩ := h
      rw [decL_ok h1, decL_ok h2]
    · cases h
  data := fun a => rfl
  one := fun h => by cases h
  dec_cells := fun a => by simp [decL_map]
theorem enc_reg (g : Reg) : enc g = .agg [.s (.int .i64 g.length), .sl 1 (g.taps.map cells), .sl 1 (g.state.map cells)] := rfl
theorem decV_reg (a : Int) (t s : List (List C)) : decV (.agg [C.s (.int .i64 a), .sl 1 t, .sl 1 s]) = (decL t).bind fun t' => (decL s).map fun s' => (⟨a, t', s'⟩ : Reg) := rfl
def tapsErr (len : Int) (last : Int) : List Int → Int
  | [] => 0
  | t :: l => if ¬ (0 ≤ t ∧ t ≤ len - 1) then 2 else if ¬ (last < t) then 9 else tapsErr len t l
def regErr (r : Reg) : Int :=
  if ¬ (2 ≤ r.length ∧ r.length ≤ 10) then 2 else if r.taps.length = 0 then 10 else
  if tapsErr r.length (-1) r.taps ≠ 0 then tapsErr r.length (-1) r.taps else
  if r.taps.getD 0 0 ≠ 0 then 3 else if (r.state.length : Int) ≠ r.length then 10 else if r.state.all isBit then 0 else 15
theorem checkRegister_c (r : Reg) : FC Tryz.prog 30 [enc r] [] (enc (regErr r)) [] := by
  obtain ⟨len, taps, state⟩ := r
  refine fc_intro' is30 (by simp) (fun cx hl => S_run [ent32, ent31, ent29] 800 ?_)
  simp only [enc_reg, V, cc, bE, bN, bR, cV, cT, gt, lk, co, cC, cJ, cd, ca, bV, bV.subCs, cO, bu, bF, bZ, aV, bt, bh, aW, bM, bK, aH, a7, aX, cr, dd, cY, aq, aw, bT, cI, cb, cP, cU, aP, am, bQ, bJ, zC, argS, bO, ce, da, cR, ai, aE, aO, aA, cG, leC, cn, b0, bW, dc, bX, aR, aF, cZ, ah, cL, bf, bf.viewCs, bA, bA.flatCs, aK, aK.LensOks, Value.oneCell', ↓reduceIte, ite_true, ite_false, if_true, if_false, Nat.reduceAdd, Nat.reduceSub, Nat.reduceMul, Nat.reduceEqDiff, Nat.reduceLT, Nat.reduceLeDiff, reduceCtorEq, Int.reduceToNat, forall_const, implies_true, a6, Ent.mk3, bw, bC, bB, bk, bl, bo, bH, bL, bg, be, bz, cH, bn, cQ, rn, bS, bS.renCs, aI, aN, aY, aY.viewOks, aJ, bm, bm.flatBs, aG, an, av, ar, az, bq, bq.keysBs, aT, ap, bj, cp, bD, cg, af, af.passKs, aD, aL, ae, ae.lendKs, cM, cq, cz, bG, setInn, ag, cN, db, ay, br, bP, cj, aC, aU, Glob.gl, ax, cK, aZ, cm, bv, aj, cD, cS, cB, cW, cu, au, au.ptrOnlys, ak, aM, bY, aB, bI, a8, bU, aQ, bp, cF, Nat.reduceBEq, undef] at hl
  have hlen := hl.1.list
  have hlen2 := hl.2.list
  delta c30
  simp (maxSteps := 4000000) -implicitDefEqProofs only [rv30, ent32, ent31, ent29, enc_reg, Ent.of0, Ent.of1, Ent.of2, Ent.of3, V, cc, bE, bN, bR, cV, cT, gt, lk, co, cC, cJ, cd, ca, bV, bV.subCs, cO, bu, bF, bZ, aV, bt, bh, aW, bM, bK, aH, a7, aX, cr, dd, cY, aq, aw, bT, cI, cb, cP, cU, aP, am, bQ, bJ, zC, argS, bO, ce, da, cR, ai, aE, aO, aA, cG, leC, cn, b0, bW, dc, bX, aR, aF, cZ, ah, cL, bf, bf.viewCs, bA, bA.flatCs, aK, aK.LensOks, Value.oneCell', ↓reduceIte, ite_true, ite_false, if_true, if_false, Nat.reduceAdd, Nat.reduceSub, Nat.reduceMul, Nat.reduceEqDiff, Nat.reduceLT, Nat.reduceLeDiff, reduceCtorEq, Int.reduceToNat, forall_const, implies_true, a6, Ent.mk3, bw, bC, bB, bk, bl, bo, bH, bL, bg, be, bz, cH, bn, cQ, rn, bS, bS.renCs, aI, aN, aY, aY.viewOks, aJ, bm, bm.flatBs, aG, an, av, ar, az, bq, bq.keysBs, aT, ap, bj, cp, bD, cg, af, af.passKs, aD, aL, ae, ae.lendKs, cM, cq, cz, bG, setInn, ag, cN, db, ay, br, bP, cj, aC, aU, Glob.gl, ax, cK, aZ, cm, bv, aj, cD, cS, cB, cW, cu, au, au.ptrOnlys, ak, aM, bY, aB, bI, a8, bU, aQ, bp, cF, Nat.reduceBEq, undef]
  by_cases h0 : 2 ≤ len ∧ len ≤ 10
  · by_cases h1 : 0 < taps.length
    · have h1' : (0 : Int) < (taps.length : Int) := by omega
      simp only [h0, h1', and_self, if_true, firstS, ne_eq, not_true, if_false]
      have hr : regErr ⟨len, taps, state⟩ = if tapsErr len (-1) taps ≠ 0 then tapsErr len (-1) taps else if taps.getD 0 0 ≠ 0 then 3 else if (state.length : Int) ≠ len then 10 else if state.all isBit then 0 else 15 := by
        unfold regErr
        simp only
        rw [if_neg (fun h => h h0), if_neg (by omega)]
      rw [hr]
      refine S_loopU (α := Nat × Int) (fun v => [(25, .s (.int .i64 (v.1 : Int))), (4, .s (.int .i64 v.2))]) (fun _ => []) (fun v => v.1 ≤ taps.length ∧ tapsErr len (-1) taps = tapsErr len v.2 (taps.drop v.1)) (fun v => taps.length - v.1) (0, -1) ⟨by omega, rfl⟩ ?_ (fun v hv => S_run [ent32, ent31, ent29, ent62] 800 ?_)
      · simp (maxSteps := 4000000) -implicitDefEqProofs only [Ent.of0, Ent.of1, Ent.of2, Ent.of3, V, cc, bE, bN, bR, cV, cT, gt, lk, co, cC, cJ, cd, ca, bV, bV.subCs, cO, bu, bF, bZ, aV, bt, bh, aW, bM, bK, aH, a7, aX, cr, dd, cY, aq, aw, bT, cI, cb, cP, cU, aP, am, bQ, bJ, zC, argS, bO, ce, da, cR, ai, aE, aO, aA, cG, leC, cn, b0, bW, dc, bX, aR, aF, cZ, ah, cL, bf, bf.viewCs, bA, bA.flatCs, aK, aK.LensOks, Value.oneCell', ↓reduceIte, ite_true, ite_false, if_true, if_false, Nat.reduceAdd, Nat.reduceSub, Nat.reduceMul, Nat.reduceEqDiff, Nat.reduceLT, Nat.reduceLeDiff, reduceCtorEq, Int.reduceToNat, forall_const, implies_true, a6, Ent.mk3, bw, bC, bB, bk, bl, bo, bH, bL, bg, be, bz, cH, bn, cQ, rn, bS, bS.renCs, aI, aN, aY, aY.viewOks, aJ, bm, bm.flatBs, aG, an, av, ar, az, bq, bq.keysBs, aT, ap, bj, cp, bD, cg, af, af.passKs, aD, aL, ae, ae.lendKs, cM, cq, cz, bG, setInn, ag, cN, db, ay, br, bP, cj, aC, aU, Glob.gl, ax, cK, aZ, cm, bv, aj, cD, cS, cB, cW, cu, au, au.ptrOnlys, ak, aM, bY, aB, bI, a8, bU, aQ, bp, cF, Nat.reduceBEq, undef]; simp
      · obtain ⟨i, last⟩ := v
        obtain ⟨hv1, hv2⟩ := hv
        simp only at hv1 hv2
        by_cases h : i < taps.length
        · have hi : ((i : Int) < (taps.length : Int)) := by omega
          rw [drop_getD 0 h, tapsErr] at hv2
          delta c30l1
          simp (maxSteps := 4000000) -implicitDefEqProofs only [rv30, hi, h, ent32, ent31, ent29, InR, Ent.of0, Ent.of1, Ent.of2, Ent.of3, V, cc, bE, bN, bR, cV, cT, gt, lk, co, cC, cJ, cd, ca, bV, bV.subCs, cO, bu, bF, bZ, aV, bt, bh, aW, bM, bK, aH, a7, aX, cr, dd, cY, aq, aw, bT, cI, cb, cP, cU, aP, am, bQ, bJ, zC, argS, bO, ce, da, cR, ai, aE, aO, aA, cG, leC, cn, b0, bW, dc, bX, aR, aF, cZ, ah, cL, bf, bf.viewCs, bA, bA.flatCs, aK, aK.LensOks, Value.oneCell', ↓reduceIte, ite_true, ite_false, if_true, if_false, Nat.reduceAdd, Nat.reduceSub, Nat.reduceMul, Nat.reduceEqDiff, Nat.reduceLT, Nat.reduceLeDiff, reduceCtorEq, Int.reduceToNat, forall_const, implies_true, a6, Ent.mk3, bw, bC, bB, bk, bl, bo, bH, bL, bg, be, bz, cH, bn, cQ, rn, bS, bS.renCs, aI, aN, aY, aY.viewOks, aJ, bm, bm.flatBs, aG, an, av, ar, az, bq, bq.keysBs, aT, ap, bj, cp, bD, cg, af, af.passKs, aD, aL, ae, ae.lendKs, cM, cq, cz, bG, setInn, ag, cN, db, ay, br, bP, cj, aC, aU, Glob.gl, ax, cK, aZ, cm, bv, aj, cD, cS, cB, cW, cu, au, au.ptrOnlys, ak, aM, bY, aB, bI, a8, bU, aQ, bp, cF, Nat.reduceBEq, undef]
          generalize taps.getD i 0 = t at *
          refine ⟨by omega, by omega, ?_⟩
          by_cases ht : 0 ≤ t ∧ t ≤ len - 1
          · by_cases hlt : last < t
            · simp only [ht, hlt, and_self, if_true, not_true, if_false] at hv2 ⊢
              simp only [firstS, ne_eq, not_true, if_false]
              exact ⟨by omega, (i + 1, t), ⟨h, hv2⟩, by simp only; omega, rfl, by push_cast; rfl⟩
            · simp only [ht, hlt, and_self, if_true, not_true, not_false_eq_true, if_false] at hv2 ⊢
              simp [firstS, hv2]
          · simp only [ht, if_true, not_false_eq_true, if_false] at hv2 ⊢
            simp [firstS, hv2]
        · have hi : ¬ ((i : Int) < (taps.length : Int)) := by omega
          rw [List.drop_eq_nil_of_le (by omega), tapsErr] at hv2
          delta c30l1
          simp (maxSteps := 4000000) -implicitDefEqProofs only [rv30, hi, h1, ent32, ent31, ent29, ent62, InR, Ent.of0, Ent.of1, Ent.of2, Ent.of3, V, cc, bE, bN, bR, cV, cT, gt, lk, co, cC, cJ, cd, ca, bV, bV.subCs, cO, bu, bF, bZ, aV, bt, bh, aW, bM, bK, aH, a7, aX, cr, dd, cY, aq, aw, bT, cI, cb, cP, cU, aP, am, bQ, bJ, zC, argS, bO, ce, da, cR, ai, aE, aO, aA, cG, leC, cn, b0, bW, dc, bX, aR, aF, cZ, ah, cL, bf, bf.viewCs, bA, bA.flatCs, aK, aK.LensOks, Value.oneCell', ↓reduceIte, ite_true, ite_false, if_true, if_false, Nat.reduceAdd, Nat.reduceSub, Nat.reduceMul, Nat.reduceEqDiff, Nat.reduceLT, Nat.reduceLeDiff, reduceCtorEq, Int.reduceToNat, forall_const, implies_true, a6, Ent.mk3, bw, bC, bB, bk, bl, bo, bH, bL, bg, be, bz, cH, bn, cQ, rn, bS, bS.renCs, aI, aN, aY, aY.viewOks, aJ, bm, bm.flatBs, aG, an, av, ar, az, bq, bq.keysBs, aT, ap, bj, cp, bD, cg, af, af.passKs, aD, aL, ae, ae.lendKs, cM, cq, cz, bG, setInn, ag, cN, db, ay, br, bP, cj, aC, aU, Glob.gl, ax, cK, aZ, cm, bv, aj, cD, cS, cB, cW, cu, au, au.ptrOnlys, ak, aM, bY, aB, bI, a8, bU, aQ, bp, cF, Nat.reduceBEq, undef]
          refine ⟨by omega, ?_⟩
          rw [hv2]
          simp only [firstS]
          grind
    · have h1' : ¬ (0 : Int) < (taps.length : Int) := by omega
      simp only [h0, h1', and_self, if_true, firstS, ne_eq, not_true, if_false]
      unfold regErr
      simp [h0, show taps = [] by simpa using h1]
  · simp only [h0, if_false, firstS, ne_eq]
    unfold regErr
    simp [h0]
def ent30 : Ent Tryz.prog := .of1 30 (fun _ => True) (fun r : Reg => enc (regErr r)) (fun _ => trivial) (fun r _ => checkRegister_c r)
end Go.Proofs.YtfgpbmjmoobcnaaGreatDoor
end
section
open Go Go.Am
open Go.Am.Dat (cells)
namespace Go.Proofs.YtfgpbmjmoobcnaaGreatDoor
set_option maxHeartbeats 4000000
set_option maxRecDepth 100000
set_option linter.unusedSimpArgs false
structure RegOk (r : Reg) : Prop where
  len : 2 ≤ r.length ∧ r.length ≤ 10
  ne : 0 < r.taps.length
  taps : ∀ t ∈ r.taps, 0 ≤ t ∧ t ≤ r.length - 1
  inc : r.taps.Pairwise (· < ·)
  zero : r.taps.getD 0 0 = 0
  stl : (r.state.length : Int) = r.length
  bits : ∀ b ∈ r.state, b = 0 ∨ b = 1
theorem tapsErr_ok {len : Int} : ∀ {l : List Int} {last : Int}, tapsErr len last l = 0 → (∀ t ∈ l, (0 ≤ t ∧ t ≤ len - 1) ∧ last < t) ∧ l.Pairwise (· < ·)
  | [], _, _ => ⟨fun t h => by simp at h, .nil⟩
  | t :: l, last, h => by
    simp only [tapsErr] at h
    split at h
    · cases h
    · split at h
      · cases h
      · rename_i h1 h2
        obtain ⟨g1, g2⟩ := tapsErr_ok h
        refine ⟨fun x hx => ?_, List.pairwise_cons.2 ⟨fun x hx => (g1 x hx).2, g2⟩⟩
        rcases List.mem_cons.1 hx with e | e
        · rw [e]; exact ⟨by simpa using h1, by simpa using h2⟩
        · have := g1 x e
          exact ⟨this.1, by have h3 : last < t := by simpa using h2
                            omega⟩
theorem regOk_of {r : Reg} (h : regErr r = 0) : RegOk r := by
  unfold regErr at h
  split at h
  · cases h
  · split at h
    · cases h
    · split at h
      · contradiction
      · split at h
        · cases h
        · split at h
          · cases h
          · split at h
            · rename_i h1 h2 h3 h4 h5 h6
              have g := tapsErr_ok (by simpa using h3 : tapsErr r.length (-1) r.taps = 0)
              refine ⟨by simpa using h1, by omega, fun t ht => (g.1 t ht).1, g.2, by simpa using h4, by simpa using h5, fun b hb => ?_⟩
              have := List.all_eq_true.1 h6 b hb
              simp only [isBit, decide_eq_true_eq] at this
              omega
            · cases h
def bitsS (l : List Int) : Nat → Nat
  | 0 => 0
  | i + 1 => bitsS l i ||| ((l.getD i 0).toNat * 2 ^ i)
def tapsS (l : List Int) : Nat → Nat
  | 0 => 0
  | i + 1 => tapsS l i ||| 2 ^ (l.getD i 0).toNat
def wireW (r : Reg) : Wire := ⟨bitsS r.state r.state.length, tapsS r.taps r.taps.length, (r.length - 1).toNat⟩
theorem bits_getD {l : List Int} (h : ∀ b ∈ l, b = 0 ∨ b = 1) (i : Nat) : l.getD i 0 = 0 ∨ l.getD i 0 = 1 := by
  rw [List.getD_eq_getElem?_getD]
  cases hi : l[i]? with
  | none => left; rfl
  | some b => exact h b (List.mem_of_getElem? hi)
theorem bitsS_lt {l : List Int} (h : ∀ b ∈ l, b = 0 ∨ b = 1) : ∀ i, bitsS l i < 2 ^ i
  | 0 => by simp [bitsS]
  | i + 1 => by
    have h1 := bitsS_lt h i
    have e : 2 ^ (i + 1) = 2 * 2 ^ i := by rw [Nat.pow_succ]; omega
    refine Nat.or_lt_two_pow (by omega) ?_
    have hp : 0 < 2 ^ i := Nat.pow_pos (by decide)
    rcases bits_getD h i with g | g <;> rw [g] <;> simp <;> omega
theorem tapsS_lt {l : List Int} {m : Nat} (h : ∀ t ∈ l, 0 ≤ t ∧ t < (m : Int)) : ∀ i, i ≤ l.length → tapsS l i < 2 ^ m
  | 0, _ => by simp [tapsS]; exact Nat.pow_pos (by decide)
  | i + 1, hi => by
    refine Nat.or_lt_two_pow (tapsS_lt h i (by omega)) ?_
    have hm : l.getD i 0 ∈ l := by rw [List.getD_eq_getElem?_getD, List.getElem?_eq_getElem (by omega)]; exact List.getElem_mem _
    have := h _ hm
    exact Nat.pow_lt_pow_right (by decide) (by omega)
theorem wireW_ok {r : Reg} (h : RegOk r) : (wireW r).Ok := by
  have hl := h.len
  have hs := h.stl
  refine ⟨by show (r.length - 1).toNat < 15; omega, ?_, ?_⟩
  · show bitsS r.state r.state.length < 2 ^ ((r.length - 1).toNat + 1)
    rw [show (r.length - 1).toNat + 1 = r.state.length by omega]
    exact bitsS_lt h.bits _
  · show tapsS r.taps r.taps.length < 65536
    refine Nat.lt_of_lt_of_le (tapsS_lt (m := 10) (fun t ht => ?_) _ (Nat.le_refl _)) (by decide)
    have := h.taps t ht
    omega
theorem wireOf_c (r : Reg) (hr : RegOk r) : FC Tryz.prog 33 [enc r] [] (.agg (wireC (wireW r))) [] := by
  have hw := wireW_ok hr
  have hbits := hr.bits
  have htaps := hr.taps
  have hlen0 := hr.len
  have hst := hr.stl
  obtain ⟨len, taps, state⟩ := r
  simp only at hbits htaps hlen0 hst
  refine fc_intro' is33 (by simp) (fun cx hl => S_run [] 800 ?_)
  simp only [enc_reg, V, cc, bE, bN, bR, cV, cT, gt, lk, co, cC, cJ, cd, ca, bV, bV.subCs, cO, bu, bF, bZ, aV, bt, bh, aW, bM, bK, aH, a7, aX, cr, dd, cY, aq, aw, bT, cI, cb, cP, cU, aP, am, bQ, bJ, zC, argS, bO, ce, da, cR, ai, aE, aO, aA, cG, leC, cn, b0, bW, dc, bX, aR, aF, cZ, ah, cL, bf, bf.viewCs, bA, bA.flatCs, aK, aK.LensOks, Value.oneCell', ↓reduceIte, ite_true, ite_false, if_true, if_false, Nat.reduceAdd, Nat.reduceSub, Nat.reduceMul, Nat.reduceEqDiff, Nat.reduceLT, Nat.reduceLeDiff, reduceCtorEq, Int.reduceToNat, forall_const, implies_true, a6, Ent.mk3, bw, bC, bB, bk, bl, bo, bH, bL, bg, be, bz, cH, bn, cQ, rn, bS, bS.renCs, aI, aN, aY, aY.viewOks, aJ, bm, bm.flatBs, aG, an, av, ar, az, bq, bq.keysBs, aT, ap, bj, cp, bD, cg, af, af.passKs, aD, aL, ae, ae.lendKs, cM, cq, cz, bG, setInn, ag, cN, db, ay, br, bP, cj, aC, aU, Glob.gl, ax, cK, aZ, cm, bv, aj, cD, cS, cB, cW, cu, au, au.ptrOnlys, ak, aM, bY, aB, bI, a8, bU, aQ, bp, cF, Nat.reduceBEq, undef] at hl
  have hlen := hl.1.list
  have hlen2 := hl.2.list
  delta c33
  simp (maxSteps := 4000000) -implicitDefEqProofs only [rv33, enc_reg, InR, Ent.of0, Ent.of1, Ent.of2, Ent.of3, V, cc, bE, bN, bR, cV, cT, gt, lk, co, cC, cJ, cd, ca, bV, bV.subCs, cO, bu, bF, bZ, aV, bt, bh, aW, bM, bK, aH, a7, aX, cr, dd, cY, aq, aw, bT, cI, cb, cP, cU, aP, am, bQ, bJ, zC, argS, bO, ce, da, cR, ai, aE, aO, aA, cG, leC, cn, b0, bW, dc, bX, aR, aF, cZ, ah, cL, bf, bf.viewCs, bA, bA.flatCs, aK, aK.LensOks, Value.oneCell', ↓reduceIte, ite_true, ite_false, if_true, if_false, Nat.reduceAdd, Nat.reduceSub, Nat.reduceMul, Nat.reduceEqDiff, Nat.reduceLT, Nat.reduceLeDiff, reduceCtorEq, Int.reduceToNat, forall_const, implies_true, a6, Ent.mk3, bw, bC, bB, bk, bl, bo, bH, bL, bg, be, bz, cH, bn, cQ, rn, bS, bS.renCs, aI, aN, aY, aY.viewOks, aJ, bm, bm.flatBs, aG, an, av, ar, az, bq, bq.keysBs, aT, ap, bj, cp, bD, cg, af, af.passKs, aD, aL, ae, ae.lendKs, cM, cq, cz, bG, setInn, ag, cN, db, ay, br, bP, cj, aC, aU, Glob.gl, ax, cK, aZ, cm, bv, aj, cD, cS, cB, cW, cu, au, au.ptrOnlys, ak, aM, bY, aB, bI, a8, bU, aQ, bp, cF, Nat.reduceBEq, undef]
  refine ⟨by omega, ?_⟩
  refine S_forU state.length (fun i => [(15, .s (.int .i64 (i : Int)))]) (fun i => [(3, .box [.s (.int .u16 (bitsS state i : Int)), .s (.int .u16 0), .s (.int .i64 (len - 1))])]) (fun i => True) trivial ?_ (fun i hi _ => S_run [] 800 ?_)
  · simp (maxSteps := 4000000) -implicitDefEqProofs only [bitsS, Ent.of0, Ent.of1, Ent.of2, Ent.of3, V, cc, bE, bN, bR, cV, cT, gt, lk, co, cC, cJ, cd, ca, bV, bV.subCs, cO, bu, bF, bZ, aV, bt, bh, aW, bM, bK, aH, a7, aX, cr, dd, cY, aq, aw, bT, cI, cb, cP, cU, aP, am, bQ, bJ, zC, argS, bO, ce, da, cR, ai, aE, aO, aA, cG, leC, cn, b0, bW, dc, bX, aR, aF, cZ, ah, cL, bf, bf.viewCs, bA, bA.flatCs, aK, aK.LensOks, Value.oneCell', ↓reduceIte, ite_true, ite_false, if_true, if_false, Nat.reduceAdd, Nat.reduceSub, Nat.reduceMul, Nat.reduceEqDiff, Nat.reduceLT, Nat.reduceLeDiff, reduceCtorEq, Int.reduceToNat, forall_const, implies_true, a6, Ent.mk3, bw, bC, bB, bk, bl, bo, bH, bL, bg, be, bz, cH, bn, cQ, rn, bS, bS.renCs, aI, aN, aY, aY.viewOks, aJ, bm, bm.flatBs, aG, an, av, ar, az, bq, bq.keysBs, aT, ap, bj, cp, bD, cg, af, af.passKs, aD, aL, ae, ae.lendKs, cM, cq, cz, bG, setInn, ag, cN, db, ay, br, bP, cj, aC, aU, Glob.gl, ax, cK, aZ, cm, bv, aj, cD, cS, cB, cW, cu, au, au.ptrOnlys, ak, aM, bY, aB, bI, a8, bU, aQ, bp, cF, Nat.reduceBEq, undef]; simp
  · by_cases h : i < state.length
    · have hi : ((i : Int) < (state.length : Int)) := by omega
      have hb := bits_getD hbits i
      have hpl : 2 ^ i ≤ 2 ^ 10 := Nat.pow_le_pow_right (by decide) (by omega)
      have hbl := bitsS_lt hbits i
      have hmin : min i IntKind.u16.bits = i := Nat.min_eq_left (by show i ≤ 16; omega)
      have hbit : bitF .or .u16 (bitsS state i : Int) (state.getD i 0 * 2 ^ i) = (bitsS state (i + 1) : Int) := by
        have := or16 (a := bitsS state i) (b := (state.getD i 0).toNat * 2 ^ i) (by omega) (by rcases hb with g | g <;> rw [g] <;> simp <;> omega)
        rw [bitsS, ← this]
        congr 1
        rcases hb with g | g <;> rw [g] <;> simp
      have hmul : 0 ≤ state.getD i 0 * 2 ^ i ∧ state.getD i 0 * 2 ^ i ≤ 65535 := by
        have : ((2 ^ i : Nat) : Int) = (2 : Int) ^ i := by push_cast; rfl
        rcases hb with g | g <;> rw [g] <;> omega
      delta c33l1
      simp (maxSteps := 4000000) -implicitDefEqProofs only [rv33, hi, h, hmin, hbit, InR, Ent.of0, Ent.of1, Ent.of2, Ent.of3, V, cc, bE, bN, bR, cV, cT, gt, lk, co, cC, cJ, cd, ca, bV, bV.subCs, cO, bu, bF, bZ, aV, bt, bh, aW, bM, bK, aH, a7, aX, cr, dd, cY, aq, aw, bT, cI, cb, cP, cU, aP, am, bQ, bJ, zC, argS, bO, ce, da, cR, ai, aE, aO, aA, cG, leC, cn, b0, bW, dc, bX, aR, aF, cZ, ah, cL, bf, bf.viewCs, bA, bA.flatCs, aK, aK.LensOks, Value.oneCell', ↓reduceIte, ite_true, ite_false, if_true, if_false, Nat.reduceAdd, Nat.reduceSub, Nat.reduceMul, Nat.reduceEqDiff, Nat.reduceLT, Nat.reduceLeDiff, reduceCtorEq, Int.reduceToNat, forall_const, implies_true, a6, Ent.mk3, bw, bC, bB, bk, bl, bo, bH, bL, bg, be, bz, cH, bn, cQ, rn, bS, bS.renCs, aI, aN, aY, aY.viewOks, aJ, bm, bm.flatBs, aG, an, av, ar, az, bq, bq.keysBs, aT, ap, bj, cp, bD, cg, af, af.passKs, aD, aL, ae, ae.lendKs, cM, cq, cz, bG, setInn, ag, cN, db, ay, br, bP, cj, aC, aU, Glob.gl, ax, cK, aZ, cm, bv, aj, cD, cS, cB, cW, cu, au, au.ptrOnlys, ak, aM, bY, aB, bI, a8, bU, aQ, bp, cF, Nat.reduceBEq, undef]
      exact ⟨by omega, by omega, ⟨by omega, hmul⟩, by omega, by push_cast; rfl⟩
    · have hi : ¬ ((i : Int) < (state.length : Int)) := by omega
      have hie : i = state.length := by omega
      delta c33l1
      simp (maxSteps := 4000000) -implicitDefEqProofs only [rv33, hi, InR, Ent.of0, Ent.of1, Ent.of2, Ent.of3, V, cc, bE, bN, bR, cV, cT, gt, lk, co, cC, cJ, cd, ca, bV, bV.subCs, cO, bu, bF, bZ, aV, bt, bh, aW, bM, bK, aH, a7, aX, cr, dd, cY, aq, aw, bT, cI, cb, cP, cU, aP, am, bQ, bJ, zC, argS, bO, ce, da, cR, ai, aE, aO, aA, cG, leC, cn, b0, bW, dc, bX, aR, aF, cZ, ah, cL, bf, bf.viewCs, bA, bA.flatCs, aK, aK.LensOks, Value.oneCell', ↓reduceIte, ite_true, ite_false, if_true, if_false, Nat.reduceAdd, Nat.reduceSub, Nat.reduceMul, Nat.reduceEqDiff, Nat.reduceLT, Nat.reduceLeDiff, reduceCtorEq, Int.reduceToNat, forall_const, implies_true, a6, Ent.mk3, bw, bC, bB, bk, bl, bo, bH, bL, bg, be, bz, cH, bn, cQ, rn, bS, bS.renCs, aI, aN, aY, aY.viewOks, aJ, bm, bm.flatBs, aG, an, av, ar, az, bq, bq.keysBs, aT, ap, bj, cp, bD, cg, af, af.passKs, aD, aL, ae, ae.lendKs, cM, cq, cz, bG, setInn, ag, cN, db, ay, br, bP, cj, aC, aU, Glob.gl, ax, cK, aZ, cm, bv, aj, cD, cS, cB, cW, cu, au, au.ptrOnlys, ak, aM, bY, aB, bI, a8, bU, aQ, bp, cF, Nat.reduceBEq, undef]
      subst hie
      refine S_forU taps.length (fun i => [(32, .s (.int .i64 (i : Int)))]) (fun i => [(3, .box [.s (.int .u16 (bitsS state state.length : Int)), .s (.int .u16 (tapsS taps i : Int)), .s (.int .i64 (len - 1))])]) (fun i => True) trivial ?_ (fun i hi _ => S_run [] 800 ?_)
      · simp (maxSteps := 4000000) -implicitDefEqProofs only [tapsS, Ent.of0, Ent.of1, Ent.of2, Ent.of3, V, cc, bE, bN, bR, cV, cT, gt, lk, co, cC, cJ, cd, ca, bV, bV.subCs, cO, bu, bF, bZ, aV, bt, bh, aW, bM, bK, aH, a7, aX, cr, dd, cY, aq, aw, bT, cI, cb, cP, cU, aP, am, bQ, bJ, zC, argS, bO, ce, da, cR, ai, aE, aO, aA, cG, leC, cn, b0, bW, dc, bX, aR, aF, cZ, ah, cL, bf, bf.viewCs, bA, bA.flatCs, aK, aK.LensOks, Value.oneCell', ↓reduceIte, ite_true, ite_false, if_true, if_false, Nat.reduceAdd, Nat.reduceSub, Nat.reduceMul, Nat.reduceEqDiff, Nat.reduceLT, Nat.reduceLeDiff, reduceCtorEq, Int.reduceToNat, forall_const, implies_true, a6, Ent.mk3, bw, bC, bB, bk, bl, bo, bH, bL, bg, be, bz, cH, bn, cQ, rn, bS, bS.renCs, aI, aN, aY, aY.viewOks, aJ, bm, bm.flatBs, aG, an, av, ar, az, bq, bq.keysBs, aT, ap, bj, cp, bD, cg, af, af.passKs, aD, aL, ae, ae.lendKs, cM, cq, cz, bG, setInn, ag, cN, db, ay, br, bP, cj, aC, aU, Glob.gl, ax, cK, aZ, cm, bv, aj, cD, cS, cB, cW, cu, au, au.ptrOnlys, ak, aM, bY, aB, bI, a8, bU, aQ, bp, cF, Nat.reduceBEq, undef]; simp
      · by_cases h : i < taps.length
        · have hi : ((i : Int) < (taps.length : Int)) := by omega
          have htm : taps.getD i 0 ∈ taps := by rw [List.getD_eq_getElem?_getD, List.getElem?_eq_getElem h]; exact List.getElem_mem _
          have ht := htaps _ htm
          have htl := tapsS_lt (l := taps) (m := 10) (fun t ht => by have := htaps t ht; omega) i (by omega)
          have hmin : min (taps.getD i 0).toNat IntKind.u16.bits = (taps.getD i 0).toNat := Nat.min_eq_left (by show _ ≤ 16; omega)
          have hpl : 2 ^ (taps.getD i 0).toNat ≤ 2 ^ 9 := Nat.pow_le_pow_right (by decide) (by omega)
          have hpc : ((2 ^ (taps.getD i 0).toNat : Nat) : Int) = (2 : Int) ^ (taps.getD i 0).toNat := by push_cast; rfl
          have hbit : bitF .or .u16 (tapsS taps i : Int) (1 * 2 ^ (taps.getD i 0).toNat) = (tapsS taps (i + 1) : Int) := by
            have := or16 (a := tapsS taps i) (b := 2 ^ (taps.getD i 0).toNat) (by omega) (by omega)
            rw [tapsS, ← this, hpc, Int.one_mul]
          delta c33l2
          simp (maxSteps := 4000000) -implicitDefEqProofs only [rv33, hi, h, hmin, hbit, InR, Ent.of0, Ent.of1, Ent.of2, Ent.of3, V, cc, bE, bN, bR, cV, cT, gt, lk, co, cC, cJ, cd, ca, bV, bV.subCs, cO, bu, bF, bZ, aV, bt, bh, aW, bM, bK, aH, a7, aX, cr, dd, cY, aq, aw, bT, cI, cb, cP, cU, aP, am, bQ, bJ, zC, argS, bO, ce, da, cR, ai, aE, aO, aA, cG, leC, cn, b0, bW, dc, bX, aR, aF, cZ, ah, cL, bf, bf.viewCs, bA, bA.flatCs, aK, aK.LensOks, Value.oneCell', ↓reduceIte, ite_true, ite_false, if_true, if_false, Nat.reduceAdd, Nat.reduceSub, Nat.reduceMul, Nat.reduceEqDiff, Nat.reduceLT, Nat.reduceLeDiff, reduceCtorEq, Int.reduceToNat, forall_const, implies_true, a6, Ent.mk3, bw, bC, bB, bk, bl, bo, bH, bL, bg, be, bz, cH, bn, cQ, rn, bS, bS.renCs, aI, aN, aY, aY.viewOks, aJ, bm, bm.flatBs, aG, an, av, ar, az, bq, bq.keysBs, aT, ap, bj, cp, bD, cg, af, af.passKs, aD, aL, ae, ae.lendKs, cM, cq, cz, bG, setInn, ag, cN, db, ay, br, bP, cj, aC, aU, Glob.gl, ax, cK, aZ, cm, bv, aj, cD, cS, cB, cW, cu, au, au.ptrOnlys, ak, aM, bY, aB, bI, a8, bU, aQ, bp, cF, Nat.reduceBEq, undef]
          obtain ⟨q, hq⟩ : ∃ q : Nat, 2 ^ (taps.getD i 0).toNat = q := ⟨_, rfl⟩
          rw [hq] at hpc hpl
          rw [← hpc]
          exact ⟨by omega, ⟨by omega, by omega, by omega⟩, by omega, by push_cast; rfl⟩
        · have hi : ¬ ((i : Int) < (taps.length : Int)) := by omega
          have hie : i = taps.length := by omega
          subst hie
          have htop : ((len - 1).toNat : Int) = len - 1 := Int.toNat_of_nonneg (by omega)
          delta c33l2
          simp (maxSteps := 4000000) -implicitDefEqProofs only [rv33, hi, wireC, wireW, htop, InR, Ent.of0, Ent.of1, Ent.of2, Ent.of3, V, cc, bE, bN, bR, cV, cT, gt, lk, co, cC, cJ, cd, ca, bV, bV.subCs, cO, bu, bF, bZ, aV, bt, bh, aW, bM, bK, aH, a7, aX, cr, dd, cY, aq, aw, bT, cI, cb, cP, cU, aP, am, bQ, bJ, zC, argS, bO, ce, da, cR, ai, aE, aO, aA, cG, leC, cn, b0, bW, dc, bX, aR, aF, cZ, ah, cL, bf, bf.viewCs, bA, bA.flatCs, aK, aK.LensOks, Value.oneCell', ↓reduceIte, ite_true, ite_false, if_true, if_false, Nat.reduceAdd, Nat.reduceSub, Nat.reduceMul, Nat.reduceEqDiff, Nat.reduceLT, Nat.reduceLeDiff, reduceCtorEq, Int.reduceToNat, forall_const, implies_true, a6, Ent.mk3, bw, bC, bB, bk, bl, bo, bH, bL, bg, be, bz, cH, bn, cQ, rn, bS, bS.renCs, aI, aN, aY, aY.viewOks, aJ, bm, bm.flatBs, aG, an, av, ar, az, bq, bq.keysBs, aT, ap, bj, cp, bD, cg, af, af.passKs, aD, aL, ae, ae.lendKs, cM, cq, cz, bG, setInn, ag, cN, db, ay, br, bP, cj, aC, aU, Glob.gl, ax, cK, aZ, cm, bv, aj, cD, cS, cB, cW, cu, au, au.ptrOnlys, ak, aM, bY, aB, bI, a8, bU, aQ, bp, cF, Nat.reduceBEq, undef]
def ent33 : Ent Tryz.prog := .of1 33 RegOk (fun r : Reg => .agg [.s (.int .u16 (wireW r).bits), .s (.int .u16 (wireW r).taps), .s (.int .i64 (wireW r).top)]) (fun _ => ⟨trivial, trivial, trivial, trivial⟩) (fun r h => wireOf_c r h)
end Go.Proofs.YtfgpbmjmoobcnaaGreatDoor
end
section
open Go Go.Am
open Go.Am.Dat (cells)
namespace Go.Proofs.YtfgpbmjmoobcnaaGreatDoor
set_option maxHeartbeats 4000000
set_option maxRecDepth 100000
set_option linter.unusedSimpArgs false
def seqS (w : Wire) (n : Nat) : List Int := (List.range n).map fun i => (outS (runW w i) : Int)
theorem seqS_succ (w : Wire) (n : Nat) : seqS w (n + 1) = seqS w n ++ [(outS (runW w n) : Int)] := by simp [seqS, List.range_succ]
def sequenceErr (r : Reg) (n : Int) : Int := if regErr r ≠ 0 then regErr r else if 1 ≤ n ∧ n ≤ 400 then 0 else 2
theorem sequence_c (r : Reg) (n : Int) : FC Tryz.prog 12 [enc r, enc n] [] (.tup [enc (if sequenceErr r n = 0 then seqS (wireW r) n.toNat else []), enc (sequenceErr r n)]) [] := by
  refine fc_introC [] is12 (by simp) trivial trivial trivial trivial (fun cx hcx hl _ => S_run [ent30, ent32, ent31, ent29, ent33] 800 ?_)
  obtain ⟨len, taps, state⟩ := r
  have hfs : firstS [regErr ⟨len, taps, state⟩, if 1 ≤ n ∧ n ≤ 400 then 0 else 2] = sequenceErr ⟨len, taps, state⟩ n := by
    unfold sequenceErr
    simp only [firstS]
    grind
  delta c12
  simp (maxSteps := 4000000) -implicitDefEqProofs only [rv12, ent30, ent32, ent31, ent29, ent33, enc_reg, decV_reg, hfs, InR, Ent.of0, Ent.of1, Ent.of2, Ent.of3, V, cc, bE, bN, bR, cV, cT, gt, lk, co, cC, cJ, cd, ca, bV, bV.subCs, cO, bu, bF, bZ, aV, bt, bh, aW, bM, bK, aH, a7, aX, cr, dd, cY, aq, aw, bT, cI, cb, cP, cU, aP, am, bQ, bJ, zC, argS, bO, ce, da, cR, ai, aE, aO, aA, cG, leC, cn, b0, bW, dc, bX, aR, aF, cZ, ah, cL, bf, bf.viewCs, bA, bA.flatCs, aK, aK.LensOks, Value.oneCell', ↓reduceIte, ite_true, ite_false, if_true, if_false, Nat.reduceAdd, Nat.reduceSub, Nat.reduceMul, Nat.reduceEqDiff, Nat.reduceLT, Nat.reduceLeDiff, reduceCtorEq, Int.reduceToNat, forall_const, implies_true, a6, Ent.mk3, bw, bC, bB, bk, bl, bo, bH, bL, bg, be, bz, cH, bn, cQ, rn, bS, bS.renCs, aI, aN, aY, aY.viewOks, aJ, bm, bm.flatBs, aG, an, av, ar, az, bq, bq.keysBs, aT, ap, bj, cp, bD, cg, af, af.passKs, aD, aL, ae, ae.lendKs, cM, cq, cz, bG, setInn, ag, cN, db, ay, br, bP, cj, aC, aU, Glob.gl, ax, cK, aZ, cm, bv, aj, cD, cS, cB, cW, cu, au, au.ptrOnlys, ak, aM, bY, aB, bI, a8, bU, aQ, bp, cF, Nat.reduceBEq, undef]
  by_cases he : sequenceErr ⟨len, taps, state⟩ n = 0
  · have hre : regErr ⟨len, taps, state⟩ = 0 := by
      unfold sequenceErr at he
      split at he
      · contradiction
      · rename_i h; simpa using h
    have hn : 1 ≤ n ∧ n ≤ 400 := by
      unfold sequenceErr at he
      rw [if_neg (by simpa using hre)] at he
      split at he
      · assumption
      · cases he
    have hok := wireW_ok (regOk_of hre)
    rw [if_neg (fun h => h he), if_pos he]
    refine ⟨regOk_of hre, ?_⟩
    generalize wireW ⟨len, taps, state⟩ = w at hok
    obtain ⟨N, rfl⟩ : ∃ N : Nat, n = (N : Int) := ⟨n.toNat, by omega⟩
    refine S_sh 200000 (by rw [hcx.2.2]; exact Nat.le_refl _) (by rfl) ?_
    simp (maxSteps := 4000000) -implicitDefEqProofs only [Ent.of0, Ent.of1, Ent.of2, Ent.of3, V, cc, bE, bN, bR, cV, cT, gt, lk, co, cC, cJ, cd, ca, bV, bV.subCs, cO, bu, bF, bZ, aV, bt, bh, aW, bM, bK, aH, a7, aX, cr, dd, cY, aq, aw, bT, cI, cb, cP, cU, aP, am, bQ, bJ, zC, argS, bO, ce, da, cR, ai, aE, aO, aA, cG, leC, cn, b0, bW, dc, bX, aR, aF, cZ, ah, cL, bf, bf.viewCs, bA, bA.flatCs, aK, aK.LensOks, Value.oneCell', ↓reduceIte, ite_true, ite_false, if_true, if_false, Nat.reduceAdd, Nat.reduceSub, Nat.reduceMul, Nat.reduceEqDiff, Nat.reduceLT, Nat.reduceLeDiff, reduceCtorEq, Int.reduceToNat, forall_const, implies_true, a6, Ent.mk3, bw, bC, bB, bk, bl, bo, bH, bL, bg, be, bz, cH, bn, cQ, rn, bS, bS.renCs, aI, aN, aY, aY.viewOks, aJ, bm, bm.flatBs, aG, an, av, ar, az, bq, bq.keysBs, aT, ap, bj, cp, bD, cg, af, af.passKs, aD, aL, ae, ae.lendKs, cM, cq, cz, bG, setInn, ag, cN, db, ay, br, bP, cj, aC, aU, Glob.gl, ax, cK, aZ, cm, bv, aj, cD, cS, cB, cW, cu, au, au.ptrOnlys, ak, aM, bY, aB, bI, a8, bU, aQ, bp, cF, Nat.reduceBEq, undef]
    refine S_rangeFunc (f := 34) (first := [.agg (wireC w)]) (caps := []) (ich := []) (kr := 100000) (vals := outsW w) (N := N) (fin := false) [200007, 200003]
      (fun i => [(200007, .box [if i = 0 then .s (.slice none 0 0) else .isl 1 3 ((seqS w i).map cells)]), (200003, .box [.s (.int .i64 (N : Int))])])
      hcx.2.1 rfl (given_c w hok N (by omega)) ⟨⟨rfl, trivial⟩, trivial⟩ ⟨fun c hc => ?_, fun k c hc => by simp at hc⟩ ?_ (fun i hi => ?_) (fun k hk => ?_) (fun i hi => ?_) (fun i hi cx' _ hcx' => S_run [] 800 ?_) (fun h => by cases h)
    · simp only [List.append_nil, List.mem_singleton] at hc; subst hc; exact ⟨trivial, trivial, trivial, trivial⟩
    · simp (maxSteps := 4000000) -implicitDefEqProofs only [Ent.of0, Ent.of1, Ent.of2, Ent.of3, V, cc, bE, bN, bR, cV, cT, gt, lk, co, cC, cJ, cd, ca, bV, bV.subCs, cO, bu, bF, bZ, aV, bt, bh, aW, bM, bK, aH, a7, aX, cr, dd, cY, aq, aw, bT, cI, cb, cP, cU, aP, am, bQ, bJ, zC, argS, bO, ce, da, cR, ai, aE, aO, aA, cG, leC, cn, b0, bW, dc, bX, aR, aF, cZ, ah, cL, bf, bf.viewCs, bA, bA.flatCs, aK, aK.LensOks, Value.oneCell', ↓reduceIte, ite_true, ite_false, if_true, if_false, Nat.reduceAdd, Nat.reduceSub, Nat.reduceMul, Nat.reduceEqDiff, Nat.reduceLT, Nat.reduceLeDiff, reduceCtorEq, Int.reduceToNat, forall_const, implies_true, a6, Ent.mk3, bw, bC, bB, bk, bl, bo, bH, bL, bg, be, bz, cH, bn, cQ, rn, bS, bS.renCs, aI, aN, aY, aY.viewOks, aJ, bm, bm.flatBs, aG, an, av, ar, az, bq, bq.keysBs, aT, ap, bj, cp, bD, cg, af, af.passKs, aD, aL, ae, ae.lendKs, cM, cq, cz, bG, setInn, ag, cN, db, ay, br, bP, cj, aC, aU, Glob.gl, ax, cK, aZ, cm, bv, aj, cD, cS, cB, cW, cu, au, au.ptrOnlys, ak, aM, bY, aB, bI, a8, bU, aQ, bp, cF, Nat.reduceBEq, undef]
    · simp (maxSteps := 4000000) -implicitDefEqProofs only [Ent.of0, Ent.of1, Ent.of2, Ent.of3, V, cc, bE, bN, bR, cV, cT, gt, lk, co, cC, cJ, cd, ca, bV, bV.subCs, cO, bu, bF, bZ, aV, bt, bh, aW, bM, bK, aH, a7, aX, cr, dd, cY, aq, aw, bT, cI, cb, cP, cU, aP, am, bQ, bJ, zC, argS, bO, ce, da, cR, ai, aE, aO, aA, cG, leC, cn, b0, bW, dc, bX, aR, aF, cZ, ah, cL, bf, bf.viewCs, bA, bA.flatCs, aK, aK.LensOks, Value.oneCell', ↓reduceIte, ite_true, ite_false, if_true, if_false, Nat.reduceAdd, Nat.reduceSub, Nat.reduceMul, Nat.reduceEqDiff, Nat.reduceLT, Nat.reduceLeDiff, reduceCtorEq, Int.reduceToNat, forall_const, implies_true, a6, Ent.mk3, bw, bC, bB, bk, bl, bo, bH, bL, bg, be, bz, cH, bn, cQ, rn, bS, bS.renCs, aI, aN, aY, aY.viewOks, aJ, bm, bm.flatBs, aG, an, av, ar, az, bq, bq.keysBs, aT, ap, bj, cp, bD, cg, af, af.passKs, aD, aL, ae, ae.lendKs, cM, cq, cz, bG, setInn, ag, cN, db, ay, br, bP, cj, aC, aU, Glob.gl, ax, cK, aZ, cm, bv, aj, cD, cS, cB, cW, cu, au, au.ptrOnlys, ak, aM, bY, aB, bI, a8, bU, aQ, bp, cF, Nat.reduceBEq, undef]
      simp
    · rw [hcx.2.2]
      simp only [List.mem_cons, List.not_mem_nil, or_false] at hk
      omega
    · refine ⟨rfl, fun c hc => ?_⟩
      simp only [outsW, List.mem_singleton] at hc; subst hc; trivial
    · simp (maxSteps := 4000000) -implicitDefEqProofs only [outsW, Ent.of0, Ent.of1, Ent.of2, Ent.of3, V, cc, bE, bN, bR, cV, cT, gt, lk, co, cC, cJ, cd, ca, bV, bV.subCs, cO, bu, bF, bZ, aV, bt, bh, aW, bM, bK, aH, a7, aX, cr, dd, cY, aq, aw, bT, cI, cb, cP, cU, aP, am, bQ, bJ, zC, argS, bO, ce, da, cR, ai, aE, aO, aA, cG, leC, cn, b0, bW, dc, bX, aR, aF, cZ, ah, cL, bf, bf.viewCs, bA, bA.flatCs, aK, aK.LensOks, Value.oneCell', ↓reduceIte, ite_true, ite_false, if_true, if_false, Nat.reduceAdd, Nat.reduceSub, Nat.reduceMul, Nat.reduceEqDiff, Nat.reduceLT, Nat.reduceLeDiff, reduceCtorEq, Int.reduceToNat, forall_const, implies_true, a6, Ent.mk3, bw, bC, bB, bk, bl, bo, bH, bL, bg, be, bz, cH, bn, cQ, rn, bS, bS.renCs, aI, aN, aY, aY.viewOks, aJ, bm, bm.flatBs, aG, an, av, ar, az, bq, bq.keysBs, aT, ap, bj, cp, bD, cg, af, af.passKs, aD, aL, ae, ae.lendKs, cM, cq, cz, bG, setInn, ag, cN, db, ay, br, bP, cj, aC, aU, Glob.gl, ax, cK, aZ, cm, bv, aj, cD, cS, cB, cW, cu, au, au.ptrOnlys, ak, aM, bY, aB, bI, a8, bU, aQ, bp, cF, Nat.reduceBEq, undef]
      intro cx'' _ _
      refine S_run [] 800 ?_
      have hlen : (seqS w i).length = i := by simp [seqS]
      have hNl : N ≤ 400 := by omega
      cases i with
      | zero =>
        have h1 : [[C.s (.int .i64 (outS (runW w 0) : Int))]] = (seqS w 1).map cells := by simp [seqS, List.range_succ, cells_int]
        delta c12r1
        simp (maxSteps := 4000000) -implicitDefEqProofs only [InR, Ent.of0, Ent.of1, Ent.of2, Ent.of3, V, cc, bE, bN, bR, cV, cT, gt, lk, co, cC, cJ, cd, ca, bV, bV.subCs, cO, bu, bF, bZ, aV, bt, bh, aW, bM, bK, aH, a7, aX, cr, dd, cY, aq, aw, bT, cI, cb, cP, cU, aP, am, bQ, bJ, zC, argS, bO, ce, da, cR, ai, aE, aO, aA, cG, leC, cn, b0, bW, dc, bX, aR, aF, cZ, ah, cL, bf, bf.viewCs, bA, bA.flatCs, aK, aK.LensOks, Value.oneCell', ↓reduceIte, ite_true, ite_false, if_true, if_false, Nat.reduceAdd, Nat.reduceSub, Nat.reduceMul, Nat.reduceEqDiff, Nat.reduceLT, Nat.reduceLeDiff, reduceCtorEq, Int.reduceToNat, forall_const, implies_true, a6, Ent.mk3, bw, bC, bB, bk, bl, bo, bH, bL, bg, be, bz, cH, bn, cQ, rn, bS, bS.renCs, aI, aN, aY, aY.viewOks, aJ, bm, bm.flatBs, aG, an, av, ar, az, bq, bq.keysBs, aT, ap, bj, cp, bD, cg, af, af.passKs, aD, aL, ae, ae.lendKs, cM, cq, cz, bG, setInn, ag, cN, db, ay, br, bP, cj, aC, aU, Glob.gl, ax, cK, aZ, cm, bv, aj, cD, cS, cB, cW, cu, au, au.ptrOnlys, ak, aM, bY, aB, bI, a8, bU, aQ, bp, cF, Nat.reduceBEq, undef]
        refine ⟨by decide, ?_⟩
        rw [h1]
        split
        · rename_i hN
          have hN1 : N = 1 := by omega
          subst hN1
          refine ⟨.inr trivial, S_fzb 200007 rfl (S_run [] 800 ?_)⟩
          simp (maxSteps := 4000000) -implicitDefEqProofs only [rv12, he, Ent.of0, Ent.of1, Ent.of2, Ent.of3, V, cc, bE, bN, bR, cV, cT, gt, lk, co, cC, cJ, cd, ca, bV, bV.subCs, cO, bu, bF, bZ, aV, bt, bh, aW, bM, bK, aH, a7, aX, cr, dd, cY, aq, aw, bT, cI, cb, cP, cU, aP, am, bQ, bJ, zC, argS, bO, ce, da, cR, ai, aE, aO, aA, cG, leC, cn, b0, bW, dc, bX, aR, aF, cZ, ah, cL, bf, bf.viewCs, bA, bA.flatCs, aK, aK.LensOks, Value.oneCell', ↓reduceIte, ite_true, ite_false, if_true, if_false, Nat.reduceAdd, Nat.reduceSub, Nat.reduceMul, Nat.reduceEqDiff, Nat.reduceLT, Nat.reduceLeDiff, reduceCtorEq, Int.reduceToNat, forall_const, implies_true, a6, Ent.mk3, bw, bC, bB, bk, bl, bo, bH, bL, bg, be, bz, cH, bn, cQ, rn, bS, bS.renCs, aI, aN, aY, aY.viewOks, aJ, bm, bm.flatBs, aG, an, av, ar, az, bq, bq.keysBs, aT, ap, bj, cp, bD, cg, af, af.passKs, aD, aL, ae, ae.lendKs, cM, cq, cz, bG, setInn, ag, cN, db, ay, br, bP, cj, aC, aU, Glob.gl, ax, cK, aZ, cm, bv, aj, cD, cS, cB, cW, cu, au, au.ptrOnlys, ak, aM, bY, aB, bI, a8, bU, aQ, bp, cF, Nat.reduceBEq, undef]
        · exact ⟨.inl (by omega), rfl⟩
      | succ i =>
        have h1 : (seqS w (i + 1)).map cells ++ [[C.s (.int .i64 (outS (runW w (i + 1)) : Int))]] = (seqS w (i + 1 + 1)).map cells := by rw [seqS_succ w (i + 1), List.map_append]; rfl
        have hl3 : (seqS w (i + 1 + 1)).length = i + 1 + 1 := by simp [seqS]
        delta c12r1
        simp (maxSteps := 4000000) -implicitDefEqProofs only [hlen, Nat.succ_ne_zero, InR, h1, Ent.of0, Ent.of1, Ent.of2, Ent.of3, V, cc, bE, bN, bR, cV, cT, gt, lk, co, cC, cJ, cd, ca, bV, bV.subCs, cO, bu, bF, bZ, aV, bt, bh, aW, bM, bK, aH, a7, aX, cr, dd, cY, aq, aw, bT, cI, cb, cP, cU, aP, am, bQ, bJ, zC, argS, bO, ce, da, cR, ai, aE, aO, aA, cG, leC, cn, b0, bW, dc, bX, aR, aF, cZ, ah, cL, bf, bf.viewCs, bA, bA.flatCs, aK, aK.LensOks, Value.oneCell', ↓reduceIte, ite_true, ite_false, if_true, if_false, Nat.reduceAdd, Nat.reduceSub, Nat.reduceMul, Nat.reduceEqDiff, Nat.reduceLT, Nat.reduceLeDiff, reduceCtorEq, Int.reduceToNat, forall_const, implies_true, a6, Ent.mk3, bw, bC, bB, bk, bl, bo, bH, bL, bg, be, bz, cH, bn, cQ, rn, bS, bS.renCs, aI, aN, aY, aY.viewOks, aJ, bm, bm.flatBs, aG, an, av, ar, az, bq, bq.keysBs, aT, ap, bj, cp, bD, cg, af, af.passKs, aD, aL, ae, ae.lendKs, cM, cq, cz, bG, setInn, ag, cN, db, ay, br, bP, cj, aC, aU, Glob.gl, ax, cK, aZ, cm, bv, aj, cD, cS, cB, cW, cu, au, au.ptrOnlys, ak, aM, bY, aB, bI, a8, bU, aQ, bp, cF, Nat.reduceBEq, undef]
        refine ⟨⟨by decide, by omega, by omega⟩, by decide, ?_⟩
        split
        · rename_i hN
          have hN1 : N = i + 1 + 1 := by omega
          subst hN1
          refine ⟨.inr trivial, S_fzb 200007 rfl (S_run [] 800 ?_)⟩
          simp (maxSteps := 4000000) -implicitDefEqProofs only [rv12, he, Ent.of0, Ent.of1, Ent.of2, Ent.of3, V, cc, bE, bN, bR, cV, cT, gt, lk, co, cC, cJ, cd, ca, bV, bV.subCs, cO, bu, bF, bZ, aV, bt, bh, aW, bM, bK, aH, a7, aX, cr, dd, cY, aq, aw, bT, cI, cb, cP, cU, aP, am, bQ, bJ, zC, argS, bO, ce, da, cR, ai, aE, aO, aA, cG, leC, cn, b0, bW, dc, bX, aR, aF, cZ, ah, cL, bf, bf.viewCs, bA, bA.flatCs, aK, aK.LensOks, Value.oneCell', ↓reduceIte, ite_true, ite_false, if_true, if_false, Nat.reduceAdd, Nat.reduceSub, Nat.reduceMul, Nat.reduceEqDiff, Nat.reduceLT, Nat.reduceLeDiff, reduceCtorEq, Int.reduceToNat, forall_const, implies_true, a6, Ent.mk3, bw, bC, bB, bk, bl, bo, bH, bL, bg, be, bz, cH, bn, cQ, rn, bS, bS.renCs, aI, aN, aY, aY.viewOks, aJ, bm, bm.flatBs, aG, an, av, ar, az, bq, bq.keysBs, aT, ap, bj, cp, bD, cg, af, af.passKs, aD, aL, ae, ae.lendKs, cM, cq, cz, bG, setInn, ag, cN, db, ay, br, bP, cj, aC, aU, Glob.gl, ax, cK, aZ, cm, bv, aj, cD, cS, cB, cW, cu, au, au.ptrOnlys, ak, aM, bY, aB, bI, a8, bU, aQ, bp, cF, Nat.reduceBEq, undef]
        · exact .inl (by omega)
  · rw [if_pos he, if_neg he]
    trivial
def ent12 : Ent Tryz.prog := .of2 12 (fun _ _ => True) (fun (r : Reg) (n : Int) => .tup [enc (if sequenceErr r n = 0 then seqS (wireW r) n.toNat else []), enc (sequenceErr r n)]) (fun _ _ => ⟨trivial, trivial, trivial⟩) (fun r n _ => sequence_c r n)
end Go.Proofs.YtfgpbmjmoobcnaaGreatDoor
end
section
open Go Go.Am
open Go.Am.Dat (cells)
namespace Go.Proofs.YtfgpbmjmoobcnaaGreatDoor
set_option maxHeartbeats 4000000
set_option maxRecDepth 100000
set_option linter.unusedSimpArgs false
theorem wrap64 {a : Nat} (ha : a < 9223372036854775808) : IntKind.wrap .i64 (a : Int) = a := by
  show (if (true && decide ((a : Int) % 18446744073709551616 ≥ 9223372036854775808)) = true then (a : Int) % 18446744073709551616 - 18446744073709551616 else (a : Int) % 18446744073709551616) = a
  rw [if_neg (by simp; omega)]
  omega
theorem of64 {a : Nat} (ha : a < 18446744073709551616) : (BitVec.ofInt 64 (a : Int)).toNat = a := by
  rw [BitVec.ofInt_natCast, BitVec.toNat_ofNat]
  exact Nat.mod_eq_of_lt ha
theorem and64_1 {a : Nat} (ha : a < 9223372036854775808) : bitF .and .i64 (a : Int) 1 = ((a % 2 : Nat) : Int) := by
  show IntKind.wrap .i64 ((BitVec.ofInt 64 (a : Int) &&& BitVec.ofInt 64 ((1 : Nat) : Int)).toNat : Int) = _
  rw [BitVec.toNat_and, of64 (by omega), of64 (by decide), Nat.and_one_is_mod]
  exact wrap64 (by omega)
def bitsOfS (n c : Nat) : Nat → List Int
  | 0 => []
  | k + 1 => bitsOfS n c k ++ [((n / 2 ^ (c - 1 - k) % 2 : Nat) : Int)]
theorem bitsOfS_length (n c : Nat) : ∀ k, (bitsOfS n c k).length = k
  | 0 => rfl
  | k + 1 => by simp [bitsOfS, bitsOfS_length n c k]
theorem bitsOf_c (n c : Nat) (hn : n < 4096) (hc : c ≤ 12) : FC Tryz.prog 88 [enc (n : Int), enc (c : Int)] [] (enc (bitsOfS n c c)) [] := by
  refine fc_intro' is88 (by simp) (fun cx hl => S_run [] 800 ?_)
  delta c88
  simp (maxSteps := 4000000) -implicitDefEqProofs only [rv88, InR, Ent.of0, Ent.of1, Ent.of2, Ent.of3, V, cc, bE, bN, bR, cV, cT, gt, lk, co, cC, cJ, cd, ca, bV, bV.subCs, cO, bu, bF, bZ, aV, bt, bh, aW, bM, bK, aH, a7, aX, cr, dd, cY, aq, aw, bT, cI, cb, cP, cU, aP, am, bQ, bJ, zC, argS, bO, ce, da, cR, ai, aE, aO, aA, cG, leC, cn, b0, bW, dc, bX, aR, aF, cZ, ah, cL, bf, bf.viewCs, bA, bA.flatCs, aK, aK.LensOks, Value.oneCell', ↓reduceIte, ite_true, ite_false, if_true, if_false, Nat.reduceAdd, Nat.reduceSub, Nat.reduceMul, Nat.reduceEqDiff, Nat.reduceLT, Nat.reduceLeDiff, reduceCtorEq, Int.reduceToNat, forall_const, implies_true, a6, Ent.mk3, bw, bC, bB, bk, bl, bo, bH, bL, bg, be, bz, cH, bn, cQ, rn, bS, bS.renCs, aI, aN, aY, aY.viewOks, aJ, bm, bm.flatBs, aG, an, av, ar, az, bq, bq.keysBs, aT, ap, bj, cp, bD, cg, af, af.passKs, aD, aL, ae, ae.lendKs, cM, cq, cz, bG, setInn, ag, cN, db, ay, br, bP, cj, aC, aU, Glob.gl, ax, cK, aZ, cm, bv, aj, cD, cS, cB, cW, cu, au, au.ptrOnlys, ak, aM, bY, aB, bI, a8, bU, aQ, bp, cF, Nat.reduceBEq, undef]
  refine ⟨by omega, ?_⟩
  refine S_forU c (fun k => [(6, .s (.int .i64 ((c : Int) - 1 - k)))]) (fun k => [(5, .row 1 3 ((bitsOfS n c k).map cells))]) (fun _ => True) trivial ?_ (fun k hk _ => S_run [] 800 ?_)
  · simp (maxSteps := 4000000) -implicitDefEqProofs only [bitsOfS, Ent.of0, Ent.of1, Ent.of2, Ent.of3, V, cc, bE, bN, bR, cV, cT, gt, lk, co, cC, cJ, cd, ca, bV, bV.subCs, cO, bu, bF, bZ, aV, bt, bh, aW, bM, bK, aH, a7, aX, cr, dd, cY, aq, aw, bT, cI, cb, cP, cU, aP, am, bQ, bJ, zC, argS, bO, ce, da, cR, ai, aE, aO, aA, cG, leC, cn, b0, bW, dc, bX, aR, aF, cZ, ah, cL, bf, bf.viewCs, bA, bA.flatCs, aK, aK.LensOks, Value.oneCell', ↓reduceIte, ite_true, ite_false, if_true, if_false, Nat.reduceAdd, Nat.reduceSub, Nat.reduceMul, Nat.reduceEqDiff, Nat.reduceLT, Nat.reduceLeDiff, reduceCtorEq, Int.reduceToNat, forall_const, implies_true, a6, Ent.mk3, bw, bC, bB, bk, bl, bo, bH, bL, bg, be, bz, cH, bn, cQ, rn, bS, bS.renCs, aI, aN, aY, aY.viewOks, aJ, bm, bm.flatBs, aG, an, av, ar, az, bq, bq.keysBs, aT, ap, bj, cp, bD, cg, af, af.passKs, aD, aL, ae, ae.lendKs, cM, cq, cz, bG, setInn, ag, cN, db, ay, br, bP, cj, aC, aU, Glob.gl, ax, cK, aZ, cm, bv, aj, cD, cS, cB, cW, cu, au, au.ptrOnlys, ak, aM, bY, aB, bI, a8, bU, aQ, bp, cF, Nat.reduceBEq, undef]; simp
  · by_cases h : k < c
    · have hi : ((0 : Int) ≤ (c : Int) - 1 - k) := by omega
      have ht : ((c : Int) - 1 - k).toNat = c - 1 - k := by omega
      have hm : min (c - 1 - k) IntKind.i64.bits = c - 1 - k := Nat.min_eq_left (by show _ ≤ 64; omega)
      have hd : (n : Int).fdiv (2 ^ (c - 1 - k)) = ((n / 2 ^ (c - 1 - k) : Nat) : Int) := by
        rw [Int.fdiv_eq_ediv_of_nonneg _ (Int.le_of_lt (Int.pow_pos (by decide)))]; push_cast; rfl
      have hle : n / 2 ^ (c - 1 - k) ≤ n := Nat.div_le_self _ _
      have ha := and64_1 (a := n / 2 ^ (c - 1 - k)) (by omega)
      have hsucc : (bitsOfS n c k).map cells ++ [[C.s (.int .i64 ((n / 2 ^ (c - 1 - k) % 2 : Nat) : Int))]] = (bitsOfS n c (k + 1)).map cells := by rw [bitsOfS, List.map_append]; rfl
      have hlen := bitsOfS_length n c k
      delta c88l1
      simp (maxSteps := 4000000) -implicitDefEqProofs only [hi, ht, hm, hd, ha, hsucc, hlen, InR, Ent.of0, Ent.of1, Ent.of2, Ent.of3, V, cc, bE, bN, bR, cV, cT, gt, lk, co, cC, cJ, cd, ca, bV, bV.subCs, cO, bu, bF, bZ, aV, bt, bh, aW, bM, bK, aH, a7, aX, cr, dd, cY, aq, aw, bT, cI, cb, cP, cU, aP, am, bQ, bJ, zC, argS, bO, ce, da, cR, ai, aE, aO, aA, cG, leC, cn, b0, bW, dc, bX, aR, aF, cZ, ah, cL, bf, bf.viewCs, bA, bA.flatCs, aK, aK.LensOks, Value.oneCell', ↓reduceIte, ite_true, ite_false, if_true, if_false, Nat.reduceAdd, Nat.reduceSub, Nat.reduceMul, Nat.reduceEqDiff, Nat.reduceLT, Nat.reduceLeDiff, reduceCtorEq, Int.reduceToNat, forall_const, implies_true, a6, Ent.mk3, bw, bC, bB, bk, bl, bo, bH, bL, bg, be, bz, cH, bn, cQ, rn, bS, bS.renCs, aI, aN, aY, aY.viewOks, aJ, bm, bm.flatBs, aG, an, av, ar, az, bq, bq.keysBs, aT, ap, bj, cp, bD, cg, af, af.passKs, aD, aL, ae, ae.lendKs, cM, cq, cz, bG, setInn, ag, cN, db, ay, br, bP, cj, aC, aU, Glob.gl, ax, cK, aZ, cm, bv, aj, cD, cS, cB, cW, cu, au, au.ptrOnlys, ak, aM, bY, aB, bI, a8, bU, aQ, bp, cF, Nat.reduceBEq, undef]
      exact ⟨by omega, by omega, h, by omega⟩
    · have hk2 : k = c := by omega
      subst hk2
      have hi : ¬ ((0 : Int) ≤ (k : Int) - 1 - k) := by omega
      delta c88l1
      simp (maxSteps := 4000000) -implicitDefEqProofs only [rv88, hi, InR, Ent.of0, Ent.of1, Ent.of2, Ent.of3, V, cc, bE, bN, bR, cV, cT, gt, lk, co, cC, cJ, cd, ca, bV, bV.subCs, cO, bu, bF, bZ, aV, bt, bh, aW, bM, bK, aH, a7, aX, cr, dd, cY, aq, aw, bT, cI, cb, cP, cU, aP, am, bQ, bJ, zC, argS, bO, ce, da, cR, ai, aE, aO, aA, cG, leC, cn, b0, bW, dc, bX, aR, aF, cZ, ah, cL, bf, bf.viewCs, bA, bA.flatCs, aK, aK.LensOks, Value.oneCell', ↓reduceIte, ite_true, ite_false, if_true, if_false, Nat.reduceAdd, Nat.reduceSub, Nat.reduceMul, Nat.reduceEqDiff, Nat.reduceLT, Nat.reduceLeDiff, reduceCtorEq, Int.reduceToNat, forall_const, implies_true, a6, Ent.mk3, bw, bC, bB, bk, bl, bo, bH, bL, bg, be, bz, cH, bn, cQ, rn, bS, bS.renCs, aI, aN, aY, aY.viewOks, aJ, bm, bm.flatBs, aG, an, av, ar, az, bq, bq.keysBs, aT, ap, bj, cp, bD, cg, af, af.passKs, aD, aL, ae, ae.lendKs, cM, cq, cz, bG, setInn, ag, cN, db, ay, br, bP, cj, aC, aU, Glob.gl, ax, cK, aZ, cm, bv, aj, cD, cS, cB, cW, cu, au, au.ptrOnlys, ak, aM, bY, aB, bI, a8, bU, aQ, bp, cF, Nat.reduceBEq, undef]
def ent88 : Ent Tryz.prog where
  id := 88
  sp := fun args chs => match args, chs with
    | [.s (.int .i64 n), .s (.int .i64 c)], [] => some (0 ≤ n ∧ n < 4096 ∧ 0 ≤ c ∧ c ≤ 12, enc (bitsOfS n.toNat c.toNat c.toNat), [], [])
    | _, _ => none
  ok := by
    intro args chs p r chs' nk hs hp
    split at hs
    · simp only [Option.some.injEq, Prod.mk.injEq] at hs
      obtain ⟨rfl, rfl, rfl, rfl⟩ := hs
      obtain ⟨h1, h2, h3, h4⟩ := hp
      rename_i n c
      have := bitsOf_c n.toNat c.toNat (by omega) (by omega)
      rw [Int.toNat_of_nonneg h1, Int.toNat_of_nonneg h3] at this
      exact ⟨this, .plain trivial⟩
    · cases hs
def levelS : List Int → Int
  | [] => 0
  | [b] => 1 - 2 * b
  | b :: l => (1 - 2 * b) * (2 ^ l.length - levelS l)
theorem levelS_le : ∀ l : List Int, (∀ b ∈ l, b = 0 ∨ b = 1) → -(2 ^ l.length) < levelS l ∧ levelS l < 2 ^ l.length
  | [], _ => by decide
  | [b], h => by rcases h b (by simp) with rfl | rfl <;> decide
  | b :: c :: l, h => by
    have ih := levelS_le (c :: l) (fun x hx => h x (List.mem_cons_of_mem _ hx))
    have hb := h b (by simp)
    simp only [levelS, List.length_cons] at ih ⊢
    generalize hq : levelS (c :: l) = q at *
    have e : (2 : Int) ^ (l.length + 1 + 1) = 2 * 2 ^ (l.length + 1) := by rw [Int.pow_succ]; omega
    rw [e]
    generalize (2 : Int) ^ (l.length + 1) = p at *
    rcases hb with rfl | rfl
    · constructor <;> omega
    · constructor <;> omega
theorem level_c : ∀ (m : Nat) (l : List Int), l.length ≤ m → 0 < l.length → l.length ≤ 6 → (∀ b ∈ l, b = 0 ∨ b = 1) → FC Tryz.prog 66 [enc l] [] (enc (levelS l)) [] := by
  intro m
  induction m with
  | zero => intro l h1 h2; omega
  | succ m ih =>
    intro l h1 h2 h3 hb
    obtain ⟨b, t, rfl⟩ : ∃ b t, l = b :: t := by cases l with | nil => simp at h2 | cons b t => exact ⟨b, t, rfl⟩
    simp only [List.length_cons] at h1 h3
    have hbb := hb b (by simp)
    have hbt : ∀ x ∈ t, x = 0 ∨ x = 1 := fun x hx => hb x (List.mem_cons_of_mem _ hx)
    have hll := levelS_le t hbt
    have hpp : (2 : Int) ^ t.length ≤ 32 := by
      have : 2 ^ t.length ≤ 2 ^ 5 := Nat.pow_le_pow_right (by decide) (by omega)
      exact_mod_cast this
    refine fc_intro' is66 (by simp) (fun cx hl => S_run [.of1 66 (fun a => a = t ∧ 0 < t.length) (fun a => enc (levelS a)) (fun _ => trivial) (fun a ha => by obtain ⟨rfl, h⟩ := ha; exact ih a (by omega) h (by omega) hbt)] 800 ?_)
    have htk : List.take t.length (List.map cells t) = List.map cells t := by rw [List.take_of_length_le (by simp)]
    have hmin : min t.length IntKind.i64.bits = t.length := Nat.min_eq_left (by show _ ≤ 64; omega)
    have hone : (((t.length + 1 : Nat) : Int) = 1) ↔ t.length = 0 := by omega
    delta c66
    simp (maxSteps := 4000000) -implicitDefEqProofs only [rv66, htk, hmin, hone, InR, Ent.of0, Ent.of1, Ent.of2, Ent.of3, V, cc, bE, bN, bR, cV, cT, gt, lk, co, cC, cJ, cd, ca, bV, bV.subCs, cO, bu, bF, bZ, aV, bt, bh, aW, bM, bK, aH, a7, aX, cr, dd, cY, aq, aw, bT, cI, cb, cP, cU, aP, am, bQ, bJ, zC, argS, bO, ce, da, cR, ai, aE, aO, aA, cG, leC, cn, b0, bW, dc, bX, aR, aF, cZ, ah, cL, bf, bf.viewCs, bA, bA.flatCs, aK, aK.LensOks, Value.oneCell', ↓reduceIte, ite_true, ite_false, if_true, if_false, Nat.reduceAdd, Nat.reduceSub, Nat.reduceMul, Nat.reduceEqDiff, Nat.reduceLT, Nat.reduceLeDiff, reduceCtorEq, Int.reduceToNat, forall_const, implies_true, a6, Ent.mk3, bw, bC, bB, bk, bl, bo, bH, bL, bg, be, bz, cH, bn, cQ, rn, bS, bS.renCs, aI, aN, aY, aY.viewOks, aJ, bm, bm.flatBs, aG, an, av, ar, az, bq, bq.keysBs, aT, ap, bj, cp, bD, cg, af, af.passKs, aD, aL, ae, ae.lendKs, cM, cq, cz, bG, setInn, ag, cN, db, ay, br, bP, cj, aC, aU, Glob.gl, ax, cK, aZ, cm, bv, aj, cD, cS, cB, cW, cu, au, au.ptrOnlys, ak, aM, bY, aB, bI, a8, bU, aQ, bp, cF, Nat.reduceBEq, undef]
    refine ⟨by omega, by omega, by omega, ?_⟩
    split
    · rename_i h0
      have : t = [] := by simpa using h0
      subst this; rfl
    · rename_i h0
      obtain ⟨c, t', rfl⟩ : ∃ c t', t = c :: t' := by cases t with | nil => simp at h0 | cons c t' => exact ⟨c, t', rfl⟩
      have hpos : (0 : Int) < 2 ^ (c :: t').length := Int.pow_pos (by decide)
      simp only [levelS]
      generalize (2 : Int) ^ (c :: t').length = p at *
      generalize levelS (c :: t') = q at *
      simp only [List.length_cons] at *
      refine ⟨by omega, by omega, by omega, by omega, ?_, by rw [Int.one_mul]⟩
      rcases hbb with rfl | rfl <;> omega
def bitsOk (l : List Int) : Prop := ∀ b ∈ l, b = 0 ∨ b = 1
def ent66 : Ent Tryz.prog := .of1 66 (fun l => 0 < l.length ∧ l.length ≤ 6 ∧ bitsOk l) (fun l : List Int => enc (levelS l)) (fun _ => trivial) (fun l h => level_c _ l (Nat.le_refl _) h.1 h.2.1 h.2.2)
theorem bitsOfS_ok (n c : Nat) : ∀ k, bitsOk (bitsOfS n c k)
  | 0 => fun b h => by simp [bitsOfS] at h
  | k + 1 => fun b h => by
    simp only [bitsOfS, List.mem_append, List.mem_singleton] at h
    rcases h with h | h
    · exact bitsOfS_ok n c k b h
    · omega
end Go.Proofs.YtfgpbmjmoobcnaaGreatDoor
end
section
open Go Go.Am
open Go.Am.Dat (cells)
namespace Go.Proofs.YtfgpbmjmoobcnaaGreatDoor
set_option maxHeartbeats 4000000
set_option maxRecDepth 100000
set_option linter.unusedSimpArgs false
def evens : List Int → List Int
  | a :: _ :: l => a :: evens l
  | [a] => [a]
  | [] => []
def odds : List Int → List Int
  | _ :: b :: l => b :: odds l
  | _ => []
def pointS (l : List Int) : Gs := ⟨levelS (evens l), levelS (odds l)⟩
theorem point2_c (a b : Int) (h : bitsOk [a, b]) : FC Tryz.prog 38 [enc [a, b]] [] (enc (pointS [a, b])) [] := by
  have h1 : bitsOk [a] := fun x hx => h x (by simp at hx; simp [hx])
  have h2 : bitsOk [b] := fun x hx => h x (by simp at hx; simp [hx])
  refine fc_intro' is38 (by simp) (fun cx hl => S_runU [ent66] 400 ?_)
  delta c38 c38l1
  simp (maxSteps := 4000000) -implicitDefEqProofs only [rv38, ent66, h1, h2, InR, pointS, evens, odds, Int.cast_ofNat_Int, Int.natCast_one, Int.natCast_zero, Int.reduceAdd, Int.reduceSub, Int.reduceMul, Int.reduceLT, Int.reduceLE, Int.reduceTMod, Int.reduceTDiv, Int.reduceNeg, Int.reduceEq, Nat.reducePow, Int.reducePow, ne_eq, not_false_eq_true, Ent.of0, Ent.of1, Ent.of2, Ent.of3, V, cc, bE, bN, bR, cV, cT, gt, lk, co, cC, cJ, cd, ca, bV, bV.subCs, cO, bu, bF, bZ, aV, bt, bh, aW, bM, bK, aH, a7, aX, cr, dd, cY, aq, aw, bT, cI, cb, cP, cU, aP, am, bQ, bJ, zC, argS, bO, ce, da, cR, ai, aE, aO, aA, cG, leC, cn, b0, bW, dc, bX, aR, aF, cZ, ah, cL, bf, bf.viewCs, bA, bA.flatCs, aK, aK.LensOks, Value.oneCell', ↓reduceIte, ite_true, ite_false, if_true, if_false, Nat.reduceAdd, Nat.reduceSub, Nat.reduceMul, Nat.reduceEqDiff, Nat.reduceLT, Nat.reduceLeDiff, reduceCtorEq, Int.reduceToNat, forall_const, implies_true, a6, Ent.mk3, bw, bC, bB, bk, bl, bo, bH, bL, bg, be, bz, cH, bn, cQ, rn, bS, bS.renCs, aI, aN, aY, aY.viewOks, aJ, bm, bm.flatBs, aG, an, av, ar, az, bq, bq.keysBs, aT, ap, bj, cp, bD, cg, af, af.passKs, aD, aL, ae, ae.lendKs, cM, cq, cz, bG, setInn, ag, cN, db, ay, br, bP, cj, aC, aU, Glob.gl, ax, cK, aZ, cm, bv, aj, cD, cS, cB, cW, cu, au, au.ptrOnlys, ak, aM, bY, aB, bI, a8, bU, aQ, bp, cF, Nat.reduceBEq, undef]
theorem point4_c (a b c d : Int) (h : bitsOk [a, b, c, d]) : FC Tryz.prog 38 [enc [a, b, c, d]] [] (enc (pointS [a, b, c, d])) [] := by
  have h1 : bitsOk [a, c] := fun x hx => h x (by simp at hx ⊢; grind)
  have h2 : bitsOk [b, d] := fun x hx => h x (by simp at hx ⊢; grind)
  refine fc_intro' is38 (by simp) (fun cx hl => S_runU [ent66] 600 ?_)
  delta c38 c38l1
  simp (maxSteps := 4000000) -implicitDefEqProofs only [rv38, ent66, h1, h2, InR, pointS, evens, odds, Int.cast_ofNat_Int, Int.natCast_one, Int.natCast_zero, Int.reduceAdd, Int.reduceSub, Int.reduceMul, Int.reduceLT, Int.reduceLE, Int.reduceTMod, Int.reduceTDiv, Int.reduceNeg, Int.reduceEq, Nat.reducePow, Int.reducePow, ne_eq, not_false_eq_true, Ent.of0, Ent.of1, Ent.of2, Ent.of3, V, cc, bE, bN, bR, cV, cT, gt, lk, co, cC, cJ, cd, ca, bV, bV.subCs, cO, bu, bF, bZ, aV, bt, bh, aW, bM, bK, aH, a7, aX, cr, dd, cY, aq, aw, bT, cI, cb, cP, cU, aP, am, bQ, bJ, zC, argS, bO, ce, da, cR, ai, aE, aO, aA, cG, leC, cn, b0, bW, dc, bX, aR, aF, cZ, ah, cL, bf, bf.viewCs, bA, bA.flatCs, aK, aK.LensOks, Value.oneCell', ↓reduceIte, ite_true, ite_false, if_true, if_false, Nat.reduceAdd, Nat.reduceSub, Nat.reduceMul, Nat.reduceEqDiff, Nat.reduceLT, Nat.reduceLeDiff, reduceCtorEq, Int.reduceToNat, forall_const, implies_true, a6, Ent.mk3, bw, bC, bB, bk, bl, bo, bH, bL, bg, be, bz, cH, bn, cQ, rn, bS, bS.renCs, aI, aN, aY, aY.viewOks, aJ, bm, bm.flatBs, aG, an, av, ar, az, bq, bq.keysBs, aT, ap, bj, cp, bD, cg, af, af.passKs, aD, aL, ae, ae.lendKs, cM, cq, cz, bG, setInn, ag, cN, db, ay, br, bP, cj, aC, aU, Glob.gl, ax, cK, aZ, cm, bv, aj, cD, cS, cB, cW, cu, au, au.ptrOnlys, ak, aM, bY, aB, bI, a8, bU, aQ, bp, cF, Nat.reduceBEq, undef]
theorem point6_c (a b c d e f : Int) (h : bitsOk [a, b, c, d, e, f]) : FC Tryz.prog 38 [enc [a, b, c, d, e, f]] [] (enc (pointS [a, b, c, d, e, f])) [] := by
  have h1 : bitsOk [a, c, e] := fun x hx => h x (by simp at hx ⊢; grind)
  have h2 : bitsOk [b, d, f] := fun x hx => h x (by simp at hx ⊢; grind)
  refine fc_intro' is38 (by simp) (fun cx hl => S_runU [ent66] 800 ?_)
  delta c38 c38l1
  simp (maxSteps := 4000000) -implicitDefEqProofs only [rv38, ent66, h1, h2, InR, pointS, evens, odds, Int.cast_ofNat_Int, Int.natCast_one, Int.natCast_zero, Int.reduceAdd, Int.reduceSub, Int.reduceMul, Int.reduceLT, Int.reduceLE, Int.reduceTMod, Int.reduceTDiv, Int.reduceNeg, Int.reduceEq, Nat.reducePow, Int.reducePow, ne_eq, not_false_eq_true, Ent.of0, Ent.of1, Ent.of2, Ent.of3, V, cc, bE, bN, bR, cV, cT, gt, lk, co, cC, cJ, cd, ca, bV, bV.subCs, cO, bu, bF, bZ, aV, bt, bh, aW, bM, bK, aH, a7, aX, cr, dd, cY, aq, aw, bT, cI, cb, cP, cU, aP, am, bQ, bJ, zC, argS, bO, ce, da, cR, ai, aE, aO, aA, cG, leC, cn, b0, bW, dc, bX, aR, aF, cZ, ah, cL, bf, bf.viewCs, bA, bA.flatCs, aK, aK.LensOks, Value.oneCell', ↓reduceIte, ite_true, ite_false, if_true, if_false, Nat.reduceAdd, Nat.reduceSub, Nat.reduceMul, Nat.reduceEqDiff, Nat.reduceLT, Nat.reduceLeDiff, reduceCtorEq, Int.reduceToNat, forall_const, implies_true, a6, Ent.mk3, bw, bC, bB, bk, bl, bo, bH, bL, bg, be, bz, cH, bn, cQ, rn, bS, bS.renCs, aI, aN, aY, aY.viewOks, aJ, bm, bm.flatBs, aG, an, av, ar, az, bq, bq.keysBs, aT, ap, bj, cp, bD, cg, af, af.passKs, aD, aL, ae, ae.lendKs, cM, cq, cz, bG, setInn, ag, cN, db, ay, br, bP, cj, aC, aU, Glob.gl, ax, cK, aZ, cm, bv, aj, cD, cS, cB, cW, cu, au, au.ptrOnlys, ak, aM, bY, aB, bI, a8, bU, aQ, bp, cF, Nat.reduceBEq, undef]
theorem point_c (l : List Int) (hl : l.length = 2 ∨ l.length = 4 ∨ l.length = 6) (h : bitsOk l) : FC Tryz.prog 38 [enc l] [] (enc (pointS l)) [] := by
  match l, hl with
  | [a, b], _ => exact point2_c a b h
  | [a, b, c, d], _ => exact point4_c a b c d h
  | [a, b, c, d, e, f], _ => exact point6_c a b c d e f h
  | [], hl => simp at hl
  | [_], hl => simp at hl
  | [_, _, _], hl => simp at hl
  | [_, _, _, _, _], hl => simp at hl
  | _ :: _ :: _ :: _ :: _ :: _ :: _ :: _, hl => simp at hl
def ent38 : Ent Tryz.prog := .of1 38 (fun l => (l.length = 2 ∨ l.length = 4 ∨ l.length = 6) ∧ bitsOk l) (fun l : List Int => enc (pointS l)) (fun l => ⟨trivial, trivial, trivial⟩) (fun l h => point_c l h.1 h.2)
end Go.Proofs.YtfgpbmjmoobcnaaGreatDoor
end
section
open Go Go.Am
open Go.Am.Dat (cells)
namespace Go.Proofs.YtfgpbmjmoobcnaaGreatDoor
set_option maxHeartbeats 4000000
set_option maxRecDepth 100000
set_option linter.unusedSimpArgs false
def chunkAt (l : List Int) (n j : Nat) : List Int := (l.drop (j * n)).take n
def chunkV (l : List Int) (n j : Nat) : List C := [.sl 1 ((chunkAt l n j).map cells)]
theorem chunk_c (l : List Int) (n N : Nat) (hn : 0 < n) (hN : 0 < N) (hl : l.length = N * n) (hle : l.length ≤ 1000000) : ItC Tryz.prog 65 [] [.ptr 200025 0, .ptr 201025 0] [(200025, .box [.sl 1 (l.map cells)]), (201025, .box [.s (.int .i64 (n : Int))])] 100000 (chunkV l n) N true := by
  intro yl R Rf hy
  refine fco_intro [] is65 (by simp) (by simp) (fun o ho k cs hm => by simp at ho; rcases ho with rfl | rfl <;> simp at hm) (fun cx _ _ _ => S_run [] 800 ?_)
  delta c65
  simp (maxSteps := 4000000) -implicitDefEqProofs only [rv65, List.append_nil, Ent.of0, Ent.of1, Ent.of2, Ent.of3, V, cc, bE, bN, bR, cV, cT, gt, lk, co, cC, cJ, cd, ca, bV, bV.subCs, cO, bu, bF, bZ, aV, bt, bh, aW, bM, bK, aH, a7, aX, cr, dd, cY, aq, aw, bT, cI, cb, cP, cU, aP, am, bQ, bJ, zC, argS, bO, ce, da, cR, ai, aE, aO, aA, cG, leC, cn, b0, bW, dc, bX, aR, aF, cZ, ah, cL, bf, bf.viewCs, bA, bA.flatCs, aK, aK.LensOks, Value.oneCell', ↓reduceIte, ite_true, ite_false, if_true, if_false, Nat.reduceAdd, Nat.reduceSub, Nat.reduceMul, Nat.reduceEqDiff, Nat.reduceLT, Nat.reduceLeDiff, reduceCtorEq, Int.reduceToNat, forall_const, implies_true, a6, Ent.mk3, bw, bC, bB, bk, bl, bo, bH, bL, bg, be, bz, cH, bn, cQ, rn, bS, bS.renCs, aI, aN, aY, aY.viewOks, aJ, bm, bm.flatBs, aG, an, av, ar, az, bq, bq.keysBs, aT, ap, bj, cp, bD, cg, af, af.passKs, aD, aL, ae, ae.lendKs, cM, cq, cz, bG, setInn, ag, cN, db, ay, br, bP, cj, aC, aU, Glob.gl, ax, cK, aZ, cm, bv, aj, cD, cS, cB, cW, cu, au, au.ptrOnlys, ak, aM, bY, aB, bI, a8, bU, aQ, bp, cF, Nat.reduceBEq, undef]
  refine S_loopU (α := Nat) (fun j => [(4, .s (.int .i64 ((j * n : Nat) : Int)))]) (fun j => [(100000, .res (R j))]) (fun j => j ≤ N) (fun j => N - j) 0 (Nat.zero_le _) ?_ (fun j hj => S_run [] 800 ?_)
  · simp (maxSteps := 4000000) -implicitDefEqProofs only [Nat.zero_mul, Ent.of0, Ent.of1, Ent.of2, Ent.of3, V, cc, bE, bN, bR, cV, cT, gt, lk, co, cC, cJ, cd, ca, bV, bV.subCs, cO, bu, bF, bZ, aV, bt, bh, aW, bM, bK, aH, a7, aX, cr, dd, cY, aq, aw, bT, cI, cb, cP, cU, aP, am, bQ, bJ, zC, argS, bO, ce, da, cR, ai, aE, aO, aA, cG, leC, cn, b0, bW, dc, bX, aR, aF, cZ, ah, cL, bf, bf.viewCs, bA, bA.flatCs, aK, aK.LensOks, Value.oneCell', ↓reduceIte, ite_true, ite_false, if_true, if_false, Nat.reduceAdd, Nat.reduceSub, Nat.reduceMul, Nat.reduceEqDiff, Nat.reduceLT, Nat.reduceLeDiff, reduceCtorEq, Int.reduceToNat, forall_const, implies_true, a6, Ent.mk3, bw, bC, bB, bk, bl, bo, bH, bL, bg, be, bz, cH, bn, cQ, rn, bS, bS.renCs, aI, aN, aY, aY.viewOks, aJ, bm, bm.flatBs, aG, an, av, ar, az, bq, bq.keysBs, aT, ap, bj, cp, bD, cg, af, af.passKs, aD, aL, ae, ae.lendKs, cM, cq, cz, bG, setInn, ag, cN, db, ay, br, bP, cj, aC, aU, Glob.gl, ax, cK, aZ, cm, bv, aj, cD, cS, cB, cW, cu, au, au.ptrOnlys, ak, aM, bY, aB, bI, a8, bU, aQ, bp, cF, Nat.reduceBEq, undef]
    simp
  · by_cases h : j < N
    · have hjn : j * n + n ≤ N * n := by
        have := Nat.mul_le_mul_right n (show j + 1 ≤ N by omega)
        rwa [Nat.add_mul, Nat.one_mul] at this
      have hi : ((j * n : Nat) : Int) < (l.length : Int) := by omega
      have htk : List.take l.length (List.map cells l) = List.map cells l := List.take_of_length_le (by simp)
      have hcmp : ((List.drop (j * n) (List.map cells l)).length : Int) < (n : Int) ↔ False := by
        rw [List.length_drop, List.length_map]; constructor
        · intro h; omega
        · exact fun h => h.elim
      have hnn : ((j * n : Nat) : Int) + (n : Int) = ((j * n + n : Nat) : Int) := by push_cast; rfl
      have hcc : List.drop (j * n) (List.take (j * n + n) (List.map cells l)) = (chunkAt l n j).map cells := by
        rw [chunkAt, ← List.map_take, ← List.map_drop, List.drop_take]
        congr 2; omega
      delta c65l1
      simp (maxSteps := 4000000) -implicitDefEqProofs only [hi, htk, hcmp, hnn, hcc, InR, Ent.of0, Ent.of1, Ent.of2, Ent.of3, V, cc, bE, bN, bR, cV, cT, gt, lk, co, cC, cJ, cd, ca, bV, bV.subCs, cO, bu, bF, bZ, aV, bt, bh, aW, bM, bK, aH, a7, aX, cr, dd, cY, aq, aw, bT, cI, cb, cP, cU, aP, am, bQ, bJ, zC, argS, bO, ce, da, cR, ai, aE, aO, aA, cG, leC, cn, b0, bW, dc, bX, aR, aF, cZ, ah, cL, bf, bf.viewCs, bA, bA.flatCs, aK, aK.LensOks, Value.oneCell', ↓reduceIte, ite_true, ite_false, if_true, if_false, Nat.reduceAdd, Nat.reduceSub, Nat.reduceMul, Nat.reduceEqDiff, Nat.reduceLT, Nat.reduceLeDiff, reduceCtorEq, Int.reduceToNat, forall_const, implies_true, a6, Ent.mk3, bw, bC, bB, bk, bl, bo, bH, bL, bg, be, bz, cH, bn, cQ, rn, bS, bS.renCs, aI, aN, aY, aY.viewOks, aJ, bm, bm.flatBs, aG, an, av, ar, az, bq, bq.keysBs, aT, ap, bj, cp, bD, cg, af, af.passKs, aD, aL, ae, ae.lendKs, cM, cq, cz, bG, setInn, ag, cN, db, ay, br, bP, cj, aC, aU, Glob.gl, ax, cK, aZ, cm, bv, aj, cD, cS, cB, cW, cu, au, au.ptrOnlys, ak, aM, bY, aB, bI, a8, bU, aQ, bp, cF, Nat.reduceBEq, undef]
      refine ⟨by omega, by omega, by omega, by omega, ?_⟩
      refine D_outs rfl (OpM.yield (l := yl) (kr := 100000) (xs := chunkV l n j) (R := R j) rfl rfl rfl (hy j h)) (fun ef hef => ?_)
      rw [if_pos (.inr rfl)] at hef
      simp only [a8, List.mem_cons, List.not_mem_nil, or_false] at hef
      rcases hef with rfl | rfl
      · refine D_run [] 800 ?_
        simp (maxSteps := 4000000) -implicitDefEqProofs only [rv65, InR, hnn, Ent.of0, Ent.of1, Ent.of2, Ent.of3, V, cc, bE, bN, bR, cV, cT, gt, lk, co, cC, cJ, cd, ca, bV, bV.subCs, cO, bu, bF, bZ, aV, bt, bh, aW, bM, bK, aH, a7, aX, cr, dd, cY, aq, aw, bT, cI, cb, cP, cU, aP, am, bQ, bJ, zC, argS, bO, ce, da, cR, ai, aE, aO, aA, cG, leC, cn, b0, bW, dc, bX, aR, aF, cZ, ah, cL, bf, bf.viewCs, bA, bA.flatCs, aK, aK.LensOks, Value.oneCell', ↓reduceIte, ite_true, ite_false, if_true, if_false, Nat.reduceAdd, Nat.reduceSub, Nat.reduceMul, Nat.reduceEqDiff, Nat.reduceLT, Nat.reduceLeDiff, reduceCtorEq, Int.reduceToNat, forall_const, implies_true, a6, Ent.mk3, bw, bC, bB, bk, bl, bo, bH, bL, bg, be, bz, cH, bn, cQ, rn, bS, bS.renCs, aI, aN, aY, aY.viewOks, aJ, bm, bm.flatBs, aG, an, av, ar, az, bq, bq.keysBs, aT, ap, bj, cp, bD, cg, af, af.passKs, aD, aL, ae, ae.lendKs, cM, cq, cz, bG, setInn, ag, cN, db, ay, br, bP, cj, aC, aU, Glob.gl, ax, cK, aZ, cm, bv, aj, cD, cS, cB, cW, cu, au, au.ptrOnlys, ak, aM, bY, aB, bI, a8, bU, aQ, bp, cF, Nat.reduceBEq, undef]
        refine ⟨by omega, j + 1, h, by omega, ?_⟩
        exact ⟨by rw [Nat.add_mul, Nat.one_mul], rfl⟩
      · refine D_run [] 800 ?_
        simp (maxSteps := 4000000) -implicitDefEqProofs only [rv65, Ent.of0, Ent.of1, Ent.of2, Ent.of3, V, cc, bE, bN, bR, cV, cT, gt, lk, co, cC, cJ, cd, ca, bV, bV.subCs, cO, bu, bF, bZ, aV, bt, bh, aW, bM, bK, aH, a7, aX, cr, dd, cY, aq, aw, bT, cI, cb, cP, cU, aP, am, bQ, bJ, zC, argS, bO, ce, da, cR, ai, aE, aO, aA, cG, leC, cn, b0, bW, dc, bX, aR, aF, cZ, ah, cL, bf, bf.viewCs, bA, bA.flatCs, aK, aK.LensOks, Value.oneCell', ↓reduceIte, ite_true, ite_false, if_true, if_false, Nat.reduceAdd, Nat.reduceSub, Nat.reduceMul, Nat.reduceEqDiff, Nat.reduceLT, Nat.reduceLeDiff, reduceCtorEq, Int.reduceToNat, forall_const, implies_true, a6, Ent.mk3, bw, bC, bB, bk, bl, bo, bH, bL, bg, be, bz, cH, bn, cQ, rn, bS, bS.renCs, aI, aN, aY, aY.viewOks, aJ, bm, bm.flatBs, aG, an, av, ar, az, bq, bq.keysBs, aT, ap, bj, cp, bD, cg, af, af.passKs, aD, aL, ae, ae.lendKs, cM, cq, cz, bG, setInn, ag, cN, db, ay, br, bP, cj, aC, aU, Glob.gl, ax, cK, aZ, cm, bv, aj, cD, cS, cB, cW, cu, au, au.ptrOnlys, ak, aM, bY, aB, bI, a8, bU, aQ, bp, cF, Nat.reduceBEq, undef]
        exact ⟨_, List.mem_cons_self, trivial, rfl, trivial⟩
    · have hj2 : j = N := by omega
      subst hj2
      have hi : ¬ ((j * n : Nat) : Int) < (l.length : Int) := by omega
      delta c65l1
      simp (maxSteps := 4000000) -implicitDefEqProofs only [hi, rv65, InR, Ent.of0, Ent.of1, Ent.of2, Ent.of3, V, cc, bE, bN, bR, cV, cT, gt, lk, co, cC, cJ, cd, ca, bV, bV.subCs, cO, bu, bF, bZ, aV, bt, bh, aW, bM, bK, aH, a7, aX, cr, dd, cY, aq, aw, bT, cI, cb, cP, cU, aP, am, bQ, bJ, zC, argS, bO, ce, da, cR, ai, aE, aO, aA, cG, leC, cn, b0, bW, dc, bX, aR, aF, cZ, ah, cL, bf, bf.viewCs, bA, bA.flatCs, aK, aK.LensOks, Value.oneCell', ↓reduceIte, ite_true, ite_false, if_true, if_false, Nat.reduceAdd, Nat.reduceSub, Nat.reduceMul, Nat.reduceEqDiff, Nat.reduceLT, Nat.reduceLeDiff, reduceCtorEq, Int.reduceToNat, forall_const, implies_true, a6, Ent.mk3, bw, bC, bB, bk, bl, bo, bH, bL, bg, be, bz, cH, bn, cQ, rn, bS, bS.renCs, aI, aN, aY, aY.viewOks, aJ, bm, bm.flatBs, aG, an, av, ar, az, bq, bq.keysBs, aT, ap, bj, cp, bD, cg, af, af.passKs, aD, aL, ae, ae.lendKs, cM, cq, cz, bG, setInn, ag, cN, db, ay, br, bP, cj, aC, aU, Glob.gl, ax, cK, aZ, cm, bv, aj, cD, cS, cB, cW, cu, au, au.ptrOnlys, ak, aM, bY, aB, bI, a8, bU, aQ, bp, cF, Nat.reduceBEq, undef]
      exact ⟨_, List.mem_cons_of_mem _ List.mem_cons_self, trivial, rfl, trivial⟩
theorem Chunk_c (l : List Int) (n : Nat) (hn : 0 < n) : FC Tryz.prog 37 [enc l, enc (n : Int)] [] (.fn (.func 65) [] [.ptr 2 0, .ptr 3 0]) [(2, .box [enc l]), (3, .box [enc (n : Int)])] := by
  refine fc_introC [] is37 (by simp) (by simp [cD]) (by simp [aR, aF, bZ]) (by simp [aR, aF, bZ]) (by simp [aj, lk]) (fun cx _ _ _ => S_run [] 800 ?_)
  have h1 : ¬ ((n : Int) < 1) := by omega
  delta c37
  simp (maxSteps := 4000000) -implicitDefEqProofs only [rv37, h1, Ent.of0, Ent.of1, Ent.of2, Ent.of3, V, cc, bE, bN, bR, cV, cT, gt, lk, co, cC, cJ, cd, ca, bV, bV.subCs, cO, bu, bF, bZ, aV, bt, bh, aW, bM, bK, aH, a7, aX, cr, dd, cY, aq, aw, bT, cI, cb, cP, cU, aP, am, bQ, bJ, zC, argS, bO, ce, da, cR, ai, aE, aO, aA, cG, leC, cn, b0, bW, dc, bX, aR, aF, cZ, ah, cL, bf, bf.viewCs, bA, bA.flatCs, aK, aK.LensOks, Value.oneCell', ↓reduceIte, ite_true, ite_false, if_true, if_false, Nat.reduceAdd, Nat.reduceSub, Nat.reduceMul, Nat.reduceEqDiff, Nat.reduceLT, Nat.reduceLeDiff, reduceCtorEq, Int.reduceToNat, forall_const, implies_true, a6, Ent.mk3, bw, bC, bB, bk, bl, bo, bH, bL, bg, be, bz, cH, bn, cQ, rn, bS, bS.renCs, aI, aN, aY, aY.viewOks, aJ, bm, bm.flatBs, aG, an, av, ar, az, bq, bq.keysBs, aT, ap, bj, cp, bD, cg, af, af.passKs, aD, aL, ae, ae.lendKs, cM, cq, cz, bG, setInn, ag, cN, db, ay, br, bP, cj, aC, aU, Glob.gl, ax, cK, aZ, cm, bv, aj, cD, cS, cB, cW, cu, au, au.ptrOnlys, ak, aM, bY, aB, bI, a8, bU, aQ, bp, cF, Nat.reduceBEq, undef]
def ent37 : Ent Tryz.prog where
  id := 37
  sp := fun args chs => match args, chs with
    | [x, .s (.int .i64 n)], [] => (decV x).bind fun l : List Int => some (0 < n, .fn (.func 65) [] [.ptr 2 0, .ptr 3 0], [(2, .box [.sl 1 (l.map cells)]), (3, .box [.s (.int .i64 n)])], [2, 3])
    | _, _ => none
  ok := by
    intro args chs p r chs' nk hs hp
    split at hs
    · simp only [Option.bind_eq_some_iff, Option.some.injEq, Prod.mk.injEq] at hs
      obtain ⟨l, hl, rfl, rfl, rfl, rfl⟩ := hs
      rename_i n
      have := Chunk_c l n.toNat (by omega)
      rw [Int.toNat_of_nonneg (by omega)] at this
      refine ⟨this.le (args' := [_, _]) ⟨decV_ok hl, leC1_refl _, trivial⟩, ⟨fun k c h => ?_, fun k cs h => by simp at h, ?_, fun k c h => ?_⟩⟩
      · simp only [List.mem_cons, Prod.mk.injEq, List.not_mem_nil, or_false] at h
        left; rcases h with h | h <;> rw [h.1] <;> simp
      · exact ⟨trivial, by simp [keysIn.keysIns, keysIn]⟩
      · simp only [List.mem_cons, Prod.mk.injEq, List.not_mem_nil, or_false] at h
        rcases h with h | h <;> rw [h.2] <;> exact ⟨trivial, trivial⟩
    · cases hs
theorem IndexI_c (l : List Int) (v : Int) : FC Tryz.prog 87 [enc l, enc v] [] (enc (idxOfI l fun x => decide (v = x))) [] := by
  refine fc_intro' is87 (by simp) (fun cx hl => S_run [] 800 ?_)
  simp only [V, cc, bE, bN, bR, cV, cT, gt, lk, co, cC, cJ, cd, ca, bV, bV.subCs, cO, bu, bF, bZ, aV, bt, bh, aW, bM, bK, aH, a7, aX, cr, dd, cY, aq, aw, bT, cI, cb, cP, cU, aP, am, bQ, bJ, zC, argS, bO, ce, da, cR, ai, aE, aO, aA, cG, leC, cn, b0, bW, dc, bX, aR, aF, cZ, ah, cL, bf, bf.viewCs, bA, bA.flatCs, aK, aK.LensOks, Value.oneCell', ↓reduceIte, ite_true, ite_false, if_true, if_false, Nat.reduceAdd, Nat.reduceSub, Nat.reduceMul, Nat.reduceEqDiff, Nat.reduceLT, Nat.reduceLeDiff, reduceCtorEq, Int.reduceToNat, forall_const, implies_true, a6, Ent.mk3, bw, bC, bB, bk, bl, bo, bH, bL, bg, be, bz, cH, bn, cQ, rn, bS, bS.renCs, aI, aN, aY, aY.viewOks, aJ, bm, bm.flatBs, aG, an, av, ar, az, bq, bq.keysBs, aT, ap, bj, cp, bD, cg, af, af.passKs, aD, aL, ae, ae.lendKs, cM, cq, cz, bG, setInn, ag, cN, db, ay, br, bP, cj, aC, aU, Glob.gl, ax, cK, aZ, cm, bv, aj, cD, cS, cB, cW, cu, au, au.ptrOnlys, ak, aM, bY, aB, bI, a8, bU, aQ, bp, cF, Nat.reduceBEq, undef] at hl
  have hlen := hl.list
  delta c87
  simp (maxSteps := 4000000) -implicitDefEqProofs only [rv87, Ent.of0, Ent.of1, Ent.of2, Ent.of3, V, cc, bE, bN, bR, cV, cT, gt, lk, co, cC, cJ, cd, ca, bV, bV.subCs, cO, bu, bF, bZ, aV, bt, bh, aW, bM, bK, aH, a7, aX, cr, dd, cY, aq, aw, bT, cI, cb, cP, cU, aP, am, bQ, bJ, zC, argS, bO, ce, da, cR, ai, aE, aO, aA, cG, leC, cn, b0, bW, dc, bX, aR, aF, cZ, ah, cL, bf, bf.viewCs, bA, bA.flatCs, aK, aK.LensOks, Value.oneCell', ↓reduceIte, ite_true, ite_false, if_true, if_false, Nat.reduceAdd, Nat.reduceSub, Nat.reduceMul, Nat.reduceEqDiff, Nat.reduceLT, Nat.reduceLeDiff, reduceCtorEq, Int.reduceToNat, forall_const, implies_true, a6, Ent.mk3, bw, bC, bB, bk, bl, bo, bH, bL, bg, be, bz, cH, bn, cQ, rn, bS, bS.renCs, aI, aN, aY, aY.viewOks, aJ, bm, bm.flatBs, aG, an, av, ar, az, bq, bq.keysBs, aT, ap, bj, cp, bD, cg, af, af.passKs, aD, aL, ae, ae.lendKs, cM, cq, cz, bG, setInn, ag, cN, db, ay, br, bP, cj, aC, aU, Glob.gl, ax, cK, aZ, cm, bv, aj, cD, cS, cB, cW, cu, au, au.ptrOnlys, ak, aM, bY, aB, bI, a8, bU, aQ, bp, cF, Nat.reduceBEq, undef]
  refine S_forU l.length (fun i => [(8, .s (.int .i64 i))]) (fun _ => []) (fun i => ∀ j, j < i → decide (v = l.getD j 0) = false) (by omega) ?_ (fun i hi hv => S_run [] 800 ?_)
  · simp (maxSteps := 4000000) -implicitDefEqProofs only [Ent.of0, Ent.of1, Ent.of2, Ent.of3, V, cc, bE, bN, bR, cV, cT, gt, lk, co, cC, cJ, cd, ca, bV, bV.subCs, cO, bu, bF, bZ, aV, bt, bh, aW, bM, bK, aH, a7, aX, cr, dd, cY, aq, aw, bT, cI, cb, cP, cU, aP, am, bQ, bJ, zC, argS, bO, ce, da, cR, ai, aE, aO, aA, cG, leC, cn, b0, bW, dc, bX, aR, aF, cZ, ah, cL, bf, bf.viewCs, bA, bA.flatCs, aK, aK.LensOks, Value.oneCell', ↓reduceIte, ite_true, ite_false, if_true, if_false, Nat.reduceAdd, Nat.reduceSub, Nat.reduceMul, Nat.reduceEqDiff, Nat.reduceLT, Nat.reduceLeDiff, reduceCtorEq, Int.reduceToNat, forall_const, implies_true, a6, Ent.mk3, bw, bC, bB, bk, bl, bo, bH, bL, bg, be, bz, cH, bn, cQ, rn, bS, bS.renCs, aI, aN, aY, aY.viewOks, aJ, bm, bm.flatBs, aG, an, av, ar, az, bq, bq.keysBs, aT, ap, bj, cp, bD, cg, af, af.passKs, aD, aL, ae, ae.lendKs, cM, cq, cz, bG, setInn, ag, cN, db, ay, br, bP, cj, aC, aU, Glob.gl, ax, cK, aZ, cm, bv, aj, cD, cS, cB, cW, cu, au, au.ptrOnlys, ak, aM, bY, aB, bI, a8, bU, aQ, bp, cF, Nat.reduceBEq, undef]; simp
  · by_cases h : i < l.length
    · have hi2 : (i : Int) < (l.length : Int) := by omega
      delta c87l1
      simp (maxSteps := 4000000) -implicitDefEqProofs only [hi2, h, InR, Ent.of0, Ent.of1, Ent.of2, Ent.of3, V, cc, bE, bN, bR, cV, cT, gt, lk, co, cC, cJ, cd, ca, bV, bV.subCs, cO, bu, bF, bZ, aV, bt, bh, aW, bM, bK, aH, a7, aX, cr, dd, cY, aq, aw, bT, cI, cb, cP, cU, aP, am, bQ, bJ, zC, argS, bO, ce, da, cR, ai, aE, aO, aA, cG, leC, cn, b0, bW, dc, bX, aR, aF, cZ, ah, cL, bf, bf.viewCs, bA, bA.flatCs, aK, aK.LensOks, Value.oneCell', ↓reduceIte, ite_true, ite_false, if_true, if_false, Nat.reduceAdd, Nat.reduceSub, Nat.reduceMul, Nat.reduceEqDiff, Nat.reduceLT, Nat.reduceLeDiff, reduceCtorEq, Int.reduceToNat, forall_const, implies_true, a6, Ent.mk3, bw, bC, bB, bk, bl, bo, bH, bL, bg, be, bz, cH, bn, cQ, rn, bS, bS.renCs, aI, aN, aY, aY.viewOks, aJ, bm, bm.flatBs, aG, an, av, ar, az, bq, bq.keysBs, aT, ap, bj, cp, bD, cg, af, af.passKs, aD, aL, ae, ae.lendKs, cM, cq, cz, bG, setInn, ag, cN, db, ay, br, bP, cj, aC, aU, Glob.gl, ax, cK, aZ, cm, bv, aj, cD, cS, cB, cW, cu, au, au.ptrOnlys, ak, aM, bY, aB, bI, a8, bU, aQ, bp, cF, Nat.reduceBEq, undef]
      refine ⟨by omega, ?_⟩
      split
      · rename_i hp
        have : l.findIdx? (fun x => decide (v = x)) = some i := by
          rw [List.findIdx?_eq_some_iff_getElem]
          rw [List.getD_eq_getElem?_getD, List.getElem?_eq_getElem h] at hp
          refine ⟨h, by simpa using hp, fun j hj => ?_⟩
          have := hv j hj
          rw [List.getD_eq_getElem?_getD, List.getElem?_eq_getElem (by omega)] at this
          simpa using this
        simp [idxOfI, this]
      · rename_i hp
        refine ⟨by omega, fun j hj => ?_, by push_cast; rfl⟩
        by_cases hj2 : j = i
        · rw [hj2]; exact hp
        · exact of_decide_eq_false (hv j (by omega))
    · have hi2 : ¬ (i : Int) < (l.length : Int) := by omega
      delta c87l1
      simp (maxSteps := 4000000) -implicitDefEqProofs only [hi2, rv87, InR, Ent.of0, Ent.of1, Ent.of2, Ent.of3, V, cc, bE, bN, bR, cV, cT, gt, lk, co, cC, cJ, cd, ca, bV, bV.subCs, cO, bu, bF, bZ, aV, bt, bh, aW, bM, bK, aH, a7, aX, cr, dd, cY, aq, aw, bT, cI, cb, cP, cU, aP, am, bQ, bJ, zC, argS, bO, ce, da, cR, ai, aE, aO, aA, cG, leC, cn, b0, bW, dc, bX, aR, aF, cZ, ah, cL, bf, bf.viewCs, bA, bA.flatCs, aK, aK.LensOks, Value.oneCell', ↓reduceIte, ite_true, ite_false, if_true, if_false, Nat.reduceAdd, Nat.reduceSub, Nat.reduceMul, Nat.reduceEqDiff, Nat.reduceLT, Nat.reduceLeDiff, reduceCtorEq, Int.reduceToNat, forall_const, implies_true, a6, Ent.mk3, bw, bC, bB, bk, bl, bo, bH, bL, bg, be, bz, cH, bn, cQ, rn, bS, bS.renCs, aI, aN, aY, aY.viewOks, aJ, bm, bm.flatBs, aG, an, av, ar, az, bq, bq.keysBs, aT, ap, bj, cp, bD, cg, af, af.passKs, aD, aL, ae, ae.lendKs, cM, cq, cz, bG, setInn, ag, cN, db, ay, br, bP, cj, aC, aU, Glob.gl, ax, cK, aZ, cm, bv, aj, cD, cS, cB, cW, cu, au, au.ptrOnlys, ak, aM, bY, aB, bI, a8, bU, aQ, bp, cF, Nat.reduceBEq, undef]
      have : l.findIdx? (fun x => decide (v = x)) = none := by
        rw [List.findIdx?_eq_none_iff]
        intro x hx
        obtain ⟨j, hj, rfl⟩ := List.getElem_of_mem hx
        have := hv j (by omega)
        rwa [List.getD_eq_getElem?_getD, List.getElem?_eq_getElem hj] at this
      simp [idxOfI, this]
def ent87 : Ent Tryz.prog := .of2 87 (fun _ _ => True) (fun (l : List Int) (v : Int) => enc (idxOfI l fun x => decide (v = x))) (fun _ _ => trivial) (fun l v _ => IndexI_c l v)
theorem idxOfI_any (l : List Int) (p : Int → Bool) : decide (0 ≤ idxOfI l p) = l.any p := by
  unfold idxOfI
  cases hq : l.findIdx? p with
  | none =>
    rw [List.findIdx?_eq_none_iff] at hq
    have : l.any p = false := by simpa using hq
    simp [this]
  | some i =>
    rw [List.findIdx?_eq_some_iff_getElem] at hq
    obtain ⟨h1, h2, _⟩ := hq
    have : l.any p = true := List.any_eq_true.2 ⟨_, List.getElem_mem h1, h2⟩
    simp [this]
theorem ContainsI_c (l : List Int) (v : Int) : FC Tryz.prog 64 [enc l, enc v] [] (enc (l.any fun x => decide (v = x))) [] := by
  refine fc_intro' is64 (by simp) (fun cx hl => S_run [ent87] 800 ?_)
  delta c64
  simp (maxSteps := 4000000) -implicitDefEqProofs only [rv64, ent87, idxOfI_any, Ent.of0, Ent.of1, Ent.of2, Ent.of3, V, cc, bE, bN, bR, cV, cT, gt, lk, co, cC, cJ, cd, ca, bV, bV.subCs, cO, bu, bF, bZ, aV, bt, bh, aW, bM, bK, aH, a7, aX, cr, dd, cY, aq, aw, bT, cI, cb, cP, cU, aP, am, bQ, bJ, zC, argS, bO, ce, da, cR, ai, aE, aO, aA, cG, leC, cn, b0, bW, dc, bX, aR, aF, cZ, ah, cL, bf, bf.viewCs, bA, bA.flatCs, aK, aK.LensOks, Value.oneCell', ↓reduceIte, ite_true, ite_false, if_true, if_false, Nat.reduceAdd, Nat.reduceSub, Nat.reduceMul, Nat.reduceEqDiff, Nat.reduceLT, Nat.reduceLeDiff, reduceCtorEq, Int.reduceToNat, forall_const, implies_true, a6, Ent.mk3, bw, bC, bB, bk, bl, bo, bH, bL, bg, be, bz, cH, bn, cQ, rn, bS, bS.renCs, aI, aN, aY, aY.viewOks, aJ, bm, bm.flatBs, aG, an, av, ar, az, bq, bq.keysBs, aT, ap, bj, cp, bD, cg, af, af.passKs, aD, aL, ae, ae.lendKs, cM, cq, cz, bG, setInn, ag, cN, db, ay, br, bP, cj, aC, aU, Glob.gl, ax, cK, aZ, cm, bv, aj, cD, cS, cB, cW, cu, au, au.ptrOnlys, ak, aM, bY, aB, bI, a8, bU, aQ, bp, cF, Nat.reduceBEq, undef]
def ent64 : Ent Tryz.prog := .of2 64 (fun _ _ => True) (fun (l : List Int) (v : Int) => enc (l.any fun x => decide (v = x))) (fun _ _ => trivial) (fun l v _ => ContainsI_c l v)
def orderErrS (n : Int) : Int := if n = 2 ∨ n = 4 ∨ n = 6 then 0 else 15
theorem orderErr_c (n : Int) : FC Tryz.prog 35 [enc n] [] (enc (orderErrS n)) [] := by
  refine fc_intro' is35 (by simp) (fun cx hl => S_run [ent64, ent31] 800 ?_)
  delta c35
  simp (maxSteps := 4000000) -implicitDefEqProofs only [rv35, ent64, ent31, Ent.of0, Ent.of1, Ent.of2, Ent.of3, V, cc, bE, bN, bR, cV, cT, gt, lk, co, cC, cJ, cd, ca, bV, bV.subCs, cO, bu, bF, bZ, aV, bt, bh, aW, bM, bK, aH, a7, aX, cr, dd, cY, aq, aw, bT, cI, cb, cP, cU, aP, am, bQ, bJ, zC, argS, bO, ce, da, cR, ai, aE, aO, aA, cG, leC, cn, b0, bW, dc, bX, aR, aF, cZ, ah, cL, bf, bf.viewCs, bA, bA.flatCs, aK, aK.LensOks, Value.oneCell', ↓reduceIte, ite_true, ite_false, if_true, if_false, Nat.reduceAdd, Nat.reduceSub, Nat.reduceMul, Nat.reduceEqDiff, Nat.reduceLT, Nat.reduceLeDiff, reduceCtorEq, Int.reduceToNat, forall_const, implies_true, a6, Ent.mk3, bw, bC, bB, bk, bl, bo, bH, bL, bg, be, bz, cH, bn, cQ, rn, bS, bS.renCs, aI, aN, aY, aY.viewOks, aJ, bm, bm.flatBs, aG, an, av, ar, az, bq, bq.keysBs, aT, ap, bj, cp, bD, cg, af, af.passKs, aD, aL, ae, ae.lendKs, cM, cq, cz, bG, setInn, ag, cN, db, ay, br, bP, cj, aC, aU, Glob.gl, ax, cK, aZ, cm, bv, aj, cD, cS, cB, cW, cu, au, au.ptrOnlys, ak, aM, bY, aB, bI, a8, bU, aQ, bp, cF, Nat.reduceBEq, undef]
  unfold orderErrS
  simp only [List.any_cons, List.any_nil, Bool.or_false, Bool.or_eq_true, decide_eq_true_eq]
def ent35 : Ent Tryz.prog := .of1 35 (fun _ => True) (fun n : Int => enc (orderErrS n)) (fun _ => trivial) (fun n _ => orderErr_c n)
end Go.Proofs.YtfgpbmjmoobcnaaGreatDoor
end
section
open Go Go.Am
open Go.Am.Dat (cells)
namespace Go.Proofs.YtfgpbmjmoobcnaaGreatDoor
set_option maxHeartbeats 4000000
set_option maxRecDepth 100000
set_option linter.unusedSimpArgs false
def modS (n : Nat) (l : List Int) (j : Nat) : List Gs := (List.range j).map fun i => pointS (chunkAt l n i)
theorem modS_succ (n : Nat) (l : List Int) (j : Nat) : modS n l (j + 1) = modS n l j ++ [pointS (chunkAt l n j)] := by simp [modS, List.range_succ]
def modErr (n : Int) (l : List Int) : Int := if orderErrS n ≠ 0 then orderErrS n else if bitsErrS l ≠ 0 then bitsErrS l else if (l.length : Int) % n ≠ 0 then 10 else 0
theorem chunk_ok {l : List Int} {m N j : Nat} (hl : l.length = N * m) (hb : bitsOk l) (hj : j < N) : (chunkAt l m j).length = m ∧ bitsOk (chunkAt l m j) := by
  have hjn : j * m + m ≤ N * m := by
    have := Nat.mul_le_mul_right m (show j + 1 ≤ N by omega)
    rwa [Nat.add_mul, Nat.one_mul] at this
  refine ⟨by unfold chunkAt; rw [List.length_take, List.length_drop]; omega, fun b h => hb b ?_⟩
  exact List.mem_of_mem_drop (List.mem_of_mem_take h)
theorem modS_length (n : Nat) (l : List Int) (j : Nat) : (modS n l j).length = j := by simp [modS]
theorem bitsErrS_ok {l : List Int} (h : bitsErrS l = 0) : 0 < l.length ∧ l.length ≤ 400 ∧ bitsOk l := by
  unfold bitsErrS at h
  split at h
  · cases h
  · split at h
    · cases h
    · split at h
      · rename_i h1 h2 h3
        exact ⟨by omega, by omega, fun b hb => by simpa using List.all_eq_true.1 h3 b hb⟩
      · cases h
theorem modulated_c (n : Int) (l : List Int) : FC Tryz.prog 14 [enc n, enc l] [] (.tup [enc (if modErr n l = 0 then modS n.toNat l (l.length / n.toNat) else []), enc (modErr n l)]) [] := by
  refine fc_introC [] is14 (by simp) trivial trivial trivial trivial (fun cx hcx hl _ => S_run [ent35, ent36, ent29, ent37] 800 ?_)
  by_cases hf : firstS [orderErrS n, bitsErrS l] = 0
  · have ho : orderErrS n = 0 := by simp only [firstS] at hf; grind
    have hbe : bitsErrS l = 0 := by simp only [firstS] at hf; grind
    have hn : n = 2 ∨ n = 4 ∨ n = 6 := by unfold orderErrS at ho; grind
    obtain ⟨m, rfl⟩ : ∃ m : Nat, n = (m : Int) := ⟨n.toNat, by omega⟩
    have hm : 0 < m := by omega
    have hmne : ¬ (m : Int) = 0 := by omega
    obtain ⟨hl0, hl4, hbits⟩ := bitsErrS_ok hbe
    have htm : (l.length : Int).tmod (m : Int) = ((l.length % m : Nat) : Int) := by
      rw [Int.tmod_eq_emod_of_nonneg (by omega)]; push_cast; rfl
    have hem : (l.length : Int) % (m : Int) = ((l.length % m : Nat) : Int) := by push_cast; rfl
    by_cases hr : l.length % m = 0
    · have hr2 : ((l.length % m : Nat) : Int) = 0 := by omega
      have hme : modErr m l = 0 := by unfold modErr; rw [if_neg (fun h => h ho), if_neg (fun h => h hbe), hem, if_neg (fun h => h hr2)]
      delta c14
      simp (maxSteps := 4000000) -implicitDefEqProofs only [rv14, ent35, ent36, ent29, ent37, hf, htm, hr2, hme, Int.toNat_natCast, InR, Ent.of0, Ent.of1, Ent.of2, Ent.of3, V, cc, bE, bN, bR, cV, cT, gt, lk, co, cC, cJ, cd, ca, bV, bV.subCs, cO, bu, bF, bZ, aV, bt, bh, aW, bM, bK, aH, a7, aX, cr, dd, cY, aq, aw, bT, cI, cb, cP, cU, aP, am, bQ, bJ, zC, argS, bO, ce, da, cR, ai, aE, aO, aA, cG, leC, cn, b0, bW, dc, bX, aR, aF, cZ, ah, cL, bf, bf.viewCs, bA, bA.flatCs, aK, aK.LensOks, Value.oneCell', ↓reduceIte, ite_true, ite_false, if_true, if_false, Nat.reduceAdd, Nat.reduceSub, Nat.reduceMul, Nat.reduceEqDiff, Nat.reduceLT, Nat.reduceLeDiff, reduceCtorEq, Int.reduceToNat, forall_const, implies_true, a6, Ent.mk3, bw, bC, bB, bk, bl, bo, bH, bL, bg, be, bz, cH, bn, cQ, rn, bS, bS.renCs, aI, aN, aY, aY.viewOks, aJ, bm, bm.flatBs, aG, an, av, ar, az, bq, bq.keysBs, aT, ap, bj, cp, bD, cg, af, af.passKs, aD, aL, ae, ae.lendKs, cM, cq, cz, bG, setInn, ag, cN, db, ay, br, bP, cj, aC, aU, Glob.gl, ax, cK, aZ, cm, bv, aj, cD, cS, cB, cW, cu, au, au.ptrOnlys, ak, aM, bY, aB, bI, a8, bU, aQ, bp, cF, Nat.reduceBEq, undef]
      refine ⟨hmne, by omega, ?_⟩
      obtain ⟨N, hN⟩ : ∃ N, l.length / m = N := ⟨_, rfl⟩
      have hlN : l.length = N * m := by rw [← hN]; exact (Nat.div_mul_cancel (Nat.dvd_of_mod_eq_zero hr)).symm
      have hN0 : 0 < N := by rcases Nat.eq_zero_or_pos N with e | e; (rw [e, Nat.zero_mul] at hlN; omega); exact e
      have hNl : N ≤ 400 := by
        have := Nat.le_mul_of_pos_right N hm
        omega
      rw [hN]
      refine S_sh 200000 (by rw [hcx.2.2]; exact Nat.le_refl _) (by rfl) ?_
      simp (maxSteps := 4000000) -implicitDefEqProofs only [Ent.of0, Ent.of1, Ent.of2, Ent.of3, V, cc, bE, bN, bR, cV, cT, gt, lk, co, cC, cJ, cd, ca, bV, bV.subCs, cO, bu, bF, bZ, aV, bt, bh, aW, bM, bK, aH, a7, aX, cr, dd, cY, aq, aw, bT, cI, cb, cP, cU, aP, am, bQ, bJ, zC, argS, bO, ce, da, cR, ai, aE, aO, aA, cG, leC, cn, b0, bW, dc, bX, aR, aF, cZ, ah, cL, bf, bf.viewCs, bA, bA.flatCs, aK, aK.LensOks, Value.oneCell', ↓reduceIte, ite_true, ite_false, if_true, if_false, Nat.reduceAdd, Nat.reduceSub, Nat.reduceMul, Nat.reduceEqDiff, Nat.reduceLT, Nat.reduceLeDiff, reduceCtorEq, Int.reduceToNat, forall_const, implies_true, a6, Ent.mk3, bw, bC, bB, bk, bl, bo, bH, bL, bg, be, bz, cH, bn, cQ, rn, bS, bS.renCs, aI, aN, aY, aY.viewOks, aJ, bm, bm.flatBs, aG, an, av, ar, az, bq, bq.keysBs, aT, ap, bj, cp, bD, cg, af, af.passKs, aD, aL, ae, ae.lendKs, cM, cq, cz, bG, setInn, ag, cN, db, ay, br, bP, cj, aC, aU, Glob.gl, ax, cK, aZ, cm, bv, aj, cD, cS, cB, cW, cu, au, au.ptrOnlys, ak, aM, bY, aB, bI, a8, bU, aQ, bp, cF, Nat.reduceBEq, undef]
      have hcells : ∀ i, i ≠ 0 → (if i = 0 then C.s (.slice none 0 0) else C.isl 2 43 ((modS m l i).map cells)) = C.isl 2 43 ((modS m l i).map cells) := fun i hi => if_neg hi
      refine S_rangeFunc (f := 65) (first := []) (caps := [.ptr 200025 0, .ptr 201025 0]) (ich := [(200025, .box [.sl 1 (l.map cells)]), (201025, .box [.s (.int .i64 (m : Int))])]) (kr := 100000) (vals := chunkV l m) (N := N) (fin := true) [200007]
        (fun i => [(200007, .box [if i = 0 then .s (.slice none 0 0) else .isl 2 43 ((modS m l i).map cells)])])
        hcx.2.1 rfl (chunk_c l m N hm hN0 hlN (by omega)) ⟨?_, ?_⟩ ⟨fun c hc => ?_, fun k c hc => ?_⟩ ?_ (fun i hi => ?_) (fun k hk => ?_) (fun i hi => ?_) (fun i hi cx' _ hcx' => S_run [] 800 ?_) (fun _ => ?_)
      · simp (maxSteps := 4000000) -implicitDefEqProofs only [Ent.of0, Ent.of1, Ent.of2, Ent.of3, V, cc, bE, bN, bR, cV, cT, gt, lk, co, cC, cJ, cd, ca, bV, bV.subCs, cO, bu, bF, bZ, aV, bt, bh, aW, bM, bK, aH, a7, aX, cr, dd, cY, aq, aw, bT, cI, cb, cP, cU, aP, am, bQ, bJ, zC, argS, bO, ce, da, cR, ai, aE, aO, aA, cG, leC, cn, b0, bW, dc, bX, aR, aF, cZ, ah, cL, bf, bf.viewCs, bA, bA.flatCs, aK, aK.LensOks, Value.oneCell', ↓reduceIte, ite_true, ite_false, if_true, if_false, Nat.reduceAdd, Nat.reduceSub, Nat.reduceMul, Nat.reduceEqDiff, Nat.reduceLT, Nat.reduceLeDiff, reduceCtorEq, Int.reduceToNat, forall_const, implies_true, a6, Ent.mk3, bw, bC, bB, bk, bl, bo, bH, bL, bg, be, bz, cH, bn, cQ, rn, bS, bS.renCs, aI, aN, aY, aY.viewOks, aJ, bm, bm.flatBs, aG, an, av, ar, az, bq, bq.keysBs, aT, ap, bj, cp, bD, cg, af, af.passKs, aD, aL, ae, ae.lendKs, cM, cq, cz, bG, setInn, ag, cN, db, ay, br, bP, cj, aC, aU, Glob.gl, ax, cK, aZ, cm, bv, aj, cD, cS, cB, cW, cu, au, au.ptrOnlys, ak, aM, bY, aB, bI, a8, bU, aQ, bp, cF, Nat.reduceBEq, undef]
      · simp (maxSteps := 4000000) -implicitDefEqProofs only [Ent.of0, Ent.of1, Ent.of2, Ent.of3, V, cc, bE, bN, bR, cV, cT, gt, lk, co, cC, cJ, cd, ca, bV, bV.subCs, cO, bu, bF, bZ, aV, bt, bh, aW, bM, bK, aH, a7, aX, cr, dd, cY, aq, aw, bT, cI, cb, cP, cU, aP, am, bQ, bJ, zC, argS, bO, ce, da, cR, ai, aE, aO, aA, cG, leC, cn, b0, bW, dc, bX, aR, aF, cZ, ah, cL, bf, bf.viewCs, bA, bA.flatCs, aK, aK.LensOks, Value.oneCell', ↓reduceIte, ite_true, ite_false, if_true, if_false, Nat.reduceAdd, Nat.reduceSub, Nat.reduceMul, Nat.reduceEqDiff, Nat.reduceLT, Nat.reduceLeDiff, reduceCtorEq, Int.reduceToNat, forall_const, implies_true, a6, Ent.mk3, bw, bC, bB, bk, bl, bo, bH, bL, bg, be, bz, cH, bn, cQ, rn, bS, bS.renCs, aI, aN, aY, aY.viewOks, aJ, bm, bm.flatBs, aG, an, av, ar, az, bq, bq.keysBs, aT, ap, bj, cp, bD, cg, af, af.passKs, aD, aL, ae, ae.lendKs, cM, cq, cz, bG, setInn, ag, cN, db, ay, br, bP, cj, aC, aU, Glob.gl, ax, cK, aZ, cm, bv, aj, cD, cS, cB, cW, cu, au, au.ptrOnlys, ak, aM, bY, aB, bI, a8, bU, aQ, bp, cF, Nat.reduceBEq, undef]
      · simp only [List.nil_append, List.mem_cons, List.not_mem_nil, or_false] at hc
        rcases hc with rfl | rfl <;> simp [keysIn, aF]
      · simp only [List.mem_cons, Prod.mk.injEq, List.not_mem_nil, or_false] at hc
        rcases hc with ⟨rfl, rfl⟩ | ⟨rfl, rfl⟩ <;> exact ⟨trivial, trivial⟩
      · simp (maxSteps := 4000000) -implicitDefEqProofs only [Ent.of0, Ent.of1, Ent.of2, Ent.of3, V, cc, bE, bN, bR, cV, cT, gt, lk, co, cC, cJ, cd, ca, bV, bV.subCs, cO, bu, bF, bZ, aV, bt, bh, aW, bM, bK, aH, a7, aX, cr, dd, cY, aq, aw, bT, cI, cb, cP, cU, aP, am, bQ, bJ, zC, argS, bO, ce, da, cR, ai, aE, aO, aA, cG, leC, cn, b0, bW, dc, bX, aR, aF, cZ, ah, cL, bf, bf.viewCs, bA, bA.flatCs, aK, aK.LensOks, Value.oneCell', ↓reduceIte, ite_true, ite_false, if_true, if_false, Nat.reduceAdd, Nat.reduceSub, Nat.reduceMul, Nat.reduceEqDiff, Nat.reduceLT, Nat.reduceLeDiff, reduceCtorEq, Int.reduceToNat, forall_const, implies_true, a6, Ent.mk3, bw, bC, bB, bk, bl, bo, bH, bL, bg, be, bz, cH, bn, cQ, rn, bS, bS.renCs, aI, aN, aY, aY.viewOks, aJ, bm, bm.flatBs, aG, an, av, ar, az, bq, bq.keysBs, aT, ap, bj, cp, bD, cg, af, af.passKs, aD, aL, ae, ae.lendKs, cM, cq, cz, bG, setInn, ag, cN, db, ay, br, bP, cj, aC, aU, Glob.gl, ax, cK, aZ, cm, bv, aj, cD, cS, cB, cW, cu, au, au.ptrOnlys, ak, aM, bY, aB, bI, a8, bU, aQ, bp, cF, Nat.reduceBEq, undef]
      · simp (maxSteps := 4000000) -implicitDefEqProofs only [Ent.of0, Ent.of1, Ent.of2, Ent.of3, V, cc, bE, bN, bR, cV, cT, gt, lk, co, cC, cJ, cd, ca, bV, bV.subCs, cO, bu, bF, bZ, aV, bt, bh, aW, bM, bK, aH, a7, aX, cr, dd, cY, aq, aw, bT, cI, cb, cP, cU, aP, am, bQ, bJ, zC, argS, bO, ce, da, cR, ai, aE, aO, aA, cG, leC, cn, b0, bW, dc, bX, aR, aF, cZ, ah, cL, bf, bf.viewCs, bA, bA.flatCs, aK, aK.LensOks, Value.oneCell', ↓reduceIte, ite_true, ite_false, if_true, if_false, Nat.reduceAdd, Nat.reduceSub, Nat.reduceMul, Nat.reduceEqDiff, Nat.reduceLT, Nat.reduceLeDiff, reduceCtorEq, Int.reduceToNat, forall_const, implies_true, a6, Ent.mk3, bw, bC, bB, bk, bl, bo, bH, bL, bg, be, bz, cH, bn, cQ, rn, bS, bS.renCs, aI, aN, aY, aY.viewOks, aJ, bm, bm.flatBs, aG, an, av, ar, az, bq, bq.keysBs, aT, ap, bj, cp, bD, cg, af, af.passKs, aD, aL, ae, ae.lendKs, cM, cq, cz, bG, setInn, ag, cN, db, ay, br, bP, cj, aC, aU, Glob.gl, ax, cK, aZ, cm, bv, aj, cD, cS, cB, cW, cu, au, au.ptrOnlys, ak, aM, bY, aB, bI, a8, bU, aQ, bp, cF, Nat.reduceBEq, undef]
        simp
      · rw [hcx.2.2]
        simp only [List.mem_cons, List.not_mem_nil, or_false] at hk
        omega
      · refine ⟨rfl, fun c hc => ?_⟩
        simp only [chunkV, List.mem_singleton] at hc; subst hc; trivial
      · simp (maxSteps := 4000000) -implicitDefEqProofs only [chunkV, Ent.of0, Ent.of1, Ent.of2, Ent.of3, V, cc, bE, bN, bR, cV, cT, gt, lk, co, cC, cJ, cd, ca, bV, bV.subCs, cO, bu, bF, bZ, aV, bt, bh, aW, bM, bK, aH, a7, aX, cr, dd, cY, aq, aw, bT, cI, cb, cP, cU, aP, am, bQ, bJ, zC, argS, bO, ce, da, cR, ai, aE, aO, aA, cG, leC, cn, b0, bW, dc, bX, aR, aF, cZ, ah, cL, bf, bf.viewCs, bA, bA.flatCs, aK, aK.LensOks, Value.oneCell', ↓reduceIte, ite_true, ite_false, if_true, if_false, Nat.reduceAdd, Nat.reduceSub, Nat.reduceMul, Nat.reduceEqDiff, Nat.reduceLT, Nat.reduceLeDiff, reduceCtorEq, Int.reduceToNat, forall_const, implies_true, a6, Ent.mk3, bw, bC, bB, bk, bl, bo, bH, bL, bg, be, bz, cH, bn, cQ, rn, bS, bS.renCs, aI, aN, aY, aY.viewOks, aJ, bm, bm.flatBs, aG, an, av, ar, az, bq, bq.keysBs, aT, ap, bj, cp, bD, cg, af, af.passKs, aD, aL, ae, ae.lendKs, cM, cq, cz, bG, setInn, ag, cN, db, ay, br, bP, cj, aC, aU, Glob.gl, ax, cK, aZ, cm, bv, aj, cD, cS, cB, cW, cu, au, au.ptrOnlys, ak, aM, bY, aB, bI, a8, bU, aQ, bp, cF, Nat.reduceBEq, undef]
        intro cx'' _ _
        refine S_run [ent38] 800 ?_
        obtain ⟨g1, g2⟩ := chunk_ok hlN hbits hi
        have g3 : (chunkAt l m i).length = 2 ∨ (chunkAt l m i).length = 4 ∨ (chunkAt l m i).length = 6 := by omega
        cases i with
        | zero =>
          have h1 : [[C.s (.int .i64 (pointS (chunkAt l m 0)).re), C.s (.int .i64 (pointS (chunkAt l m 0)).im)]] = (modS m l 1).map cells := by simp [modS, List.range_succ, cells_gs]
          have hl1 := modS_length m l 1
          delta c14r1
          simp (maxSteps := 4000000) -implicitDefEqProofs only [ent38, g2, g3, h1, InR, Ent.of0, Ent.of1, Ent.of2, Ent.of3, V, cc, bE, bN, bR, cV, cT, gt, lk, co, cC, cJ, cd, ca, bV, bV.subCs, cO, bu, bF, bZ, aV, bt, bh, aW, bM, bK, aH, a7, aX, cr, dd, cY, aq, aw, bT, cI, cb, cP, cU, aP, am, bQ, bJ, zC, argS, bO, ce, da, cR, ai, aE, aO, aA, cG, leC, cn, b0, bW, dc, bX, aR, aF, cZ, ah, cL, bf, bf.viewCs, bA, bA.flatCs, aK, aK.LensOks, Value.oneCell', ↓reduceIte, ite_true, ite_false, if_true, if_false, Nat.reduceAdd, Nat.reduceSub, Nat.reduceMul, Nat.reduceEqDiff, Nat.reduceLT, Nat.reduceLeDiff, reduceCtorEq, Int.reduceToNat, forall_const, implies_true, a6, Ent.mk3, bw, bC, bB, bk, bl, bo, bH, bL, bg, be, bz, cH, bn, cQ, rn, bS, bS.renCs, aI, aN, aY, aY.viewOks, aJ, bm, bm.flatBs, aG, an, av, ar, az, bq, bq.keysBs, aT, ap, bj, cp, bD, cg, af, af.passKs, aD, aL, ae, ae.lendKs, cM, cq, cz, bG, setInn, ag, cN, db, ay, br, bP, cj, aC, aU, Glob.gl, ax, cK, aZ, cm, bv, aj, cD, cS, cB, cW, cu, au, au.ptrOnlys, ak, aM, bY, aB, bI, a8, bU, aQ, bp, cF, Nat.reduceBEq, undef]
          exact ⟨⟨by omega, by omega⟩, by decide, .inr trivial⟩
        | succ i =>
          have h1 : (modS m l (i + 1)).map cells ++ [[C.s (.int .i64 (pointS (chunkAt l m (i + 1))).re), C.s (.int .i64 (pointS (chunkAt l m (i + 1))).im)]] = (modS m l (i + 1 + 1)).map cells := by rw [modS_succ m l (i + 1), List.map_append]; rfl
          have h2 := modS_length m l (i + 1)
          delta c14r1
          simp (maxSteps := 4000000) -implicitDefEqProofs only [ent38, g2, g3, h1, h2, Nat.succ_ne_zero, InR, Ent.of0, Ent.of1, Ent.of2, Ent.of3, V, cc, bE, bN, bR, cV, cT, gt, lk, co, cC, cJ, cd, ca, bV, bV.subCs, cO, bu, bF, bZ, aV, bt, bh, aW, bM, bK, aH, a7, aX, cr, dd, cY, aq, aw, bT, cI, cb, cP, cU, aP, am, bQ, bJ, zC, argS, bO, ce, da, cR, ai, aE, aO, aA, cG, leC, cn, b0, bW, dc, bX, aR, aF, cZ, ah, cL, bf, bf.viewCs, bA, bA.flatCs, aK, aK.LensOks, Value.oneCell', ↓reduceIte, ite_true, ite_false, if_true, if_false, Nat.reduceAdd, Nat.reduceSub, Nat.reduceMul, Nat.reduceEqDiff, Nat.reduceLT, Nat.reduceLeDiff, reduceCtorEq, Int.reduceToNat, forall_const, implies_true, a6, Ent.mk3, bw, bC, bB, bk, bl, bo, bH, bL, bg, be, bz, cH, bn, cQ, rn, bS, bS.renCs, aI, aN, aY, aY.viewOks, aJ, bm, bm.flatBs, aG, an, av, ar, az, bq, bq.keysBs, aT, ap, bj, cp, bD, cg, af, af.passKs, aD, aL, ae, ae.lendKs, cM, cq, cz, bG, setInn, ag, cN, db, ay, br, bP, cj, aC, aU, Glob.gl, ax, cK, aZ, cm, bv, aj, cD, cS, cB, cW, cu, au, au.ptrOnlys, ak, aM, bY, aB, bI, a8, bU, aQ, bp, cF, Nat.reduceBEq, undef]
          exact ⟨⟨by decide, by omega, by omega⟩, by decide, .inr trivial⟩
      · rw [if_neg (by omega : ¬ N = 0)]
        refine S_fzb 200007 rfl (S_run [] 800 ?_)
        simp (maxSteps := 4000000) -implicitDefEqProofs only [rv14, hme, Ent.of0, Ent.of1, Ent.of2, Ent.of3, V, cc, bE, bN, bR, cV, cT, gt, lk, co, cC, cJ, cd, ca, bV, bV.subCs, cO, bu, bF, bZ, aV, bt, bh, aW, bM, bK, aH, a7, aX, cr, dd, cY, aq, aw, bT, cI, cb, cP, cU, aP, am, bQ, bJ, zC, argS, bO, ce, da, cR, ai, aE, aO, aA, cG, leC, cn, b0, bW, dc, bX, aR, aF, cZ, ah, cL, bf, bf.viewCs, bA, bA.flatCs, aK, aK.LensOks, Value.oneCell', ↓reduceIte, ite_true, ite_false, if_true, if_false, Nat.reduceAdd, Nat.reduceSub, Nat.reduceMul, Nat.reduceEqDiff, Nat.reduceLT, Nat.reduceLeDiff, reduceCtorEq, Int.reduceToNat, forall_const, implies_true, a6, Ent.mk3, bw, bC, bB, bk, bl, bo, bH, bL, bg, be, bz, cH, bn, cQ, rn, bS, bS.renCs, aI, aN, aY, aY.viewOks, aJ, bm, bm.flatBs, aG, an, av, ar, az, bq, bq.keysBs, aT, ap, bj, cp, bD, cg, af, af.passKs, aD, aL, ae, ae.lendKs, cM, cq, cz, bG, setInn, ag, cN, db, ay, br, bP, cj, aC, aU, Glob.gl, ax, cK, aZ, cm, bv, aj, cD, cS, cB, cW, cu, au, au.ptrOnlys, ak, aM, bY, aB, bI, a8, bU, aQ, bp, cF, Nat.reduceBEq, undef]
    · have hr2 : ¬ ((l.length % m : Nat) : Int) = 0 := by omega
      have hme : modErr m l = 10 := by unfold modErr; rw [if_neg (fun h => h ho), if_neg (fun h => h hbe), hem, if_pos hr2]
      have h10 : ¬ (10 : Int) = 0 := by decide
      delta c14
      simp (maxSteps := 4000000) -implicitDefEqProofs only [rv14, ent35, ent36, ent29, ent37, hf, htm, hr2, hme, h10, InR, Ent.of0, Ent.of1, Ent.of2, Ent.of3, V, cc, bE, bN, bR, cV, cT, gt, lk, co, cC, cJ, cd, ca, bV, bV.subCs, cO, bu, bF, bZ, aV, bt, bh, aW, bM, bK, aH, a7, aX, cr, dd, cY, aq, aw, bT, cI, cb, cP, cU, aP, am, bQ, bJ, zC, argS, bO, ce, da, cR, ai, aE, aO, aA, cG, leC, cn, b0, bW, dc, bX, aR, aF, cZ, ah, cL, bf, bf.viewCs, bA, bA.flatCs, aK, aK.LensOks, Value.oneCell', ↓reduceIte, ite_true, ite_false, if_true, if_false, Nat.reduceAdd, Nat.reduceSub, Nat.reduceMul, Nat.reduceEqDiff, Nat.reduceLT, Nat.reduceLeDiff, reduceCtorEq, Int.reduceToNat, forall_const, implies_true, a6, Ent.mk3, bw, bC, bB, bk, bl, bo, bH, bL, bg, be, bz, cH, bn, cQ, rn, bS, bS.renCs, aI, aN, aY, aY.viewOks, aJ, bm, bm.flatBs, aG, an, av, ar, az, bq, bq.keysBs, aT, ap, bj, cp, bD, cg, af, af.passKs, aD, aL, ae, ae.lendKs, cM, cq, cz, bG, setInn, ag, cN, db, ay, br, bP, cj, aC, aU, Glob.gl, ax, cK, aZ, cm, bv, aj, cD, cS, cB, cW, cu, au, au.ptrOnlys, ak, aM, bY, aB, bI, a8, bU, aQ, bp, cF, Nat.reduceBEq, undef]
      exact hmne
  · have hme : modErr n l = firstS [orderErrS n, bitsErrS l] := by
      unfold modErr; simp only [firstS] at hf ⊢; grind
    delta c14
    simp (maxSteps := 4000000) -implicitDefEqProofs only [rv14, ent35, ent36, ent29, ent37, hf, hme, InR, Ent.of0, Ent.of1, Ent.of2, Ent.of3, V, cc, bE, bN, bR, cV, cT, gt, lk, co, cC, cJ, cd, ca, bV, bV.subCs, cO, bu, bF, bZ, aV, bt, bh, aW, bM, bK, aH, a7, aX, cr, dd, cY, aq, aw, bT, cI, cb, cP, cU, aP, am, bQ, bJ, zC, argS, bO, ce, da, cR, ai, aE, aO, aA, cG, leC, cn, b0, bW, dc, bX, aR, aF, cZ, ah, cL, bf, bf.viewCs, bA, bA.flatCs, aK, aK.LensOks, Value.oneCell', ↓reduceIte, ite_true, ite_false, if_true, if_false, Nat.reduceAdd, Nat.reduceSub, Nat.reduceMul, Nat.reduceEqDiff, Nat.reduceLT, Nat.reduceLeDiff, reduceCtorEq, Int.reduceToNat, forall_const, implies_true, a6, Ent.mk3, bw, bC, bB, bk, bl, bo, bH, bL, bg, be, bz, cH, bn, cQ, rn, bS, bS.renCs, aI, aN, aY, aY.viewOks, aJ, bm, bm.flatBs, aG, an, av, ar, az, bq, bq.keysBs, aT, ap, bj, cp, bD, cg, af, af.passKs, aD, aL, ae, ae.lendKs, cM, cq, cz, bG, setInn, ag, cN, db, ay, br, bP, cj, aC, aU, Glob.gl, ax, cK, aZ, cm, bv, aj, cD, cS, cB, cW, cu, au, au.ptrOnlys, ak, aM, bY, aB, bI, a8, bU, aQ, bp, cF, Nat.reduceBEq, undef]
def ent14 : Ent Tryz.prog := .of2 14 (fun _ _ => True) (fun (n : Int) (l : List Int) => .tup [enc (if modErr n l = 0 then modS n.toNat l (l.length / n.toNat) else []), enc (modErr n l)]) (fun _ _ => ⟨trivial, trivial, trivial⟩) (fun n l _ => modulated_c n l)
end Go.Proofs.YtfgpbmjmoobcnaaGreatDoor
end
section
open Go Go.Am
open Go.Am.Dat (cells)
namespace Go.Proofs.YtfgpbmjmoobcnaaGreatDoor
set_option maxHeartbeats 4000000
set_option maxRecDepth 100000
set_option linter.unusedSimpArgs false
def ofLevelI (c : Nat) (n : Int) : Option Nat := (List.range (2 ^ c)).find? fun i => decide (levelS (bitsOfS i c c) = n)
def ofLevelC (c : Nat) (n : Int) : C := match ofLevelI c n with | some i => enc (bitsOfS i c c) | none => .s (.slice none 0 0)
theorem ofLevel_c (c : Nat) (n : Int) (hc : 1 ≤ c ∧ c ≤ 6) : FC Tryz.prog 69 [enc (c : Int), enc n] [] (ofLevelC c n) [] := by
  have hp : 2 ^ c ≤ 2 ^ 6 := Nat.pow_le_pow_right (by decide) hc.2
  refine fc_intro' is69 (by simp) (fun cx hl => S_run [] 800 ?_)
  have hm : min c IntKind.i64.bits = c := Nat.min_eq_left (by show c ≤ 64; omega)
  have hpc : (1 : Int) * 2 ^ c = ((2 ^ c : Nat) : Int) := by push_cast; rw [Int.one_mul]
  have hq1 : (0 : Int) < 2 ^ c := Int.pow_pos (by decide)
  have hq2 : (2 : Int) ^ c ≤ 64 := by exact_mod_cast hp
  delta c69
  simp (maxSteps := 4000000) -implicitDefEqProofs only [rv69, hm, hpc, InR, Ent.of0, Ent.of1, Ent.of2, Ent.of3, V, cc, bE, bN, bR, cV, cT, gt, lk, co, cC, cJ, cd, ca, bV, bV.subCs, cO, bu, bF, bZ, aV, bt, bh, aW, bM, bK, aH, a7, aX, cr, dd, cY, aq, aw, bT, cI, cb, cP, cU, aP, am, bQ, bJ, zC, argS, bO, ce, da, cR, ai, aE, aO, aA, cG, leC, cn, b0, bW, dc, bX, aR, aF, cZ, ah, cL, bf, bf.viewCs, bA, bA.flatCs, aK, aK.LensOks, Value.oneCell', ↓reduceIte, ite_true, ite_false, if_true, if_false, Nat.reduceAdd, Nat.reduceSub, Nat.reduceMul, Nat.reduceEqDiff, Nat.reduceLT, Nat.reduceLeDiff, reduceCtorEq, Int.reduceToNat, forall_const, implies_true, a6, Ent.mk3, bw, bC, bB, bk, bl, bo, bH, bL, bg, be, bz, cH, bn, cQ, rn, bS, bS.renCs, aI, aN, aY, aY.viewOks, aJ, bm, bm.flatBs, aG, an, av, ar, az, bq, bq.keysBs, aT, ap, bj, cp, bD, cg, af, af.passKs, aD, aL, ae, ae.lendKs, cM, cq, cz, bG, setInn, ag, cN, db, ay, br, bP, cj, aC, aU, Glob.gl, ax, cK, aZ, cm, bv, aj, cD, cS, cB, cW, cu, au, au.ptrOnlys, ak, aM, bY, aB, bI, a8, bU, aQ, bp, cF, Nat.reduceBEq, undef]
  refine ⟨by omega, ?_⟩
  refine S_forU (2 ^ c) (fun i => [(9, .s (.int .i64 (i : Int)))]) (fun _ => []) (fun i => ∀ j, j < i → ¬ levelS (bitsOfS j c c) = n) (by omega) ?_ (fun i hi hv => S_run [ent88, ent66] 800 ?_)
  · simp (maxSteps := 4000000) -implicitDefEqProofs only [Ent.of0, Ent.of1, Ent.of2, Ent.of3, V, cc, bE, bN, bR, cV, cT, gt, lk, co, cC, cJ, cd, ca, bV, bV.subCs, cO, bu, bF, bZ, aV, bt, bh, aW, bM, bK, aH, a7, aX, cr, dd, cY, aq, aw, bT, cI, cb, cP, cU, aP, am, bQ, bJ, zC, argS, bO, ce, da, cR, ai, aE, aO, aA, cG, leC, cn, b0, bW, dc, bX, aR, aF, cZ, ah, cL, bf, bf.viewCs, bA, bA.flatCs, aK, aK.LensOks, Value.oneCell', ↓reduceIte, ite_true, ite_false, if_true, if_false, Nat.reduceAdd, Nat.reduceSub, Nat.reduceMul, Nat.reduceEqDiff, Nat.reduceLT, Nat.reduceLeDiff, reduceCtorEq, Int.reduceToNat, forall_const, implies_true, a6, Ent.mk3, bw, bC, bB, bk, bl, bo, bH, bL, bg, be, bz, cH, bn, cQ, rn, bS, bS.renCs, aI, aN, aY, aY.viewOks, aJ, bm, bm.flatBs, aG, an, av, ar, az, bq, bq.keysBs, aT, ap, bj, cp, bD, cg, af, af.passKs, aD, aL, ae, ae.lendKs, cM, cq, cz, bG, setInn, ag, cN, db, ay, br, bP, cj, aC, aU, Glob.gl, ax, cK, aZ, cm, bv, aj, cD, cS, cB, cW, cu, au, au.ptrOnlys, ak, aM, bY, aB, bI, a8, bU, aQ, bp, cF, Nat.reduceBEq, undef]; simp
  · by_cases h : i < 2 ^ c
    · have hi2 : (i : Int) < ((2 ^ c : Nat) : Int) := by omega
      have hlen := bitsOfS_length i c c
      have hok := bitsOfS_ok i c c
      delta c69l1
      simp (maxSteps := 4000000) -implicitDefEqProofs only [rv69, hi2, h, ent88, ent66, Int.toNat_natCast, hlen, hok, InR, Ent.of0, Ent.of1, Ent.of2, Ent.of3, V, cc, bE, bN, bR, cV, cT, gt, lk, co, cC, cJ, cd, ca, bV, bV.subCs, cO, bu, bF, bZ, aV, bt, bh, aW, bM, bK, aH, a7, aX, cr, dd, cY, aq, aw, bT, cI, cb, cP, cU, aP, am, bQ, bJ, zC, argS, bO, ce, da, cR, ai, aE, aO, aA, cG, leC, cn, b0, bW, dc, bX, aR, aF, cZ, ah, cL, bf, bf.viewCs, bA, bA.flatCs, aK, aK.LensOks, Value.oneCell', ↓reduceIte, ite_true, ite_false, if_true, if_false, Nat.reduceAdd, Nat.reduceSub, Nat.reduceMul, Nat.reduceEqDiff, Nat.reduceLT, Nat.reduceLeDiff, reduceCtorEq, Int.reduceToNat, forall_const, implies_true, a6, Ent.mk3, bw, bC, bB, bk, bl, bo, bH, bL, bg, be, bz, cH, bn, cQ, rn, bS, bS.renCs, aI, aN, aY, aY.viewOks, aJ, bm, bm.flatBs, aG, an, av, ar, az, bq, bq.keysBs, aT, ap, bj, cp, bD, cg, af, af.passKs, aD, aL, ae, ae.lendKs, cM, cq, cz, bG, setInn, ag, cN, db, ay, br, bP, cj, aC, aU, Glob.gl, ax, cK, aZ, cm, bv, aj, cD, cS, cB, cW, cu, au, au.ptrOnlys, ak, aM, bY, aB, bI, a8, bU, aQ, bp, cF, Nat.reduceBEq, undef]
      refine ⟨by omega, by omega, ?_⟩
      split
      · rename_i he
        have hn : ofLevelI c n = some i := by
          unfold ofLevelI
          rw [List.find?_range_eq_some]
          exact ⟨by simpa using he, List.mem_range.2 h, fun j hj => by simpa using hv j hj⟩
        simp only [ofLevelC, hn, enc_list, sz_int]
      · rename_i he
        refine ⟨by omega, fun j hj => ?_, by push_cast; rfl⟩
        by_cases hj2 : j = i
        · rw [hj2]; exact he
        · exact hv j (by omega)
    · have hi2 : ¬ (i : Int) < ((2 ^ c : Nat) : Int) := by omega
      have hn : ofLevelI c n = none := by
        unfold ofLevelI
        rw [List.find?_eq_none]
        intro x hx
        simpa using hv x (by have := List.mem_range.1 hx; omega)
      delta c69l1
      simp (maxSteps := 4000000) -implicitDefEqProofs only [rv69, hi2, ofLevelC, hn, InR, Ent.of0, Ent.of1, Ent.of2, Ent.of3, V, cc, bE, bN, bR, cV, cT, gt, lk, co, cC, cJ, cd, ca, bV, bV.subCs, cO, bu, bF, bZ, aV, bt, bh, aW, bM, bK, aH, a7, aX, cr, dd, cY, aq, aw, bT, cI, cb, cP, cU, aP, am, bQ, bJ, zC, argS, bO, ce, da, cR, ai, aE, aO, aA, cG, leC, cn, b0, bW, dc, bX, aR, aF, cZ, ah, cL, bf, bf.viewCs, bA, bA.flatCs, aK, aK.LensOks, Value.oneCell', ↓reduceIte, ite_true, ite_false, if_true, if_false, Nat.reduceAdd, Nat.reduceSub, Nat.reduceMul, Nat.reduceEqDiff, Nat.reduceLT, Nat.reduceLeDiff, reduceCtorEq, Int.reduceToNat, forall_const, implies_true, a6, Ent.mk3, bw, bC, bB, bk, bl, bo, bH, bL, bg, be, bz, cH, bn, cQ, rn, bS, bS.renCs, aI, aN, aY, aY.viewOks, aJ, bm, bm.flatBs, aG, an, av, ar, az, bq, bq.keysBs, aT, ap, bj, cp, bD, cg, af, af.passKs, aD, aL, ae, ae.lendKs, cM, cq, cz, bG, setInn, ag, cN, db, ay, br, bP, cj, aC, aU, Glob.gl, ax, cK, aZ, cm, bv, aj, cD, cS, cB, cW, cu, au, au.ptrOnlys, ak, aM, bY, aB, bI, a8, bU, aQ, bp, cF, Nat.reduceBEq, undef]
def minS : List Int → Int
  | [] => 0
  | x :: l => l.foldl (fun a b => if b < a then b else a) x
end Go.Proofs.YtfgpbmjmoobcnaaGreatDoor
end
