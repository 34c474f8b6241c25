/- SymbolTexts returns true for every input and never panics: the text of symbols, and the symbols with any text, or the errors, are as the reference says; right symbols are read back; conditions: those of the given statement, that the library variables it lists hold what their initialisers lay. -/
import Derived.Test.YtfgpbmjmoobcnaaGreatDoorRows
import Derived.Test.YtfgpbmjmoobcnaaGreatDoorTie
import Derived.Test.YtfgpbmjmoobcnaaGreatDoorCards
import Derived.SevenTiedAt
import Derived.ProofKit
import Derived.Lay
import Derived.ChangeMaps5
import Derived.Test.YtfgpbmjmoobcnaaGreatDoorAm5
set_option linter.all false
section
open Go Go.Am
open Go.Am.Dat (cells)
namespace Go.Proofs.YtfgpbmjmoobcnaaGreatDoor
set_option maxHeartbeats 4000000
set_option maxRecDepth 100000
set_option linter.unusedSimpArgs false
set_option linter.unusedVariables false
def inG (g : Gs) : Prop := InR .i64 g.re ∧ InR .i64 g.im
def pairB (g : Gs) : ByteArray := itoaB g.re ++ ⟨#[44]⟩ ++ itoaB g.im
def fmtB (l : List Gs) : ByteArray := joinB (l.map pairB) space
theorem itoa_size {n : Int} (h : InR .i64 n) : (itoaB n).size ≤ 21 := by
  have h : -9223372036854775808 ≤ n ∧ n ≤ 9223372036854775807 := by simpa [InR] using h
  rw [← data_len]
  show (Lib.itoa n).length ≤ 21
  rw [Lib.itoa]
  split
  · have := decDigits_len 19 n.natAbs (by omega); rw [List.length_cons]; omega
  · have := decDigits_len 19 n.toNat (by omega); omega
theorem size_app (a b : ByteArray) : (a ++ b).size = a.size + b.size := by simp
theorem pair_size {g : Gs} (h : inG g) : (pairB g).size ≤ 43 := by
  have h1 := itoa_size h.1
  have h2 := itoa_size h.2
  have h3 : (⟨#[44]⟩ : ByteArray).size = 1 := rfl
  rw [pairB, size_app, size_app, h3]; omega
theorem join_snoc {xs : List (List UInt8)} (h : xs ≠ []) (y sep : List UInt8) : Lib.join (xs ++ [y]) sep = Lib.join xs sep ++ sep ++ y := by
  cases xs with
  | nil => exact absurd rfl h
  | cons x r =>
    rw [List.cons_append, Lib.join_cons, Lib.join_cons]
    simp [Lib.joinTail]
theorem fmt_snoc (l : List Gs) (g : Gs) : fmtB (l ++ [g]) = (if l.length = 0 then pairB g else fmtB l ++ ⟨#[32]⟩ ++ pairB g) := by
  cases l with
  | nil =>
    show (⟨(Lib.join [(pairB g).data.toList] [32]).toArray⟩ : ByteArray) = pairB g
    rw [Lib.join_one]
  | cons x r =>
    rw [if_neg (by simp)]
    unfold fmtB joinB
    rw [List.map_append, List.map_append]
    show (⟨(Lib.join ((List.map (fun x => x.data.toList) (List.map pairB (x :: r))) ++ [(pairB g).data.toList]) space.data.toList).toArray⟩ : ByteArray) = _
    rw [join_snoc (by simp)]
    refine ByteArray.ext ?_
    rw [ByteArray.data_append, ByteArray.data_append]
    simp [space]
theorem fmt_size : ∀ (l : List Gs) (i : Nat), (∀ g ∈ l, inG g) → i ≤ l.length → (fmtB (l.take i)).size ≤ 44 * i
  | l, 0, _, _ => by rw [List.take_zero]; exact Nat.le_refl _
  | l, i + 1, h, hi => by
    have ih := fmt_size l i h (by omega)
    have hp := pair_size (h l[i] (List.getElem_mem (by omega)))
    rw [← List.take_append_getElem (by omega : i < l.length), fmt_snoc]
    have h3 : (⟨#[32]⟩ : ByteArray).size = 1 := rfl
    split
    · omega
    · rw [size_app, size_app, h3]; omega
theorem take_getD {l : List Gs} {i : Nat} (h : i < l.length) : l.take (i + 1) = l.take i ++ [l.getD i ⟨0, 0⟩] := by
  rw [List.getD_eq_getElem?_getD, List.getElem?_eq_getElem h, Option.getD_some, List.take_append_getElem]
theorem getD_in {l : List Gs} {i : Nat} (h : i < l.length) (hg : ∀ g ∈ l, inG g) : inG (l.getD i ⟨0, 0⟩) := by
  rw [List.getD_eq_getElem?_getD, List.getElem?_eq_getElem h, Option.getD_some]; exact hg _ (List.getElem_mem h)
theorem Format_c (l : List Gs) (hl8 : l.length ≤ 1000) (hg : ∀ g ∈ l, inG g) : FC Tryz.prog 5 [enc l] [] (enc (fmtB l)) [] := by
  refine fc_intro' is5 (by simp) (fun cx hl => S_run [] 800 ?_)
  delta c5
  simp (maxSteps := 4000000) -implicitDefEqProofs only [rv5, Ent.of0, Ent.of1, Ent.of2, Ent.of3, V, cc, bE, bN, bR, cV, cT, gt, lk, co, cC, cJ, cd, ca, bV, bV.subCs, cO, bu, bF, bZ, aV, bt, bh, aW, bM, bK, aH, a7, aX, cr, dd, cY, aq, aw, bT, cI, cb, cP, cU, aP, am, bQ, bJ, zC, argS, bO, ce, da, cR, ai, aE, aO, aA, cG, leC, cn, b0, bW, dc, bX, aR, aF, cZ, ah, cL, bf, bf.viewCs, bA, bA.flatCs, aK, aK.LensOks, Value.oneCell', ↓reduceIte, ite_true, ite_false, if_true, if_false, Nat.reduceAdd, Nat.reduceSub, Nat.reduceMul, Nat.reduceEqDiff, Nat.reduceLT, Nat.reduceLeDiff, reduceCtorEq, Int.reduceToNat, forall_const, implies_true, a6, Ent.mk3, bw, bC, bB, bk, bl, bo, bH, bL, bg, be, bz, cH, bn, cQ, rn, bS, bS.renCs, aI, aN, aY, aY.viewOks, aJ, bm, bm.flatBs, aG, an, av, ar, az, bq, bq.keysBs, aT, ap, bj, cp, bD, cg, af, af.passKs, aD, aL, ae, ae.lendKs, cM, cq, cz, bG, setInn, ag, cN, db, ay, br, bP, cj, aC, aU, Glob.gl, ax, cK, aZ, cm, bv, aj, cD, cS, cB, cW, cu, au, au.ptrOnlys, ak, aM, bY, aB, bI, a8, bU, aQ, bp, cF, Nat.reduceBEq, undef]
  refine S_forU l.length (fun i => [(8, .s (.int .i64 (i : Int)))]) (fun i => [(3, .row 1 9 (((l.take i).map pairB).map cells))]) (fun _ => True) trivial ?_ (fun i hi _ => S_run [ent19, ent20] 800 ?_)
  · simp (maxSteps := 4000000) -implicitDefEqProofs only [Ent.of0, Ent.of1, Ent.of2, Ent.of3, V, cc, bE, bN, bR, cV, cT, gt, lk, co, cC, cJ, cd, ca, bV, bV.subCs, cO, bu, bF, bZ, aV, bt, bh, aW, bM, bK, aH, a7, aX, cr, dd, cY, aq, aw, bT, cI, cb, cP, cU, aP, am, bQ, bJ, zC, argS, bO, ce, da, cR, ai, aE, aO, aA, cG, leC, cn, b0, bW, dc, bX, aR, aF, cZ, ah, cL, bf, bf.viewCs, bA, bA.flatCs, aK, aK.LensOks, Value.oneCell', ↓reduceIte, ite_true, ite_false, if_true, if_false, Nat.reduceAdd, Nat.reduceSub, Nat.reduceMul, Nat.reduceEqDiff, Nat.reduceLT, Nat.reduceLeDiff, reduceCtorEq, Int.reduceToNat, forall_const, implies_true, a6, Ent.mk3, bw, bC, bB, bk, bl, bo, bH, bL, bg, be, bz, cH, bn, cQ, rn, bS, bS.renCs, aI, aN, aY, aY.viewOks, aJ, bm, bm.flatBs, aG, an, av, ar, az, bq, bq.keysBs, aT, ap, bj, cp, bD, cg, af, af.passKs, aD, aL, ae, ae.lendKs, cM, cq, cz, bG, setInn, ag, cN, db, ay, br, bP, cj, aC, aU, Glob.gl, ax, cK, aZ, cm, bv, aj, cD, cS, cB, cW, cu, au, au.ptrOnlys, ak, aM, bY, aB, bI, a8, bU, aQ, bp, cF, Nat.reduceBEq, undef]; simp
  · have hc44 : (⟨#[44]⟩ : ByteArray).size = 1 := rfl
    by_cases h : i < l.length
    · have hi2 : (i : Int) < (l.length : Int) := by omega
      have hgi := getD_in h hg
      have h1 := itoa_size hgi.1
      have h2 := itoa_size hgi.2
      have h3 := hgi.1
      have h4 := hgi.2
      have hap : ((l.take i).map pairB).map cells ++ [[C.s (.string (itoaB (l.getD i ⟨0, 0⟩).re ++ ⟨#[44]⟩ ++ itoaB (l.getD i ⟨0, 0⟩).im))]] = ((l.take (i + 1)).map pairB).map cells := by
        rw [take_getD h, List.map_append, List.map_append]; rfl
      delta c5l1
      simp (maxSteps := 4000000) -implicitDefEqProofs only [rv5, hi2, ent19, h, h3, h4, hc44, size_app, hap, InR, Ent.of0, Ent.of1, Ent.of2, Ent.of3, V, cc, bE, bN, bR, cV, cT, gt, lk, co, cC, cJ, cd, ca, bV, bV.subCs, cO, bu, bF, bZ, aV, bt, bh, aW, bM, bK, aH, a7, aX, cr, dd, cY, aq, aw, bT, cI, cb, cP, cU, aP, am, bQ, bJ, zC, argS, bO, ce, da, cR, ai, aE, aO, aA, cG, leC, cn, b0, bW, dc, bX, aR, aF, cZ, ah, cL, bf, bf.viewCs, bA, bA.flatCs, aK, aK.LensOks, Value.oneCell', ↓reduceIte, ite_true, ite_false, if_true, if_false, Nat.reduceAdd, Nat.reduceSub, Nat.reduceMul, Nat.reduceEqDiff, Nat.reduceLT, Nat.reduceLeDiff, reduceCtorEq, Int.reduceToNat, forall_const, implies_true, a6, Ent.mk3, bw, bC, bB, bk, bl, bo, bH, bL, bg, be, bz, cH, bn, cQ, rn, bS, bS.renCs, aI, aN, aY, aY.viewOks, aJ, bm, bm.flatBs, aG, an, av, ar, az, bq, bq.keysBs, aT, ap, bj, cp, bD, cg, af, af.passKs, aD, aL, ae, ae.lendKs, cM, cq, cz, bG, setInn, ag, cN, db, ay, br, bP, cj, aC, aU, Glob.gl, ax, cK, aZ, cm, bv, aj, cD, cS, cB, cW, cu, au, au.ptrOnlys, ak, aM, bY, aB, bI, a8, bU, aQ, bp, cF, Nat.reduceBEq, undef]
      have h3' : -9223372036854775808 ≤ (l.getD i ⟨0, 0⟩).re ∧ (l.getD i ⟨0, 0⟩).re ≤ 9223372036854775807 := by simpa [InR] using h3
      have h4' : -9223372036854775808 ≤ (l.getD i ⟨0, 0⟩).im ∧ (l.getD i ⟨0, 0⟩).im ≤ 9223372036854775807 := by simpa [InR] using h4
      have hlt := List.length_take_le i l
      have hlt : (l.take i).length ≤ 1000 := by omega
      exact ⟨by omega, h3', by omega, h4', by omega, ⟨by omega, by omega⟩, by omega, by push_cast; rfl⟩
    · have hi2 : ¬ (i : Int) < (l.length : Int) := by omega
      have hie : i = l.length := by omega
      subst hie
      have hfs := fmt_size l l.length hg (Nat.le_refl _)
      rw [List.take_length] at hfs
      have hjl : (Lib.join ((l.map pairB).map (·.data.toList)) ([32] : List UInt8)).length ≤ 140737488355328 := by
        have : (fmtB l).size = (Lib.join ((l.map pairB).map (·.data.toList)) ([32] : List UInt8)).length := by rw [← data_len]; rfl
        omega
      delta c5l1
      simp (maxSteps := 4000000) -implicitDefEqProofs only [rv5, hi2, ent19, ent20, List.take_length, InR, Ent.of0, Ent.of1, Ent.of2, Ent.of3, V, cc, bE, bN, bR, cV, cT, gt, lk, co, cC, cJ, cd, ca, bV, bV.subCs, cO, bu, bF, bZ, aV, bt, bh, aW, bM, bK, aH, a7, aX, cr, dd, cY, aq, aw, bT, cI, cb, cP, cU, aP, am, bQ, bJ, zC, argS, bO, ce, da, cR, ai, aE, aO, aA, cG, leC, cn, b0, bW, dc, bX, aR, aF, cZ, ah, cL, bf, bf.viewCs, bA, bA.flatCs, aK, aK.LensOks, Value.oneCell', ↓reduceIte, ite_true, ite_false, if_true, if_false, Nat.reduceAdd, Nat.reduceSub, Nat.reduceMul, Nat.reduceEqDiff, Nat.reduceLT, Nat.reduceLeDiff, reduceCtorEq, Int.reduceToNat, forall_const, implies_true, a6, Ent.mk3, bw, bC, bB, bk, bl, bo, bH, bL, bg, be, bz, cH, bn, cQ, rn, bS, bS.renCs, aI, aN, aY, aY.viewOks, aJ, bm, bm.flatBs, aG, an, av, ar, az, bq, bq.keysBs, aT, ap, bj, cp, bD, cg, af, af.passKs, aD, aL, ae, ae.lendKs, cM, cq, cz, bG, setInn, ag, cN, db, ay, br, bP, cj, aC, aU, Glob.gl, ax, cK, aZ, cm, bv, aj, cD, cS, cB, cW, cu, au, au.ptrOnlys, ak, aM, bY, aB, bI, a8, bU, aQ, bp, cF, Nat.reduceBEq, undef]
      exact ⟨⟨by omega, hjl⟩, rfl⟩
def ent5 : Ent Tryz.prog := .of1 5 (fun l => l.length ≤ 1000 ∧ ∀ g ∈ l, inG g) (fun l : List Gs => enc (fmtB l)) (fun _ => trivial) (fun l h => Format_c l h.1 h.2)
theorem RFormat_c (l : List Gs) (hl8 : l.length ≤ 1000) (hg : ∀ g ∈ l, inG g) : FC Tryz.prog 9 [enc l] [] (enc (fmtB l)) [] := by
  refine fc_intro' is9 (by simp) (fun cx hl => S_run [] 800 ?_)
  delta c9
  simp (maxSteps := 4000000) -implicitDefEqProofs only [rv9, Ent.of0, Ent.of1, Ent.of2, Ent.of3, V, cc, bE, bN, bR, cV, cT, gt, lk, co, cC, cJ, cd, ca, bV, bV.subCs, cO, bu, bF, bZ, aV, bt, bh, aW, bM, bK, aH, a7, aX, cr, dd, cY, aq, aw, bT, cI, cb, cP, cU, aP, am, bQ, bJ, zC, argS, bO, ce, da, cR, ai, aE, aO, aA, cG, leC, cn, b0, bW, dc, bX, aR, aF, cZ, ah, cL, bf, bf.viewCs, bA, bA.flatCs, aK, aK.LensOks, Value.oneCell', ↓reduceIte, ite_true, ite_false, if_true, if_false, Nat.reduceAdd, Nat.reduceSub, Nat.reduceMul, Nat.reduceEqDiff, Nat.reduceLT, Nat.reduceLeDiff, reduceCtorEq, Int.reduceToNat, forall_const, implies_true, a6, Ent.mk3, bw, bC, bB, bk, bl, bo, bH, bL, bg, be, bz, cH, bn, cQ, rn, bS, bS.renCs, aI, aN, aY, aY.viewOks, aJ, bm, bm.flatBs, aG, an, av, ar, az, bq, bq.keysBs, aT, ap, bj, cp, bD, cg, af, af.passKs, aD, aL, ae, ae.lendKs, cM, cq, cz, bG, setInn, ag, cN, db, ay, br, bP, cj, aC, aU, Glob.gl, ax, cK, aZ, cm, bv, aj, cD, cS, cB, cW, cu, au, au.ptrOnlys, ak, aM, bY, aB, bI, a8, bU, aQ, bp, cF, Nat.reduceBEq, undef]
  refine S_forU l.length (fun i => [(4, .s (.int .i64 (i : Int))), (3, .s (.string (fmtB (l.take i))))]) (fun i => []) (fun _ => True) trivial ?_ (fun i hi _ => S_run [ent27] 800 ?_)
  · simp (maxSteps := 4000000) -implicitDefEqProofs only [Ent.of0, Ent.of1, Ent.of2, Ent.of3, V, cc, bE, bN, bR, cV, cT, gt, lk, co, cC, cJ, cd, ca, bV, bV.subCs, cO, bu, bF, bZ, aV, bt, bh, aW, bM, bK, aH, a7, aX, cr, dd, cY, aq, aw, bT, cI, cb, cP, cU, aP, am, bQ, bJ, zC, argS, bO, ce, da, cR, ai, aE, aO, aA, cG, leC, cn, b0, bW, dc, bX, aR, aF, cZ, ah, cL, bf, bf.viewCs, bA, bA.flatCs, aK, aK.LensOks, Value.oneCell', ↓reduceIte, ite_true, ite_false, if_true, if_false, Nat.reduceAdd, Nat.reduceSub, Nat.reduceMul, Nat.reduceEqDiff, Nat.reduceLT, Nat.reduceLeDiff, reduceCtorEq, Int.reduceToNat, forall_const, implies_true, a6, Ent.mk3, bw, bC, bB, bk, bl, bo, bH, bL, bg, be, bz, cH, bn, cQ, rn, bS, bS.renCs, aI, aN, aY, aY.viewOks, aJ, bm, bm.flatBs, aG, an, av, ar, az, bq, bq.keysBs, aT, ap, bj, cp, bD, cg, af, af.passKs, aD, aL, ae, ae.lendKs, cM, cq, cz, bG, setInn, ag, cN, db, ay, br, bP, cj, aC, aU, Glob.gl, ax, cK, aZ, cm, bv, aj, cD, cS, cB, cW, cu, au, au.ptrOnlys, ak, aM, bY, aB, bI, a8, bU, aQ, bp, cF, Nat.reduceBEq, undef]; exact ⟨rfl, rfl⟩
  · have hc44 : (⟨#[44]⟩ : ByteArray).size = 1 := rfl
    have hc32 : (⟨#[32]⟩ : ByteArray).size = 1 := rfl
    have hfs := fmt_size l i hg hi
    by_cases h : i < l.length
    · have hi2 : (i : Int) < (l.length : Int) := by omega
      have hgi := getD_in h hg
      have h1 := itoa_size hgi.1
      have h2 := itoa_size hgi.2
      have h3 := hgi.1
      have h4 := hgi.2
      have h3' : -9223372036854775808 ≤ (l.getD i ⟨0, 0⟩).re ∧ (l.getD i ⟨0, 0⟩).re ≤ 9223372036854775807 := by simpa [InR] using h3
      have h4' : -9223372036854775808 ≤ (l.getD i ⟨0, 0⟩).im ∧ (l.getD i ⟨0, 0⟩).im ≤ 9223372036854775807 := by simpa [InR] using h4
      have hsn := fmt_snoc (l.take i) (l.getD i ⟨0, 0⟩)
      rw [← take_getD h, List.length_take, Nat.min_eq_left hi] at hsn
      generalize hG : l.getD i ⟨0, 0⟩ = g at *
      cases i with
      | zero =>
        rw [if_pos rfl] at hsn
        have hz : fmtB [] = ⟨#[]⟩ := rfl
        have hz1 : (⟨#[]⟩ : ByteArray).size = 0 := rfl
        have hn0 : ¬ ((0 : Nat) : Int) > 0 := by decide
        have hn1 : ¬ (0 : Int) < ((0 : Nat) : Int) := by decide
        have hap : (⟨#[]⟩ : ByteArray) ++ itoaB g.re ++ ⟨#[44]⟩ ++ itoaB g.im = fmtB (l.take (0 + 1)) := by
          rw [hsn, pairB]; congr 2
        delta c9l1
        simp (maxSteps := 4000000) -implicitDefEqProofs only [rv9, hi2, hn0, hn1, hG, ent27, h, h3, h4, hc44, hc32, hz1, size_app, hz, hap, InR, Ent.of0, Ent.of1, Ent.of2, Ent.of3, V, cc, bE, bN, bR, cV, cT, gt, lk, co, cC, cJ, cd, ca, bV, bV.subCs, cO, bu, bF, bZ, aV, bt, bh, aW, bM, bK, aH, a7, aX, cr, dd, cY, aq, aw, bT, cI, cb, cP, cU, aP, am, bQ, bJ, zC, argS, bO, ce, da, cR, ai, aE, aO, aA, cG, leC, cn, b0, bW, dc, bX, aR, aF, cZ, ah, cL, bf, bf.viewCs, bA, bA.flatCs, aK, aK.LensOks, Value.oneCell', ↓reduceIte, ite_true, ite_false, if_true, if_false, Nat.reduceAdd, Nat.reduceSub, Nat.reduceMul, Nat.reduceEqDiff, Nat.reduceLT, Nat.reduceLeDiff, reduceCtorEq, Int.reduceToNat, forall_const, implies_true, a6, Ent.mk3, bw, bC, bB, bk, bl, bo, bH, bL, bg, be, bz, cH, bn, cQ, rn, bS, bS.renCs, aI, aN, aY, aY.viewOks, aJ, bm, bm.flatBs, aG, an, av, ar, az, bq, bq.keysBs, aT, ap, bj, cp, bD, cg, af, af.passKs, aD, aL, ae, ae.lendKs, cM, cq, cz, bG, setInn, ag, cN, db, ay, br, bP, cj, aC, aU, Glob.gl, ax, cK, aZ, cm, bv, aj, cD, cS, cB, cW, cu, au, au.ptrOnlys, ak, aM, bY, aB, bI, a8, bU, aQ, bp, cF, Nat.reduceBEq, undef]
        exact ⟨by omega, h3', by omega, by omega, by omega, h4', by omega, by omega, rfl⟩
      | succ i =>
        rw [if_neg (by omega)] at hsn
        have hap : fmtB (l.take (i + 1)) ++ ⟨#[32]⟩ ++ itoaB g.re ++ ⟨#[44]⟩ ++ itoaB g.im = fmtB (l.take (i + 1 + 1)) := by
          rw [hsn, pairB, ByteArray.append_assoc, ByteArray.append_assoc, ByteArray.append_assoc, ByteArray.append_assoc, ByteArray.append_assoc]
        have hi3 : (((i + 1 : Nat) : Int) > 0) := by omega
        have hi4 : ((0 : Int) < ((i + 1 : Nat) : Int)) := by omega
        delta c9l1
        simp (maxSteps := 4000000) -implicitDefEqProofs only [rv9, hi2, hi3, hi4, hG, ent27, h, h3, h4, hc44, hc32, size_app, hap, InR, Ent.of0, Ent.of1, Ent.of2, Ent.of3, V, cc, bE, bN, bR, cV, cT, gt, lk, co, cC, cJ, cd, ca, bV, bV.subCs, cO, bu, bF, bZ, aV, bt, bh, aW, bM, bK, aH, a7, aX, cr, dd, cY, aq, aw, bT, cI, cb, cP, cU, aP, am, bQ, bJ, zC, argS, bO, ce, da, cR, ai, aE, aO, aA, cG, leC, cn, b0, bW, dc, bX, aR, aF, cZ, ah, cL, bf, bf.viewCs, bA, bA.flatCs, aK, aK.LensOks, Value.oneCell', ↓reduceIte, ite_true, ite_false, if_true, if_false, Nat.reduceAdd, Nat.reduceSub, Nat.reduceMul, Nat.reduceEqDiff, Nat.reduceLT, Nat.reduceLeDiff, reduceCtorEq, Int.reduceToNat, forall_const, implies_true, a6, Ent.mk3, bw, bC, bB, bk, bl, bo, bH, bL, bg, be, bz, cH, bn, cQ, rn, bS, bS.renCs, aI, aN, aY, aY.viewOks, aJ, bm, bm.flatBs, aG, an, av, ar, az, bq, bq.keysBs, aT, ap, bj, cp, bD, cg, af, af.passKs, aD, aL, ae, ae.lendKs, cM, cq, cz, bG, setInn, ag, cN, db, ay, br, bP, cj, aC, aU, Glob.gl, ax, cK, aZ, cm, bv, aj, cD, cS, cB, cW, cu, au, au.ptrOnlys, ak, aM, bY, aB, bI, a8, bU, aQ, bp, cF, Nat.reduceBEq, undef]
        exact ⟨by omega, by omega, h3', by omega, by omega, by omega, h4', by omega, by omega, by push_cast; rfl⟩
    · have hi2 : ¬ (i : Int) < (l.length : Int) := by omega
      have hie : i = l.length := by omega
      subst hie
      delta c9l1
      simp (maxSteps := 4000000) -implicitDefEqProofs only [rv9, hi2, List.take_length, InR, Ent.of0, Ent.of1, Ent.of2, Ent.of3, V, cc, bE, bN, bR, cV, cT, gt, lk, co, cC, cJ, cd, ca, bV, bV.subCs, cO, bu, bF, bZ, aV, bt, bh, aW, bM, bK, aH, a7, aX, cr, dd, cY, aq, aw, bT, cI, cb, cP, cU, aP, am, bQ, bJ, zC, argS, bO, ce, da, cR, ai, aE, aO, aA, cG, leC, cn, b0, bW, dc, bX, aR, aF, cZ, ah, cL, bf, bf.viewCs, bA, bA.flatCs, aK, aK.LensOks, Value.oneCell', ↓reduceIte, ite_true, ite_false, if_true, if_false, Nat.reduceAdd, Nat.reduceSub, Nat.reduceMul, Nat.reduceEqDiff, Nat.reduceLT, Nat.reduceLeDiff, reduceCtorEq, Int.reduceToNat, forall_const, implies_true, a6, Ent.mk3, bw, bC, bB, bk, bl, bo, bH, bL, bg, be, bz, cH, bn, cQ, rn, bS, bS.renCs, aI, aN, aY, aY.viewOks, aJ, bm, bm.flatBs, aG, an, av, ar, az, bq, bq.keysBs, aT, ap, bj, cp, bD, cg, af, af.passKs, aD, aL, ae, ae.lendKs, cM, cq, cz, bG, setInn, ag, cN, db, ay, br, bP, cj, aC, aU, Glob.gl, ax, cK, aZ, cm, bv, aj, cD, cS, cB, cW, cu, au, au.ptrOnlys, ak, aM, bY, aB, bI, a8, bU, aQ, bp, cF, Nat.reduceBEq, undef]
def ent9 : Ent Tryz.prog := .of1 9 (fun l => l.length ≤ 1000 ∧ ∀ g ∈ l, inG g) (fun l : List Gs => enc (fmtB l)) (fun _ => trivial) (fun l h => RFormat_c l h.1 h.2)
end Go.Proofs.YtfgpbmjmoobcnaaGreatDoor
end
section
open Go Go.Am
open Go.Am.Dat (cells)
namespace Go.Proofs.YtfgpbmjmoobcnaaGreatDoor
set_option maxHeartbeats 4000000
set_option maxRecDepth 100000
set_option linter.unusedSimpArgs false
set_option linter.unusedVariables false
def wordR (l : List UInt8) : Option Gs := match cutL 44 l with
  | [a, b] => (numR a).bind fun x => (numR b).map fun y => ⟨x, y⟩
  | _ => none
def allR : List (List UInt8) → Option (List Gs)
  | [] => some []
  | w :: ws => (wordR w).bind fun g => (allR ws).map (g :: ·)
def parsE (l : List UInt8) : Int := match allR (cutL 32 l) with
  | none => 7
  | some out => symErr out
def parsV (l : List UInt8) : List Gs := match allR (cutL 32 l) with
  | none => []
  | some out => if symErr out = 0 then out else []
theorem cut_len (c : UInt8) : ∀ (l : List UInt8), (cutL c l).length ≤ l.length + 1 ∧ ∀ w ∈ cutL c l, w.length ≤ l.length
  | [] => ⟨Nat.le_refl _, fun w h => by simp [cutL] at h; subst h; exact Nat.le_refl _⟩
  | b :: l => by
    obtain ⟨h1, h2⟩ := cut_len c l
    rw [cutL]
    split
    · refine ⟨by simp; omega, fun w h => ?_⟩
      rcases List.mem_cons.1 h with rfl | h
      · exact Nat.zero_le _
      · have := h2 w h; simp; omega
    · split
      · rename_i p ps hq
        rw [hq] at h1 h2
        refine ⟨by simp at *; omega, fun w h => ?_⟩
        rcases List.mem_cons.1 h with rfl | h
        · have := h2 p List.mem_cons_self; simp; omega
        · have := h2 w (List.mem_cons_of_mem _ h); simp; omega
      · refine ⟨by simp, fun w h => ?_⟩
        simp only [List.mem_singleton] at h; subst h; simp
theorem allR_none : ∀ {ws : List (List UInt8)} {i : Nat}, i < ws.length → wordR (ws.getD i []) = none → allR ws = none
  | w :: ws, 0, _, h => by
    have h : wordR w = none := by simpa using h
    rw [allR, h]; rfl
  | w :: ws, i + 1, hi, h => by
    have := allR_none (ws := ws) (i := i) (by simpa using hi) (by simpa using h)
    rw [allR, this]
    cases wordR w <;> rfl
theorem allR_some : ∀ {ws : List (List UInt8)}, (∀ i, i < ws.length → (wordR (ws.getD i [])).isSome = true) → allR ws = some (ws.map fun w => (wordR w).getD ⟨0, 0⟩)
  | [], _ => rfl
  | w :: ws, h => by
    have h0 := h 0 (by simp)
    have ih := allR_some (ws := ws) (fun i hi => by have := h (i + 1) (by simpa using hi); simpa using this)
    have h0 : (wordR w).isSome = true := by simpa using h0
    cases hq : wordR w with
    | none => rw [hq] at h0; cases h0
    | some g => rw [allR, hq, ih]; simp [hq]
def outsR (ws : List (List UInt8)) (i : Nat) : List Gs := (ws.take i).map fun w => (wordR w).getD ⟨0, 0⟩
theorem outsR_len {ws : List (List UInt8)} {i : Nat} (h : i ≤ ws.length) : (outsR ws i).length = i := by rw [outsR, List.length_map, List.length_take]; omega
theorem outsR_succ {ws : List (List UInt8)} {i : Nat} (h : i < ws.length) : outsR ws (i + 1) = outsR ws i ++ [(wordR (ws.getD i [])).getD ⟨0, 0⟩] := by
  rw [outsR, outsR, List.getD_eq_getElem?_getD, List.getElem?_eq_getElem h, Option.getD_some, ← List.take_append_getElem h, List.map_append]; rfl
theorem wsB_getD (ws : List (List UInt8)) (i : Nat) : (ws.map mkB).getD i ⟨#[]⟩ = mkB (ws.getD i []) := by
  rw [List.getD_eq_getElem?_getD, List.getElem?_map, List.getD_eq_getElem?_getD]
  cases ws[i]? <;> rfl
theorem RParse_c (s : ByteArray) (hs : s.size ≤ 1000) : FC Tryz.prog 8 [enc s] [] (.tup [enc (parsV s.data.toList), enc (parsE s.data.toList)]) [] := by
  refine fc_intro' is8 (by simp) (fun cx hl => S_run [ent25] 800 ?_)
  have h32 : UInt8.ofNat 32 = 32 := rfl
  have h44 : UInt8.ofNat 44 = 44 := rfl
  have hs6 : s.size ≤ 1000000 := by omega
  obtain ⟨c1, c2⟩ := cut_len 32 s.data.toList
  rw [data_len] at c1 c2
  have hcb : cutB 32 s = (cutL 32 s.data.toList).map mkB := rfl
  delta c8
  simp (maxSteps := 4000000) -implicitDefEqProofs only [rv8, ent25, h32, hs6, hcb, Int.cast_ofNat_Int, Int.natCast_one, Int.natCast_zero, Int.reduceAdd, Int.reduceSub, Int.reduceMul, Int.reduceLT, Int.reduceLE, Int.reduceTMod, Int.reduceTDiv, Int.reduceNeg, Int.reduceEq, Nat.reducePow, Int.reducePow, ne_eq, not_false_eq_true, Ent.of0, Ent.of1, Ent.of2, Ent.of3, V, cc, bE, bN, bR, cV, cT, gt, lk, co, cC, cJ, cd, ca, bV, bV.subCs, cO, bu, bF, bZ, aV, bt, bh, aW, bM, bK, aH, a7, aX, cr, dd, cY, aq, aw, bT, cI, cb, cP, cU, aP, am, bQ, bJ, zC, argS, bO, ce, da, cR, ai, aE, aO, aA, cG, leC, cn, b0, bW, dc, bX, aR, aF, cZ, ah, cL, bf, bf.viewCs, bA, bA.flatCs, aK, aK.LensOks, Value.oneCell', ↓reduceIte, ite_true, ite_false, if_true, if_false, Nat.reduceAdd, Nat.reduceSub, Nat.reduceMul, Nat.reduceEqDiff, Nat.reduceLT, Nat.reduceLeDiff, reduceCtorEq, Int.reduceToNat, forall_const, implies_true, a6, Ent.mk3, bw, bC, bB, bk, bl, bo, bH, bL, bg, be, bz, cH, bn, cQ, rn, bS, bS.renCs, aI, aN, aY, aY.viewOks, aJ, bm, bm.flatBs, aG, an, av, ar, az, bq, bq.keysBs, aT, ap, bj, cp, bD, cg, af, af.passKs, aD, aL, ae, ae.lendKs, cM, cq, cz, bG, setInn, ag, cN, db, ay, br, bP, cj, aC, aU, Glob.gl, ax, cK, aZ, cm, bv, aj, cD, cS, cB, cW, cu, au, au.ptrOnlys, ak, aM, bY, aB, bI, a8, bU, aQ, bp, cF, Nat.reduceBEq, undef]
  have hE : parsE s.data.toList = match allR (cutL 32 s.data.toList) with
    | none => 7
    | some out => symErr out := rfl
  have hV : parsV s.data.toList = match allR (cutL 32 s.data.toList) with
    | none => []
    | some out => if symErr out = 0 then out else [] := rfl
  generalize parsE s.data.toList = PE at *
  generalize parsV s.data.toList = PV at *
  generalize cutL 32 s.data.toList = ws at *
  refine S_forU ws.length (fun i => [(6, .s (.int .i64 (i : Int)))]) (fun i => [(4, .row 2 43 ((outsR ws i).map cells))]) (fun i => ∀ j, j < i → (wordR (ws.getD j [])).isSome = true) (fun j hj => by omega) ?_ (fun i hi hv => S_run [ent25, ent26, ent11] 800 ?_)
  · simp (maxSteps := 4000000) -implicitDefEqProofs only [outsR, Ent.of0, Ent.of1, Ent.of2, Ent.of3, V, cc, bE, bN, bR, cV, cT, gt, lk, co, cC, cJ, cd, ca, bV, bV.subCs, cO, bu, bF, bZ, aV, bt, bh, aW, bM, bK, aH, a7, aX, cr, dd, cY, aq, aw, bT, cI, cb, cP, cU, aP, am, bQ, bJ, zC, argS, bO, ce, da, cR, ai, aE, aO, aA, cG, leC, cn, b0, bW, dc, bX, aR, aF, cZ, ah, cL, bf, bf.viewCs, bA, bA.flatCs, aK, aK.LensOks, Value.oneCell', ↓reduceIte, ite_true, ite_false, if_true, if_false, Nat.reduceAdd, Nat.reduceSub, Nat.reduceMul, Nat.reduceEqDiff, Nat.reduceLT, Nat.reduceLeDiff, reduceCtorEq, Int.reduceToNat, forall_const, implies_true, a6, Ent.mk3, bw, bC, bB, bk, bl, bo, bH, bL, bg, be, bz, cH, bn, cQ, rn, bS, bS.renCs, aI, aN, aY, aY.viewOks, aJ, bm, bm.flatBs, aG, an, av, ar, az, bq, bq.keysBs, aT, ap, bj, cp, bD, cg, af, af.passKs, aD, aL, ae, ae.lendKs, cM, cq, cz, bG, setInn, ag, cN, db, ay, br, bP, cj, aC, aU, Glob.gl, ax, cK, aZ, cm, bv, aj, cD, cS, cB, cW, cu, au, au.ptrOnlys, ak, aM, bY, aB, bI, a8, bU, aQ, bp, cF, Nat.reduceBEq, undef]; simp
  · by_cases h : i < ws.length
    · have hi2 : (i : Int) < (ws.length : Int) := by omega
      have hwl := c2 (ws.getD i []) (by rw [List.getD_eq_getElem?_getD, List.getElem?_eq_getElem h]; exact List.getElem_mem h)
      have hg := wsB_getD ws i
      have hws : (mkB (ws.getD i [])).size ≤ 1000000 := by rw [mkB_size]; omega
      have hcw : cutB 44 (mkB (ws.getD i [])) = (cutL 44 (ws.getD i [])).map mkB := rfl
      have hos := outsR_succ h
      have hol := outsR_len hi
      have hbad := allR_none h
      obtain ⟨d1, d2⟩ := cut_len 44 (ws.getD i [])
      have hwd : wordR (ws.getD i []) = match cutL 44 (ws.getD i []) with
        | [a, b] => (numR a).bind fun x => (numR b).map fun y => ⟨x, y⟩
        | _ => none := rfl
      generalize hww : ws.getD i [] = w at *
      by_cases h2 : ((cutL 44 w).length : Int) = 2
      · obtain ⟨a, b, hab⟩ : ∃ a b, cutL 44 w = [a, b] := by
          match hq : cutL 44 w, h2 with
          | [a, b], _ => exact ⟨a, b, rfl⟩
          | [], h2 => simp at h2
          | [a], h2 => simp at h2
          | a :: b :: c :: r, h2 => simp at h2; omega
        rw [hab] at d2 hwd hcw
        have ha6 : (mkB a).size ≤ 1000000 := by have := d2 a (by simp); rw [mkB_size]; omega
        have hb6 : (mkB b).size ≤ 1000000 := by have := d2 b (by simp); rw [mkB_size]; omega
        cases hA : numR a with
        | none =>
          have hn := hbad (by rw [hwd]; simp only [hA]; rfl)
          rw [hn] at hE hV
          delta c8l1
          simp (maxSteps := 4000000) -implicitDefEqProofs only [rv8, hi2, h, hg, hww, ent25, ent26, h44, hws, hcw, ha6, hb6, hA, mkB_list, hE, hV, InR, Int.cast_ofNat_Int, Int.natCast_one, Int.natCast_zero, Int.reduceAdd, Int.reduceSub, Int.reduceMul, Int.reduceLT, Int.reduceLE, Int.reduceTMod, Int.reduceTDiv, Int.reduceNeg, Int.reduceEq, Nat.reducePow, Int.reducePow, ne_eq, not_false_eq_true, Ent.of0, Ent.of1, Ent.of2, Ent.of3, V, cc, bE, bN, bR, cV, cT, gt, lk, co, cC, cJ, cd, ca, bV, bV.subCs, cO, bu, bF, bZ, aV, bt, bh, aW, bM, bK, aH, a7, aX, cr, dd, cY, aq, aw, bT, cI, cb, cP, cU, aP, am, bQ, bJ, zC, argS, bO, ce, da, cR, ai, aE, aO, aA, cG, leC, cn, b0, bW, dc, bX, aR, aF, cZ, ah, cL, bf, bf.viewCs, bA, bA.flatCs, aK, aK.LensOks, Value.oneCell', ↓reduceIte, ite_true, ite_false, if_true, if_false, Nat.reduceAdd, Nat.reduceSub, Nat.reduceMul, Nat.reduceEqDiff, Nat.reduceLT, Nat.reduceLeDiff, reduceCtorEq, Int.reduceToNat, forall_const, implies_true, a6, Ent.mk3, bw, bC, bB, bk, bl, bo, bH, bL, bg, be, bz, cH, bn, cQ, rn, bS, bS.renCs, aI, aN, aY, aY.viewOks, aJ, bm, bm.flatBs, aG, an, av, ar, az, bq, bq.keysBs, aT, ap, bj, cp, bD, cg, af, af.passKs, aD, aL, ae, ae.lendKs, cM, cq, cz, bG, setInn, ag, cN, db, ay, br, bP, cj, aC, aU, Glob.gl, ax, cK, aZ, cm, bv, aj, cD, cS, cB, cW, cu, au, au.ptrOnlys, ak, aM, bY, aB, bI, a8, bU, aQ, bp, cF, Nat.reduceBEq, undef]
          omega
        | some x =>
          cases hB : numR b with
          | none =>
            have hn := hbad (by rw [hwd]; simp only [hA, hB]; rfl)
            rw [hn] at hE hV
            delta c8l1
            simp (maxSteps := 4000000) -implicitDefEqProofs only [rv8, hi2, h, hg, hww, ent25, ent26, h44, hws, hcw, ha6, hb6, hA, hB, mkB_list, hE, hV, InR, Int.cast_ofNat_Int, Int.natCast_one, Int.natCast_zero, Int.reduceAdd, Int.reduceSub, Int.reduceMul, Int.reduceLT, Int.reduceLE, Int.reduceTMod, Int.reduceTDiv, Int.reduceNeg, Int.reduceEq, Nat.reducePow, Int.reducePow, ne_eq, not_false_eq_true, Ent.of0, Ent.of1, Ent.of2, Ent.of3, V, cc, bE, bN, bR, cV, cT, gt, lk, co, cC, cJ, cd, ca, bV, bV.subCs, cO, bu, bF, bZ, aV, bt, bh, aW, bM, bK, aH, a7, aX, cr, dd, cY, aq, aw, bT, cI, cb, cP, cU, aP, am, bQ, bJ, zC, argS, bO, ce, da, cR, ai, aE, aO, aA, cG, leC, cn, b0, bW, dc, bX, aR, aF, cZ, ah, cL, bf, bf.viewCs, bA, bA.flatCs, aK, aK.LensOks, Value.oneCell', ↓reduceIte, ite_true, ite_false, if_true, if_false, Nat.reduceAdd, Nat.reduceSub, Nat.reduceMul, Nat.reduceEqDiff, Nat.reduceLT, Nat.reduceLeDiff, reduceCtorEq, Int.reduceToNat, forall_const, implies_true, a6, Ent.mk3, bw, bC, bB, bk, bl, bo, bH, bL, bg, be, bz, cH, bn, cQ, rn, bS, bS.renCs, aI, aN, aY, aY.viewOks, aJ, bm, bm.flatBs, aG, an, av, ar, az, bq, bq.keysBs, aT, ap, bj, cp, bD, cg, af, af.passKs, aD, aL, ae, ae.lendKs, cM, cq, cz, bG, setInn, ag, cN, db, ay, br, bP, cj, aC, aU, Glob.gl, ax, cK, aZ, cm, bv, aj, cD, cS, cB, cW, cu, au, au.ptrOnlys, ak, aM, bY, aB, bI, a8, bU, aQ, bp, cF, Nat.reduceBEq, undef]
            omega
          | some y =>
            have hw2 : wordR w = some ⟨x, y⟩ := by rw [hwd]; simp only [hA, hB]; rfl
            have hap : (outsR ws i).map cells ++ [[C.s (.int .i64 x), C.s (.int .i64 y)]] = (outsR ws (i + 1)).map cells := by rw [hos, hw2, List.map_append]; rfl
            delta c8l1
            simp (maxSteps := 4000000) -implicitDefEqProofs only [rv8, hi2, h, hg, hww, ent25, ent26, h44, hws, hcw, ha6, hb6, hA, hB, hap, hol, mkB_list, InR, Int.cast_ofNat_Int, Int.natCast_one, Int.natCast_zero, Int.reduceAdd, Int.reduceSub, Int.reduceMul, Int.reduceLT, Int.reduceLE, Int.reduceTMod, Int.reduceTDiv, Int.reduceNeg, Int.reduceEq, Nat.reducePow, Int.reducePow, ne_eq, not_false_eq_true, Ent.of0, Ent.of1, Ent.of2, Ent.of3, V, cc, bE, bN, bR, cV, cT, gt, lk, co, cC, cJ, cd, ca, bV, bV.subCs, cO, bu, bF, bZ, aV, bt, bh, aW, bM, bK, aH, a7, aX, cr, dd, cY, aq, aw, bT, cI, cb, cP, cU, aP, am, bQ, bJ, zC, argS, bO, ce, da, cR, ai, aE, aO, aA, cG, leC, cn, b0, bW, dc, bX, aR, aF, cZ, ah, cL, bf, bf.viewCs, bA, bA.flatCs, aK, aK.LensOks, Value.oneCell', ↓reduceIte, ite_true, ite_false, if_true, if_false, Nat.reduceAdd, Nat.reduceSub, Nat.reduceMul, Nat.reduceEqDiff, Nat.reduceLT, Nat.reduceLeDiff, reduceCtorEq, Int.reduceToNat, forall_const, implies_true, a6, Ent.mk3, bw, bC, bB, bk, bl, bo, bH, bL, bg, be, bz, cH, bn, cQ, rn, bS, bS.renCs, aI, aN, aY, aY.viewOks, aJ, bm, bm.flatBs, aG, an, av, ar, az, bq, bq.keysBs, aT, ap, bj, cp, bD, cg, af, af.passKs, aD, aL, ae, ae.lendKs, cM, cq, cz, bG, setInn, ag, cN, db, ay, br, bP, cj, aC, aU, Glob.gl, ax, cK, aZ, cm, bv, aj, cD, cS, cB, cW, cu, au, au.ptrOnlys, ak, aM, bY, aB, bI, a8, bU, aQ, bp, cF, Nat.reduceBEq, undef]
            exact ⟨by omega, ⟨by omega, by omega⟩, by omega, fun j hj => (by rcases Nat.lt_succ_iff_lt_or_eq.1 hj with h | rfl; exact hv j h; rw [hww, hw2]; rfl), by push_cast; rfl⟩
      · have hn := hbad (by
          rw [hwd]
          split
          · rename_i a b hq; rw [hq] at h2; exact absurd rfl h2
          · rfl)
        rw [hn] at hE hV
        delta c8l1
        simp (maxSteps := 4000000) -implicitDefEqProofs only [rv8, hi2, h, hg, hww, ent25, ent26, h44, hws, hcw, h2, hE, hV, InR, Int.cast_ofNat_Int, Int.natCast_one, Int.natCast_zero, Int.reduceAdd, Int.reduceSub, Int.reduceMul, Int.reduceLT, Int.reduceLE, Int.reduceTMod, Int.reduceTDiv, Int.reduceNeg, Int.reduceEq, Nat.reducePow, Int.reducePow, ne_eq, not_false_eq_true, Ent.of0, Ent.of1, Ent.of2, Ent.of3, V, cc, bE, bN, bR, cV, cT, gt, lk, co, cC, cJ, cd, ca, bV, bV.subCs, cO, bu, bF, bZ, aV, bt, bh, aW, bM, bK, aH, a7, aX, cr, dd, cY, aq, aw, bT, cI, cb, cP, cU, aP, am, bQ, bJ, zC, argS, bO, ce, da, cR, ai, aE, aO, aA, cG, leC, cn, b0, bW, dc, bX, aR, aF, cZ, ah, cL, bf, bf.viewCs, bA, bA.flatCs, aK, aK.LensOks, Value.oneCell', ↓reduceIte, ite_true, ite_false, if_true, if_false, Nat.reduceAdd, Nat.reduceSub, Nat.reduceMul, Nat.reduceEqDiff, Nat.reduceLT, Nat.reduceLeDiff, reduceCtorEq, Int.reduceToNat, forall_const, implies_true, a6, Ent.mk3, bw, bC, bB, bk, bl, bo, bH, bL, bg, be, bz, cH, bn, cQ, rn, bS, bS.renCs, aI, aN, aY, aY.viewOks, aJ, bm, bm.flatBs, aG, an, av, ar, az, bq, bq.keysBs, aT, ap, bj, cp, bD, cg, af, af.passKs, aD, aL, ae, ae.lendKs, cM, cq, cz, bG, setInn, ag, cN, db, ay, br, bP, cj, aC, aU, Glob.gl, ax, cK, aZ, cm, bv, aj, cD, cS, cB, cW, cu, au, au.ptrOnlys, ak, aM, bY, aB, bI, a8, bU, aQ, bp, cF, Nat.reduceBEq, undef]
        omega
    · have hi2 : ¬ (i : Int) < (ws.length : Int) := by omega
      have hie : i = ws.length := by omega
      subst hie
      have hall := allR_some hv
      have ho : outsR ws ws.length = ws.map fun w => (wordR w).getD ⟨0, 0⟩ := by rw [outsR, List.take_length]
      rw [hall, ← ho] at hE hV
      simp only at hE hV
      by_cases he : symErr (outsR ws ws.length) = 0
      · rw [if_pos he] at hV
        rw [he] at hE
        delta c8l1
        simp (maxSteps := 4000000) -implicitDefEqProofs only [rv8, hi2, ent25, ent26, ent11, he, hE, hV, InR, Int.cast_ofNat_Int, Int.natCast_one, Int.natCast_zero, Int.reduceAdd, Int.reduceSub, Int.reduceMul, Int.reduceLT, Int.reduceLE, Int.reduceTMod, Int.reduceTDiv, Int.reduceNeg, Int.reduceEq, Nat.reducePow, Int.reducePow, ne_eq, not_false_eq_true, Ent.of0, Ent.of1, Ent.of2, Ent.of3, V, cc, bE, bN, bR, cV, cT, gt, lk, co, cC, cJ, cd, ca, bV, bV.subCs, cO, bu, bF, bZ, aV, bt, bh, aW, bM, bK, aH, a7, aX, cr, dd, cY, aq, aw, bT, cI, cb, cP, cU, aP, am, bQ, bJ, zC, argS, bO, ce, da, cR, ai, aE, aO, aA, cG, leC, cn, b0, bW, dc, bX, aR, aF, cZ, ah, cL, bf, bf.viewCs, bA, bA.flatCs, aK, aK.LensOks, Value.oneCell', ↓reduceIte, ite_true, ite_false, if_true, if_false, Nat.reduceAdd, Nat.reduceSub, Nat.reduceMul, Nat.reduceEqDiff, Nat.reduceLT, Nat.reduceLeDiff, reduceCtorEq, Int.reduceToNat, forall_const, implies_true, a6, Ent.mk3, bw, bC, bB, bk, bl, bo, bH, bL, bg, be, bz, cH, bn, cQ, rn, bS, bS.renCs, aI, aN, aY, aY.viewOks, aJ, bm, bm.flatBs, aG, an, av, ar, az, bq, bq.keysBs, aT, ap, bj, cp, bD, cg, af, af.passKs, aD, aL, ae, ae.lendKs, cM, cq, cz, bG, setInn, ag, cN, db, ay, br, bP, cj, aC, aU, Glob.gl, ax, cK, aZ, cm, bv, aj, cD, cS, cB, cW, cu, au, au.ptrOnlys, ak, aM, bY, aB, bI, a8, bU, aQ, bp, cF, Nat.reduceBEq, undef]
      · rw [if_neg he] at hV
        delta c8l1
        simp (maxSteps := 4000000) -implicitDefEqProofs only [rv8, hi2, ent25, ent26, ent11, he, hE, hV, InR, Int.cast_ofNat_Int, Int.natCast_one, Int.natCast_zero, Int.reduceAdd, Int.reduceSub, Int.reduceMul, Int.reduceLT, Int.reduceLE, Int.reduceTMod, Int.reduceTDiv, Int.reduceNeg, Int.reduceEq, Nat.reducePow, Int.reducePow, ne_eq, not_false_eq_true, Ent.of0, Ent.of1, Ent.of2, Ent.of3, V, cc, bE, bN, bR, cV, cT, gt, lk, co, cC, cJ, cd, ca, bV, bV.subCs, cO, bu, bF, bZ, aV, bt, bh, aW, bM, bK, aH, a7, aX, cr, dd, cY, aq, aw, bT, cI, cb, cP, cU, aP, am, bQ, bJ, zC, argS, bO, ce, da, cR, ai, aE, aO, aA, cG, leC, cn, b0, bW, dc, bX, aR, aF, cZ, ah, cL, bf, bf.viewCs, bA, bA.flatCs, aK, aK.LensOks, Value.oneCell', ↓reduceIte, ite_true, ite_false, if_true, if_false, Nat.reduceAdd, Nat.reduceSub, Nat.reduceMul, Nat.reduceEqDiff, Nat.reduceLT, Nat.reduceLeDiff, reduceCtorEq, Int.reduceToNat, forall_const, implies_true, a6, Ent.mk3, bw, bC, bB, bk, bl, bo, bH, bL, bg, be, bz, cH, bn, cQ, rn, bS, bS.renCs, aI, aN, aY, aY.viewOks, aJ, bm, bm.flatBs, aG, an, av, ar, az, bq, bq.keysBs, aT, ap, bj, cp, bD, cg, af, af.passKs, aD, aL, ae, ae.lendKs, cM, cq, cz, bG, setInn, ag, cN, db, ay, br, bP, cj, aC, aU, Glob.gl, ax, cK, aZ, cm, bv, aj, cD, cS, cB, cW, cu, au, au.ptrOnlys, ak, aM, bY, aB, bI, a8, bU, aQ, bp, cF, Nat.reduceBEq, undef]
def ent8 : Ent Tryz.prog := .of1 8 (fun s => s.size ≤ 1000) (fun s : ByteArray => .tup [enc (parsV s.data.toList), enc (parsE s.data.toList)]) (fun _ => ⟨trivial, trivial, trivial⟩) (fun s h => RParse_c s h)
end Go.Proofs.YtfgpbmjmoobcnaaGreatDoor
end
section
open Go Go.Am
open Go.Am.Dat (cells)
namespace Go.Proofs.YtfgpbmjmoobcnaaGreatDoor
set_option maxHeartbeats 4000000
set_option maxRecDepth 100000
set_option linter.unusedSimpArgs false
set_option linter.unusedVariables false
theorem numR_comma {l : List UInt8} (h : (44 : UInt8) ∈ l) : numR l = none := by
  cases hq : numR l with
  | none => rfl
  | some v =>
    exfalso
    obtain ⟨_, _, h3, _, _⟩ := num_itoa hq
    have hm : (44 : UInt8) ∈ digs l := by
      rw [digs]
      split
      · rename_i h1
        cases l with
        | nil => cases h1
        | cons b r =>
          cases h1
          rcases List.mem_cons.1 h with e | e
          · exact absurd e (by decide)
          · exact e
      · exact h
    have := List.all_eq_true.1 h3 _ hm
    exact absurd this (by decide)
theorem word_cut2 (w : List UInt8) : wordR w = (numR (cut2 w).1).bind fun x => (numR (cut2 w).2).map fun y => ⟨x, y⟩ := by
  rcases idx_bd w 44 with ⟨h1, h2⟩ | ⟨j, h1, h2, h3, h4⟩
  · have e : cut2 w = (w, []) := by rw [cut2, if_pos h1]
    have e2 : numR [] = none := rfl
    rw [e, wordR, cut_none h2]
    simp only [e2]
    cases numR w <;> rfl
  · have hj : ¬ (j : Int) = -1 := by omega
    have e : cut2 w = (w.take j, w.drop (j + 1)) := by rw [cut2, h1, if_neg hj, Int.toNat_natCast]
    have hm := mem_seg (l := w) (c := 44) (f := 0) (n := j) (fun k _ b => h4 k (by omega))
    have e0 := drop_split (l := w) (c := 44) (f := 0) (i := j) (Nat.zero_le _) h2 h3
    simp only [List.drop_zero, Nat.sub_zero] at hm e0
    have ec : cutL 44 w = w.take j :: cutL 44 (w.drop (j + 1)) := (congrArg _ e0).trans (cut_hit hm)
    rw [e, wordR, ec]
    generalize w.drop (j + 1) = b
    rcases idx_bd b 44 with ⟨g1, g2⟩ | ⟨k, g1, g2, g3, g4⟩
    · rw [cut_none g2]
    · have hm2 := mem_seg (l := b) (c := 44) (f := 0) (n := k) (fun k _ b => g4 k (by omega))
      have e2 := drop_split (l := b) (c := 44) (f := 0) (i := k) (Nat.zero_le _) g2 g3
      simp only [List.drop_zero, Nat.sub_zero] at hm2 e2
      have ec2 : cutL 44 b = b.take k :: cutL 44 (b.drop (k + 1)) := (congrArg _ e2).trans (cut_hit hm2)
      have hmem : (44 : UInt8) ∈ b := by rw [e2]; simp
      rw [ec2, numR_comma hmem]
      cases hq : cutL 44 (b.drop (k + 1)) with
      | nil => exact absurd hq (cut_ne _ _)
      | cons p ps =>
        cases numR (w.take j) <;> rfl
theorem cut2_len (w : List UInt8) : (cut2 w).1.length ≤ w.length ∧ (cut2 w).2.length ≤ w.length := by
  unfold cut2
  split
  · exact ⟨Nat.le_refl _, Nat.zero_le _⟩
  · exact ⟨by simp [List.length_take]; omega, by simp⟩
theorem rounds_ex (ws : List (List UInt8)) (h0 : ws ≠ []) : ∃ (N : Nat) (fin : Bool), 0 < N ∧ N ≤ ws.length ∧ (fin = true → N = ws.length) ∧ (fin = true → ∀ i, i < ws.length → (wordR (ws.getD i [])).isSome = true) ∧
    (∀ i, i < N → wordR (ws.getD i []) ≠ none → i + 1 < N ∨ fin = true) := by
  by_cases h : ∀ i, i < ws.length → (wordR (ws.getD i [])).isSome = true
  · exact ⟨ws.length, true, List.length_pos_iff.2 h0, Nat.le_refl _, fun _ => rfl, fun _ => h, fun _ _ _ => .inr rfl⟩
  · have h' : ∃ i, i < ws.length ∧ wordR (ws.getD i []) = none := by
      refine Classical.byContradiction fun hc => h fun i hi => ?_
      cases hq : wordR (ws.getD i []) with
      | none => exact absurd ⟨i, hi, hq⟩ hc
      | some g => rfl
    obtain ⟨m, hm, hn⟩ := h'
    refine ⟨m + 1, false, by omega, by omega, fun h => (by cases h), fun h => (by cases h), fun i hi hne => ?_⟩
    rcases Nat.lt_succ_iff_lt_or_eq.1 hi with h | rfl
    · exact .inl (by omega)
    · exact absurd hn hne
theorem Parse_c (s : ByteArray) (hs : s.size ≤ 1000) : FC Tryz.prog 7 [enc s] [] (.tup [enc (parsV s.data.toList), enc (parsE s.data.toList)]) [] := by
  refine fc_introC [] is7 (by simp) trivial trivial trivial trivial (fun cx hcx hl _ => S_run [ent21] 800 ?_)
  delta c7
  simp (maxSteps := 4000000) -implicitDefEqProofs only [rv7, ent21, Ent.of0, Ent.of1, Ent.of2, Ent.of3, V, cc, bE, bN, bR, cV, cT, gt, lk, co, cC, cJ, cd, ca, bV, bV.subCs, cO, bu, bF, bZ, aV, bt, bh, aW, bM, bK, aH, a7, aX, cr, dd, cY, aq, aw, bT, cI, cb, cP, cU, aP, am, bQ, bJ, zC, argS, bO, ce, da, cR, ai, aE, aO, aA, cG, leC, cn, b0, bW, dc, bX, aR, aF, cZ, ah, cL, bf, bf.viewCs, bA, bA.flatCs, aK, aK.LensOks, Value.oneCell', ↓reduceIte, ite_true, ite_false, if_true, if_false, Nat.reduceAdd, Nat.reduceSub, Nat.reduceMul, Nat.reduceEqDiff, Nat.reduceLT, Nat.reduceLeDiff, reduceCtorEq, Int.reduceToNat, forall_const, implies_true, a6, Ent.mk3, bw, bC, bB, bk, bl, bo, bH, bL, bg, be, bz, cH, bn, cQ, rn, bS, bS.renCs, aI, aN, aY, aY.viewOks, aJ, bm, bm.flatBs, aG, an, av, ar, az, bq, bq.keysBs, aT, ap, bj, cp, bD, cg, af, af.passKs, aD, aL, ae, ae.lendKs, cM, cq, cz, bG, setInn, ag, cN, db, ay, br, bP, cj, aC, aU, Glob.gl, ax, cK, aZ, cm, bv, aj, cD, cS, cB, cW, cu, au, au.ptrOnlys, ak, aM, bY, aB, bI, a8, bU, aQ, bp, cF, Nat.reduceBEq, undef]
  obtain ⟨c1, c2⟩ := cut_len 32 s.data.toList
  have hne := cut_ne 32 s.data.toList
  rw [data_len] at c1 c2
  obtain ⟨N, fin, n1, n2, n3, n4, n5⟩ := rounds_ex _ hne
  have hit : ItC Tryz.prog 77 [] [.ptr 201015 0, .ptr 200015 0, .ptr 202015 0] [(200015, .box [.s (.string s)]), (201015, .box [.s (.string ⟨#[32]⟩)]), (202015, .box [.s (.int .i64 0)])] 100000 (pieceV s.data.toList) N fin :=
    split_c s.data.toList (by rw [data_len]; omega) N fin n1 n2 n3
  have hpv : ∀ i, pieceV s.data.toList i = [.s (.string (mkB ((cutL 32 s.data.toList).getD i [])))] := fun i => rfl
  have hE : parsE s.data.toList = match allR (cutL 32 s.data.toList) with
    | none => 7
    | some out => symErr out := rfl
  have hV : parsV s.data.toList = match allR (cutL 32 s.data.toList) with
    | none => []
    | some out => if symErr out = 0 then out else [] := rfl
  generalize parsE s.data.toList = PE at *
  generalize parsV s.data.toList = PV at *
  generalize pieceV s.data.toList = pv at *
  generalize cutL 32 s.data.toList = ws at *
  refine S_sh 200000 (by rw [hcx.2.2]; exact Nat.le_refl _) (by rfl) ?_
  simp (maxSteps := 4000000) -implicitDefEqProofs only [Ent.of0, Ent.of1, Ent.of2, Ent.of3, V, cc, bE, bN, bR, cV, cT, gt, lk, co, cC, cJ, cd, ca, bV, bV.subCs, cO, bu, bF, bZ, aV, bt, bh, aW, bM, bK, aH, a7, aX, cr, dd, cY, aq, aw, bT, cI, cb, cP, cU, aP, am, bQ, bJ, zC, argS, bO, ce, da, cR, ai, aE, aO, aA, cG, leC, cn, b0, bW, dc, bX, aR, aF, cZ, ah, cL, bf, bf.viewCs, bA, bA.flatCs, aK, aK.LensOks, Value.oneCell', ↓reduceIte, ite_true, ite_false, if_true, if_false, Nat.reduceAdd, Nat.reduceSub, Nat.reduceMul, Nat.reduceEqDiff, Nat.reduceLT, Nat.reduceLeDiff, reduceCtorEq, Int.reduceToNat, forall_const, implies_true, a6, Ent.mk3, bw, bC, bB, bk, bl, bo, bH, bL, bg, be, bz, cH, bn, cQ, rn, bS, bS.renCs, aI, aN, aY, aY.viewOks, aJ, bm, bm.flatBs, aG, an, av, ar, az, bq, bq.keysBs, aT, ap, bj, cp, bD, cg, af, af.passKs, aD, aL, ae, ae.lendKs, cM, cq, cz, bG, setInn, ag, cN, db, ay, br, bP, cj, aC, aU, Glob.gl, ax, cK, aZ, cm, bv, aj, cD, cS, cB, cW, cu, au, au.ptrOnlys, ak, aM, bY, aB, bI, a8, bU, aQ, bp, cF, Nat.reduceBEq, undef]
  refine S_rangeFunc (f := 77) (first := []) (caps := [.ptr 201015 0, .ptr 200015 0, .ptr 202015 0]) (ich := [(200015, .box [.s (.string s)]), (201015, .box [.s (.string ⟨#[32]⟩)]), (202015, .box [.s (.int .i64 0)])]) (kr := 100000) (vals := pv) (N := N) (fin := fin) [200002, 200003, 200004]
    (fun i => [(200002, .box [.s (.slice none 0 0)]), (200003, .box [.s (.int .i64 0)]), (200004, .box [if i = 0 then .s (.slice none 0 0) else .isl 2 43 ((outsR ws i).map cells)])])
    hcx.2.1 rfl hit ⟨?_, ?_⟩ ⟨fun c hc => ?_, fun k c hc => ?_⟩ ?_ (fun i hi => ?_) (fun k hk => ?_) (fun i hi => ?_) (fun i hi cx' _ hcx' => S_run [] 800 ?_) (fun hfin => ?_)
  · simp (maxSteps := 4000000) -implicitDefEqProofs only [Ent.of0, Ent.of1, Ent.of2, Ent.of3, V, cc, bE, bN, bR, cV, cT, gt, lk, co, cC, cJ, cd, ca, bV, bV.subCs, cO, bu, bF, bZ, aV, bt, bh, aW, bM, bK, aH, a7, aX, cr, dd, cY, aq, aw, bT, cI, cb, cP, cU, aP, am, bQ, bJ, zC, argS, bO, ce, da, cR, ai, aE, aO, aA, cG, leC, cn, b0, bW, dc, bX, aR, aF, cZ, ah, cL, bf, bf.viewCs, bA, bA.flatCs, aK, aK.LensOks, Value.oneCell', ↓reduceIte, ite_true, ite_false, if_true, if_false, Nat.reduceAdd, Nat.reduceSub, Nat.reduceMul, Nat.reduceEqDiff, Nat.reduceLT, Nat.reduceLeDiff, reduceCtorEq, Int.reduceToNat, forall_const, implies_true, a6, Ent.mk3, bw, bC, bB, bk, bl, bo, bH, bL, bg, be, bz, cH, bn, cQ, rn, bS, bS.renCs, aI, aN, aY, aY.viewOks, aJ, bm, bm.flatBs, aG, an, av, ar, az, bq, bq.keysBs, aT, ap, bj, cp, bD, cg, af, af.passKs, aD, aL, ae, ae.lendKs, cM, cq, cz, bG, setInn, ag, cN, db, ay, br, bP, cj, aC, aU, Glob.gl, ax, cK, aZ, cm, bv, aj, cD, cS, cB, cW, cu, au, au.ptrOnlys, ak, aM, bY, aB, bI, a8, bU, aQ, bp, cF, Nat.reduceBEq, undef]
  · simp (maxSteps := 4000000) -implicitDefEqProofs only [Ent.of0, Ent.of1, Ent.of2, Ent.of3, V, cc, bE, bN, bR, cV, cT, gt, lk, co, cC, cJ, cd, ca, bV, bV.subCs, cO, bu, bF, bZ, aV, bt, bh, aW, bM, bK, aH, a7, aX, cr, dd, cY, aq, aw, bT, cI, cb, cP, cU, aP, am, bQ, bJ, zC, argS, bO, ce, da, cR, ai, aE, aO, aA, cG, leC, cn, b0, bW, dc, bX, aR, aF, cZ, ah, cL, bf, bf.viewCs, bA, bA.flatCs, aK, aK.LensOks, Value.oneCell', ↓reduceIte, ite_true, ite_false, if_true, if_false, Nat.reduceAdd, Nat.reduceSub, Nat.reduceMul, Nat.reduceEqDiff, Nat.reduceLT, Nat.reduceLeDiff, reduceCtorEq, Int.reduceToNat, forall_const, implies_true, a6, Ent.mk3, bw, bC, bB, bk, bl, bo, bH, bL, bg, be, bz, cH, bn, cQ, rn, bS, bS.renCs, aI, aN, aY, aY.viewOks, aJ, bm, bm.flatBs, aG, an, av, ar, az, bq, bq.keysBs, aT, ap, bj, cp, bD, cg, af, af.passKs, aD, aL, ae, ae.lendKs, cM, cq, cz, bG, setInn, ag, cN, db, ay, br, bP, cj, aC, aU, Glob.gl, ax, cK, aZ, cm, bv, aj, cD, cS, cB, cW, cu, au, au.ptrOnlys, ak, aM, bY, aB, bI, a8, bU, aQ, bp, cF, Nat.reduceBEq, undef]
  · simp only [List.nil_append, List.mem_cons, List.not_mem_nil, or_false] at hc
    rcases hc with rfl | rfl | rfl <;> simp [keysIn, aF]
  · simp only [List.mem_cons, Prod.mk.injEq, List.not_mem_nil, or_false] at hc
    rcases hc with ⟨rfl, rfl⟩ | ⟨rfl, rfl⟩ | ⟨rfl, rfl⟩ <;> exact ⟨trivial, trivial⟩
  · simp (maxSteps := 4000000) -implicitDefEqProofs only [Ent.of0, Ent.of1, Ent.of2, Ent.of3, V, cc, bE, bN, bR, cV, cT, gt, lk, co, cC, cJ, cd, ca, bV, bV.subCs, cO, bu, bF, bZ, aV, bt, bh, aW, bM, bK, aH, a7, aX, cr, dd, cY, aq, aw, bT, cI, cb, cP, cU, aP, am, bQ, bJ, zC, argS, bO, ce, da, cR, ai, aE, aO, aA, cG, leC, cn, b0, bW, dc, bX, aR, aF, cZ, ah, cL, bf, bf.viewCs, bA, bA.flatCs, aK, aK.LensOks, Value.oneCell', ↓reduceIte, ite_true, ite_false, if_true, if_false, Nat.reduceAdd, Nat.reduceSub, Nat.reduceMul, Nat.reduceEqDiff, Nat.reduceLT, Nat.reduceLeDiff, reduceCtorEq, Int.reduceToNat, forall_const, implies_true, a6, Ent.mk3, bw, bC, bB, bk, bl, bo, bH, bL, bg, be, bz, cH, bn, cQ, rn, bS, bS.renCs, aI, aN, aY, aY.viewOks, aJ, bm, bm.flatBs, aG, an, av, ar, az, bq, bq.keysBs, aT, ap, bj, cp, bD, cg, af, af.passKs, aD, aL, ae, ae.lendKs, cM, cq, cz, bG, setInn, ag, cN, db, ay, br, bP, cj, aC, aU, Glob.gl, ax, cK, aZ, cm, bv, aj, cD, cS, cB, cW, cu, au, au.ptrOnlys, ak, aM, bY, aB, bI, a8, bU, aQ, bp, cF, Nat.reduceBEq, undef]
  · simp (maxSteps := 4000000) -implicitDefEqProofs only [Ent.of0, Ent.of1, Ent.of2, Ent.of3, V, cc, bE, bN, bR, cV, cT, gt, lk, co, cC, cJ, cd, ca, bV, bV.subCs, cO, bu, bF, bZ, aV, bt, bh, aW, bM, bK, aH, a7, aX, cr, dd, cY, aq, aw, bT, cI, cb, cP, cU, aP, am, bQ, bJ, zC, argS, bO, ce, da, cR, ai, aE, aO, aA, cG, leC, cn, b0, bW, dc, bX, aR, aF, cZ, ah, cL, bf, bf.viewCs, bA, bA.flatCs, aK, aK.LensOks, Value.oneCell', ↓reduceIte, ite_true, ite_false, if_true, if_false, Nat.reduceAdd, Nat.reduceSub, Nat.reduceMul, Nat.reduceEqDiff, Nat.reduceLT, Nat.reduceLeDiff, reduceCtorEq, Int.reduceToNat, forall_const, implies_true, a6, Ent.mk3, bw, bC, bB, bk, bl, bo, bH, bL, bg, be, bz, cH, bn, cQ, rn, bS, bS.renCs, aI, aN, aY, aY.viewOks, aJ, bm, bm.flatBs, aG, an, av, ar, az, bq, bq.keysBs, aT, ap, bj, cp, bD, cg, af, af.passKs, aD, aL, ae, ae.lendKs, cM, cq, cz, bG, setInn, ag, cN, db, ay, br, bP, cj, aC, aU, Glob.gl, ax, cK, aZ, cm, bv, aj, cD, cS, cB, cW, cu, au, au.ptrOnlys, ak, aM, bY, aB, bI, a8, bU, aQ, bp, cF, Nat.reduceBEq, undef]
    simp
  · rw [hcx.2.2]
    simp only [List.mem_cons, List.not_mem_nil, or_false] at hk
    omega
  · rw [hpv]
    refine ⟨rfl, fun c hc => ?_⟩
    simp only [List.mem_singleton] at hc; subst hc; trivial
  · simp (maxSteps := 4000000) -implicitDefEqProofs only [hpv, Ent.of0, Ent.of1, Ent.of2, Ent.of3, V, cc, bE, bN, bR, cV, cT, gt, lk, co, cC, cJ, cd, ca, bV, bV.subCs, cO, bu, bF, bZ, aV, bt, bh, aW, bM, bK, aH, a7, aX, cr, dd, cY, aq, aw, bT, cI, cb, cP, cU, aP, am, bQ, bJ, zC, argS, bO, ce, da, cR, ai, aE, aO, aA, cG, leC, cn, b0, bW, dc, bX, aR, aF, cZ, ah, cL, bf, bf.viewCs, bA, bA.flatCs, aK, aK.LensOks, Value.oneCell', ↓reduceIte, ite_true, ite_false, if_true, if_false, Nat.reduceAdd, Nat.reduceSub, Nat.reduceMul, Nat.reduceEqDiff, Nat.reduceLT, Nat.reduceLeDiff, reduceCtorEq, Int.reduceToNat, forall_const, implies_true, a6, Ent.mk3, bw, bC, bB, bk, bl, bo, bH, bL, bg, be, bz, cH, bn, cQ, rn, bS, bS.renCs, aI, aN, aY, aY.viewOks, aJ, bm, bm.flatBs, aG, an, av, ar, az, bq, bq.keysBs, aT, ap, bj, cp, bD, cg, af, af.passKs, aD, aL, ae, ae.lendKs, cM, cq, cz, bG, setInn, ag, cN, db, ay, br, bP, cj, aC, aU, Glob.gl, ax, cK, aZ, cm, bv, aj, cD, cS, cB, cW, cu, au, au.ptrOnlys, ak, aM, bY, aB, bI, a8, bU, aQ, bp, cF, Nat.reduceBEq, undef]
    intro cx'' _ _
    refine S_run [ent22, ent23] 800 ?_
    have hiw : i < ws.length := by omega
    have hwl := c2 (ws.getD i []) (by rw [List.getD_eq_getElem?_getD, List.getElem?_eq_getElem hiw]; exact List.getElem_mem hiw)
    have hos := outsR_succ hiw
    have hol := outsR_len (Nat.le_of_lt hiw)
    have hbad := allR_none hiw
    have hnx := n5 i hi
    have hw2 := word_cut2 (ws.getD i [])
    obtain ⟨d1, d2⟩ := cut2_len (ws.getD i [])
    generalize hww : ws.getD i [] = w at *
    have hws : (mkB w).size ≤ 1000000 := by rw [mkB_size]; omega
    have ha6 : (mkB (cut2 w).1).size ≤ 1000000 := by rw [mkB_size]; omega
    have hb6 : (mkB (cut2 w).2).size ≤ 1000000 := by rw [mkB_size]; omega
    have hcm : (⟨#[44]⟩ : ByteArray) = comma := rfl
    generalize hca : (cut2 w).1 = a at *
    generalize hcb : (cut2 w).2 = b at *
    cases hA : numR a with
    | none =>
      have hn := hbad (by rw [hw2, hA]; rfl)
      rw [hn] at hE hV
      delta c7r1
      simp (maxSteps := 4000000) -implicitDefEqProofs only [rv7, ent22, ent23, hcm, hca, hcb, hws, ha6, hb6, hA, hE, hV, mkB_list, Option.isSome_none, InR, Ent.of0, Ent.of1, Ent.of2, Ent.of3, V, cc, bE, bN, bR, cV, cT, gt, lk, co, cC, cJ, cd, ca, bV, bV.subCs, cO, bu, bF, bZ, aV, bt, bh, aW, bM, bK, aH, a7, aX, cr, dd, cY, aq, aw, bT, cI, cb, cP, cU, aP, am, bQ, bJ, zC, argS, bO, ce, da, cR, ai, aE, aO, aA, cG, leC, cn, b0, bW, dc, bX, aR, aF, cZ, ah, cL, bf, bf.viewCs, bA, bA.flatCs, aK, aK.LensOks, Value.oneCell', ↓reduceIte, ite_true, ite_false, if_true, if_false, Nat.reduceAdd, Nat.reduceSub, Nat.reduceMul, Nat.reduceEqDiff, Nat.reduceLT, Nat.reduceLeDiff, reduceCtorEq, Int.reduceToNat, forall_const, implies_true, a6, Ent.mk3, bw, bC, bB, bk, bl, bo, bH, bL, bg, be, bz, cH, bn, cQ, rn, bS, bS.renCs, aI, aN, aY, aY.viewOks, aJ, bm, bm.flatBs, aG, an, av, ar, az, bq, bq.keysBs, aT, ap, bj, cp, bD, cg, af, af.passKs, aD, aL, ae, ae.lendKs, cM, cq, cz, bG, setInn, ag, cN, db, ay, br, bP, cj, aC, aU, Glob.gl, ax, cK, aZ, cm, bv, aj, cD, cS, cB, cW, cu, au, au.ptrOnlys, ak, aM, bY, aB, bI, a8, bU, aQ, bp, cF, Nat.reduceBEq, undef]
      exact .inr trivial
    | some x =>
      have hx := numV_some hA
      cases hB : numR b with
      | none =>
        have hn := hbad (by rw [hw2, hA, hB]; rfl)
        rw [hn] at hE hV
        delta c7r1
        simp (maxSteps := 4000000) -implicitDefEqProofs only [rv7, ent22, ent23, hcm, hca, hcb, hws, ha6, hb6, hA, hB, hE, hV, mkB_list, Option.isSome_none, Option.isSome_some, InR, Ent.of0, Ent.of1, Ent.of2, Ent.of3, V, cc, bE, bN, bR, cV, cT, gt, lk, co, cC, cJ, cd, ca, bV, bV.subCs, cO, bu, bF, bZ, aV, bt, bh, aW, bM, bK, aH, a7, aX, cr, dd, cY, aq, aw, bT, cI, cb, cP, cU, aP, am, bQ, bJ, zC, argS, bO, ce, da, cR, ai, aE, aO, aA, cG, leC, cn, b0, bW, dc, bX, aR, aF, cZ, ah, cL, bf, bf.viewCs, bA, bA.flatCs, aK, aK.LensOks, Value.oneCell', ↓reduceIte, ite_true, ite_false, if_true, if_false, Nat.reduceAdd, Nat.reduceSub, Nat.reduceMul, Nat.reduceEqDiff, Nat.reduceLT, Nat.reduceLeDiff, reduceCtorEq, Int.reduceToNat, forall_const, implies_true, a6, Ent.mk3, bw, bC, bB, bk, bl, bo, bH, bL, bg, be, bz, cH, bn, cQ, rn, bS, bS.renCs, aI, aN, aY, aY.viewOks, aJ, bm, bm.flatBs, aG, an, av, ar, az, bq, bq.keysBs, aT, ap, bj, cp, bD, cg, af, af.passKs, aD, aL, ae, ae.lendKs, cM, cq, cz, bG, setInn, ag, cN, db, ay, br, bP, cj, aC, aU, Glob.gl, ax, cK, aZ, cm, bv, aj, cD, cS, cB, cW, cu, au, au.ptrOnlys, ak, aM, bY, aB, bI, a8, bU, aQ, bp, cF, Nat.reduceBEq, undef]
        exact .inr trivial
      | some y =>
        have hy := numV_some hB
        have hwv : wordR w = some ⟨x, y⟩ := by rw [hw2, hA, hB]; rfl
        have hnx2 := hnx (by rw [hwv]; simp)
        cases i with
        | zero =>
          have h1 : [[C.s (.int .i64 x), C.s (.int .i64 y)]] = (outsR ws 1).map cells := by rw [hos, hwv]; rfl
          delta c7r1
          simp (maxSteps := 4000000) -implicitDefEqProofs only [rv7, ent22, ent23, hcm, hca, hcb, hws, ha6, hb6, hA, hB, hx, hy, h1, mkB_list, Option.isSome_none, Option.isSome_some, InR, Ent.of0, Ent.of1, Ent.of2, Ent.of3, V, cc, bE, bN, bR, cV, cT, gt, lk, co, cC, cJ, cd, ca, bV, bV.subCs, cO, bu, bF, bZ, aV, bt, bh, aW, bM, bK, aH, a7, aX, cr, dd, cY, aq, aw, bT, cI, cb, cP, cU, aP, am, bQ, bJ, zC, argS, bO, ce, da, cR, ai, aE, aO, aA, cG, leC, cn, b0, bW, dc, bX, aR, aF, cZ, ah, cL, bf, bf.viewCs, bA, bA.flatCs, aK, aK.LensOks, Value.oneCell', ↓reduceIte, ite_true, ite_false, if_true, if_false, Nat.reduceAdd, Nat.reduceSub, Nat.reduceMul, Nat.reduceEqDiff, Nat.reduceLT, Nat.reduceLeDiff, reduceCtorEq, Int.reduceToNat, forall_const, implies_true, a6, Ent.mk3, bw, bC, bB, bk, bl, bo, bH, bL, bg, be, bz, cH, bn, cQ, rn, bS, bS.renCs, aI, aN, aY, aY.viewOks, aJ, bm, bm.flatBs, aG, an, av, ar, az, bq, bq.keysBs, aT, ap, bj, cp, bD, cg, af, af.passKs, aD, aL, ae, ae.lendKs, cM, cq, cz, bG, setInn, ag, cN, db, ay, br, bP, cj, aC, aU, Glob.gl, ax, cK, aZ, cm, bv, aj, cD, cS, cB, cW, cu, au, au.ptrOnlys, ak, aM, bY, aB, bI, a8, bU, aQ, bp, cF, Nat.reduceBEq, undef]
          have hol1 := outsR_len (ws := ws) (i := 1) (by omega)
          exact ⟨⟨by omega, by omega⟩, by decide, hnx2⟩
        | succ i =>
          have h1 : (outsR ws (i + 1)).map cells ++ [[C.s (.int .i64 x), C.s (.int .i64 y)]] = (outsR ws (i + 1 + 1)).map cells := by rw [hos, hwv, List.map_append]; rfl
          delta c7r1
          simp (maxSteps := 4000000) -implicitDefEqProofs only [rv7, ent22, ent23, hcm, hca, hcb, hws, ha6, hb6, hA, hB, hx, hy, h1, hol, Nat.succ_ne_zero, mkB_list, Option.isSome_none, Option.isSome_some, InR, Ent.of0, Ent.of1, Ent.of2, Ent.of3, V, cc, bE, bN, bR, cV, cT, gt, lk, co, cC, cJ, cd, ca, bV, bV.subCs, cO, bu, bF, bZ, aV, bt, bh, aW, bM, bK, aH, a7, aX, cr, dd, cY, aq, aw, bT, cI, cb, cP, cU, aP, am, bQ, bJ, zC, argS, bO, ce, da, cR, ai, aE, aO, aA, cG, leC, cn, b0, bW, dc, bX, aR, aF, cZ, ah, cL, bf, bf.viewCs, bA, bA.flatCs, aK, aK.LensOks, Value.oneCell', ↓reduceIte, ite_true, ite_false, if_true, if_false, Nat.reduceAdd, Nat.reduceSub, Nat.reduceMul, Nat.reduceEqDiff, Nat.reduceLT, Nat.reduceLeDiff, reduceCtorEq, Int.reduceToNat, forall_const, implies_true, a6, Ent.mk3, bw, bC, bB, bk, bl, bo, bH, bL, bg, be, bz, cH, bn, cQ, rn, bS, bS.renCs, aI, aN, aY, aY.viewOks, aJ, bm, bm.flatBs, aG, an, av, ar, az, bq, bq.keysBs, aT, ap, bj, cp, bD, cg, af, af.passKs, aD, aL, ae, ae.lendKs, cM, cq, cz, bG, setInn, ag, cN, db, ay, br, bP, cj, aC, aU, Glob.gl, ax, cK, aZ, cm, bv, aj, cD, cS, cB, cW, cu, au, au.ptrOnlys, ak, aM, bY, aB, bI, a8, bU, aQ, bp, cF, Nat.reduceBEq, undef]
          exact ⟨⟨by decide, by omega, by omega⟩, by decide, hnx2⟩
  · have hall := allR_some (n4 hfin)
    have hNl := n3 hfin
    have ho : outsR ws ws.length = ws.map fun w => (wordR w).getD ⟨0, 0⟩ := by rw [outsR, List.take_length]
    rw [hall, ← ho] at hE hV
    rw [if_neg (by omega : ¬ N = 0), hNl]
    refine S_fzb 200004 rfl (S_run [ent24] 800 ?_)
    simp only at hE hV
    by_cases he : symErr (outsR ws ws.length) = 0
    · rw [if_pos he] at hV
      rw [he] at hE
      simp (maxSteps := 4000000) -implicitDefEqProofs only [rv7, ent24, he, hE, hV, InR, Ent.of0, Ent.of1, Ent.of2, Ent.of3, V, cc, bE, bN, bR, cV, cT, gt, lk, co, cC, cJ, cd, ca, bV, bV.subCs, cO, bu, bF, bZ, aV, bt, bh, aW, bM, bK, aH, a7, aX, cr, dd, cY, aq, aw, bT, cI, cb, cP, cU, aP, am, bQ, bJ, zC, argS, bO, ce, da, cR, ai, aE, aO, aA, cG, leC, cn, b0, bW, dc, bX, aR, aF, cZ, ah, cL, bf, bf.viewCs, bA, bA.flatCs, aK, aK.LensOks, Value.oneCell', ↓reduceIte, ite_true, ite_false, if_true, if_false, Nat.reduceAdd, Nat.reduceSub, Nat.reduceMul, Nat.reduceEqDiff, Nat.reduceLT, Nat.reduceLeDiff, reduceCtorEq, Int.reduceToNat, forall_const, implies_true, a6, Ent.mk3, bw, bC, bB, bk, bl, bo, bH, bL, bg, be, bz, cH, bn, cQ, rn, bS, bS.renCs, aI, aN, aY, aY.viewOks, aJ, bm, bm.flatBs, aG, an, av, ar, az, bq, bq.keysBs, aT, ap, bj, cp, bD, cg, af, af.passKs, aD, aL, ae, ae.lendKs, cM, cq, cz, bG, setInn, ag, cN, db, ay, br, bP, cj, aC, aU, Glob.gl, ax, cK, aZ, cm, bv, aj, cD, cS, cB, cW, cu, au, au.ptrOnlys, ak, aM, bY, aB, bI, a8, bU, aQ, bp, cF, Nat.reduceBEq, undef]
    · rw [if_neg he] at hV
      simp (maxSteps := 4000000) -implicitDefEqProofs only [rv7, ent24, he, hE, hV, InR, Ent.of0, Ent.of1, Ent.of2, Ent.of3, V, cc, bE, bN, bR, cV, cT, gt, lk, co, cC, cJ, cd, ca, bV, bV.subCs, cO, bu, bF, bZ, aV, bt, bh, aW, bM, bK, aH, a7, aX, cr, dd, cY, aq, aw, bT, cI, cb, cP, cU, aP, am, bQ, bJ, zC, argS, bO, ce, da, cR, ai, aE, aO, aA, cG, leC, cn, b0, bW, dc, bX, aR, aF, cZ, ah, cL, bf, bf.viewCs, bA, bA.flatCs, aK, aK.LensOks, Value.oneCell', ↓reduceIte, ite_true, ite_false, if_true, if_false, Nat.reduceAdd, Nat.reduceSub, Nat.reduceMul, Nat.reduceEqDiff, Nat.reduceLT, Nat.reduceLeDiff, reduceCtorEq, Int.reduceToNat, forall_const, implies_true, a6, Ent.mk3, bw, bC, bB, bk, bl, bo, bH, bL, bg, be, bz, cH, bn, cQ, rn, bS, bS.renCs, aI, aN, aY, aY.viewOks, aJ, bm, bm.flatBs, aG, an, av, ar, az, bq, bq.keysBs, aT, ap, bj, cp, bD, cg, af, af.passKs, aD, aL, ae, ae.lendKs, cM, cq, cz, bG, setInn, ag, cN, db, ay, br, bP, cj, aC, aU, Glob.gl, ax, cK, aZ, cm, bv, aj, cD, cS, cB, cW, cu, au, au.ptrOnlys, ak, aM, bY, aB, bI, a8, bU, aQ, bp, cF, Nat.reduceBEq, undef]
def ent7 : Ent Tryz.prog := .of1 7 (fun s => s.size ≤ 1000) (fun s : ByteArray => .tup [enc (parsV s.data.toList), enc (parsE s.data.toList)]) (fun _ => ⟨trivial, trivial, trivial⟩) (fun s h => Parse_c s h)
end Go.Proofs.YtfgpbmjmoobcnaaGreatDoor
end
section
open Go Go.Am
open Go.Am.Dat (cells)
namespace Go.Proofs.YtfgpbmjmoobcnaaGreatDoor
set_option maxHeartbeats 4000000
set_option maxRecDepth 100000
set_option linter.unusedSimpArgs false
set_option linter.unusedVariables false
theorem digs_itoa (v : Int) : digs (Lib.itoa v) = Lib.decDigits v.natAbs := by
  by_cases hv : v < 0
  · have hi : Lib.itoa v = 45 :: Lib.decDigits v.natAbs := by rw [Lib.itoa, if_pos hv]
    rw [digs, hi]; rfl
  · have hi : Lib.itoa v = Lib.decDigits v.toNat := by rw [Lib.itoa, if_neg hv]
    have hdg := dec_dig _ _ (Nat.le_refl v.toNat)
    have h45 : ¬ (Lib.itoa v).head? = some 45 := by
      rw [hi]
      intro e
      cases hq : Lib.decDigits v.toNat with
      | nil => exact dec_ne _ hq
      | cons b r =>
        rw [hq] at e hdg
        have e : b = 45 := by simpa using e
        subst e
        simp [isDig] at hdg
    rw [digs, if_neg h45, hi, show v.toNat = v.natAbs by omega]
theorem itoa_back {v : Int} (h : -100000000 ≤ v ∧ v ≤ 100000000) : numR (Lib.itoa v) = some v := by
  refine itoa_num ?_
  rw [digs_itoa]
  exact decDigits_len 8 _ (by omega)
theorem itoa_no {v : Int} {c : UInt8} (h1 : isDig c = false) (h2 : c ≠ 45) : ∀ b ∈ Lib.itoa v, b ≠ c := by
  intro b hb e
  subst e
  have hd : ∀ u, b ∈ Lib.decDigits u → False := fun u hu => by
    have := List.all_eq_true.1 (dec_dig u u (Nat.le_refl _)) b hu
    rw [h1] at this; cases this
  rw [Lib.itoa] at hb
  split at hb
  · rcases List.mem_cons.1 hb with e | hb
    · exact h2 e
    · exact hd _ hb
  · exact hd _ hb
def pairL (g : Gs) : List UInt8 := Lib.itoa g.re ++ 44 :: Lib.itoa g.im
theorem pair_list (g : Gs) : (pairB g).data.toList = pairL g := by
  rw [pairB, ByteArray.data_append, ByteArray.data_append]
  simp [itoaB, pairL]
theorem pair_back {g : Gs} (h : smallG g 100000000 = true) : wordR (pairL g) = some g := by
  simp only [smallG, Bool.and_eq_true, decide_eq_true_eq] at h
  have h1 := itoa_back (v := g.re) (by omega)
  have h2 := itoa_back (v := g.im) (by omega)
  have hc : cutL 44 (pairL g) = [Lib.itoa g.re, Lib.itoa g.im] := by
    rw [pairL, cut_hit (itoa_no (by decide) (by decide)), cut_none (itoa_no (by decide) (by decide))]
  rw [wordR, hc]
  simp only [h1, h2]
  rfl
theorem pair_no (g : Gs) : ∀ b ∈ pairL g, b ≠ 32 := by
  intro b hb
  rcases List.mem_append.1 hb with h | h
  · exact itoa_no (by decide) (by decide) b h
  · rcases List.mem_cons.1 h with e | h
    · rw [e]; decide
    · exact itoa_no (by decide) (by decide) b h
theorem cut_join : ∀ (r : List (List UInt8)) (x : List UInt8), (∀ w ∈ x :: r, ∀ b ∈ w, b ≠ 32) → cutL 32 (Lib.join (x :: r) [32]) = x :: r
  | [], x, h => by rw [Lib.join_one, cut_none (h x List.mem_cons_self)]
  | y :: r, x, h => by
    have e : Lib.join (x :: y :: r) [32] = x ++ 32 :: Lib.join (y :: r) [32] := by
      rw [Lib.join_cons, Lib.join_cons]; rfl
    rw [e, cut_hit (h x List.mem_cons_self), cut_join r y (fun w hw => h w (List.mem_cons_of_mem _ hw))]
theorem allR_back : ∀ (l : List Gs), l.all (smallG · 100000000) = true → allR (l.map pairL) = some l
  | [], _ => rfl
  | g :: l, h => by
    simp only [List.all_cons, Bool.and_eq_true] at h
    rw [List.map_cons, allR, pair_back h.1, allR_back l h.2]; rfl
theorem fmt_list (l : List Gs) : (fmtB l).data.toList = Lib.join (l.map pairL) [32] := by
  unfold fmtB joinB
  rw [List.map_map]
  have e : ((fun x : ByteArray => x.data.toList) ∘ pairB) = pairL := by funext g; exact pair_list g
  rw [e]; rfl
theorem read_back {l : List Gs} (h : symErr l = 0) : parsE (fmtB l).data.toList = 0 ∧ parsV (fmtB l).data.toList = l := by
  have hs := h
  unfold symErr at h
  split at h
  · cases h
  · rename_i h0
    split at h
    · cases h
    · split at h
      · rename_i h1
        have hc : cutL 32 (fmtB l).data.toList = l.map pairL := by
          rw [fmt_list]
          cases l with
          | nil => exact absurd rfl h0
          | cons g l =>
            rw [List.map_cons]
            refine cut_join _ _ (fun w hw => ?_)
            rw [← List.map_cons] at hw
            obtain ⟨g', _, rfl⟩ := List.mem_map.1 hw
            exact pair_no g'
        have ha := allR_back l h1
        unfold parsE parsV
        rw [hc, ha]
        simp only [hs, if_true]
        exact ⟨trivial, trivial⟩
      · cases h
theorem SymbolTexts_c (l : List Gs) (s : ByteArray) (hg : ∀ g ∈ l, inG g) : FC Tryz.prog 3 [enc l, enc s] [] (enc true) [] := by
  refine fc_intro' is3 (by simp) (fun cx hl => S_run [ent4, ent5, ent6, ent7, ent8, ent9, ent10, ent11] 1500 ?_)
  by_cases h8 : (l.length : Int) > 8
  · delta c3
    simp (maxSteps := 4000000) -implicitDefEqProofs only [rv3, ent4, h8, Int.cast_ofNat_Int, Int.natCast_one, Int.natCast_zero, Int.reduceAdd, Int.reduceSub, Int.reduceMul, Int.reduceLT, Int.reduceLE, Int.reduceTMod, Int.reduceTDiv, Int.reduceNeg, Int.reduceEq, Nat.reducePow, Int.reducePow, ne_eq, not_false_eq_true, Ent.of0, Ent.of1, Ent.of2, Ent.of3, V, cc, bE, bN, bR, cV, cT, gt, lk, co, cC, cJ, cd, ca, bV, bV.subCs, cO, bu, bF, bZ, aV, bt, bh, aW, bM, bK, aH, a7, aX, cr, dd, cY, aq, aw, bT, cI, cb, cP, cU, aP, am, bQ, bJ, zC, argS, bO, ce, da, cR, ai, aE, aO, aA, cG, leC, cn, b0, bW, dc, bX, aR, aF, cZ, ah, cL, bf, bf.viewCs, bA, bA.flatCs, aK, aK.LensOks, Value.oneCell', ↓reduceIte, ite_true, ite_false, if_true, if_false, Nat.reduceAdd, Nat.reduceSub, Nat.reduceMul, Nat.reduceEqDiff, Nat.reduceLT, Nat.reduceLeDiff, reduceCtorEq, Int.reduceToNat, forall_const, implies_true, a6, Ent.mk3, bw, bC, bB, bk, bl, bo, bH, bL, bg, be, bz, cH, bn, cQ, rn, bS, bS.renCs, aI, aN, aY, aY.viewOks, aJ, bm, bm.flatBs, aG, an, av, ar, az, bq, bq.keysBs, aT, ap, bj, cp, bD, cg, af, af.passKs, aD, aL, ae, ae.lendKs, cM, cq, cz, bG, setInn, ag, cN, db, ay, br, bP, cj, aC, aU, Glob.gl, ax, cK, aZ, cm, bv, aj, cD, cS, cB, cW, cu, au, au.ptrOnlys, ak, aM, bY, aB, bI, a8, bU, aQ, bp, cF, Nat.reduceBEq, undef]
  by_cases h100 : (s.size : Int) > 100
  · delta c3
    simp (maxSteps := 4000000) -implicitDefEqProofs only [rv3, ent4, h8, h100, Int.cast_ofNat_Int, Int.natCast_one, Int.natCast_zero, Int.reduceAdd, Int.reduceSub, Int.reduceMul, Int.reduceLT, Int.reduceLE, Int.reduceTMod, Int.reduceTDiv, Int.reduceNeg, Int.reduceEq, Nat.reducePow, Int.reducePow, ne_eq, not_false_eq_true, Ent.of0, Ent.of1, Ent.of2, Ent.of3, V, cc, bE, bN, bR, cV, cT, gt, lk, co, cC, cJ, cd, ca, bV, bV.subCs, cO, bu, bF, bZ, aV, bt, bh, aW, bM, bK, aH, a7, aX, cr, dd, cY, aq, aw, bT, cI, cb, cP, cU, aP, am, bQ, bJ, zC, argS, bO, ce, da, cR, ai, aE, aO, aA, cG, leC, cn, b0, bW, dc, bX, aR, aF, cZ, ah, cL, bf, bf.viewCs, bA, bA.flatCs, aK, aK.LensOks, Value.oneCell', ↓reduceIte, ite_true, ite_false, if_true, if_false, Nat.reduceAdd, Nat.reduceSub, Nat.reduceMul, Nat.reduceEqDiff, Nat.reduceLT, Nat.reduceLeDiff, reduceCtorEq, Int.reduceToNat, forall_const, implies_true, a6, Ent.mk3, bw, bC, bB, bk, bl, bo, bH, bL, bg, be, bz, cH, bn, cQ, rn, bS, bS.renCs, aI, aN, aY, aY.viewOks, aJ, bm, bm.flatBs, aG, an, av, ar, az, bq, bq.keysBs, aT, ap, bj, cp, bD, cg, af, af.passKs, aD, aL, ae, ae.lendKs, cM, cq, cz, bG, setInn, ag, cN, db, ay, br, bP, cj, aC, aU, Glob.gl, ax, cK, aZ, cm, bv, aj, cD, cS, cB, cW, cu, au, au.ptrOnlys, ak, aM, bY, aB, bI, a8, bU, aQ, bp, cF, Nat.reduceBEq, undef]
  have hl1 : l.length ≤ 1000000 := by omega
  have hl2 : l.length ≤ 1000 := by omega
  have hs1 : s.size ≤ 1000 := by omega
  have hfs := fmt_size l l.length hg (Nat.le_refl _)
  rw [List.take_length] at hfs
  have hf1 : (fmtB l).size ≤ 1000 := by omega
  have hgt : (∀ g ∈ l, inG g) ↔ True := ⟨fun _ => trivial, fun _ => hg⟩
  have hdg : ∀ a : List Gs, decide (a = a) = true := fun a => decide_eq_true rfl
  have hdb : ∀ a : ByteArray, decide (a = a) = true := fun a => decide_eq_true rfl
  by_cases he : symErr l = 0
  · obtain ⟨b1, b2⟩ := read_back he
    delta c3
    simp (maxSteps := 4000000) -implicitDefEqProofs only [rv3, ent4, ent5, ent6, ent7, ent8, ent9, ent10, ent11, h8, h100, hl1, hl2, hs1, hf1, hgt, hdg, hdb, he, b1, b2, Int.cast_ofNat_Int, Int.natCast_one, Int.natCast_zero, Int.reduceAdd, Int.reduceSub, Int.reduceMul, Int.reduceLT, Int.reduceLE, Int.reduceTMod, Int.reduceTDiv, Int.reduceNeg, Int.reduceEq, Nat.reducePow, Int.reducePow, ne_eq, not_false_eq_true, Ent.of0, Ent.of1, Ent.of2, Ent.of3, V, cc, bE, bN, bR, cV, cT, gt, lk, co, cC, cJ, cd, ca, bV, bV.subCs, cO, bu, bF, bZ, aV, bt, bh, aW, bM, bK, aH, a7, aX, cr, dd, cY, aq, aw, bT, cI, cb, cP, cU, aP, am, bQ, bJ, zC, argS, bO, ce, da, cR, ai, aE, aO, aA, cG, leC, cn, b0, bW, dc, bX, aR, aF, cZ, ah, cL, bf, bf.viewCs, bA, bA.flatCs, aK, aK.LensOks, Value.oneCell', ↓reduceIte, ite_true, ite_false, if_true, if_false, Nat.reduceAdd, Nat.reduceSub, Nat.reduceMul, Nat.reduceEqDiff, Nat.reduceLT, Nat.reduceLeDiff, reduceCtorEq, Int.reduceToNat, forall_const, implies_true, a6, Ent.mk3, bw, bC, bB, bk, bl, bo, bH, bL, bg, be, bz, cH, bn, cQ, rn, bS, bS.renCs, aI, aN, aY, aY.viewOks, aJ, bm, bm.flatBs, aG, an, av, ar, az, bq, bq.keysBs, aT, ap, bj, cp, bD, cg, af, af.passKs, aD, aL, ae, ae.lendKs, cM, cq, cz, bG, setInn, ag, cN, db, ay, br, bP, cj, aC, aU, Glob.gl, ax, cK, aZ, cm, bv, aj, cD, cS, cB, cW, cu, au, au.ptrOnlys, ak, aM, bY, aB, bI, a8, bU, aQ, bp, cF, Nat.reduceBEq, undef]
  · delta c3
    simp (maxSteps := 4000000) -implicitDefEqProofs only [rv3, ent4, ent5, ent6, ent7, ent8, ent9, ent10, ent11, h8, h100, hl1, hl2, hs1, hf1, hgt, hdg, hdb, he, Int.cast_ofNat_Int, Int.natCast_one, Int.natCast_zero, Int.reduceAdd, Int.reduceSub, Int.reduceMul, Int.reduceLT, Int.reduceLE, Int.reduceTMod, Int.reduceTDiv, Int.reduceNeg, Int.reduceEq, Nat.reducePow, Int.reducePow, ne_eq, not_false_eq_true, Ent.of0, Ent.of1, Ent.of2, Ent.of3, V, cc, bE, bN, bR, cV, cT, gt, lk, co, cC, cJ, cd, ca, bV, bV.subCs, cO, bu, bF, bZ, aV, bt, bh, aW, bM, bK, aH, a7, aX, cr, dd, cY, aq, aw, bT, cI, cb, cP, cU, aP, am, bQ, bJ, zC, argS, bO, ce, da, cR, ai, aE, aO, aA, cG, leC, cn, b0, bW, dc, bX, aR, aF, cZ, ah, cL, bf, bf.viewCs, bA, bA.flatCs, aK, aK.LensOks, Value.oneCell', ↓reduceIte, ite_true, ite_false, if_true, if_false, Nat.reduceAdd, Nat.reduceSub, Nat.reduceMul, Nat.reduceEqDiff, Nat.reduceLT, Nat.reduceLeDiff, reduceCtorEq, Int.reduceToNat, forall_const, implies_true, a6, Ent.mk3, bw, bC, bB, bk, bl, bo, bH, bL, bg, be, bz, cH, bn, cQ, rn, bS, bS.renCs, aI, aN, aY, aY.viewOks, aJ, bm, bm.flatBs, aG, an, av, ar, az, bq, bq.keysBs, aT, ap, bj, cp, bD, cg, af, af.passKs, aD, aL, ae, ae.lendKs, cM, cq, cz, bG, setInn, ag, cN, db, ay, br, bP, cj, aC, aU, Glob.gl, ax, cK, aZ, cm, bv, aj, cD, cS, cB, cW, cu, au, au.ptrOnlys, ak, aM, bY, aB, bI, a8, bU, aQ, bp, cF, Nat.reduceBEq, undef]
end Go.Proofs.YtfgpbmjmoobcnaaGreatDoor
end
section
open Go Go.Am
open Go.Am.Dat (cells)
namespace Go.Proofs.YtfgpbmjmoobcnaaGreatDoor
open Go.ChangeShapes Go.WideShapes Go.ChangeAt Go.RowKit
open Go.ChangeMaps (open_string shut_string)
set_option linter.unusedVariables false
theorem own : ownKnob Tryz.prog.godebug = none := by kernel_rfl
theorem laidOut : laidOutB Tryz.prog = true := by kernel_rfl
theorem rInt : ReadsP Tryz.prog 3 Int (fun n => -9223372036854775808 ≤ n ∧ n ≤ 9223372036854775807) := ReadsP.int Tryz.underlying3 (by kernel_rfl)
theorem rGs : ReadsP Tryz.prog 43 Gs inG := by
  refine ⟨by kernel_rfl, by decide, fun en w sp fuel cs x h => ?_⟩
  obtain ⟨l, a0, p0, e0, h0⟩ := field_rdP rInt Tryz.underlying43 h 0 rfl rfl
  obtain ⟨_, a1, p1, e1, h1⟩ := field_rdP rInt Tryz.underlying43 h 1 rfl rfl
  refine ⟨⟨a0, a1⟩, ⟨by simpa [InR] using p0, by simpa [InR] using p1⟩, rfl, l.trans (by kernel_rfl), fun j c hj => ?_⟩
  match j, hj with
  | 0, hj => cases hj; exact h0 0 _ rfl
  | 1, hj => cases hj; exact h1 0 _ rfl
theorem rGss : ReadsP Tryz.prog 22 (List Gs) (fun l => ∀ g ∈ l, inG g) := ReadsP.list rGs Tryz.underlying22 (by kernel_rfl)
theorem gl_ok {W : World} (hL : laidMet Tryz.prog Rows.symbolTextsRow.laid W) : GlobOk Tryz.prog (fun b => b < W.heap.size) W.heap := by
  refine ⟨fun g cs h => (by cases h), ?_, ?_, ?_⟩
  · have e2 : laidMet Tryz.prog ((_, Lib.tabData .u64 Lib.pow10Tab) :: _) W := hL.tail.tail
    have h := Lib.tabIs_of_head (g := 1) (t := 154) (by kernel_rfl) (by kernel_rfl) Tryz.underlying154 Tryz.underlying136 (by kernel_rfl) (by kernel_rfl) e2
    obtain ⟨ty, fz, hh⟩ := var_heap h (by kernel_rfl : _ = some 1)
    exact ⟨ty, fz, lt_of_getElem? hh, hh⟩
  · obtain ⟨tp, p, ty, fz, hh⟩ := laid_iface (g := 4) hL.tail.tail.tail.tail.tail (by kernel_rfl) (by kernel_rfl) Tryz.underlying100
    exact ⟨tp, p, ty, fz, lt_of_getElem? hh, hh⟩
  · obtain ⟨tp, p, ty, fz, hh⟩ := laid_iface (g := 5) hL.tail.tail.tail.tail (by kernel_rfl) (by kernel_rfl) Tryz.underlying100
    exact ⟨tp, p, ty, fz, lt_of_getElem? hh, hh⟩
theorem met0 (os : Os) (args : Array Value) : laidMet Tryz.prog Rows.symbolTextsRow.laid ((World.laidAll Tryz.prog os Rows.symbolTextsRow.laid).forCall (fun _ _ => 0) ⟨#[], args, []⟩).memory :=
  laidMet_laidAll args (by kernel_rfl) (by kernel_rfl)
set_option maxRecDepth 100000 in
theorem lifted3 (os : Os) (started : os.Started) (H : Type) (en : TypeId × Value → H) :
    ReturnsInHanded {} Tryz.checked os 3 .any (fun w args => (Rows.symbolTextsSpec.pre en Tryz.prog Tryz.f3 Rows.symbolTextsRow.domain false w args ∧ laidMet Tryz.prog Rows.symbolTextsRow.laid w) ∧ sizedMet en Tryz.prog Tryz.f3 (OpenSpec.ofChange Rows.symbolTextsSpec) false w args)
      (Rows.symbolTextsSpec.post en Tryz.prog Tryz.f3 false true false false) := by
  refine returnsInHanded_of_change_and (C := Tryz.checked) (X := fun w _ => laidMet Tryz.prog Rows.symbolTextsRow.laid w) (fun _ _ _ hh h => h.of_heap hh) own started (by kernel_rfl) Tryz.func3
    (ChangeSpec.witness_at (enc := en) (C := Tryz.checked) (os := os) (X := fun w _ => laidMet Tryz.prog Rows.symbolTextsRow.laid w) false (World.laidAll Tryz.prog os Rows.symbolTextsRow.laid) #[.slice none 0 0, .string ⟨#[]⟩] 8 (World.laidAll_os _ _ _) (by kernel_rfl) (by kernel_rfl) (by kernel_rfl) (by kernel_rfl) (by kernel_rfl) (met0 os _)) ?_
  intro W base args ds gs before hval0 hW hcnd hsz hL _
  have hval : ∀ (j : Nat) t v, Tryz.f3.params[j]? = some t → args[j]? = some v → Value.okWide Tryz.prog W .any base t v := hval0
  have hW' := hW
  obtain ⟨p, q, hA0, hV, rfl, hfz, hnd⟩ := hW
  have hA : DataW.TrodAll en Tryz.prog W 0 (fun _ => true) true Tryz.f3.params.toList args.toList ds p := hA0
  rw [Tryz.params3] at hA hval
  obtain ⟨v0, vs0, d0, ds0, p0, q0, hargs, rfl, rfl, h0, r0⟩ := trodAll_cons hA
  obtain ⟨v1, vs1, d1, ds1, p1, q1, rfl, rfl, rfl, h1, r1⟩ := trodAll_cons r0
  obtain ⟨rfl, rfl, rfl⟩ := trodAll_nil r1
  obtain rfl : args = #[v0, v1] := by cases args; simp_all
  obtain ⟨rfl, rfl⟩ := trodVars_none hV
  have lt0 : ∀ x ∈ p0, x.block < W.heap.size := by obtain ⟨m, hm⟩ := h0; exact DataW.trod_lt m _ _ _ hm
  obtain ⟨x0, g0, hx0⟩ := rGss.arg Tryz.underlying22 (hval 0 22 v0 rfl rfl) h0
  obtain ⟨x1, rfl, rfl, rfl, w1⟩ := open_string Tryz.underlying9 (hval 1 9 v1 rfl rfl) h1
  clear hA0 hval0
  refine (law_walkG (SymbolTexts_c x0 x1 g0) (W := W) (vs := #[v0, .string x1]) (gl_ok hL) rfl (fun j c hj E => ?_)).mono fun e W' ⟨he, bel⟩ => ?_
  · match j, hj with
    | 0, hj => cases hj; exact hx0 E
    | 1, hj => cases hj; exact .d (.s _)
  · subst he
    exact ⟨_, rfl, _, _, _, [], _, [], hW', trodAll_mk1 (shut_bool Tryz.underlying4 _), (trodAll_cons_mk (Below.trod laidOut (by kernel_rfl) (of_decide_eq_true (by kernel_rfl)) h0 bel lt0) (trodAll_cons_mk (shut_string Tryz.underlying9 w1) trodAll_mk0)), rfl, bel.frame _, fun h => by cases h⟩
theorem over3 : Rows.symbolTextsRow.holds Tryz.pinned (OpenSpec.ofChange Rows.symbolTextsSpec) :=
  OpenClaim.holds_of_wide 3 Tryz.f3 rfl rfl rfl rfl rfl rfl rfl ⟨rfl, rfl, rfl, rfl, rfl⟩ rfl rfl rfl rfl rfl (by kernel_rfl) Tryz.func3 (by kernel_rfl)
    (of_decide_eq_true (by kernel_rfl)) (by unfold Func.isWrapper; first | (rw [if_pos (by decide +kernel)]; kernel_rfl) | (rw [if_neg (by decide +kernel)]; exact ⟨rfl, rfl⟩))
    (fun os started H en _ => lifted3 os started H en)
theorem SymbolTexts_holds : Rows.SymbolTextsCardSaid :=
  Claim7.holds_tied_plain_at .later [] [.data, .data, .data, .data, .sentinel, .sentinel, .pinned] true (true, "89073fa8cc95fd21ebbecf8a62ba584881c68c10487b8a9a968991a8d59c3d43") true
    over3 (fun _ h => by cases h) (by kernel_rfl) (fun _ h => by cases h) symbolTexts_row_tie rfl ⟨rfl, rfl⟩ (by kernel_rfl) rfl
    (fun f fn hf hfn => by
      obtain rfl : f = 3 := Option.some.inj ((show Tryz.prog.funcNamed Rows.symbolTextsRow.func = some 3 by kernel_rfl).symm.trans hf) |>.symm
      obtain rfl : fn = Tryz.f3 := (Option.some.inj (Tryz.func3.symm.trans hfn)).symm
      exact ⟨by kernel_rfl, fun j t ht => by
        rw [Tryz.params3] at ht
        have h3 : t = 22 ∨ t = 9 := by
          rcases j with _ | _ | j
          · left; simpa using ht.symm
          · right; simpa using ht.symm
          · simp at ht
        rcases h3 with rfl | rfl
        · exact (show Tryz.prog.wantsStandIn 22 = false by kernel_rfl)
        · exact (show Tryz.prog.wantsStandIn 9 = false by kernel_rfl)⟩)
    (by kernel_rfl)
#print axioms SymbolTexts_holds
end Go.Proofs.YtfgpbmjmoobcnaaGreatDoor
end
