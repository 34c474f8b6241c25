/- SymbolSigns returns true for every input and never panics: if the greatest error is less than the gain, hard bits are those that were sent, and soft bits have their signs; conditions: none beyond the given statement. -/
import Derived.Test.YtfgpbmjmoobcnaaRows
import Derived.ProofKit
import Derived.Test.YtfgpbmjmoobcnaaAm4
set_option linter.all false
section
open Go Go.Am
open Go.Am.Dat (cells)
namespace Go.Proofs.Ytfgpbmjmoobcnaa
set_option maxHeartbeats 4000000
set_option maxRecDepth 100000
set_option linter.unusedSimpArgs false
theorem part_c (f : FuncId) (T : List Int → List Int) (c : Nat) (hc : c = 1 ∨ c = 2 ∨ c = 3) (hf : ∀ sq : List Int, sq.length = 2 ^ c → (∀ s ∈ sq, 0 ≤ s ∧ s ≤ 4611686018427387903) → FC Try.prog f [enc (lvls c), enc sq] [] (enc (T sq)) [])
    (x : Recv) (n : Int) (hg : 1 ≤ x.gain ∧ x.gain ≤ 10000000) (hn : -100000000 ≤ n ∧ n ≤ 100000000) :
    FC Try.prog 136 [enc n, .ptr 100000 0, .ptr 100001 0, .ptr 100002 0] [(100000, .box [enc (lvls c)]), (100001, .box (cells x)), (100002, .box [.fn (.func f) [] []])] (enc (T (sqS c x.gain n))) [(100000, .box [enc (lvls c)]), (100001, .box (cells x)), (100002, .box [.fn (.func f) [] []])] := by
  obtain ⟨o, g, l⟩ := x
  simp only at hg
  have hcl : cells (⟨o, g, l⟩ : Recv) = [.s (.int .i64 o), .s (.int .i64 g), .sl 2 (l.map cells)] := rfl
  rw [hcl]
  have hll := lvls_length c
  have hlb := lvls_bd hc
  have hp : 2 ^ c ≤ 8 := by rcases hc with rfl | rfl | rfl <;> decide
  have hsq : sqS c g n = (lvls c).map fun l => (n - l * g) * (n - l * g) := rfl
  generalize lvls c = L at *
  refine fc_introC [] is136 (by simp) (by simp [cj]) (by simp [aH, aE, bT]) (by simp [aH, aE, bT]) (by simp [ap, lk]) (fun cx _ _ _ => S_run [] 800 ?_)
  delta c136
  simp (maxSteps := 4000000) -implicitDefEqProofs only [rv136, InR, Ent.of0, Ent.of1, Ent.of2, Ent.of3, V, bP, bq, a9, cm, cQ, cP, gt, lk, cr, cb, b0, cq, cI, ce, ce.subCs, cV, bz, bL, bT, aW, a8, bh, aT, bp, br, aC, bj, aJ, bN, cK, cZ, au, aN, bM, cg, cp, cN, cS, aI, aj, cJ, bl, zC, argS, bK, cD, cW, cU, ah, aQ, aB, aY, bV, leC, cu, cn, bY, cR, bS, aH, aE, cM, am, cF, bG, bG.viewCs, bH, bH.flatCs, ax, ax.LensOks, Value.oneCell', ↓reduceIte, ite_true, ite_false, if_true, if_false, Nat.reduceAdd, Nat.reduceSub, Nat.reduceMul, Nat.reduceEqDiff, Nat.reduceLT, Nat.reduceLeDiff, reduceCtorEq, Int.reduceToNat, forall_const, implies_true, a4, Ent.mk3, bm, bg, bw, bJ, bB, bf, a6, bu, a5, bv, bo, bR, be, cT, rn, co, co.renCs, aR, av, aX, aX.viewOks, aK, bn, bn.flatBs, aU, ak, az, an, aL, aZ, aZ.keysBs, aP, ai, bk, cz, bD, bW, ae, ae.passKs, aV, aA, af, af.lendKs, cC, bQ, bX, bF, setInn, ag, cY, cO, aM, a7, cc, cG, ay, aO, Glob.gl, aG, cd, bE, bU, bA, ap, cj, c6, cH, cL, cB, ar, ar.ptrOnlys, aq, aw, bZ, aD, bC, a3, bO, aF, bI, ca, Nat.reduceBEq, undef]
  refine S_forU L.length (fun i => [(11, .s (.int .i64 (i : Int)))]) (fun i => [(6, .row 1 3 (((L.take i).map fun l => (n - l * g) * (n - l * g)).map cells))]) (fun _ => True) trivial ?_ (fun i hi _ => S_run [.of2 f (fun a b => a = L ∧ b.length = 2 ^ c ∧ ∀ s ∈ b, 0 ≤ s ∧ s ≤ 4611686018427387903) (fun _ b => enc (T b)) (fun _ _ => trivial) (fun a b h => by obtain ⟨rfl, h1, h2⟩ := h; exact hf b h1 h2)] 800 ?_)
  · simp (maxSteps := 4000000) -implicitDefEqProofs only [Ent.of0, Ent.of1, Ent.of2, Ent.of3, V, bP, bq, a9, cm, cQ, cP, gt, lk, cr, cb, b0, cq, cI, ce, ce.subCs, cV, bz, bL, bT, aW, a8, bh, aT, bp, br, aC, bj, aJ, bN, cK, cZ, au, aN, bM, cg, cp, cN, cS, aI, aj, cJ, bl, zC, argS, bK, cD, cW, cU, ah, aQ, aB, aY, bV, leC, cu, cn, bY, cR, bS, aH, aE, cM, am, cF, bG, bG.viewCs, bH, bH.flatCs, ax, ax.LensOks, Value.oneCell', ↓reduceIte, ite_true, ite_false, if_true, if_false, Nat.reduceAdd, Nat.reduceSub, Nat.reduceMul, Nat.reduceEqDiff, Nat.reduceLT, Nat.reduceLeDiff, reduceCtorEq, Int.reduceToNat, forall_const, implies_true, a4, Ent.mk3, bm, bg, bw, bJ, bB, bf, a6, bu, a5, bv, bo, bR, be, cT, rn, co, co.renCs, aR, av, aX, aX.viewOks, aK, bn, bn.flatBs, aU, ak, az, an, aL, aZ, aZ.keysBs, aP, ai, bk, cz, bD, bW, ae, ae.passKs, aV, aA, af, af.lendKs, cC, bQ, bX, bF, setInn, ag, cY, cO, aM, a7, cc, cG, ay, aO, Glob.gl, aG, cd, bE, bU, bA, ap, cj, c6, cH, cL, cB, ar, ar.ptrOnlys, aq, aw, bZ, aD, bC, a3, bO, aF, bI, ca, Nat.reduceBEq, undef]; simp
  · by_cases h : i < L.length
    · have hi2 : (i : Int) < (L.length : Int) := by omega
      have hm : L.getD i 0 ∈ L := by rw [List.getD_eq_getElem?_getD, List.getElem?_eq_getElem h]; exact List.getElem_mem _
      have b1 := lg_bd (hlb _ hm) hg
      have b2 := sq_bd (d := n - L.getD i 0 * g) (B := 170000000) (by omega)
      have htk : ((L.take i).map fun l => (n - l * g) * (n - l * g)).map cells ++ [[C.s (.int .i64 ((n - L.getD i 0 * g) * (n - L.getD i 0 * g)))]] = ((L.take (i + 1)).map fun l => (n - l * g) * (n - l * g)).map cells := by
        rw [take_getD 0 h, List.map_append, List.map_append]; rfl
      have htl : (L.take i).length = i := by rw [List.length_take]; omega
      delta c136l1
      simp (maxSteps := 4000000) -implicitDefEqProofs only [hi2, h, htk, InR, Ent.of0, Ent.of1, Ent.of2, Ent.of3, V, bP, bq, a9, cm, cQ, cP, gt, lk, cr, cb, b0, cq, cI, ce, ce.subCs, cV, bz, bL, bT, aW, a8, bh, aT, bp, br, aC, bj, aJ, bN, cK, cZ, au, aN, bM, cg, cp, cN, cS, aI, aj, cJ, bl, zC, argS, bK, cD, cW, cU, ah, aQ, aB, aY, bV, leC, cu, cn, bY, cR, bS, aH, aE, cM, am, cF, bG, bG.viewCs, bH, bH.flatCs, ax, ax.LensOks, Value.oneCell', ↓reduceIte, ite_true, ite_false, if_true, if_false, Nat.reduceAdd, Nat.reduceSub, Nat.reduceMul, Nat.reduceEqDiff, Nat.reduceLT, Nat.reduceLeDiff, reduceCtorEq, Int.reduceToNat, forall_const, implies_true, a4, Ent.mk3, bm, bg, bw, bJ, bB, bf, a6, bu, a5, bv, bo, bR, be, cT, rn, co, co.renCs, aR, av, aX, aX.viewOks, aK, bn, bn.flatBs, aU, ak, az, an, aL, aZ, aZ.keysBs, aP, ai, bk, cz, bD, bW, ae, ae.passKs, aV, aA, af, af.lendKs, cC, bQ, bX, bF, setInn, ag, cY, cO, aM, a7, cc, cG, ay, aO, Glob.gl, aG, cd, bE, bU, bA, ap, cj, c6, cH, cL, cB, ar, ar.ptrOnlys, aq, aw, bZ, aD, bC, a3, bO, aF, bI, ca, Nat.reduceBEq, undef]
      exact ⟨by omega, by omega, by omega, by omega, by omega, by omega, by omega, by omega, by push_cast; rfl⟩
    · have hi2 : ¬ (i : Int) < (L.length : Int) := by omega
      have hie : i = L.length := by omega
      subst hie
      have htk : L.take L.length = L := List.take_length
      delta c136l1
      simp (maxSteps := 4000000) -implicitDefEqProofs only [hi2, rv136, htk, hsq, InR, Ent.of0, Ent.of1, Ent.of2, Ent.of3, V, bP, bq, a9, cm, cQ, cP, gt, lk, cr, cb, b0, cq, cI, ce, ce.subCs, cV, bz, bL, bT, aW, a8, bh, aT, bp, br, aC, bj, aJ, bN, cK, cZ, au, aN, bM, cg, cp, cN, cS, aI, aj, cJ, bl, zC, argS, bK, cD, cW, cU, ah, aQ, aB, aY, bV, leC, cu, cn, bY, cR, bS, aH, aE, cM, am, cF, bG, bG.viewCs, bH, bH.flatCs, ax, ax.LensOks, Value.oneCell', ↓reduceIte, ite_true, ite_false, if_true, if_false, Nat.reduceAdd, Nat.reduceSub, Nat.reduceMul, Nat.reduceEqDiff, Nat.reduceLT, Nat.reduceLeDiff, reduceCtorEq, Int.reduceToNat, forall_const, implies_true, a4, Ent.mk3, bm, bg, bw, bJ, bB, bf, a6, bu, a5, bv, bo, bR, be, cT, rn, co, co.renCs, aR, av, aX, aX.viewOks, aK, bn, bn.flatBs, aU, ak, az, an, aL, aZ, aZ.keysBs, aP, ai, bk, cz, bD, bW, ae, ae.passKs, aV, aA, af, af.lendKs, cC, bQ, bX, bF, setInn, ag, cY, cO, aM, a7, cc, cG, ay, aO, Glob.gl, aG, cd, bE, bU, bA, ap, cj, c6, cH, cL, cB, ar, ar.ptrOnlys, aq, aw, bZ, aD, bC, a3, bO, aF, bI, ca, Nat.reduceBEq, undef]
      refine ⟨hll, fun s hs => ?_⟩
      obtain ⟨t, ht, rfl⟩ := List.mem_map.1 hs
      have b1 := lg_bd (hlb _ ht) hg
      have b2 := sq_bd (d := n - t * g) (B := 170000000) (by omega)
      omega
end Go.Proofs.Ytfgpbmjmoobcnaa
end
section
open Go Go.Am
open Go.Am.Dat (cells)
namespace Go.Proofs.Ytfgpbmjmoobcnaa
set_option maxHeartbeats 4000000
set_option maxRecDepth 20000
set_option linter.unusedSimpArgs false
def RepR (a : List Fz) (r : List Gs) : Prop := a.length = r.length ∧ ∀ i, i < r.length → IsC (a.getD i ⟨0, 0⟩) (r.getD i ⟨0, 0⟩)
def RepM (a : List (List Fz)) (m : List (List Gs)) : Prop := a.length = m.length ∧ ∀ i, i < m.length → RepR (a.getD i []) (m.getD i [])
def gridS (m : List (List Gs)) : List (List Fz) := m.map fun r => r.map toW
theorem getD_map' {α β : Type} (f : α → β) (l : List α) (i : Nat) (d : α) (e : β) (h : i < l.length) : (l.map f).getD i e = f (l.getD i d) := by
  rw [List.getD_eq_getElem?_getD, List.getD_eq_getElem?_getD, List.getElem?_map, List.getElem?_eq_getElem h]; rfl
theorem grid_rep {m : List (List Gs)} (h : ∀ r ∈ m, ∀ g ∈ r, bd g 9007199254740991) : RepM (gridS m) m := by
  refine ⟨by simp [gridS], fun i hi => ?_⟩
  rw [gridS, getD_map' _ m i [] [] hi]
  refine ⟨by simp, fun j hj => ?_⟩
  rw [getD_map' _ _ j ⟨0, 0⟩ _ hj]
  exact isC_toW (h _ (getD_mem [] hi) _ (getD_mem _ hj))
theorem gridOf_c (m : List (List Gs)) (hm : m.length ≤ 1000) (hr : ∀ r ∈ m, r.length ≤ 1000000) : FC Try.prog 84 [enc m] [] (enc (gridS m)) [] := by
  refine fc_intro' is84 (by simp) (fun cx hl => S_run [] 800 ?_)
  delta c84
  simp (maxSteps := 4000000) -implicitDefEqProofs only [rv84, Ent.of0, Ent.of1, Ent.of2, Ent.of3, V, bP, bq, a9, cm, cQ, cP, gt, lk, cr, cb, b0, cq, cI, ce, ce.subCs, cV, bz, bL, bT, aW, a8, bh, aT, bp, br, aC, bj, aJ, bN, cK, cZ, au, aN, bM, cg, cp, cN, cS, aI, aj, cJ, bl, zC, argS, bK, cD, cW, cU, ah, aQ, aB, aY, bV, leC, cu, cn, bY, cR, bS, aH, aE, cM, am, cF, bG, bG.viewCs, bH, bH.flatCs, ax, ax.LensOks, Value.oneCell', ↓reduceIte, ite_true, ite_false, if_true, if_false, Nat.reduceAdd, Nat.reduceSub, Nat.reduceMul, Nat.reduceEqDiff, Nat.reduceLT, Nat.reduceLeDiff, reduceCtorEq, Int.reduceToNat, forall_const, implies_true, a4, Ent.mk3, bm, bg, bw, bJ, bB, bf, a6, bu, a5, bv, bo, bR, be, cT, rn, co, co.renCs, aR, av, aX, aX.viewOks, aK, bn, bn.flatBs, aU, ak, az, an, aL, aZ, aZ.keysBs, aP, ai, bk, cz, bD, bW, ae, ae.passKs, aV, aA, af, af.lendKs, cC, bQ, bX, bF, setInn, ag, cY, cO, aM, a7, cc, cG, ay, aO, Glob.gl, aG, cd, bE, bU, bA, ap, cj, c6, cH, cL, cB, ar, ar.ptrOnlys, aq, aw, bZ, aD, bC, a3, bO, aF, bI, ca, Nat.reduceBEq, undef]
  refine S_forU m.length (fun i => [(11, .s (.int .i64 i))]) (fun i => [(3, .row 1 152 ((gridS (m.take i)).map cells))]) (fun _ => True) trivial ?_ (fun i hi _ => S_run [] 800 ?_)
  · simp (maxSteps := 4000000) -implicitDefEqProofs only [gridS, Ent.of0, Ent.of1, Ent.of2, Ent.of3, V, bP, bq, a9, cm, cQ, cP, gt, lk, cr, cb, b0, cq, cI, ce, ce.subCs, cV, bz, bL, bT, aW, a8, bh, aT, bp, br, aC, bj, aJ, bN, cK, cZ, au, aN, bM, cg, cp, cN, cS, aI, aj, cJ, bl, zC, argS, bK, cD, cW, cU, ah, aQ, aB, aY, bV, leC, cu, cn, bY, cR, bS, aH, aE, cM, am, cF, bG, bG.viewCs, bH, bH.flatCs, ax, ax.LensOks, Value.oneCell', ↓reduceIte, ite_true, ite_false, if_true, if_false, Nat.reduceAdd, Nat.reduceSub, Nat.reduceMul, Nat.reduceEqDiff, Nat.reduceLT, Nat.reduceLeDiff, reduceCtorEq, Int.reduceToNat, forall_const, implies_true, a4, Ent.mk3, bm, bg, bw, bJ, bB, bf, a6, bu, a5, bv, bo, bR, be, cT, rn, co, co.renCs, aR, av, aX, aX.viewOks, aK, bn, bn.flatBs, aU, ak, az, an, aL, aZ, aZ.keysBs, aP, ai, bk, cz, bD, bW, ae, ae.passKs, aV, aA, af, af.lendKs, cC, bQ, bX, bF, setInn, ag, cY, cO, aM, a7, cc, cG, ay, aO, Glob.gl, aG, cd, bE, bU, bA, ap, cj, c6, cH, cL, cB, ar, ar.ptrOnlys, aq, aw, bZ, aD, bC, a3, bO, aF, bI, ca, Nat.reduceBEq, undef]; simp
  · by_cases h : i < m.length
    · have hi2 : (i : Int) < (m.length : Int) := by omega
      have hrl := hr _ (getD_mem [] h)
      delta c84l2
      simp (maxSteps := 4000000) -implicitDefEqProofs only [hi2, getD_list, h, Ent.of0, Ent.of1, Ent.of2, Ent.of3, V, bP, bq, a9, cm, cQ, cP, gt, lk, cr, cb, b0, cq, cI, ce, ce.subCs, cV, bz, bL, bT, aW, a8, bh, aT, bp, br, aC, bj, aJ, bN, cK, cZ, au, aN, bM, cg, cp, cN, cS, aI, aj, cJ, bl, zC, argS, bK, cD, cW, cU, ah, aQ, aB, aY, bV, leC, cu, cn, bY, cR, bS, aH, aE, cM, am, cF, bG, bG.viewCs, bH, bH.flatCs, ax, ax.LensOks, Value.oneCell', ↓reduceIte, ite_true, ite_false, if_true, if_false, Nat.reduceAdd, Nat.reduceSub, Nat.reduceMul, Nat.reduceEqDiff, Nat.reduceLT, Nat.reduceLeDiff, reduceCtorEq, Int.reduceToNat, forall_const, implies_true, a4, Ent.mk3, bm, bg, bw, bJ, bB, bf, a6, bu, a5, bv, bo, bR, be, cT, rn, co, co.renCs, aR, av, aX, aX.viewOks, aK, bn, bn.flatBs, aU, ak, az, an, aL, aZ, aZ.keysBs, aP, ai, bk, cz, bD, bW, ae, ae.passKs, aV, aA, af, af.lendKs, cC, bQ, bX, bF, setInn, ag, cY, cO, aM, a7, cc, cG, ay, aO, Glob.gl, aG, cd, bE, bU, bA, ap, cj, c6, cH, cL, cB, ar, ar.ptrOnlys, aq, aw, bZ, aD, bC, a3, bO, aF, bI, ca, Nat.reduceBEq, undef]
      refine ⟨by omega, ?_⟩
      generalize hR : m.getD i [] = R at *
      refine S_forU R.length (fun j => [(17, .s (.int .i64 j))]) (fun j => [(6, .row 1 153 (((R.take j).map toW).map cells))]) (fun _ => True) trivial ?_ (fun j hj _ => S_run [] 800 ?_)
      · simp (maxSteps := 4000000) -implicitDefEqProofs only [Ent.of0, Ent.of1, Ent.of2, Ent.of3, V, bP, bq, a9, cm, cQ, cP, gt, lk, cr, cb, b0, cq, cI, ce, ce.subCs, cV, bz, bL, bT, aW, a8, bh, aT, bp, br, aC, bj, aJ, bN, cK, cZ, au, aN, bM, cg, cp, cN, cS, aI, aj, cJ, bl, zC, argS, bK, cD, cW, cU, ah, aQ, aB, aY, bV, leC, cu, cn, bY, cR, bS, aH, aE, cM, am, cF, bG, bG.viewCs, bH, bH.flatCs, ax, ax.LensOks, Value.oneCell', ↓reduceIte, ite_true, ite_false, if_true, if_false, Nat.reduceAdd, Nat.reduceSub, Nat.reduceMul, Nat.reduceEqDiff, Nat.reduceLT, Nat.reduceLeDiff, reduceCtorEq, Int.reduceToNat, forall_const, implies_true, a4, Ent.mk3, bm, bg, bw, bJ, bB, bf, a6, bu, a5, bv, bo, bR, be, cT, rn, co, co.renCs, aR, av, aX, aX.viewOks, aK, bn, bn.flatBs, aU, ak, az, an, aL, aZ, aZ.keysBs, aP, ai, bk, cz, bD, bW, ae, ae.passKs, aV, aA, af, af.lendKs, cC, bQ, bX, bF, setInn, ag, cY, cO, aM, a7, cc, cG, ay, aO, Glob.gl, aG, cd, bE, bU, bA, ap, cj, c6, cH, cL, cB, ar, ar.ptrOnlys, aq, aw, bZ, aD, bC, a3, bO, aF, bI, ca, Nat.reduceBEq, undef]; simp
      · by_cases hjl : j < R.length
        · have hj2 : (j : Int) < (R.length : Int) := by omega
          have htk : ((R.take j).map toW).map cells ++ [[C.s (.complex .f64 (FloatKind.f64.nearest (R.getD j ⟨0, 0⟩).re) (FloatKind.f64.nearest (R.getD j ⟨0, 0⟩).im))]] = ((R.take (j + 1)).map toW).map cells := by
            rw [take_getD ⟨0, 0⟩ hjl, List.map_append, List.map_append]; rfl
          have htl : (R.take j).length = j := by rw [List.length_take]; omega
          delta c84l1
          simp (maxSteps := 4000000) -implicitDefEqProofs only [hj2, hjl, bN, htk, htl, InR, Ent.of0, Ent.of1, Ent.of2, Ent.of3, V, bP, bq, a9, cm, cQ, cP, gt, lk, cr, cb, b0, cq, cI, ce, ce.subCs, cV, bz, bL, bT, aW, a8, bh, aT, bp, br, aC, bj, aJ, bN, cK, cZ, au, aN, bM, cg, cp, cN, cS, aI, aj, cJ, bl, zC, argS, bK, cD, cW, cU, ah, aQ, aB, aY, bV, leC, cu, cn, bY, cR, bS, aH, aE, cM, am, cF, bG, bG.viewCs, bH, bH.flatCs, ax, ax.LensOks, Value.oneCell', ↓reduceIte, ite_true, ite_false, if_true, if_false, Nat.reduceAdd, Nat.reduceSub, Nat.reduceMul, Nat.reduceEqDiff, Nat.reduceLT, Nat.reduceLeDiff, reduceCtorEq, Int.reduceToNat, forall_const, implies_true, a4, Ent.mk3, bm, bg, bw, bJ, bB, bf, a6, bu, a5, bv, bo, bR, be, cT, rn, co, co.renCs, aR, av, aX, aX.viewOks, aK, bn, bn.flatBs, aU, ak, az, an, aL, aZ, aZ.keysBs, aP, ai, bk, cz, bD, bW, ae, ae.passKs, aV, aA, af, af.lendKs, cC, bQ, bX, bF, setInn, ag, cY, cO, aM, a7, cc, cG, ay, aO, Glob.gl, aG, cd, bE, bU, bA, ap, cj, c6, cH, cL, cB, ar, ar.ptrOnlys, aq, aw, bZ, aD, bC, a3, bO, aF, bI, ca, Nat.reduceBEq, undef]
          and_intros <;> first | omega | rfl | trivial
        · have : j = R.length := by omega
          subst this
          have hj2 : ¬ (R.length : Int) < (R.length : Int) := by omega
          have htk : (gridS (m.take i)).map cells ++ [[C.sl 1 ((R.map toW).map cells)]] = (gridS (m.take (i + 1))).map cells := by
            rw [take_getD [] h, hR, gridS, gridS, List.map_append, List.map_append]; rfl
          have htl : (gridS (m.take i)).length = i := by rw [gridS, List.length_map, List.length_take]; omega
          delta c84l1
          simp (maxSteps := 4000000) -implicitDefEqProofs only [hj2, List.take_length, htk, htl, InR, Ent.of0, Ent.of1, Ent.of2, Ent.of3, V, bP, bq, a9, cm, cQ, cP, gt, lk, cr, cb, b0, cq, cI, ce, ce.subCs, cV, bz, bL, bT, aW, a8, bh, aT, bp, br, aC, bj, aJ, bN, cK, cZ, au, aN, bM, cg, cp, cN, cS, aI, aj, cJ, bl, zC, argS, bK, cD, cW, cU, ah, aQ, aB, aY, bV, leC, cu, cn, bY, cR, bS, aH, aE, cM, am, cF, bG, bG.viewCs, bH, bH.flatCs, ax, ax.LensOks, Value.oneCell', ↓reduceIte, ite_true, ite_false, if_true, if_false, Nat.reduceAdd, Nat.reduceSub, Nat.reduceMul, Nat.reduceEqDiff, Nat.reduceLT, Nat.reduceLeDiff, reduceCtorEq, Int.reduceToNat, forall_const, implies_true, a4, Ent.mk3, bm, bg, bw, bJ, bB, bf, a6, bu, a5, bv, bo, bR, be, cT, rn, co, co.renCs, aR, av, aX, aX.viewOks, aK, bn, bn.flatBs, aU, ak, az, an, aL, aZ, aZ.keysBs, aP, ai, bk, cz, bD, bW, ae, ae.passKs, aV, aA, af, af.lendKs, cC, bQ, bX, bF, setInn, ag, cY, cO, aM, a7, cc, cG, ay, aO, Glob.gl, aG, cd, bE, bU, bA, ap, cj, c6, cH, cL, cB, ar, ar.ptrOnlys, aq, aw, bZ, aD, bC, a3, bO, aF, bI, ca, Nat.reduceBEq, undef]
          and_intros <;> first | omega | rfl | trivial
    · have : i = m.length := by omega
      subst this
      have hi2 : ¬ (m.length : Int) < (m.length : Int) := by omega
      delta c84l2
      simp (maxSteps := 4000000) -implicitDefEqProofs only [hi2, rv84, List.take_length, Ent.of0, Ent.of1, Ent.of2, Ent.of3, V, bP, bq, a9, cm, cQ, cP, gt, lk, cr, cb, b0, cq, cI, ce, ce.subCs, cV, bz, bL, bT, aW, a8, bh, aT, bp, br, aC, bj, aJ, bN, cK, cZ, au, aN, bM, cg, cp, cN, cS, aI, aj, cJ, bl, zC, argS, bK, cD, cW, cU, ah, aQ, aB, aY, bV, leC, cu, cn, bY, cR, bS, aH, aE, cM, am, cF, bG, bG.viewCs, bH, bH.flatCs, ax, ax.LensOks, Value.oneCell', ↓reduceIte, ite_true, ite_false, if_true, if_false, Nat.reduceAdd, Nat.reduceSub, Nat.reduceMul, Nat.reduceEqDiff, Nat.reduceLT, Nat.reduceLeDiff, reduceCtorEq, Int.reduceToNat, forall_const, implies_true, a4, Ent.mk3, bm, bg, bw, bJ, bB, bf, a6, bu, a5, bv, bo, bR, be, cT, rn, co, co.renCs, aR, av, aX, aX.viewOks, aK, bn, bn.flatBs, aU, ak, az, an, aL, aZ, aZ.keysBs, aP, ai, bk, cz, bD, bW, ae, ae.passKs, aV, aA, af, af.lendKs, cC, bQ, bX, bF, setInn, ag, cY, cO, aM, a7, cc, cG, ay, aO, Glob.gl, aG, cd, bE, bU, bA, ap, cj, c6, cH, cL, cB, ar, ar.ptrOnlys, aq, aw, bZ, aD, bC, a3, bO, aF, bI, ca, Nat.reduceBEq, undef]
def e84 : Ent Try.prog := .of1 84 (fun m => m.length ≤ 1000 ∧ ∀ r ∈ m, r.length ≤ 1000000) (fun m : List (List Gs) => enc (gridS m)) (fun _ => trivial) (fun m h => gridOf_c m h.1 h.2)
end Go.Proofs.Ytfgpbmjmoobcnaa
end
section
open Go Go.Am
open Go.Am.Dat (cells)
namespace Go.Proofs.Ytfgpbmjmoobcnaa
set_option maxHeartbeats 4000000
set_option maxRecDepth 20000
set_option linter.unusedSimpArgs false
def dotW (row : List Fz) (o : List (List Fz)) (i : Nat) : Nat → Fz
  | 0 => ⟨0, 0⟩
  | k + 1 => addW (dotW row o i k) (mulW (row.getD k ⟨0, 0⟩) ((o.getD k []).getD i ⟨0, 0⟩))
def rowW (o : List (List Fz)) (row : List Fz) : List Fz := (List.range (o.getD 0 []).length).map fun i => dotW row o i o.length
def timesW (a o : List (List Fz)) : List (List Fz) := a.map (rowW o)
def sumW (row : List Fz) (o : List (List Fz)) (n k j : Nat) : List Fz := (List.range n).map fun i => if i < j then dotW row o i (k + 1) else dotW row o i k
theorem sumW_get {row : List Fz} {o : List (List Fz)} {n k j : Nat} (h : j < n) : (sumW row o n k j).getD j ⟨0, 0⟩ = dotW row o j k := by
  simp [sumW, h]
theorem sumW_set {row : List Fz} {o : List (List Fz)} {n k j : Nat} (h : j < n) : ((sumW row o n k j).map cells).set j [C.s (.complex .f64 (dotW row o j (k + 1)).x (dotW row o j (k + 1)).y)] = (sumW row o n k (j + 1)).map cells := by
  have e : [C.s (.complex .f64 (dotW row o j (k + 1)).x (dotW row o j (k + 1)).y)] = cells (dotW row o j (k + 1)) := rfl
  rw [e, ← List.map_set]
  congr 1
  apply List.ext_getElem?
  intro i
  simp only [sumW, List.getElem?_set, List.getElem?_map, List.length_map, List.length_range]
  by_cases hi : j = i
  · subst hi; simp [h]
  · rw [if_neg hi]
    by_cases hin : i < n
    · simp only [List.getElem?_range hin, Option.map_some, Option.some.injEq]
      have : (i < j + 1) = (i < j) := by apply propext; omega
      simp only [this]
    · rw [List.getElem?_eq_none (by simpa using hin)]; rfl
theorem sumW_next (row : List Fz) (o : List (List Fz)) (n k : Nat) : sumW row o n k n = sumW row o n (k + 1) 0 := by
  unfold sumW
  refine List.map_congr_left fun i hi => ?_
  have : i < n := by simpa using hi
  simp [this]
theorem rng_getD {α : Type} {n i : Nat} (f : Nat → α) (d : α) (h : i < n) : ((List.range n).map f).getD i d = f i := by
  rw [List.getD_eq_getElem?_getD, List.getElem?_map, List.getElem?_range h]; rfl
theorem sumW_zero (row : List Fz) (o : List (List Fz)) (n : Nat) : (sumW row o n 0 0).map cells = List.replicate n [C.s (.complex .f64 0 0)] := by
  unfold sumW
  rw [List.map_map, List.eq_replicate_iff]
  refine ⟨by simp, fun b hb => ?_⟩
  obtain ⟨i, _, rfl⟩ := List.mem_map.1 hb
  simp [dotW, cells_fz]
theorem dot_c {a o : List (List Fz)} {m ls : List (List Gs)} {A B : Nat} (hf : Fits m ls A B) (hs : 8 * (A * B) ≤ 9007199254740991) (ha : RepM a m) (ho : RepM o ls) {r i : Nat} (hr : r < m.length) (hi : i < (ls.getD 0 []).length) : ∀ k, k ≤ ls.length → IsC (dotW (a.getD r []) o i k) (dotS (m.getD r []) ls i k) ∧
    (k < ls.length → aN .mul ((a.getD r []).getD k ⟨0, 0⟩).x ((a.getD r []).getD k ⟨0, 0⟩).y ((o.getD k []).getD i ⟨0, 0⟩).x ((o.getD k []).getD i ⟨0, 0⟩).y = some ((mulW ((a.getD r []).getD k ⟨0, 0⟩) ((o.getD k []).getD i ⟨0, 0⟩)).x, (mulW ((a.getD r []).getD k ⟨0, 0⟩) ((o.getD k []).getD i ⟨0, 0⟩)).y) ∧
      aN .add (dotW (a.getD r []) o i k).x (dotW (a.getD r []) o i k).y (mulW ((a.getD r []).getD k ⟨0, 0⟩) ((o.getD k []).getD i ⟨0, 0⟩)).x (mulW ((a.getD r []).getD k ⟨0, 0⟩) ((o.getD k []).getD i ⟨0, 0⟩)).y = some ((dotW (a.getD r []) o i (k + 1)).x, (dotW (a.getD r []) o i (k + 1)).y) ∧
      IsC (dotW (a.getD r []) o i (k + 1)) (dotS (m.getD r []) ls i (k + 1))) := by
  have hrm : m.getD r [] ∈ m := getD_mem [] hr
  have hcol := hf.cols _ hrm
  have step : ∀ k, k < ls.length → IsC (dotW (a.getD r []) o i k) (dotS (m.getD r []) ls i k) → (aN .mul ((a.getD r []).getD k ⟨0, 0⟩).x ((a.getD r []).getD k ⟨0, 0⟩).y ((o.getD k []).getD i ⟨0, 0⟩).x ((o.getD k []).getD i ⟨0, 0⟩).y = some ((mulW ((a.getD r []).getD k ⟨0, 0⟩) ((o.getD k []).getD i ⟨0, 0⟩)).x, (mulW ((a.getD r []).getD k ⟨0, 0⟩) ((o.getD k []).getD i ⟨0, 0⟩)).y) ∧
      aN .add (dotW (a.getD r []) o i k).x (dotW (a.getD r []) o i k).y (mulW ((a.getD r []).getD k ⟨0, 0⟩) ((o.getD k []).getD i ⟨0, 0⟩)).x (mulW ((a.getD r []).getD k ⟨0, 0⟩) ((o.getD k []).getD i ⟨0, 0⟩)).y = some ((dotW (a.getD r []) o i (k + 1)).x, (dotW (a.getD r []) o i (k + 1)).y) ∧
      IsC (dotW (a.getD r []) o i (k + 1)) (dotS (m.getD r []) ls i (k + 1))) := fun k hk hd => by
    have hik : i < (ls.getD k []).length := by rw [hf.len _ (getD_mem [] hk)]; exact hi
    have b1 := hf.ma _ hrm _ (getD_mem ⟨0, 0⟩ (by omega : k < (m.getD r []).length))
    have b2 := hf.mb _ (getD_mem [] hk) _ (getD_mem ⟨0, 0⟩ hik)
    have b3 := bd_dot hf hrm hi k (by omega)
    have hle := hf.le
    obtain ⟨m1, m2⟩ := mulW_c ((ha.2 r hr).2 k (by omega)) ((ho.2 k hk).2 i hik) b1 b2 (by omega)
    have b4 := bd_gmul b1 b2
    obtain ⟨a1, a2⟩ := addW_c hd m2 b3 b4 (by
      have : k * (2 * (A * B)) ≤ 3 * (2 * (A * B)) := Nat.mul_le_mul_right _ (by omega)
      omega)
    exact ⟨m1, a1, a2⟩
  intro k
  induction k with
  | zero => intro _; exact ⟨isC_zero, fun h => step 0 h isC_zero⟩
  | succ k ih =>
    intro hk
    have := ((ih (by omega)).2 (by omega)).2.2
    exact ⟨this, fun h => step (k + 1) h this⟩
theorem times_rep {a o : List (List Fz)} {m ls : List (List Gs)} {A B : Nat} (hf : Fits m ls A B) (hs : 8 * (A * B) ≤ 9007199254740991) (ha : RepM a m) (ho : RepM o ls) : RepM (timesW a o) (applS m ls) := by
  have hp := hf.pos
  refine ⟨by simp [timesW, applS, ha.1], fun r hr => ?_⟩
  have hr' : r < m.length := by simpa [applS] using hr
  rw [timesW, applS, getD_map' _ a r [] [] (by rw [ha.1]; exact hr'), getD_map' _ m r [] [] hr']
  have hl : (o.getD 0 []).length = (ls.getD 0 []).length := (ho.2 0 hp).1
  refine ⟨by simp only [rowW, rowS', List.length_map, List.length_range, hl], fun i hi => ?_⟩
  have hi' : i < (ls.getD 0 []).length := by simpa [rowS'] using hi
  have := (dot_c hf hs ha ho hr' hi' ls.length (Nat.le_refl _)).1
  have e1 : (rowW o (a.getD r [])).getD i ⟨0, 0⟩ = dotW (a.getD r []) o i ls.length := by rw [rowW, hl, ho.1, rng_getD _ _ hi']
  have e2 : (rowS' ls (m.getD r [])).getD i ⟨0, 0⟩ = dotS (m.getD r []) ls i ls.length := by rw [rowS', rng_getD _ _ hi']
  rw [e1, e2]; exact this
theorem gridTimes_c (a o : List (List Fz)) (m ls : List (List Gs)) (A B : Nat) (hf : Fits m ls A B) (hs : 8 * (A * B) ≤ 9007199254740991) (ha : RepM a m) (ho : RepM o ls) : FC Try.prog 86 [enc a, enc o] [] (enc (timesW a o)) [] := by
  refine fc_intro' is86 (by simp) (fun cx hl => S_run [] 800 ?_)
  have hp := hf.pos
  have hle := hf.le
  have hmle := hf.mle
  have hsh := hf.short
  have hoL := ho.1
  have haL := ha.1
  have hn0 : (o.getD 0 []).length = (ls.getD 0 []).length := (ho.2 0 hp).1
  generalize hn : (ls.getD 0 []).length = n at *
  have ho0 : 0 < o.length := by omega
  delta c86
  simp (maxSteps := 4000000) -implicitDefEqProofs only [rv86, Ent.of0, Ent.of1, Ent.of2, Ent.of3, V, bP, bq, a9, cm, cQ, cP, gt, lk, cr, cb, b0, cq, cI, ce, ce.subCs, cV, bz, bL, bT, aW, a8, bh, aT, bp, br, aC, bj, aJ, bN, cK, cZ, au, aN, bM, cg, cp, cN, cS, aI, aj, cJ, bl, zC, argS, bK, cD, cW, cU, ah, aQ, aB, aY, bV, leC, cu, cn, bY, cR, bS, aH, aE, cM, am, cF, bG, bG.viewCs, bH, bH.flatCs, ax, ax.LensOks, Value.oneCell', ↓reduceIte, ite_true, ite_false, if_true, if_false, Nat.reduceAdd, Nat.reduceSub, Nat.reduceMul, Nat.reduceEqDiff, Nat.reduceLT, Nat.reduceLeDiff, reduceCtorEq, Int.reduceToNat, forall_const, implies_true, a4, Ent.mk3, bm, bg, bw, bJ, bB, bf, a6, bu, a5, bv, bo, bR, be, cT, rn, co, co.renCs, aR, av, aX, aX.viewOks, aK, bn, bn.flatBs, aU, ak, az, an, aL, aZ, aZ.keysBs, aP, ai, bk, cz, bD, bW, ae, ae.passKs, aV, aA, af, af.lendKs, cC, bQ, bX, bF, setInn, ag, cY, cO, aM, a7, cc, cG, ay, aO, Glob.gl, aG, cd, bE, bU, bA, ap, cj, c6, cH, cL, cB, ar, ar.ptrOnlys, aq, aw, bZ, aD, bC, a3, bO, aF, bI, ca, Nat.reduceBEq, undef]
  refine S_forU a.length (fun i => [(15, .s (.int .i64 i))]) (fun i => [(5, .row 1 152 ((timesW (a.take i) o).map cells))]) (fun _ => True) trivial ?_ (fun i hi _ => S_run [] 800 ?_)
  · simp (maxSteps := 4000000) -implicitDefEqProofs only [timesW, Ent.of0, Ent.of1, Ent.of2, Ent.of3, V, bP, bq, a9, cm, cQ, cP, gt, lk, cr, cb, b0, cq, cI, ce, ce.subCs, cV, bz, bL, bT, aW, a8, bh, aT, bp, br, aC, bj, aJ, bN, cK, cZ, au, aN, bM, cg, cp, cN, cS, aI, aj, cJ, bl, zC, argS, bK, cD, cW, cU, ah, aQ, aB, aY, bV, leC, cu, cn, bY, cR, bS, aH, aE, cM, am, cF, bG, bG.viewCs, bH, bH.flatCs, ax, ax.LensOks, Value.oneCell', ↓reduceIte, ite_true, ite_false, if_true, if_false, Nat.reduceAdd, Nat.reduceSub, Nat.reduceMul, Nat.reduceEqDiff, Nat.reduceLT, Nat.reduceLeDiff, reduceCtorEq, Int.reduceToNat, forall_const, implies_true, a4, Ent.mk3, bm, bg, bw, bJ, bB, bf, a6, bu, a5, bv, bo, bR, be, cT, rn, co, co.renCs, aR, av, aX, aX.viewOks, aK, bn, bn.flatBs, aU, ak, az, an, aL, aZ, aZ.keysBs, aP, ai, bk, cz, bD, bW, ae, ae.passKs, aV, aA, af, af.lendKs, cC, bQ, bX, bF, setInn, ag, cY, cO, aM, a7, cc, cG, ay, aO, Glob.gl, aG, cd, bE, bU, bA, ap, cj, c6, cH, cL, cB, ar, ar.ptrOnlys, aq, aw, bZ, aD, bC, a3, bO, aF, bI, ca, Nat.reduceBEq, undef]; simp
  · by_cases h : i < a.length
    · have hi2 : (i : Int) < (a.length : Int) := by omega
      have him : i < m.length := by omega
      have hcol : (a.getD i []).length = ls.length := by rw [(ha.2 i him).1]; exact hf.cols _ (getD_mem [] him)
      delta c86l3
      simp (maxSteps := 4000000) -implicitDefEqProofs only [sz_fz, hi2, getD_list, h, ho0, hn0, Int.toNat_natCast, InR, Ent.of0, Ent.of1, Ent.of2, Ent.of3, V, bP, bq, a9, cm, cQ, cP, gt, lk, cr, cb, b0, cq, cI, ce, ce.subCs, cV, bz, bL, bT, aW, a8, bh, aT, bp, br, aC, bj, aJ, bN, cK, cZ, au, aN, bM, cg, cp, cN, cS, aI, aj, cJ, bl, zC, argS, bK, cD, cW, cU, ah, aQ, aB, aY, bV, leC, cu, cn, bY, cR, bS, aH, aE, cM, am, cF, bG, bG.viewCs, bH, bH.flatCs, ax, ax.LensOks, Value.oneCell', ↓reduceIte, ite_true, ite_false, if_true, if_false, Nat.reduceAdd, Nat.reduceSub, Nat.reduceMul, Nat.reduceEqDiff, Nat.reduceLT, Nat.reduceLeDiff, reduceCtorEq, Int.reduceToNat, forall_const, implies_true, a4, Ent.mk3, bm, bg, bw, bJ, bB, bf, a6, bu, a5, bv, bo, bR, be, cT, rn, co, co.renCs, aR, av, aX, aX.viewOks, aK, bn, bn.flatBs, aU, ak, az, an, aL, aZ, aZ.keysBs, aP, ai, bk, cz, bD, bW, ae, ae.passKs, aV, aA, af, af.lendKs, cC, bQ, bX, bF, setInn, ag, cY, cO, aM, a7, cc, cG, ay, aO, Glob.gl, aG, cd, bE, bU, bA, ap, cj, c6, cH, cL, cB, ar, ar.ptrOnlys, aq, aw, bZ, aD, bC, a3, bO, aF, bI, ca, Nat.reduceBEq, undef]
      refine ⟨by omega, by omega, by omega, ?_⟩
      generalize hR : a.getD i [] = R at *
      refine S_forU R.length (fun k => [(26, .s (.int .i64 k))]) (fun k => [(23, .row 1 153 ((sumW R o n k 0).map cells))]) (fun _ => True) trivial ?_ (fun k hk _ => S_run [] 800 ?_)
      · simp (maxSteps := 4000000) -implicitDefEqProofs only [sumW_zero, Ent.of0, Ent.of1, Ent.of2, Ent.of3, V, bP, bq, a9, cm, cQ, cP, gt, lk, cr, cb, b0, cq, cI, ce, ce.subCs, cV, bz, bL, bT, aW, a8, bh, aT, bp, br, aC, bj, aJ, bN, cK, cZ, au, aN, bM, cg, cp, cN, cS, aI, aj, cJ, bl, zC, argS, bK, cD, cW, cU, ah, aQ, aB, aY, bV, leC, cu, cn, bY, cR, bS, aH, aE, cM, am, cF, bG, bG.viewCs, bH, bH.flatCs, ax, ax.LensOks, Value.oneCell', ↓reduceIte, ite_true, ite_false, if_true, if_false, Nat.reduceAdd, Nat.reduceSub, Nat.reduceMul, Nat.reduceEqDiff, Nat.reduceLT, Nat.reduceLeDiff, reduceCtorEq, Int.reduceToNat, forall_const, implies_true, a4, Ent.mk3, bm, bg, bw, bJ, bB, bf, a6, bu, a5, bv, bo, bR, be, cT, rn, co, co.renCs, aR, av, aX, aX.viewOks, aK, bn, bn.flatBs, aU, ak, az, an, aL, aZ, aZ.keysBs, aP, ai, bk, cz, bD, bW, ae, ae.passKs, aV, aA, af, af.lendKs, cC, bQ, bX, bF, setInn, ag, cY, cO, aM, a7, cc, cG, ay, aO, Glob.gl, aG, cd, bE, bU, bA, ap, cj, c6, cH, cL, cB, ar, ar.ptrOnlys, aq, aw, bZ, aD, bC, a3, bO, aF, bI, ca, Nat.reduceBEq, undef]; simp
      · by_cases hkl : k < R.length
        · have hk2 : (k : Int) < (R.length : Int) := by omega
          have hko : k < o.length := by omega
          have hkn : (o.getD k []).length = n := by rw [(ho.2 k (by omega)).1, ← hn]; exact hf.len _ (getD_mem [] (by omega))
          delta c86l2
          simp (maxSteps := 4000000) -implicitDefEqProofs only [hk2, hkl, hko, getD_list, getD_fz, sz_fz, Ent.of0, Ent.of1, Ent.of2, Ent.of3, V, bP, bq, a9, cm, cQ, cP, gt, lk, cr, cb, b0, cq, cI, ce, ce.subCs, cV, bz, bL, bT, aW, a8, bh, aT, bp, br, aC, bj, aJ, bN, cK, cZ, au, aN, bM, cg, cp, cN, cS, aI, aj, cJ, bl, zC, argS, bK, cD, cW, cU, ah, aQ, aB, aY, bV, leC, cu, cn, bY, cR, bS, aH, aE, cM, am, cF, bG, bG.viewCs, bH, bH.flatCs, ax, ax.LensOks, Value.oneCell', ↓reduceIte, ite_true, ite_false, if_true, if_false, Nat.reduceAdd, Nat.reduceSub, Nat.reduceMul, Nat.reduceEqDiff, Nat.reduceLT, Nat.reduceLeDiff, reduceCtorEq, Int.reduceToNat, forall_const, implies_true, a4, Ent.mk3, bm, bg, bw, bJ, bB, bf, a6, bu, a5, bv, bo, bR, be, cT, rn, co, co.renCs, aR, av, aX, aX.viewOks, aK, bn, bn.flatBs, aU, ak, az, an, aL, aZ, aZ.keysBs, aP, ai, bk, cz, bD, bW, ae, ae.passKs, aV, aA, af, af.lendKs, cC, bQ, bX, bF, setInn, ag, cY, cO, aM, a7, cc, cG, ay, aO, Glob.gl, aG, cd, bE, bU, bA, ap, cj, c6, cH, cL, cB, ar, ar.ptrOnlys, aq, aw, bZ, aD, bC, a3, bO, aF, bI, ca, Nat.reduceBEq, undef]
          refine ⟨by omega, by omega, ?_⟩
          refine S_forU n (fun j => [(36, .s (.int .i64 j))]) (fun j => [(23, .row 1 153 ((sumW R o n k j).map cells))]) (fun _ => True) trivial ?_ (fun j hj _ => S_run [] 800 ?_)
          · simp (maxSteps := 4000000) -implicitDefEqProofs only [Ent.of0, Ent.of1, Ent.of2, Ent.of3, V, bP, bq, a9, cm, cQ, cP, gt, lk, cr, cb, b0, cq, cI, ce, ce.subCs, cV, bz, bL, bT, aW, a8, bh, aT, bp, br, aC, bj, aJ, bN, cK, cZ, au, aN, bM, cg, cp, cN, cS, aI, aj, cJ, bl, zC, argS, bK, cD, cW, cU, ah, aQ, aB, aY, bV, leC, cu, cn, bY, cR, bS, aH, aE, cM, am, cF, bG, bG.viewCs, bH, bH.flatCs, ax, ax.LensOks, Value.oneCell', ↓reduceIte, ite_true, ite_false, if_true, if_false, Nat.reduceAdd, Nat.reduceSub, Nat.reduceMul, Nat.reduceEqDiff, Nat.reduceLT, Nat.reduceLeDiff, reduceCtorEq, Int.reduceToNat, forall_const, implies_true, a4, Ent.mk3, bm, bg, bw, bJ, bB, bf, a6, bu, a5, bv, bo, bR, be, cT, rn, co, co.renCs, aR, av, aX, aX.viewOks, aK, bn, bn.flatBs, aU, ak, az, an, aL, aZ, aZ.keysBs, aP, ai, bk, cz, bD, bW, ae, ae.passKs, aV, aA, af, af.lendKs, cC, bQ, bX, bF, setInn, ag, cY, cO, aM, a7, cc, cG, ay, aO, Glob.gl, aG, cd, bE, bU, bA, ap, cj, c6, cH, cL, cB, ar, ar.ptrOnlys, aq, aw, bZ, aD, bC, a3, bO, aF, bI, ca, Nat.reduceBEq, undef]; simp
          · by_cases hjl : j < n
            · have hj2 : (j : Int) < (n : Int) := by omega
              have hjk : j < (o.getD k []).length := by omega
              obtain ⟨d1, d2⟩ := dot_c hf hs ha ho him (by omega : j < (ls.getD 0 []).length) k (by omega)
              rw [hR] at d1 d2
              obtain ⟨d3, d4, d5⟩ := d2 (by omega)
              have hsl : (sumW R o n k j).length = n := by simp [sumW]
              have hsg := sumW_get (row := R) (o := o) (k := k) hjl
              have hsg' : ((sumW R o n k j).map cells).getD j [] = [C.s (.complex .f64 (dotW R o j k).x (dotW R o j k).y)] := by rw [getD_map' cells _ j ⟨0, 0⟩ _ (by omega), hsg]; rfl
              have hss := sumW_set (row := R) (o := o) (k := k) hjl
              simp only [aN] at d3 d4
              delta c86l1
              simp (maxSteps := 4000000) -implicitDefEqProofs only [sz_fz, hj2, hjl, hjk, hkn, bN, getD_fz, hsg, d3, d4, hsl, hsg', hss, aT, InR, Ent.of0, Ent.of1, Ent.of2, Ent.of3, V, bP, bq, a9, cm, cQ, cP, gt, lk, cr, cb, b0, cq, cI, ce, ce.subCs, cV, bz, bL, bT, aW, a8, bh, aT, bp, br, aC, bj, aJ, bN, cK, cZ, au, aN, bM, cg, cp, cN, cS, aI, aj, cJ, bl, zC, argS, bK, cD, cW, cU, ah, aQ, aB, aY, bV, leC, cu, cn, bY, cR, bS, aH, aE, cM, am, cF, bG, bG.viewCs, bH, bH.flatCs, ax, ax.LensOks, Value.oneCell', ↓reduceIte, ite_true, ite_false, if_true, if_false, Nat.reduceAdd, Nat.reduceSub, Nat.reduceMul, Nat.reduceEqDiff, Nat.reduceLT, Nat.reduceLeDiff, reduceCtorEq, Int.reduceToNat, forall_const, implies_true, a4, Ent.mk3, bm, bg, bw, bJ, bB, bf, a6, bu, a5, bv, bo, bR, be, cT, rn, co, co.renCs, aR, av, aX, aX.viewOks, aK, bn, bn.flatBs, aU, ak, az, an, aL, aZ, aZ.keysBs, aP, ai, bk, cz, bD, bW, ae, ae.passKs, aV, aA, af, af.lendKs, cC, bQ, bX, bF, setInn, ag, cY, cO, aM, a7, cc, cG, ay, aO, Glob.gl, aG, cd, bE, bU, bA, ap, cj, c6, cH, cL, cB, ar, ar.ptrOnlys, aq, aw, bZ, aD, bC, a3, bO, aF, bI, ca, Nat.reduceBEq, undef]
              and_intros <;> first | omega | rfl | trivial
            · have : j = n := by omega
              subst this
              have hj2 : ¬ (j : Int) < (j : Int) := by omega
              have hsn := sumW_next R o j k
              delta c86l1
              simp (maxSteps := 4000000) -implicitDefEqProofs only [hj2, hkn, hsn, InR, Ent.of0, Ent.of1, Ent.of2, Ent.of3, V, bP, bq, a9, cm, cQ, cP, gt, lk, cr, cb, b0, cq, cI, ce, ce.subCs, cV, bz, bL, bT, aW, a8, bh, aT, bp, br, aC, bj, aJ, bN, cK, cZ, au, aN, bM, cg, cp, cN, cS, aI, aj, cJ, bl, zC, argS, bK, cD, cW, cU, ah, aQ, aB, aY, bV, leC, cu, cn, bY, cR, bS, aH, aE, cM, am, cF, bG, bG.viewCs, bH, bH.flatCs, ax, ax.LensOks, Value.oneCell', ↓reduceIte, ite_true, ite_false, if_true, if_false, Nat.reduceAdd, Nat.reduceSub, Nat.reduceMul, Nat.reduceEqDiff, Nat.reduceLT, Nat.reduceLeDiff, reduceCtorEq, Int.reduceToNat, forall_const, implies_true, a4, Ent.mk3, bm, bg, bw, bJ, bB, bf, a6, bu, a5, bv, bo, bR, be, cT, rn, co, co.renCs, aR, av, aX, aX.viewOks, aK, bn, bn.flatBs, aU, ak, az, an, aL, aZ, aZ.keysBs, aP, ai, bk, cz, bD, bW, ae, ae.passKs, aV, aA, af, af.lendKs, cC, bQ, bX, bF, setInn, ag, cY, cO, aM, a7, cc, cG, ay, aO, Glob.gl, aG, cd, bE, bU, bA, ap, cj, c6, cH, cL, cB, ar, ar.ptrOnlys, aq, aw, bZ, aD, bC, a3, bO, aF, bI, ca, Nat.reduceBEq, undef]
              and_intros <;> first | omega | rfl | trivial
        · have : k = R.length := by omega
          subst this
          have hk2 : ¬ (R.length : Int) < (R.length : Int) := by omega
          have hrow : rowW o R = sumW R o n R.length 0 := by
            rw [rowW, hn0, hcol, ← hoL, sumW]
            refine List.map_congr_left fun i _ => ?_
            simp
          have htk : (timesW (a.take i) o).map cells ++ [[C.sl 1 ((sumW R o n R.length 0).map cells)]] = (timesW (a.take (i + 1)) o).map cells := by
            rw [take_getD [] h, hR, timesW, timesW, List.map_append, List.map_append, ← hrow]; rfl
          have htl : (timesW (a.take i) o).length = i := by rw [timesW, List.length_map, List.length_take]; omega
          delta c86l2
          simp (maxSteps := 4000000) -implicitDefEqProofs only [hk2, htk, htl, InR, Ent.of0, Ent.of1, Ent.of2, Ent.of3, V, bP, bq, a9, cm, cQ, cP, gt, lk, cr, cb, b0, cq, cI, ce, ce.subCs, cV, bz, bL, bT, aW, a8, bh, aT, bp, br, aC, bj, aJ, bN, cK, cZ, au, aN, bM, cg, cp, cN, cS, aI, aj, cJ, bl, zC, argS, bK, cD, cW, cU, ah, aQ, aB, aY, bV, leC, cu, cn, bY, cR, bS, aH, aE, cM, am, cF, bG, bG.viewCs, bH, bH.flatCs, ax, ax.LensOks, Value.oneCell', ↓reduceIte, ite_true, ite_false, if_true, if_false, Nat.reduceAdd, Nat.reduceSub, Nat.reduceMul, Nat.reduceEqDiff, Nat.reduceLT, Nat.reduceLeDiff, reduceCtorEq, Int.reduceToNat, forall_const, implies_true, a4, Ent.mk3, bm, bg, bw, bJ, bB, bf, a6, bu, a5, bv, bo, bR, be, cT, rn, co, co.renCs, aR, av, aX, aX.viewOks, aK, bn, bn.flatBs, aU, ak, az, an, aL, aZ, aZ.keysBs, aP, ai, bk, cz, bD, bW, ae, ae.passKs, aV, aA, af, af.lendKs, cC, bQ, bX, bF, setInn, ag, cY, cO, aM, a7, cc, cG, ay, aO, Glob.gl, aG, cd, bE, bU, bA, ap, cj, c6, cH, cL, cB, ar, ar.ptrOnlys, aq, aw, bZ, aD, bC, a3, bO, aF, bI, ca, Nat.reduceBEq, undef]
          and_intros <;> first | omega | rfl | trivial
    · have : i = a.length := by omega
      subst this
      have hi2 : ¬ (a.length : Int) < (a.length : Int) := by omega
      delta c86l3
      simp (maxSteps := 4000000) -implicitDefEqProofs only [hi2, rv86, List.take_length, Ent.of0, Ent.of1, Ent.of2, Ent.of3, V, bP, bq, a9, cm, cQ, cP, gt, lk, cr, cb, b0, cq, cI, ce, ce.subCs, cV, bz, bL, bT, aW, a8, bh, aT, bp, br, aC, bj, aJ, bN, cK, cZ, au, aN, bM, cg, cp, cN, cS, aI, aj, cJ, bl, zC, argS, bK, cD, cW, cU, ah, aQ, aB, aY, bV, leC, cu, cn, bY, cR, bS, aH, aE, cM, am, cF, bG, bG.viewCs, bH, bH.flatCs, ax, ax.LensOks, Value.oneCell', ↓reduceIte, ite_true, ite_false, if_true, if_false, Nat.reduceAdd, Nat.reduceSub, Nat.reduceMul, Nat.reduceEqDiff, Nat.reduceLT, Nat.reduceLeDiff, reduceCtorEq, Int.reduceToNat, forall_const, implies_true, a4, Ent.mk3, bm, bg, bw, bJ, bB, bf, a6, bu, a5, bv, bo, bR, be, cT, rn, co, co.renCs, aR, av, aX, aX.viewOks, aK, bn, bn.flatBs, aU, ak, az, an, aL, aZ, aZ.keysBs, aP, ai, bk, cz, bD, bW, ae, ae.passKs, aV, aA, af, af.lendKs, cC, bQ, bX, bF, setInn, ag, cY, cO, aM, a7, cc, cG, ay, aO, Glob.gl, aG, cd, bE, bU, bA, ap, cj, c6, cH, cL, cB, ar, ar.ptrOnlys, aq, aw, bZ, aD, bC, a3, bO, aF, bI, ca, Nat.reduceBEq, undef]
theorem RepM.len {a : List (List Fz)} {m : List (List Gs)} (h : RepM a m) : a.length = m.length := h.1
end Go.Proofs.Ytfgpbmjmoobcnaa
end
section
open Go Go.Am
open Go.Am.Dat (cells)
namespace Go.Proofs.Ytfgpbmjmoobcnaa
set_option maxHeartbeats 4000000
set_option maxRecDepth 20000
set_option linter.unusedSimpArgs false
def ofM (w : List (List Fz)) : List (List Gs) := w.map fun r => r.map ofW
theorem ofW_c {z : Fz} {g : Gs} (h : IsC z g) : ofW z = g := by
  unfold ofW
  rw [(ofF_c h.1).2, (ofF_c h.2).2]
theorem ofM_c {w : List (List Fz)} {m : List (List Gs)} (h : RepM w m) : ofM w = m := by
  apply List.ext_getElem
  · simpa [ofM] using h.1
  · intro i h1 h2
    have h3 := h.2 i h2
    have hw : i < w.length := by rw [h.1]; exact h2
    have e1 : (ofM w)[i] = (w.getD i []).map ofW := by simp [ofM, List.getD_eq_getElem?_getD, List.getElem?_eq_getElem hw]
    have e2 : m[i] = m.getD i [] := by rw [List.getD_eq_getElem?_getD, List.getElem?_eq_getElem h2]; rfl
    rw [e1, e2]
    apply List.ext_getElem
    · simpa using h3.1
    · intro j j1 j2
      have h4 := h3.2 j j2
      have hwj : j < (w.getD i []).length := by rw [h3.1]; exact j2
      have e3 : ((w.getD i []).map ofW)[j] = ofW ((w.getD i []).getD j ⟨0, 0⟩) := by
        rw [List.getElem_map]; congr 1
        rw [List.getD_eq_getElem?_getD (l := w.getD i []), List.getElem?_eq_getElem hwj]; rfl
      have e4 : (m.getD i [])[j] = (m.getD i []).getD j ⟨0, 0⟩ := by rw [List.getD_eq_getElem?_getD (l := m.getD i []), List.getElem?_eq_getElem j2]; rfl
      rw [e3, e4]; exact ofW_c h4
structure RowsOk (w : List (List Fz)) (m : List (List Gs)) : Prop where
  rep : RepM w m
  short : m.length ≤ 1000
  shorts : ∀ r ∈ m, r.length ≤ 1000000
  small : ∀ r ∈ m, ∀ g ∈ r, bd g 9007199254740991
end Go.Proofs.Ytfgpbmjmoobcnaa
end
section
open Go Go.Am
open Go.Am.Dat (cells)
namespace Go.Proofs.Ytfgpbmjmoobcnaa
set_option maxHeartbeats 4000000
set_option maxRecDepth 100000
set_option linter.unusedSimpArgs false
def turnsS (c : Nat) (a b : List Int) : List Int := (List.range c).flatMap fun i => [a.getD i 0, b.getD i 0]
theorem turnsS_succ (c : Nat) (a b : List Int) : turnsS (c + 1) a b = turnsS c a b ++ [a.getD c 0, b.getD c 0] := by simp [turnsS, List.range_succ]
theorem turnsS_length (a b : List Int) : ∀ c, (turnsS c a b).length = 2 * c
  | 0 => rfl
  | c + 1 => by rw [turnsS_succ, List.length_append, turnsS_length a b c]; simp; omega
def judgedS (c : Nat) (T : List Int → List Int) (gain : Int) (l : List Gs) : List Int := l.flatMap fun g => turnsS c (T (sqS c gain g.re)) (T (sqS c gain g.im))
def e136 (f : FuncId) (T : List Int → List Int) (c : Nat) (hc : c = 1 ∨ c = 2 ∨ c = 3) (hf : ∀ sq : List Int, sq.length = 2 ^ c → (∀ s ∈ sq, 0 ≤ s ∧ s ≤ 4611686018427387903) → FC Try.prog f [enc (lvls c), enc sq] [] (enc (T sq)) []) : Ent Try.prog where
  id := 136
  sp := fun _ _ => none
  ok := by intro _ _ _ _ _ _ h; cases h
  kp := fun args chs => match args, chs with
    | [.s (.int .i64 n), .ptr k1 o1, .ptr k2 o2, .ptr k3 o3], [(k1', .box [.sl 1 L]), (k2', .box [.s (.int .i64 o), .s (.int .i64 g), .sl 2 l]), (k3', .box [.fn (.func f') [] []])] =>
      some ((k1 = 100000 ∧ o1 = 0 ∧ k2 = 100001 ∧ o2 = 0 ∧ k3 = 100002 ∧ o3 = 0 ∧ k1' = 100000 ∧ k2' = 100001 ∧ k3' = 100002 ∧ f' = f ∧ L = (lvls c).map cells ∧ ∃ l' : List Gs, l = l'.map cells) ∧ (1 ≤ g ∧ g ≤ 10000000) ∧ -100000000 ≤ n ∧ n ≤ 100000000, enc (T (sqS c g n)))
    | _, _ => none
  kpok := by
    intro args chs p r hs hp
    split at hs
    · rename_i n k1 o1 k2 o2 k3 o3 k1' L k2' o g l k3' f'
      simp only [Option.some.injEq, Prod.mk.injEq] at hs
      obtain ⟨rfl, rfl⟩ := hs
      obtain ⟨⟨rfl, rfl, rfl, rfl, rfl, rfl, rfl, rfl, rfl, hff, rfl, l', rfl⟩, hg, hn⟩ := hp
      subst hff
      exact ⟨part_c f' T c hc hf ⟨o, g, l'⟩ n hg hn, rfl, trivial⟩
    · cases hs
theorem judged_c (f : FuncId) (T : List Int → List Int) (c : Nat) (hc : c = 1 ∨ c = 2 ∨ c = 3) (hf : ∀ sq : List Int, sq.length = 2 ^ c → (∀ s ∈ sq, 0 ≤ s ∧ s ≤ 4611686018427387903) → FC Try.prog f [enc (lvls c), enc sq] [] (enc (T sq)) [])
    (hT : ∀ sq : List Int, sq.length = 2 ^ c → (T sq).length = c) (g : Int) (l : List Gs) (hg : 1 ≤ g ∧ g ≤ 10000000) (hn : ∀ s ∈ l, (-100000000 ≤ s.re ∧ s.re ≤ 100000000) ∧ -100000000 ≤ s.im ∧ s.im ≤ 100000000) (hll : l.length ≤ 1000) :
    FC Try.prog 115 [enc (⟨2 * (c : Int), g, l⟩ : Recv), .fn (.func f) [] []] [] (enc (judgedS c T g l)) [] := by
  have hlc := lvls_length c
  have hq : (2 * (c : Int)).tdiv 2 = (c : Int) := by rw [Int.mul_comm]; exact Int.mul_tdiv_cancel _ (by decide)
  have hmin : min c IntKind.i64.bits = c := by rcases hc with rfl | rfl | rfl <;> decide
  have hP : (2 : Int) ^ c = ((2 ^ c : Nat) : Int) := by push_cast; rfl
  have hPb : 2 ≤ 2 ^ c ∧ 2 ^ c ≤ 8 := by rcases hc with rfl | rfl | rfl <;> decide
  have hget : ∀ i, i < 2 ^ c → (lvls c).getD i 0 = 2 * (i : Int) - ((2 ^ c : Nat) - 1) := fun i hi => by
    have hi' : i < (lvls c).length := by omega
    rw [List.getD_eq_getElem?_getD, List.getElem?_eq_getElem hi']
    simp [lvls]
  refine fc_introC [] is115 (by simp) trivial trivial trivial trivial (fun cx hcx hl _ => S_run [] 800 ?_)
  delta c115
  simp (maxSteps := 4000000) -implicitDefEqProofs only [rv115, enc_recv, hq, hmin, hP, Int.one_mul, InR, Ent.of0, Ent.of1, Ent.of2, Ent.of3, V, bP, bq, a9, cm, cQ, cP, gt, lk, cr, cb, b0, cq, cI, ce, ce.subCs, cV, bz, bL, bT, aW, a8, bh, aT, bp, br, aC, bj, aJ, bN, cK, cZ, au, aN, bM, cg, cp, cN, cS, aI, aj, cJ, bl, zC, argS, bK, cD, cW, cU, ah, aQ, aB, aY, bV, leC, cu, cn, bY, cR, bS, aH, aE, cM, am, cF, bG, bG.viewCs, bH, bH.flatCs, ax, ax.LensOks, Value.oneCell', ↓reduceIte, ite_true, ite_false, if_true, if_false, Nat.reduceAdd, Nat.reduceSub, Nat.reduceMul, Nat.reduceEqDiff, Nat.reduceLT, Nat.reduceLeDiff, reduceCtorEq, Int.reduceToNat, forall_const, implies_true, a4, Ent.mk3, bm, bg, bw, bJ, bB, bf, a6, bu, a5, bv, bo, bR, be, cT, rn, co, co.renCs, aR, av, aX, aX.viewOks, aK, bn, bn.flatBs, aU, ak, az, an, aL, aZ, aZ.keysBs, aP, ai, bk, cz, bD, bW, ae, ae.passKs, aV, aA, af, af.lendKs, cC, bQ, bX, bF, setInn, ag, cY, cO, aM, a7, cc, cG, ay, aO, Glob.gl, aG, cd, bE, bU, bA, ap, cj, c6, cH, cL, cB, ar, ar.ptrOnlys, aq, aw, bZ, aD, bC, a3, bO, aF, bI, ca, Nat.reduceBEq, undef]
  refine ⟨by omega, by omega, by omega, ?_⟩
  refine S_forU (2 ^ c) (fun i => [(7, .s (.int .i64 (2 * (i : Int) - ((2 ^ c : Nat) - 1))))]) (fun i => [(6, .box [if i = 0 then .s (.slice none 0 0) else .isl 1 3 (((lvls c).take i).map cells)])]) (fun _ => True) trivial ?_ (fun i hi _ => ?_)
  · simp (maxSteps := 4000000) -implicitDefEqProofs only [Ent.of0, Ent.of1, Ent.of2, Ent.of3, V, bP, bq, a9, cm, cQ, cP, gt, lk, cr, cb, b0, cq, cI, ce, ce.subCs, cV, bz, bL, bT, aW, a8, bh, aT, bp, br, aC, bj, aJ, bN, cK, cZ, au, aN, bM, cg, cp, cN, cS, aI, aj, cJ, bl, zC, argS, bK, cD, cW, cU, ah, aQ, aB, aY, bV, leC, cu, cn, bY, cR, bS, aH, aE, cM, am, cF, bG, bG.viewCs, bH, bH.flatCs, ax, ax.LensOks, Value.oneCell', ↓reduceIte, ite_true, ite_false, if_true, if_false, Nat.reduceAdd, Nat.reduceSub, Nat.reduceMul, Nat.reduceEqDiff, Nat.reduceLT, Nat.reduceLeDiff, reduceCtorEq, Int.reduceToNat, forall_const, implies_true, a4, Ent.mk3, bm, bg, bw, bJ, bB, bf, a6, bu, a5, bv, bo, bR, be, cT, rn, co, co.renCs, aR, av, aX, aX.viewOks, aK, bn, bn.flatBs, aU, ak, az, an, aL, aZ, aZ.keysBs, aP, ai, bk, cz, bD, bW, ae, ae.passKs, aV, aA, af, af.lendKs, cC, bQ, bX, bF, setInn, ag, cY, cO, aM, a7, cc, cG, ay, aO, Glob.gl, aG, cd, bE, bU, bA, ap, cj, c6, cH, cL, cB, ar, ar.ptrOnlys, aq, aw, bZ, aD, bC, a3, bO, aF, bI, ca, Nat.reduceBEq, undef]; omega
  · by_cases h : i < 2 ^ c
    · have htk : ((lvls c).take i).map cells ++ [[C.s (.int .i64 (2 * (i : Int) - ((2 ^ c : Nat) - 1)))]] = ((lvls c).take (i + 1)).map cells := by
        rw [take_getD 0 (by omega : i < (lvls c).length), List.map_append, hget i h]; rfl
      have hlt : ((lvls c).take i).length = i := by rw [List.length_take]; omega
      have hlt2 : 2 * (i : Int) - (((2 ^ c : Nat) : Int) - 1) < ((2 ^ c : Nat) : Int) := by omega
      refine S_run [] 800 ?_
      cases i with
      | zero =>
        delta c115l1
        simp (maxSteps := 4000000) -implicitDefEqProofs only [hq, hmin, hP, Int.one_mul, hlt2, h, InR, Ent.of0, Ent.of1, Ent.of2, Ent.of3, V, bP, bq, a9, cm, cQ, cP, gt, lk, cr, cb, b0, cq, cI, ce, ce.subCs, cV, bz, bL, bT, aW, a8, bh, aT, bp, br, aC, bj, aJ, bN, cK, cZ, au, aN, bM, cg, cp, cN, cS, aI, aj, cJ, bl, zC, argS, bK, cD, cW, cU, ah, aQ, aB, aY, bV, leC, cu, cn, bY, cR, bS, aH, aE, cM, am, cF, bG, bG.viewCs, bH, bH.flatCs, ax, ax.LensOks, Value.oneCell', ↓reduceIte, ite_true, ite_false, if_true, if_false, Nat.reduceAdd, Nat.reduceSub, Nat.reduceMul, Nat.reduceEqDiff, Nat.reduceLT, Nat.reduceLeDiff, reduceCtorEq, Int.reduceToNat, forall_const, implies_true, a4, Ent.mk3, bm, bg, bw, bJ, bB, bf, a6, bu, a5, bv, bo, bR, be, cT, rn, co, co.renCs, aR, av, aX, aX.viewOks, aK, bn, bn.flatBs, aU, ak, az, an, aL, aZ, aZ.keysBs, aP, ai, bk, cz, bD, bW, ae, ae.passKs, aV, aA, af, af.lendKs, cC, bQ, bX, bF, setInn, ag, cY, cO, aM, a7, cc, cG, ay, aO, Glob.gl, aG, cd, bE, bU, bA, ap, cj, c6, cH, cL, cB, ar, ar.ptrOnlys, aq, aw, bZ, aD, bC, a3, bO, aF, bI, ca, Nat.reduceBEq, undef]
        refine ⟨by omega, by omega, by omega, by push_cast; omega, ?_⟩
        rw [← htk]; rfl
      | succ i =>
        delta c115l1
        simp (maxSteps := 4000000) -implicitDefEqProofs only [hq, hmin, hP, Int.one_mul, hlt, hlt2, h, htk, Nat.succ_ne_zero, InR, Ent.of0, Ent.of1, Ent.of2, Ent.of3, V, bP, bq, a9, cm, cQ, cP, gt, lk, cr, cb, b0, cq, cI, ce, ce.subCs, cV, bz, bL, bT, aW, a8, bh, aT, bp, br, aC, bj, aJ, bN, cK, cZ, au, aN, bM, cg, cp, cN, cS, aI, aj, cJ, bl, zC, argS, bK, cD, cW, cU, ah, aQ, aB, aY, bV, leC, cu, cn, bY, cR, bS, aH, aE, cM, am, cF, bG, bG.viewCs, bH, bH.flatCs, ax, ax.LensOks, Value.oneCell', ↓reduceIte, ite_true, ite_false, if_true, if_false, Nat.reduceAdd, Nat.reduceSub, Nat.reduceMul, Nat.reduceEqDiff, Nat.reduceLT, Nat.reduceLeDiff, reduceCtorEq, Int.reduceToNat, forall_const, implies_true, a4, Ent.mk3, bm, bg, bw, bJ, bB, bf, a6, bu, a5, bv, bo, bR, be, cT, rn, co, co.renCs, aR, av, aX, aX.viewOks, aK, bn, bn.flatBs, aU, ak, az, an, aL, aZ, aZ.keysBs, aP, ai, bk, cz, bD, bW, ae, ae.passKs, aV, aA, af, af.lendKs, cC, bQ, bX, bF, setInn, ag, cY, cO, aM, a7, cc, cG, ay, aO, Glob.gl, aG, cd, bE, bU, bA, ap, cj, c6, cH, cL, cB, ar, ar.ptrOnlys, aq, aw, bZ, aD, bC, a3, bO, aF, bI, ca, Nat.reduceBEq, undef]
        exact ⟨by omega, by omega, by omega, by omega, by push_cast; omega⟩
    · have hlt2 : ¬ 2 * (i : Int) - (((2 ^ c : Nat) : Int) - 1) < ((2 ^ c : Nat) : Int) := by omega
      have hie : i = 2 ^ c := by omega
      subst hie
      have hi0 : 2 ^ c ≠ 0 := by omega
      have htk : (lvls c).take (2 ^ c) = lvls c := by rw [← hlc]; exact List.take_length
      refine S_run [] 800 ?_
      delta c115l1
      simp (maxSteps := 4000000) -implicitDefEqProofs only [hq, hmin, hP, Int.one_mul, hlt2, hi0, htk, InR, Ent.of0, Ent.of1, Ent.of2, Ent.of3, V, bP, bq, a9, cm, cQ, cP, gt, lk, cr, cb, b0, cq, cI, ce, ce.subCs, cV, bz, bL, bT, aW, a8, bh, aT, bp, br, aC, bj, aJ, bN, cK, cZ, au, aN, bM, cg, cp, cN, cS, aI, aj, cJ, bl, zC, argS, bK, cD, cW, cU, ah, aQ, aB, aY, bV, leC, cu, cn, bY, cR, bS, aH, aE, cM, am, cF, bG, bG.viewCs, bH, bH.flatCs, ax, ax.LensOks, Value.oneCell', ↓reduceIte, ite_true, ite_false, if_true, if_false, Nat.reduceAdd, Nat.reduceSub, Nat.reduceMul, Nat.reduceEqDiff, Nat.reduceLT, Nat.reduceLeDiff, reduceCtorEq, Int.reduceToNat, forall_const, implies_true, a4, Ent.mk3, bm, bg, bw, bJ, bB, bf, a6, bu, a5, bv, bo, bR, be, cT, rn, co, co.renCs, aR, av, aX, aX.viewOks, aK, bn, bn.flatBs, aU, ak, az, an, aL, aZ, aZ.keysBs, aP, ai, bk, cz, bD, bW, ae, ae.passKs, aV, aA, af, af.lendKs, cC, bQ, bX, bF, setInn, ag, cY, cO, aM, a7, cc, cG, ay, aO, Glob.gl, aG, cd, bE, bU, bA, ap, cj, c6, cH, cL, cB, ar, ar.ptrOnlys, aq, aw, bZ, aD, bC, a3, bO, aF, bI, ca, Nat.reduceBEq, undef]
      refine ⟨by omega, S_fzb 6 rfl ?_⟩
      simp (maxSteps := 4000000) -implicitDefEqProofs only [Ent.of0, Ent.of1, Ent.of2, Ent.of3, V, bP, bq, a9, cm, cQ, cP, gt, lk, cr, cb, b0, cq, cI, ce, ce.subCs, cV, bz, bL, bT, aW, a8, bh, aT, bp, br, aC, bj, aJ, bN, cK, cZ, au, aN, bM, cg, cp, cN, cS, aI, aj, cJ, bl, zC, argS, bK, cD, cW, cU, ah, aQ, aB, aY, bV, leC, cu, cn, bY, cR, bS, aH, aE, cM, am, cF, bG, bG.viewCs, bH, bH.flatCs, ax, ax.LensOks, Value.oneCell', ↓reduceIte, ite_true, ite_false, if_true, if_false, Nat.reduceAdd, Nat.reduceSub, Nat.reduceMul, Nat.reduceEqDiff, Nat.reduceLT, Nat.reduceLeDiff, reduceCtorEq, Int.reduceToNat, forall_const, implies_true, a4, Ent.mk3, bm, bg, bw, bJ, bB, bf, a6, bu, a5, bv, bo, bR, be, cT, rn, co, co.renCs, aR, av, aX, aX.viewOks, aK, bn, bn.flatBs, aU, ak, az, an, aL, aZ, aZ.keysBs, aP, ai, bk, cz, bD, bW, ae, ae.passKs, aV, aA, af, af.lendKs, cC, bQ, bX, bF, setInn, ag, cY, cO, aM, a7, cc, cG, ay, aO, Glob.gl, aG, cd, bE, bU, bA, ap, cj, c6, cH, cL, cB, ar, ar.ptrOnlys, aq, aw, bZ, aD, bC, a3, bO, aF, bI, ca, Nat.reduceBEq, undef]
      refine S_forU l.length (fun i => [(35, .s (.int .i64 (i : Int)))]) (fun i => [(9, .row 1 3 ((judgedS c T g (l.take i)).map cells))]) (fun _ => True) trivial ?_ (fun i hi _ => S_run [e136 f T c hc hf] 800 ?_)
      · simp (maxSteps := 4000000) -implicitDefEqProofs only [judgedS, Ent.of0, Ent.of1, Ent.of2, Ent.of3, V, bP, bq, a9, cm, cQ, cP, gt, lk, cr, cb, b0, cq, cI, ce, ce.subCs, cV, bz, bL, bT, aW, a8, bh, aT, bp, br, aC, bj, aJ, bN, cK, cZ, au, aN, bM, cg, cp, cN, cS, aI, aj, cJ, bl, zC, argS, bK, cD, cW, cU, ah, aQ, aB, aY, bV, leC, cu, cn, bY, cR, bS, aH, aE, cM, am, cF, bG, bG.viewCs, bH, bH.flatCs, ax, ax.LensOks, Value.oneCell', ↓reduceIte, ite_true, ite_false, if_true, if_false, Nat.reduceAdd, Nat.reduceSub, Nat.reduceMul, Nat.reduceEqDiff, Nat.reduceLT, Nat.reduceLeDiff, reduceCtorEq, Int.reduceToNat, forall_const, implies_true, a4, Ent.mk3, bm, bg, bw, bJ, bB, bf, a6, bu, a5, bv, bo, bR, be, cT, rn, co, co.renCs, aR, av, aX, aX.viewOks, aK, bn, bn.flatBs, aU, ak, az, an, aL, aZ, aZ.keysBs, aP, ai, bk, cz, bD, bW, ae, ae.passKs, aV, aA, af, af.lendKs, cC, bQ, bX, bF, setInn, ag, cY, cO, aM, a7, cc, cG, ay, aO, Glob.gl, aG, cd, bE, bU, bA, ap, cj, c6, cH, cL, cB, ar, ar.ptrOnlys, aq, aw, bZ, aD, bC, a3, bO, aF, bI, ca, Nat.reduceBEq, undef]
        exact ⟨rfl, rfl⟩
      · by_cases h : i < l.length
        · have hi2 : (i : Int) < (l.length : Int) := by omega
          have hgm : l.getD i ⟨0, 0⟩ ∈ l := getD_mem _ h
          have hn1 := hn _ hgm
          have hsql : ∀ n, (sqS c g n).length = 2 ^ c := fun n => by rw [sqS, List.length_map, hlc]
          have hT1 := hT _ (hsql (l.getD i ⟨0, 0⟩).re)
          have hT2 := hT _ (hsql (l.getD i ⟨0, 0⟩).im)
          delta c115l3
          simp (maxSteps := 4000000) -implicitDefEqProofs only [hi2, h, e136, hT1, InR, Ent.of0, Ent.of1, Ent.of2, Ent.of3, V, bP, bq, a9, cm, cQ, cP, gt, lk, cr, cb, b0, cq, cI, ce, ce.subCs, cV, bz, bL, bT, aW, a8, bh, aT, bp, br, aC, bj, aJ, bN, cK, cZ, au, aN, bM, cg, cp, cN, cS, aI, aj, cJ, bl, zC, argS, bK, cD, cW, cU, ah, aQ, aB, aY, bV, leC, cu, cn, bY, cR, bS, aH, aE, cM, am, cF, bG, bG.viewCs, bH, bH.flatCs, ax, ax.LensOks, Value.oneCell', ↓reduceIte, ite_true, ite_false, if_true, if_false, Nat.reduceAdd, Nat.reduceSub, Nat.reduceMul, Nat.reduceEqDiff, Nat.reduceLT, Nat.reduceLeDiff, reduceCtorEq, Int.reduceToNat, forall_const, implies_true, a4, Ent.mk3, bm, bg, bw, bJ, bB, bf, a6, bu, a5, bv, bo, bR, be, cT, rn, co, co.renCs, aR, av, aX, aX.viewOks, aK, bn, bn.flatBs, aU, ak, az, an, aL, aZ, aZ.keysBs, aP, ai, bk, cz, bD, bW, ae, ae.passKs, aV, aA, af, af.lendKs, cC, bQ, bX, bF, setInn, ag, cY, cO, aM, a7, cc, cG, ay, aO, Glob.gl, aG, cd, bE, bU, bA, ap, cj, c6, cH, cL, cB, ar, ar.ptrOnlys, aq, aw, bZ, aD, bC, a3, bO, aF, bI, ca, Nat.reduceBEq, undef]
          refine ⟨by omega, ⟨⟨l, rfl⟩, hg, hn1.1⟩, ⟨⟨l, rfl⟩, hg, hn1.2⟩, ?_⟩
          have hjs : judgedS c T g (l.take (i + 1)) = judgedS c T g (l.take i) ++ turnsS c (T (sqS c g (l.getD i ⟨0, 0⟩).re)) (T (sqS c g (l.getD i ⟨0, 0⟩).im)) := by
            rw [take_getD ⟨0, 0⟩ h, judgedS, judgedS, List.flatMap_append]; simp
          have hjl : (judgedS c T g (l.take i)).length ≤ 6000 := by
            have e : ∀ (m : List Gs), (judgedS c T g m).length ≤ 6 * m.length := fun m => by
              induction m with
              | nil => simp [judgedS]
              | cons x m ih =>
                have : judgedS c T g (x :: m) = turnsS c (T (sqS c g x.re)) (T (sqS c g x.im)) ++ judgedS c T g m := by simp [judgedS]
                rw [this, List.length_append, List.length_cons]
                have h2 : (turnsS c (T (sqS c g x.re)) (T (sqS c g x.im))).length ≤ 6 := by
                  rcases hc with rfl | rfl | rfl <;> simp [turnsS, List.range_succ]
                omega
            have := e (l.take i)
            rw [List.length_take] at this
            omega
          generalize T (sqS c g (l.getD i ⟨0, 0⟩).re) = X at *
          generalize T (sqS c g (l.getD i ⟨0, 0⟩).im) = Y at *
          generalize judgedS c T g (l.take i) = J at *
          refine S_forU c (fun j => [(49, .s (.int .i64 (j : Int)))]) (fun j => [(9, .row 1 3 ((J ++ turnsS j X Y).map cells))]) (fun _ => True) trivial ?_ (fun j hj _ => S_run [] 800 ?_)
          · simp (maxSteps := 4000000) -implicitDefEqProofs only [Ent.of0, Ent.of1, Ent.of2, Ent.of3, V, bP, bq, a9, cm, cQ, cP, gt, lk, cr, cb, b0, cq, cI, ce, ce.subCs, cV, bz, bL, bT, aW, a8, bh, aT, bp, br, aC, bj, aJ, bN, cK, cZ, au, aN, bM, cg, cp, cN, cS, aI, aj, cJ, bl, zC, argS, bK, cD, cW, cU, ah, aQ, aB, aY, bV, leC, cu, cn, bY, cR, bS, aH, aE, cM, am, cF, bG, bG.viewCs, bH, bH.flatCs, ax, ax.LensOks, Value.oneCell', ↓reduceIte, ite_true, ite_false, if_true, if_false, Nat.reduceAdd, Nat.reduceSub, Nat.reduceMul, Nat.reduceEqDiff, Nat.reduceLT, Nat.reduceLeDiff, reduceCtorEq, Int.reduceToNat, forall_const, implies_true, a4, Ent.mk3, bm, bg, bw, bJ, bB, bf, a6, bu, a5, bv, bo, bR, be, cT, rn, co, co.renCs, aR, av, aX, aX.viewOks, aK, bn, bn.flatBs, aU, ak, az, an, aL, aZ, aZ.keysBs, aP, ai, bk, cz, bD, bW, ae, ae.passKs, aV, aA, af, af.lendKs, cC, bQ, bX, bF, setInn, ag, cY, cO, aM, a7, cc, cG, ay, aO, Glob.gl, aG, cd, bE, bU, bA, ap, cj, c6, cH, cL, cB, ar, ar.ptrOnlys, aq, aw, bZ, aD, bC, a3, bO, aF, bI, ca, Nat.reduceBEq, undef]
            exact ⟨rfl, by simp [turnsS]⟩
          · have htl := turnsS_length X Y j
            by_cases hjc : j < c
            · have hj2 : (j : Int) < (c : Int) := by omega
              have hj3 : j < X.length := by omega
              have hj4 : j < Y.length := by omega
              have htk : (J ++ turnsS j X Y).map cells ++ [[C.s (.int .i64 (X.getD j 0))], [C.s (.int .i64 (Y.getD j 0))]] = (J ++ turnsS (j + 1) X Y).map cells := by
                rw [turnsS_succ, ← List.append_assoc, List.map_append (l₁ := J ++ turnsS j X Y)]; rfl
              have hll : (J ++ turnsS j X Y).length ≤ 6012 := by rw [List.length_append]; omega
              delta c115l2
              simp (maxSteps := 4000000) -implicitDefEqProofs only [hj2, hj3, hj4, htk, InR, Ent.of0, Ent.of1, Ent.of2, Ent.of3, V, bP, bq, a9, cm, cQ, cP, gt, lk, cr, cb, b0, cq, cI, ce, ce.subCs, cV, bz, bL, bT, aW, a8, bh, aT, bp, br, aC, bj, aJ, bN, cK, cZ, au, aN, bM, cg, cp, cN, cS, aI, aj, cJ, bl, zC, argS, bK, cD, cW, cU, ah, aQ, aB, aY, bV, leC, cu, cn, bY, cR, bS, aH, aE, cM, am, cF, bG, bG.viewCs, bH, bH.flatCs, ax, ax.LensOks, Value.oneCell', ↓reduceIte, ite_true, ite_false, if_true, if_false, Nat.reduceAdd, Nat.reduceSub, Nat.reduceMul, Nat.reduceEqDiff, Nat.reduceLT, Nat.reduceLeDiff, reduceCtorEq, Int.reduceToNat, forall_const, implies_true, a4, Ent.mk3, bm, bg, bw, bJ, bB, bf, a6, bu, a5, bv, bo, bR, be, cT, rn, co, co.renCs, aR, av, aX, aX.viewOks, aK, bn, bn.flatBs, aU, ak, az, an, aL, aZ, aZ.keysBs, aP, ai, bk, cz, bD, bW, ae, ae.passKs, aV, aA, af, af.lendKs, cC, bQ, bX, bF, setInn, ag, cY, cO, aM, a7, cc, cG, ay, aO, Glob.gl, aG, cd, bE, bU, bA, ap, cj, c6, cH, cL, cB, ar, ar.ptrOnlys, aq, aw, bZ, aD, bC, a3, bO, aF, bI, ca, Nat.reduceBEq, undef]
              and_intros <;> first | omega | rfl | trivial
            · have hj2 : ¬ (j : Int) < (c : Int) := by omega
              have hjc : j = c := by omega
              subst hjc
              delta c115l2
              simp (maxSteps := 4000000) -implicitDefEqProofs only [hj2, hjs, InR, Ent.of0, Ent.of1, Ent.of2, Ent.of3, V, bP, bq, a9, cm, cQ, cP, gt, lk, cr, cb, b0, cq, cI, ce, ce.subCs, cV, bz, bL, bT, aW, a8, bh, aT, bp, br, aC, bj, aJ, bN, cK, cZ, au, aN, bM, cg, cp, cN, cS, aI, aj, cJ, bl, zC, argS, bK, cD, cW, cU, ah, aQ, aB, aY, bV, leC, cu, cn, bY, cR, bS, aH, aE, cM, am, cF, bG, bG.viewCs, bH, bH.flatCs, ax, ax.LensOks, Value.oneCell', ↓reduceIte, ite_true, ite_false, if_true, if_false, Nat.reduceAdd, Nat.reduceSub, Nat.reduceMul, Nat.reduceEqDiff, Nat.reduceLT, Nat.reduceLeDiff, reduceCtorEq, Int.reduceToNat, forall_const, implies_true, a4, Ent.mk3, bm, bg, bw, bJ, bB, bf, a6, bu, a5, bv, bo, bR, be, cT, rn, co, co.renCs, aR, av, aX, aX.viewOks, aK, bn, bn.flatBs, aU, ak, az, an, aL, aZ, aZ.keysBs, aP, ai, bk, cz, bD, bW, ae, ae.passKs, aV, aA, af, af.lendKs, cC, bQ, bX, bF, setInn, ag, cY, cO, aM, a7, cc, cG, ay, aO, Glob.gl, aG, cd, bE, bU, bA, ap, cj, c6, cH, cL, cB, ar, ar.ptrOnlys, aq, aw, bZ, aD, bC, a3, bO, aF, bI, ca, Nat.reduceBEq, undef]
              and_intros <;> first | omega | rfl | trivial
        · have hi2 : ¬ (i : Int) < (l.length : Int) := by omega
          have hie : i = l.length := by omega
          subst hie
          delta c115l3
          simp (maxSteps := 4000000) -implicitDefEqProofs only [hi2, rv115, List.take_length, InR, Ent.of0, Ent.of1, Ent.of2, Ent.of3, V, bP, bq, a9, cm, cQ, cP, gt, lk, cr, cb, b0, cq, cI, ce, ce.subCs, cV, bz, bL, bT, aW, a8, bh, aT, bp, br, aC, bj, aJ, bN, cK, cZ, au, aN, bM, cg, cp, cN, cS, aI, aj, cJ, bl, zC, argS, bK, cD, cW, cU, ah, aQ, aB, aY, bV, leC, cu, cn, bY, cR, bS, aH, aE, cM, am, cF, bG, bG.viewCs, bH, bH.flatCs, ax, ax.LensOks, Value.oneCell', ↓reduceIte, ite_true, ite_false, if_true, if_false, Nat.reduceAdd, Nat.reduceSub, Nat.reduceMul, Nat.reduceEqDiff, Nat.reduceLT, Nat.reduceLeDiff, reduceCtorEq, Int.reduceToNat, forall_const, implies_true, a4, Ent.mk3, bm, bg, bw, bJ, bB, bf, a6, bu, a5, bv, bo, bR, be, cT, rn, co, co.renCs, aR, av, aX, aX.viewOks, aK, bn, bn.flatBs, aU, ak, az, an, aL, aZ, aZ.keysBs, aP, ai, bk, cz, bD, bW, ae, ae.passKs, aV, aA, af, af.lendKs, cC, bQ, bX, bF, setInn, ag, cY, cO, aM, a7, cc, cG, ay, aO, Glob.gl, aG, cd, bE, bU, bA, ap, cj, c6, cH, cL, cB, ar, ar.ptrOnlys, aq, aw, bZ, aD, bC, a3, bO, aF, bI, ca, Nat.reduceBEq, undef]
end Go.Proofs.Ytfgpbmjmoobcnaa
end
section
open Go Go.Am
open Go.Am.Dat (cells)
namespace Go.Proofs.Ytfgpbmjmoobcnaa
set_option maxHeartbeats 4000000
set_option maxRecDepth 100000
set_option linter.unusedSimpArgs false
theorem softS_length (c : Nat) (sq : List Int) : (softS c sq).length = c := by simp [softS]
def hardS (c : Nat) (sq : List Int) : List Int := match ofLevelI c ((lvls c).getD (idxOfI sq fun x => decide (minS sq = x)).toNat 0) with | some i => bitsOfS i c c | none => []
theorem ofLevelI_some {c : Nat} (hc : c = 1 ∨ c = 2 ∨ c = 3) : ∀ l ∈ lvls c, (ofLevelI c l).isSome = true := by
  rcases hc with rfl | rfl | rfl <;> decide
theorem minS_in (l : List Int) (h : 0 < l.length) : minS l ∈ l := by
  cases l with
  | nil => simp at h
  | cons x t => exact minS_mem t x
theorem idx_in {l : List Int} {v : Int} (h : v ∈ l) : ∃ i : Nat, idxOfI l (fun x => decide (v = x)) = (i : Int) ∧ i < l.length := by
  unfold idxOfI
  cases hq : l.findIdx? (fun x => decide (v = x)) with
  | none =>
    rw [List.findIdx?_eq_none_iff] at hq
    have := hq v h
    simp at this
  | some i =>
    obtain ⟨h1, _⟩ := List.findIdx?_eq_some_iff_getElem.1 hq
    exact ⟨i, rfl, h1⟩
theorem hard_idx {c : Nat} {sq : List Int} (hl : sq.length = 2 ^ c) : ∃ i : Nat, idxOfI sq (fun x => decide (minS sq = x)) = (i : Int) ∧ i < (lvls c).length := by
  have hp := Nat.two_pow_pos c
  obtain ⟨i, h1, h2⟩ := idx_in (minS_in sq (by omega))
  exact ⟨i, h1, by rw [lvls_length]; omega⟩
theorem hardS_length {c : Nat} (hc : c = 1 ∨ c = 2 ∨ c = 3) {sq : List Int} (hl : sq.length = 2 ^ c) : (hardS c sq).length = c := by
  obtain ⟨i, h1, h2⟩ := hard_idx hl
  unfold hardS
  rw [h1, Int.toNat_natCast]
  have := ofLevelI_some hc _ (getD_mem 0 h2)
  cases hq : ofLevelI c ((lvls c).getD i 0) with
  | none => rw [hq] at this; cases this
  | some j => exact bitsOfS_length _ _ _
theorem hard_c (c : Nat) (hc : c = 1 ∨ c = 2 ∨ c = 3) (sq : List Int) (hl : sq.length = 2 ^ c) : FC Try.prog 116 [enc (lvls c), enc sq] [] (enc (hardS c sq)) [] := by
  have hp := Nat.two_pow_pos c
  obtain ⟨i, h1, h2⟩ := hard_idx hl
  have hs : ofLevelC c ((lvls c).getD i 0) = .sl 1 ((hardS c sq).map cells) := by
    have := ofLevelI_some hc _ (getD_mem 0 h2)
    unfold ofLevelC hardS
    rw [h1, Int.toNat_natCast]
    cases hq : ofLevelI c ((lvls c).getD i 0) with
    | none => rw [hq] at this; cases this
    | some j => rfl
  have h0 : 0 < sq.length := by omega
  have hlc := lvls_length c
  refine fc_intro' is116 (by simp) (fun cx hl => S_run [ctE c (by omega), e104, e138, e139] 800 ?_)
  delta c116
  simp (maxSteps := 4000000) -implicitDefEqProofs only [rv116, ctE, e104, e138, e139, h1, h2, hs, hlc, h0, Ent.of0, Ent.of1, Ent.of2, Ent.of3, V, bP, bq, a9, cm, cQ, cP, gt, lk, cr, cb, b0, cq, cI, ce, ce.subCs, cV, bz, bL, bT, aW, a8, bh, aT, bp, br, aC, bj, aJ, bN, cK, cZ, au, aN, bM, cg, cp, cN, cS, aI, aj, cJ, bl, zC, argS, bK, cD, cW, cU, ah, aQ, aB, aY, bV, leC, cu, cn, bY, cR, bS, aH, aE, cM, am, cF, bG, bG.viewCs, bH, bH.flatCs, ax, ax.LensOks, Value.oneCell', ↓reduceIte, ite_true, ite_false, if_true, if_false, Nat.reduceAdd, Nat.reduceSub, Nat.reduceMul, Nat.reduceEqDiff, Nat.reduceLT, Nat.reduceLeDiff, reduceCtorEq, Int.reduceToNat, forall_const, implies_true, a4, Ent.mk3, bm, bg, bw, bJ, bB, bf, a6, bu, a5, bv, bo, bR, be, cT, rn, co, co.renCs, aR, av, aX, aX.viewOks, aK, bn, bn.flatBs, aU, ak, az, an, aL, aZ, aZ.keysBs, aP, ai, bk, cz, bD, bW, ae, ae.passKs, aV, aA, af, af.lendKs, cC, bQ, bX, bF, setInn, ag, cY, cO, aM, a7, cc, cG, ay, aO, Glob.gl, aG, cd, bE, bU, bA, ap, cj, c6, cH, cL, cB, ar, ar.ptrOnlys, aq, aw, bZ, aD, bC, a3, bO, aF, bI, ca, Nat.reduceBEq, undef]
  and_intros <;> first | omega | rfl | trivial
def e115 (f : FuncId) (T : Nat → List Int → List Int) (hj : ∀ (c : Nat) (g : Int) (l : List Gs), (c = 1 ∨ c = 2 ∨ c = 3) → 1 ≤ g ∧ g ≤ 10000000 → (∀ s ∈ l, (-100000000 ≤ s.re ∧ s.re ≤ 100000000) ∧ -100000000 ≤ s.im ∧ s.im ≤ 100000000) → l.length ≤ 1000 →
    FC Try.prog 115 [enc (⟨2 * (c : Int), g, l⟩ : Recv), .fn (.func f) [] []] [] (enc (judgedS c (T c) g l)) []) : Ent Try.prog := .mk3 115 (fun args chs => match args, chs with
    | [.agg [.s (.int .i64 o), .s (.int .i64 g), .sl 2 t], .fn (.func f') [] []], [] => (decL t : Option (List Gs)).bind fun l => some (f' = f ∧ recvErr ⟨o, g, l⟩ = 0, enc (judgedS (o.toNat / 2) (T (o.toNat / 2)) g l), [], [])
    | _, _ => none) (by
  intro args chs p r chs' nk hs hp
  split at hs
  · rename_i o g t f'
    simp only [Option.bind_eq_some_iff, Option.some.injEq, Prod.mk.injEq] at hs
    obtain ⟨l, hl, rfl, rfl, rfl, rfl⟩ := hs
    obtain ⟨hff, hr⟩ := hp
    have := decL_ok hl
    subst this
    have hz := firstS_zero hr
    have z1 : orderErrS o = 0 := hz _ (by simp [recvErr])
    have z2 : (if 1 ≤ g ∧ g ≤ 10000000 then (0 : Int) else 2) = 0 := hz _ (by simp)
    have z3 : symErr l = 0 := hz _ (by simp)
    have ho : o = 2 ∨ o = 4 ∨ o = 6 := by
      unfold orderErrS at z1
      split at z1
      · assumption
      · cases z1
    have hg : 1 ≤ g ∧ g ≤ 10000000 := by
      split at z2
      · assumption
      · cases z2
    have hl2 : l.length ≤ 1000 := by
      unfold symErr at z3
      grind
    have hn : ∀ s ∈ l, (-100000000 ≤ s.re ∧ s.re ≤ 100000000) ∧ -100000000 ≤ s.im ∧ s.im ≤ 100000000 := by
      have : l.all (smallG · 100000000) = true := by
        unfold symErr at z3
        grind
      intro s hs
      have := List.all_eq_true.1 this s hs
      simpa [smallG] using this
    have e : o = 2 * ((o.toNat / 2 : Nat) : Int) := by rcases ho with rfl | rfl | rfl <;> rfl
    have := hj (o.toNat / 2) g l (by rcases ho with rfl | rfl | rfl <;> simp) hg hn hl2
    rw [← e] at this
    subst hff
    exact ⟨this, .plain trivial⟩
  · cases hs)
def judgeAll (T : Nat → List Int → List Int) (x : Recv) : List Int := judgedS (x.order.toNat / 2) (T (x.order.toNat / 2)) x.gain x.symbols
theorem Soft_c (x : Recv) : FC Try.prog 58 [enc x] [] (.tup [enc (if recvErr x = 0 then judgeAll softS x else []), enc (recvErr x)]) [] := by
  refine fc_intro' is58 (by simp) (fun cx hl => S_run [e114, e115 117 softS (fun c g l hc hg hn hl => judged_c 117 (softS c) c hc (fun sq h1 h2 => soft_c c hc sq h1 h2) (fun sq _ => softS_length c sq) g l hg hn hl)] 800 ?_)
  obtain ⟨o, g, l⟩ := x
  delta c58
  simp (maxSteps := 4000000) -implicitDefEqProofs only [rv58, e114, e115, enc_recv, decV_recv, Ent.of0, Ent.of1, Ent.of2, Ent.of3, V, bP, bq, a9, cm, cQ, cP, gt, lk, cr, cb, b0, cq, cI, ce, ce.subCs, cV, bz, bL, bT, aW, a8, bh, aT, bp, br, aC, bj, aJ, bN, cK, cZ, au, aN, bM, cg, cp, cN, cS, aI, aj, cJ, bl, zC, argS, bK, cD, cW, cU, ah, aQ, aB, aY, bV, leC, cu, cn, bY, cR, bS, aH, aE, cM, am, cF, bG, bG.viewCs, bH, bH.flatCs, ax, ax.LensOks, Value.oneCell', ↓reduceIte, ite_true, ite_false, if_true, if_false, Nat.reduceAdd, Nat.reduceSub, Nat.reduceMul, Nat.reduceEqDiff, Nat.reduceLT, Nat.reduceLeDiff, reduceCtorEq, Int.reduceToNat, forall_const, implies_true, a4, Ent.mk3, bm, bg, bw, bJ, bB, bf, a6, bu, a5, bv, bo, bR, be, cT, rn, co, co.renCs, aR, av, aX, aX.viewOks, aK, bn, bn.flatBs, aU, ak, az, an, aL, aZ, aZ.keysBs, aP, ai, bk, cz, bD, bW, ae, ae.passKs, aV, aA, af, af.lendKs, cC, bQ, bX, bF, setInn, ag, cY, cO, aM, a7, cc, cG, ay, aO, Glob.gl, aG, cd, bE, bU, bA, ap, cj, c6, cH, cL, cB, ar, ar.ptrOnlys, aq, aw, bZ, aD, bC, a3, bO, aF, bI, ca, Nat.reduceBEq, undef]
  by_cases h : recvErr ⟨o, g, l⟩ = 0
  · simp only [h, if_true, decide_true, judgeAll, Bool.false_eq_true, if_false, not_true_eq_false, decide_false, true_and]
  · rw [if_pos h, if_neg h]; trivial
def e58 : Ent Try.prog := .of1 58 (fun _ => True) (fun x : Recv => .tup [enc (if recvErr x = 0 then judgeAll softS x else []), enc (recvErr x)]) (fun _ => ⟨trivial, trivial, trivial⟩) (fun x _ => Soft_c x)
theorem Hard_c (x : Recv) : FC Try.prog 56 [enc x] [] (.tup [enc (if recvErr x = 0 then judgeAll hardS x else []), enc (recvErr x)]) [] := by
  refine fc_intro' is56 (by simp) (fun cx hl => S_run [e114, e115 116 hardS (fun c g l hc hg hn hl => judged_c 116 (hardS c) c hc (fun sq h1 _ => hard_c c hc sq h1) (fun sq h => hardS_length hc h) g l hg hn hl)] 800 ?_)
  obtain ⟨o, g, l⟩ := x
  delta c56
  simp (maxSteps := 4000000) -implicitDefEqProofs only [rv56, e114, e115, enc_recv, decV_recv, Ent.of0, Ent.of1, Ent.of2, Ent.of3, V, bP, bq, a9, cm, cQ, cP, gt, lk, cr, cb, b0, cq, cI, ce, ce.subCs, cV, bz, bL, bT, aW, a8, bh, aT, bp, br, aC, bj, aJ, bN, cK, cZ, au, aN, bM, cg, cp, cN, cS, aI, aj, cJ, bl, zC, argS, bK, cD, cW, cU, ah, aQ, aB, aY, bV, leC, cu, cn, bY, cR, bS, aH, aE, cM, am, cF, bG, bG.viewCs, bH, bH.flatCs, ax, ax.LensOks, Value.oneCell', ↓reduceIte, ite_true, ite_false, if_true, if_false, Nat.reduceAdd, Nat.reduceSub, Nat.reduceMul, Nat.reduceEqDiff, Nat.reduceLT, Nat.reduceLeDiff, reduceCtorEq, Int.reduceToNat, forall_const, implies_true, a4, Ent.mk3, bm, bg, bw, bJ, bB, bf, a6, bu, a5, bv, bo, bR, be, cT, rn, co, co.renCs, aR, av, aX, aX.viewOks, aK, bn, bn.flatBs, aU, ak, az, an, aL, aZ, aZ.keysBs, aP, ai, bk, cz, bD, bW, ae, ae.passKs, aV, aA, af, af.lendKs, cC, bQ, bX, bF, setInn, ag, cY, cO, aM, a7, cc, cG, ay, aO, Glob.gl, aG, cd, bE, bU, bA, ap, cj, c6, cH, cL, cB, ar, ar.ptrOnlys, aq, aw, bZ, aD, bC, a3, bO, aF, bI, ca, Nat.reduceBEq, undef]
  by_cases h : recvErr ⟨o, g, l⟩ = 0
  · simp only [h, if_true, decide_true, judgeAll, Bool.false_eq_true, if_false, not_true_eq_false, decide_false, true_and]
  · rw [if_pos h, if_neg h]; trivial
def e56 : Ent Try.prog := .of1 56 (fun _ => True) (fun x : Recv => .tup [enc (if recvErr x = 0 then judgeAll hardS x else []), enc (recvErr x)]) (fun _ => ⟨trivial, trivial, trivial⟩) (fun x _ => Hard_c x)
end Go.Proofs.Ytfgpbmjmoobcnaa
end
section
open Go Go.Am
open Go.Am.Dat (cells)
namespace Go.Proofs.Ytfgpbmjmoobcnaa
set_option maxHeartbeats 4000000
set_option maxRecDepth 20000
set_option linter.unusedSimpArgs false
theorem rowsD_c (w : List (List Fz)) (m : List (List Gs)) (h : RowsOk w m) : FC Try.prog 87 [enc w] [] (.own 3) [(3, .deep 2 48 35 none (m.map fun r => r.map cells))] := by
  refine fc_introC [3] D.is87 (by simp) trivial trivial (by simp [aH, aE, bT]) trivial (fun cx _ hl _ => S_run [] 800 ?_)
  obtain ⟨hrep, hm, hr, hb⟩ := h
  have hwm := hrep.1
  delta D.c87
  simp (maxSteps := 4000000) -implicitDefEqProofs only [D.rv87, Ent.of0, Ent.of1, Ent.of2, Ent.of3, V, bP, bq, a9, cm, cQ, cP, gt, lk, cr, cb, b0, cq, cI, ce, ce.subCs, cV, bz, bL, bT, aW, a8, bh, aT, bp, br, aC, bj, aJ, bN, cK, cZ, au, aN, bM, cg, cp, cN, cS, aI, aj, cJ, bl, zC, argS, bK, cD, cW, cU, ah, aQ, aB, aY, bV, leC, cu, cn, bY, cR, bS, aH, aE, cM, am, cF, bG, bG.viewCs, bH, bH.flatCs, ax, ax.LensOks, Value.oneCell', ↓reduceIte, ite_true, ite_false, if_true, if_false, Nat.reduceAdd, Nat.reduceSub, Nat.reduceMul, Nat.reduceEqDiff, Nat.reduceLT, Nat.reduceLeDiff, reduceCtorEq, Int.reduceToNat, forall_const, implies_true, a4, Ent.mk3, bm, bg, bw, bJ, bB, bf, a6, bu, a5, bv, bo, bR, be, cT, rn, co, co.renCs, aR, av, aX, aX.viewOks, aK, bn, bn.flatBs, aU, ak, az, an, aL, aZ, aZ.keysBs, aP, ai, bk, cz, bD, bW, ae, ae.passKs, aV, aA, af, af.lendKs, cC, bQ, bX, bF, setInn, ag, cY, cO, aM, a7, cc, cG, ay, aO, Glob.gl, aG, cd, bE, bU, bA, ap, cj, c6, cH, cL, cB, ar, ar.ptrOnlys, aq, aw, bZ, aD, bC, a3, bO, aF, bI, ca, Nat.reduceBEq, undef]
  refine ⟨by simp, ?_⟩
  refine S_forU w.length (fun i => [(11, .s (.int .i64 i))]) (fun i => [(3, .deep 2 48 35 none ((m.take i).map fun r => r.map cells))]) (fun _ => True) trivial ?_ (fun i hi _ => S_run [] 800 ?_)
  · simp (maxSteps := 4000000) -implicitDefEqProofs only [Ent.of0, Ent.of1, Ent.of2, Ent.of3, V, bP, bq, a9, cm, cQ, cP, gt, lk, cr, cb, b0, cq, cI, ce, ce.subCs, cV, bz, bL, bT, aW, a8, bh, aT, bp, br, aC, bj, aJ, bN, cK, cZ, au, aN, bM, cg, cp, cN, cS, aI, aj, cJ, bl, zC, argS, bK, cD, cW, cU, ah, aQ, aB, aY, bV, leC, cu, cn, bY, cR, bS, aH, aE, cM, am, cF, bG, bG.viewCs, bH, bH.flatCs, ax, ax.LensOks, Value.oneCell', ↓reduceIte, ite_true, ite_false, if_true, if_false, Nat.reduceAdd, Nat.reduceSub, Nat.reduceMul, Nat.reduceEqDiff, Nat.reduceLT, Nat.reduceLeDiff, reduceCtorEq, Int.reduceToNat, forall_const, implies_true, a4, Ent.mk3, bm, bg, bw, bJ, bB, bf, a6, bu, a5, bv, bo, bR, be, cT, rn, co, co.renCs, aR, av, aX, aX.viewOks, aK, bn, bn.flatBs, aU, ak, az, an, aL, aZ, aZ.keysBs, aP, ai, bk, cz, bD, bW, ae, ae.passKs, aV, aA, af, af.lendKs, cC, bQ, bX, bF, setInn, ag, cY, cO, aM, a7, cc, cG, ay, aO, Glob.gl, aG, cd, bE, bU, bA, ap, cj, c6, cH, cL, cB, ar, ar.ptrOnlys, aq, aw, bZ, aD, bC, a3, bO, aF, bI, ca, Nat.reduceBEq, undef]; simp
  · delta D.c87l2
    by_cases h : i < w.length
    · have hi2 : (i : Int) < (w.length : Int) := by omega
      have him : i < m.length := by omega
      have hrl := hr _ (getD_mem [] him)
      have hbl := hb _ (getD_mem [] him)
      obtain ⟨q1, q2⟩ := hrep.2 i him
      have htkm : ((m.take i).map fun r => r.map cells) ++ [(m.getD i []).map cells] = (m.take (i + 1)).map fun r => r.map cells := by
        rw [take_getD [] him, List.map_append]; rfl
      have htlm : (m.take i).length = i := by rw [List.length_take]; omega
      simp (maxSteps := 4000000) -implicitDefEqProofs only [sz_fz, hi2, getD_list, h, Ent.of0, Ent.of1, Ent.of2, Ent.of3, V, bP, bq, a9, cm, cQ, cP, gt, lk, cr, cb, b0, cq, cI, ce, ce.subCs, cV, bz, bL, bT, aW, a8, bh, aT, bp, br, aC, bj, aJ, bN, cK, cZ, au, aN, bM, cg, cp, cN, cS, aI, aj, cJ, bl, zC, argS, bK, cD, cW, cU, ah, aQ, aB, aY, bV, leC, cu, cn, bY, cR, bS, aH, aE, cM, am, cF, bG, bG.viewCs, bH, bH.flatCs, ax, ax.LensOks, Value.oneCell', ↓reduceIte, ite_true, ite_false, if_true, if_false, Nat.reduceAdd, Nat.reduceSub, Nat.reduceMul, Nat.reduceEqDiff, Nat.reduceLT, Nat.reduceLeDiff, reduceCtorEq, Int.reduceToNat, forall_const, implies_true, a4, Ent.mk3, bm, bg, bw, bJ, bB, bf, a6, bu, a5, bv, bo, bR, be, cT, rn, co, co.renCs, aR, av, aX, aX.viewOks, aK, bn, bn.flatBs, aU, ak, az, an, aL, aZ, aZ.keysBs, aP, ai, bk, cz, bD, bW, ae, ae.passKs, aV, aA, af, af.lendKs, cC, bQ, bX, bF, setInn, ag, cY, cO, aM, a7, cc, cG, ay, aO, Glob.gl, aG, cd, bE, bU, bA, ap, cj, c6, cH, cL, cB, ar, ar.ptrOnlys, aq, aw, bZ, aD, bC, a3, bO, aF, bI, ca, Nat.reduceBEq, undef]
      refine ⟨by omega, ?_⟩
      generalize hR : w.getD i [] = R at *
      generalize hG : m.getD i [] = G at *
      refine S_forU R.length (fun j => [(17, .s (.int .i64 j))]) (fun j => [(6, .row 2 48 ((G.take j).map cells))]) (fun _ => True) trivial ?_ (fun j hj _ => S_run [] 800 ?_)
      · simp (maxSteps := 4000000) -implicitDefEqProofs only [Ent.of0, Ent.of1, Ent.of2, Ent.of3, V, bP, bq, a9, cm, cQ, cP, gt, lk, cr, cb, b0, cq, cI, ce, ce.subCs, cV, bz, bL, bT, aW, a8, bh, aT, bp, br, aC, bj, aJ, bN, cK, cZ, au, aN, bM, cg, cp, cN, cS, aI, aj, cJ, bl, zC, argS, bK, cD, cW, cU, ah, aQ, aB, aY, bV, leC, cu, cn, bY, cR, bS, aH, aE, cM, am, cF, bG, bG.viewCs, bH, bH.flatCs, ax, ax.LensOks, Value.oneCell', ↓reduceIte, ite_true, ite_false, if_true, if_false, Nat.reduceAdd, Nat.reduceSub, Nat.reduceMul, Nat.reduceEqDiff, Nat.reduceLT, Nat.reduceLeDiff, reduceCtorEq, Int.reduceToNat, forall_const, implies_true, a4, Ent.mk3, bm, bg, bw, bJ, bB, bf, a6, bu, a5, bv, bo, bR, be, cT, rn, co, co.renCs, aR, av, aX, aX.viewOks, aK, bn, bn.flatBs, aU, ak, az, an, aL, aZ, aZ.keysBs, aP, ai, bk, cz, bD, bW, ae, ae.passKs, aV, aA, af, af.lendKs, cC, bQ, bX, bF, setInn, ag, cY, cO, aM, a7, cc, cG, ay, aO, Glob.gl, aG, cd, bE, bU, bA, ap, cj, c6, cH, cL, cB, ar, ar.ptrOnlys, aq, aw, bZ, aD, bC, a3, bO, aF, bI, ca, Nat.reduceBEq, undef]; simp
      · delta D.c87l1
        by_cases hjl : j < R.length
        · have hj2 : (j : Int) < (R.length : Int) := by omega
          have hjG : j < G.length := by omega
          have htk : (G.take j).map cells ++ [[C.s (.int .i64 (G.getD j ⟨0, 0⟩).re), C.s (.int .i64 (G.getD j ⟨0, 0⟩).im)]] = (G.take (j + 1)).map cells := by
            rw [take_getD ⟨0, 0⟩ hjG, List.map_append]; rfl
          have htl : (G.take j).length = j := by rw [List.length_take]; omega
          obtain ⟨z1, z2⟩ := q2 j hjG
          have t1 := toInt_F z1
          have t2 := toInt_F z2
          obtain ⟨b1, b2⟩ := hbl _ (getD_mem ⟨0, 0⟩ hjG)
          simp (maxSteps := 4000000) -implicitDefEqProofs only [hj2, hjl, bN, getD_fz, t1, t2, htk, htl, IntKind.min, IntKind.max, IntKind.signed, IntKind.bits, InR, Ent.of0, Ent.of1, Ent.of2, Ent.of3, V, bP, bq, a9, cm, cQ, cP, gt, lk, cr, cb, b0, cq, cI, ce, ce.subCs, cV, bz, bL, bT, aW, a8, bh, aT, bp, br, aC, bj, aJ, bN, cK, cZ, au, aN, bM, cg, cp, cN, cS, aI, aj, cJ, bl, zC, argS, bK, cD, cW, cU, ah, aQ, aB, aY, bV, leC, cu, cn, bY, cR, bS, aH, aE, cM, am, cF, bG, bG.viewCs, bH, bH.flatCs, ax, ax.LensOks, Value.oneCell', ↓reduceIte, ite_true, ite_false, if_true, if_false, Nat.reduceAdd, Nat.reduceSub, Nat.reduceMul, Nat.reduceEqDiff, Nat.reduceLT, Nat.reduceLeDiff, reduceCtorEq, Int.reduceToNat, forall_const, implies_true, a4, Ent.mk3, bm, bg, bw, bJ, bB, bf, a6, bu, a5, bv, bo, bR, be, cT, rn, co, co.renCs, aR, av, aX, aX.viewOks, aK, bn, bn.flatBs, aU, ak, az, an, aL, aZ, aZ.keysBs, aP, ai, bk, cz, bD, bW, ae, ae.passKs, aV, aA, af, af.lendKs, cC, bQ, bX, bF, setInn, ag, cY, cO, aM, a7, cc, cG, ay, aO, Glob.gl, aG, cd, bE, bU, bA, ap, cj, c6, cH, cL, cB, ar, ar.ptrOnlys, aq, aw, bZ, aD, bC, a3, bO, aF, bI, ca, Nat.reduceBEq, undef]
          simp only [Int.reducePow] at *
          and_intros <;> first | omega | rfl | trivial
        · have : j = R.length := by omega
          subst this
          have hj2 : ¬ (R.length : Int) < (R.length : Int) := by omega
          have hG2 : G.take R.length = G := by rw [q1]; exact List.take_length
          simp (maxSteps := 4000000) -implicitDefEqProofs only [hj2, hG2, htkm, htlm, InR, Ent.of0, Ent.of1, Ent.of2, Ent.of3, V, bP, bq, a9, cm, cQ, cP, gt, lk, cr, cb, b0, cq, cI, ce, ce.subCs, cV, bz, bL, bT, aW, a8, bh, aT, bp, br, aC, bj, aJ, bN, cK, cZ, au, aN, bM, cg, cp, cN, cS, aI, aj, cJ, bl, zC, argS, bK, cD, cW, cU, ah, aQ, aB, aY, bV, leC, cu, cn, bY, cR, bS, aH, aE, cM, am, cF, bG, bG.viewCs, bH, bH.flatCs, ax, ax.LensOks, Value.oneCell', ↓reduceIte, ite_true, ite_false, if_true, if_false, Nat.reduceAdd, Nat.reduceSub, Nat.reduceMul, Nat.reduceEqDiff, Nat.reduceLT, Nat.reduceLeDiff, reduceCtorEq, Int.reduceToNat, forall_const, implies_true, a4, Ent.mk3, bm, bg, bw, bJ, bB, bf, a6, bu, a5, bv, bo, bR, be, cT, rn, co, co.renCs, aR, av, aX, aX.viewOks, aK, bn, bn.flatBs, aU, ak, az, an, aL, aZ, aZ.keysBs, aP, ai, bk, cz, bD, bW, ae, ae.passKs, aV, aA, af, af.lendKs, cC, bQ, bX, bF, setInn, ag, cY, cO, aM, a7, cc, cG, ay, aO, Glob.gl, aG, cd, bE, bU, bA, ap, cj, c6, cH, cL, cB, ar, ar.ptrOnlys, aq, aw, bZ, aD, bC, a3, bO, aF, bI, ca, Nat.reduceBEq, undef]
          and_intros <;> first | omega | rfl | trivial
    · have : i = w.length := by omega
      subst this
      have hi2 : ¬ (w.length : Int) < (w.length : Int) := by omega
      have hm2 : m.take w.length = m := by rw [hwm]; exact List.take_length
      simp (maxSteps := 4000000) -implicitDefEqProofs only [hi2, D.rv87, hm2, Ent.of0, Ent.of1, Ent.of2, Ent.of3, V, bP, bq, a9, cm, cQ, cP, gt, lk, cr, cb, b0, cq, cI, ce, ce.subCs, cV, bz, bL, bT, aW, a8, bh, aT, bp, br, aC, bj, aJ, bN, cK, cZ, au, aN, bM, cg, cp, cN, cS, aI, aj, cJ, bl, zC, argS, bK, cD, cW, cU, ah, aQ, aB, aY, bV, leC, cu, cn, bY, cR, bS, aH, aE, cM, am, cF, bG, bG.viewCs, bH, bH.flatCs, ax, ax.LensOks, Value.oneCell', ↓reduceIte, ite_true, ite_false, if_true, if_false, Nat.reduceAdd, Nat.reduceSub, Nat.reduceMul, Nat.reduceEqDiff, Nat.reduceLT, Nat.reduceLeDiff, reduceCtorEq, Int.reduceToNat, forall_const, implies_true, a4, Ent.mk3, bm, bg, bw, bJ, bB, bf, a6, bu, a5, bv, bo, bR, be, cT, rn, co, co.renCs, aR, av, aX, aX.viewOks, aK, bn, bn.flatBs, aU, ak, az, an, aL, aZ, aZ.keysBs, aP, ai, bk, cz, bD, bW, ae, ae.passKs, aV, aA, af, af.lendKs, cC, bQ, bX, bF, setInn, ag, cY, cO, aM, a7, cc, cG, ay, aO, Glob.gl, aG, cd, bE, bU, bA, ap, cj, c6, cH, cL, cB, ar, ar.ptrOnlys, aq, aw, bZ, aD, bC, a3, bO, aF, bI, ca, Nat.reduceBEq, undef]
def adjS (m : List (List Gs)) : List (List Gs) :=
  match m with
  | [[_]] => [[⟨1, 0⟩]]
  | [[a, b], [c, d]] => [[d, gsub ⟨0, 0⟩ b], [gsub ⟨0, 0⟩ c, a]]
  | _ => []
theorem zadd {b : Gs} (hb : bd b 1000) : addOk ⟨0, 0⟩ b := ⟨0, 1000, ⟨by simp, by simp⟩, hb, by omega⟩
theorem adj1_c (a : Gs) : FC Try.prog 85 [enc [[a]]] [] (enc (adjS [[a]])) [] := by
  refine fc_intro' is85 (by simp) (fun cx hl => S_run [e113] 800 ?_)
  delta c85
  simp (maxSteps := 4000000) -implicitDefEqProofs only [rv85, e113, adjS, Int.cast_ofNat_Int, Int.natCast_one, Int.natCast_zero, Int.reduceAdd, Int.reduceSub, Int.reduceMul, Int.reduceLT, Int.reduceLE, Int.reduceTMod, Int.reduceTDiv, Int.reduceNeg, Int.reduceEq, Nat.reducePow, Int.reducePow, ne_eq, not_false_eq_true, Ent.of0, Ent.of1, Ent.of2, Ent.of3, V, bP, bq, a9, cm, cQ, cP, gt, lk, cr, cb, b0, cq, cI, ce, ce.subCs, cV, bz, bL, bT, aW, a8, bh, aT, bp, br, aC, bj, aJ, bN, cK, cZ, au, aN, bM, cg, cp, cN, cS, aI, aj, cJ, bl, zC, argS, bK, cD, cW, cU, ah, aQ, aB, aY, bV, leC, cu, cn, bY, cR, bS, aH, aE, cM, am, cF, bG, bG.viewCs, bH, bH.flatCs, ax, ax.LensOks, Value.oneCell', ↓reduceIte, ite_true, ite_false, if_true, if_false, Nat.reduceAdd, Nat.reduceSub, Nat.reduceMul, Nat.reduceEqDiff, Nat.reduceLT, Nat.reduceLeDiff, reduceCtorEq, Int.reduceToNat, forall_const, implies_true, a4, Ent.mk3, bm, bg, bw, bJ, bB, bf, a6, bu, a5, bv, bo, bR, be, cT, rn, co, co.renCs, aR, av, aX, aX.viewOks, aK, bn, bn.flatBs, aU, ak, az, an, aL, aZ, aZ.keysBs, aP, ai, bk, cz, bD, bW, ae, ae.passKs, aV, aA, af, af.lendKs, cC, bQ, bX, bF, setInn, ag, cY, cO, aM, a7, cc, cG, ay, aO, Glob.gl, aG, cd, bE, bU, bA, ap, cj, c6, cH, cL, cB, ar, ar.ptrOnlys, aq, aw, bZ, aD, bC, a3, bO, aF, bI, ca, Nat.reduceBEq, undef]
theorem adj2_c (a b c d : Gs) (h1 : bd b 1000) (h2 : bd c 1000) : FC Try.prog 85 [enc [[a, b], [c, d]]] [] (enc (adjS [[a, b], [c, d]])) [] := by
  have m1 := zadd h1
  have m2 := zadd h2
  refine fc_intro' is85 (by simp) (fun cx hl => S_run [e113] 800 ?_)
  delta c85
  simp (maxSteps := 4000000) -implicitDefEqProofs only [rv85, e113, adjS, m1, m2, gs_eta, Int.cast_ofNat_Int, Int.natCast_one, Int.natCast_zero, Int.reduceAdd, Int.reduceSub, Int.reduceMul, Int.reduceLT, Int.reduceLE, Int.reduceTMod, Int.reduceTDiv, Int.reduceNeg, Int.reduceEq, Nat.reducePow, Int.reducePow, ne_eq, not_false_eq_true, Ent.of0, Ent.of1, Ent.of2, Ent.of3, V, bP, bq, a9, cm, cQ, cP, gt, lk, cr, cb, b0, cq, cI, ce, ce.subCs, cV, bz, bL, bT, aW, a8, bh, aT, bp, br, aC, bj, aJ, bN, cK, cZ, au, aN, bM, cg, cp, cN, cS, aI, aj, cJ, bl, zC, argS, bK, cD, cW, cU, ah, aQ, aB, aY, bV, leC, cu, cn, bY, cR, bS, aH, aE, cM, am, cF, bG, bG.viewCs, bH, bH.flatCs, ax, ax.LensOks, Value.oneCell', ↓reduceIte, ite_true, ite_false, if_true, if_false, Nat.reduceAdd, Nat.reduceSub, Nat.reduceMul, Nat.reduceEqDiff, Nat.reduceLT, Nat.reduceLeDiff, reduceCtorEq, Int.reduceToNat, forall_const, implies_true, a4, Ent.mk3, bm, bg, bw, bJ, bB, bf, a6, bu, a5, bv, bo, bR, be, cT, rn, co, co.renCs, aR, av, aX, aX.viewOks, aK, bn, bn.flatBs, aU, ak, az, an, aL, aZ, aZ.keysBs, aP, ai, bk, cz, bD, bW, ae, ae.passKs, aV, aA, af, af.lendKs, cC, bQ, bX, bF, setInn, ag, cY, cO, aM, a7, cc, cG, ay, aO, Glob.gl, aG, cd, bE, bU, bA, ap, cj, c6, cH, cL, cB, ar, ar.ptrOnlys, aq, aw, bZ, aD, bC, a3, bO, aF, bI, ca, Nat.reduceBEq, undef]
end Go.Proofs.Ytfgpbmjmoobcnaa
end
section
open Go Go.Am
open Go.Am.Dat (cells)
namespace Go.Proofs.Ytfgpbmjmoobcnaa
set_option maxHeartbeats 4000000
set_option maxRecDepth 20000
set_option linter.unusedSimpArgs false
def xjC (F : Gs → Gs) (x : List Gs) (j : Nat) : List (List C) := ((x.take j).map F ++ x.drop j).map cells
def riC (F : Gs → Gs) (O : List (List Gs)) (i : Nat) : List (List (List C)) := ((O.take i).map (fun x => x.map F) ++ O.drop i).map fun r => r.map cells
def rjC (F : Gs → Gs) (O : List (List Gs)) (i j : Nat) : List (List (List C)) := ((O.take i).map fun x => (x.map F).map cells) ++ xjC F (O.getD i []) j :: (O.drop (i + 1)).map fun r => r.map cells
variable {F : Gs → Gs} {O : List (List Gs)} {x : List Gs} {i j : Nat}
theorem xjC_length (h : j ≤ x.length) : (xjC F x j).length = x.length := by
  simp [xjC]; omega
theorem xjC_get (h : j < x.length) (d : List C) : (xjC F x j).getD j d = cells (x.getD j ⟨0, 0⟩) := by
  have e : x.drop j = x.getD j ⟨0, 0⟩ :: x.drop (j + 1) := drop_getD _ h
  have hl : ((x.take j).map F).length = j := by simp; omega
  rw [xjC, e, List.map_append, List.getD_eq_getElem?_getD, List.getElem?_append_right (by simp; omega)]
  simp [Nat.min_eq_left (Nat.le_of_lt h)]
theorem xjC_set (h : j < x.length) : (xjC F x j).set j (cells (F (x.getD j ⟨0, 0⟩))) = xjC F x (j + 1) := by
  have e : x.drop j = x.getD j ⟨0, 0⟩ :: x.drop (j + 1) := drop_getD _ h
  have hl : ((x.take j).map F).length = j := by simp; omega
  rw [xjC, xjC, e, take_getD ⟨0, 0⟩ h]
  simp only [List.map_append, List.map_cons, List.map_nil, List.append_assoc, List.cons_append, List.nil_append]
  rw [List.set_append_right _ _ (by simp; omega)]
  simp [Nat.min_eq_left (Nat.le_of_lt h)]
theorem xjC_get' (h : j < x.length) (d : List C) : (xjC F x (j + 1)).getD j d = cells (F (x.getD j ⟨0, 0⟩)) := by
  rw [← xjC_set h, List.getD_eq_getElem?_getD, List.getElem?_set_self (by rw [xjC_length (by omega)]; exact h)]; rfl
theorem rjC_length (h : i < O.length) : (rjC F O i j).length = O.length := by
  simp [rjC]; omega
theorem rjC_get (h : i < O.length) (d : List (List C)) : (rjC F O i j).getD i d = xjC F (O.getD i []) j := by
  rw [rjC, List.getD_eq_getElem?_getD, List.getElem?_append_right (by simp; omega)]
  simp [Nat.min_eq_left (Nat.le_of_lt h)]
theorem rjC_set (h : i < O.length) : (rjC F O i j).set i (xjC F (O.getD i []) (j + 1)) = rjC F O i (j + 1) := by
  rw [rjC, rjC, List.set_append_right _ _ (by simp; omega)]
  simp [Nat.min_eq_left (Nat.le_of_lt h)]
theorem riC_rj (h : i < O.length) : riC F O i = rjC F O i 0 := by
  have e : O.drop i = O.getD i [] :: O.drop (i + 1) := drop_getD _ h
  rw [riC, rjC, e, List.map_append, List.map_map]
  simp [xjC, Function.comp_def]
theorem rjC_ri (h : i < O.length) : rjC F O i (O.getD i []).length = riC F O (i + 1) := by
  rw [riC, rjC, take_getD [] h]
  simp [xjC, Function.comp_def]
theorem riC_zero : riC F O 0 = O.map fun r => r.map cells := by simp [riC]
theorem riC_all : riC F O O.length = (O.map fun x => x.map F).map fun r => r.map cells := by simp [riC]
end Go.Proofs.Ytfgpbmjmoobcnaa
end
section
open Go Go.Am
open Go.Am.Dat (cells)
namespace Go.Proofs.Ytfgpbmjmoobcnaa
set_option maxHeartbeats 4000000
set_option maxRecDepth 20000
set_option linter.unusedSimpArgs false
def adjOk (m : List (List Gs)) : Prop := (∃ a, m = [[a]]) ∨ ∃ a b c d, m = [[a, b], [c, d]] ∧ bd b 1000 ∧ bd c 1000
def e85 : Ent Try.prog := .of1 85 adjOk (fun m : List (List Gs) => enc (adjS m)) (fun _ => trivial) (fun m h => by
  rcases h with ⟨a, rfl⟩ | ⟨a, b, c, d, rfl, h1, h2⟩
  · exact adj1_c a
  · exact adj2_c a b c d h1 h2)
def timesOk (a o : List (List Fz)) : Prop := ∃ m ls A B, Fits m ls A B ∧ 8 * (A * B) ≤ 9007199254740991 ∧ RepM a m ∧ RepM o ls
def e86 : Ent Try.prog := .of2 86 timesOk (fun a o : List (List Fz) => enc (timesW a o)) (fun _ _ => trivial) (fun a o h => by
  obtain ⟨m, ls, A, B, h1, h2, h3, h4⟩ := h
  exact gridTimes_c a o m ls A B h1 h2 h3 h4)
def e87D : Ent Try.prog := .mk3 87 (fun args chs => match args, chs with
    | [.sl 1 t], [] => (decL t : Option (List (List Fz))).bind fun w => some (RowsOk w (ofM w), .own 3, [(3, .deep 2 48 35 none ((ofM w).map fun r => r.map cells))], [3])
    | _, _ => none) (by
  intro args chs p r chs' nk hs hp
  split at hs
  · simp only [Option.bind_eq_some_iff, Option.some.injEq, Prod.mk.injEq] at hs
    obtain ⟨w, hw, rfl, rfl, rfl, rfl⟩ := hs
    have := decL_ok hw
    subst this
    refine ⟨rowsD_c w _ hp, ⟨fun k c h => .inl ?_, fun k cs h => by simp at h, by simp [keysIn], fun k c h => ?_⟩⟩
    · simp only [List.mem_singleton, Prod.mk.injEq] at h; rw [h.1]; exact List.mem_singleton.2 rfl
    · simp only [List.mem_singleton, Prod.mk.injEq] at h; rw [h.2]; trivial
  · cases hs)
theorem sym_of {l : List Gs} (h : symErr l = 0) : 0 < l.length ∧ l.length ≤ 200 ∧ ∀ g ∈ l, bd g 100000000 := by
  unfold symErr at h
  split at h
  · cases h
  · split at h
    · cases h
    · split at h
      · rename_i h1 h2 h3
        exact ⟨by omega, by omega, fun g hg => smallG_bd (by simpa using List.all_eq_true.1 h3 g hg)⟩
      · cases h
theorem lay_of {r : List (List Gs)} (h : layErr r = 0) : 0 < r.length ∧ r.length ≤ 4 ∧ ∀ x ∈ r, x.length = (r.getD 0 []).length ∧ 0 < x.length ∧ x.length ≤ 200 ∧ ∀ g ∈ x, bd g 100000000 := by
  unfold layErr at h
  split at h
  · cases h
  · split at h
    · cases h
    · refine ⟨by omega, by omega, fun x hx => ?_⟩
      have := firstS_zero h _ (List.mem_map.2 ⟨x, hx, rfl⟩)
      by_cases h1 : symErr x = 0
      · rw [if_neg (by simpa using h1)] at this
        obtain ⟨q1, q2, q3⟩ := sym_of h1
        refine ⟨?_, q1, q2, q3⟩
        split at this
        · cases this
        · omega
      · rw [if_pos h1] at this; exact absurd this h1
theorem det_of {m : List (List Gs)} (h : symDetE m = 0) : adjOk m ∧ (∀ x ∈ m, x.length = m.length ∧ ∀ g ∈ x, bd g 1000) ∧ 0 < m.length ∧ m.length ≤ 2 := by
  unfold symDetE at h
  by_cases h1 : matErr m = 0
  · rw [if_neg (by simpa using h1)] at h
    have hr := right_of h1
    unfold detE at h
    split at h
    · cases h
    · split at h
      · cases h
      · rename_i h2 h3
        have hb : ∀ x ∈ m, x.length = m.length ∧ ∀ g ∈ x, bd g 1000 := fun x hx => ⟨by have := (hr.row x hx).1; omega, fun g hg => smallG_bd ((hr.row x hx).2.2.2 g hg)⟩
        refine ⟨?_, hb, hr.pos, by omega⟩
        match m, hb, hr.pos, h3 with
        | [x], hb, _, _ =>
          obtain ⟨q1, q2⟩ := hb x (by simp)
          match x, q1 with
          | [a], _ => exact .inl ⟨a, rfl⟩
        | [x, y], hb, _, _ =>
          obtain ⟨q1, q2⟩ := hb x (by simp)
          obtain ⟨q3, q4⟩ := hb y (by simp)
          match x, y, q1, q3, q2, q4 with
          | [a, b], [c, d], _, _, q2, q4 => exact .inr ⟨a, b, c, d, rfl, q2 b (by simp), q4 c (by simp)⟩
        | _ :: _ :: _ :: _, _, _, h3 => simp at h3
  · rw [if_pos h1] at h; exact absurd h h1
theorem adjS_length {m : List (List Gs)} (ha : adjOk m) : (adjS m).length = m.length ∧ ∀ x ∈ adjS m, x.length = m.length := by
  rcases ha with ⟨a, rfl⟩ | ⟨a, b, c, d, rfl, _, _⟩ <;> simp [adjS]
theorem adj_fits {m r : List (List Gs)} (ha : adjOk m) (hm : ∀ x ∈ m, x.length = m.length ∧ ∀ g ∈ x, bd g 1000) (hl : layErr r = 0) (hrm : r.length = m.length) : Fits (adjS m) r 1000 100000000 := by
  obtain ⟨h1, h2, h3⟩ := lay_of hl
  obtain ⟨g1, g2⟩ := adjS_length ha
  refine ⟨h1, h2, by omega, fun x hx => (h3 x hx).1, ?_, fun x hx => by rw [g2 x hx, hrm], ?_, fun x hx g hg => (h3 x hx).2.2.2 g hg, by omega⟩
  · have := (h3 _ (getD_mem [] h1)).2.2.1; omega
  · rcases ha with ⟨a, rfl⟩ | ⟨a, b, c, d, rfl, h1, h2⟩
    · intro x hx g hg
      simp [adjS] at hx; subst hx; simp at hg; subst hg
      constructor <;> simp
    · have ha := (hm [a, b] (by simp)).2 a (by simp)
      have hd := (hm [c, d] (by simp)).2 d (by simp)
      intro x hx g hg
      simp only [bd] at *
      simp only [adjS, List.mem_cons, List.not_mem_nil, or_false] at hx
      rcases hx with rfl | rfl <;> simp only [List.mem_cons, List.not_mem_nil, or_false] at hg <;> rcases hg with rfl | rfl <;> (try simp only [gsub]) <;> omega
def eqErr (m r : List (List Gs)) : Int := firstS [symDetE m, layErr r, if r.length = m.length then 0 else 13, if symDetS m = ⟨0, 0⟩ then 27 else 0]
def gainS (m : List (List Gs)) : Int := (gmul (symDetS m) (gconj (symDetS m))).re
def eqOut (m r : List (List Gs)) : List (List Gs) := (applS (adjS m) r).map fun x => x.map (gmul (gconj (symDetS m)))
def eqE (m r : List (List Gs)) : Int := if eqErr m r ≠ 0 then eqErr m r else if gainS m > 10000000 then 8 else if (eqOut m r).all fun x => x.all (smallG · 100000000) then 0 else 8
theorem Equalized_c (m r : List (List Gs)) : FC Try.prog 17 [enc m, enc r] [] (.tup [enc (if eqE m r = 0 then eqOut m r else []), enc (if eqE m r = 0 then gainS m else 0), enc (eqE m r)]) [] := by
  refine fc_introC [] D.is17 (by simp) trivial trivial trivial trivial (fun cx _ hl _ => S_run [e49, e81, e82, e80, e83, e84, e85, e86, e87D] 800 ?_)
  have hEq : firstS [symDetE m, layErr r, if (r.length : Int) = (m.length : Int) then 0 else 13, if (decide ((symDetS m).re = 0) && decide ((symDetS m).im = 0)) = false then 0 else 27] = eqErr m r := by
    have e1 : (if (r.length : Int) = (m.length : Int) then (0 : Int) else 13) = if r.length = m.length then 0 else 13 := by
      by_cases h : r.length = m.length
      · simp [h]
      · rw [if_neg h, if_neg (by omega)]
    have e2 : (if (decide ((symDetS m).re = 0) && decide ((symDetS m).im = 0)) = false then (0 : Int) else 27) = if symDetS m = ⟨0, 0⟩ then 27 else 0 := by
      by_cases h : symDetS m = ⟨0, 0⟩
      · rw [h]; simp
      · rw [if_neg h, if_pos]
        rw [Bool.and_eq_false_iff]
        by_cases h1 : (symDetS m).re = 0
        · right
          simp only [decide_eq_false_iff_not]
          intro h2
          apply h
          cases hq : symDetS m
          rw [hq] at h1 h2
          simp only at h1 h2
          rw [h1, h2]
        · left; simpa using h1
    rw [e1, e2]; rfl
  by_cases he : eqErr m r = 0
  · have hz := firstS_zero he
    have z1 : symDetE m = 0 := hz _ (by simp)
    have z2 : layErr r = 0 := hz _ (by simp)
    have z3 : r.length = m.length := by
      have : (if r.length = m.length then (0 : Int) else 13) = 0 := hz _ (by simp)
      split at this
      · assumption
      · cases this
    obtain ⟨d1, d2, d3, d4⟩ := det_of z1
    have hf := adj_fits d1 d2 z2 z3
    obtain ⟨l1, l2, l3⟩ := lay_of z2
    have hga : RepM (gridS (adjS m)) (adjS m) := grid_rep fun x hx g hg => by
      have := hf.ma x hx g hg
      simp only [bd] at *; omega
    have hgr : RepM (gridS r) r := grid_rep fun x hx g hg => by
      have := hf.mb x hx g hg
      simp only [bd] at *; omega
    have hrep := times_rep hf (by omega) hga hgr
    have hO := ofM_c hrep
    have hOl : (applS (adjS m) r).length = m.length := by simp [applS, (adjS_length d1).1]
    rw [he] at hEq
    delta D.c17
    simp (maxSteps := 4000000) -implicitDefEqProofs only [D.rv17, e49, e81, e82, e80, e83, e84, e85, e86, e87D, hEq, hO, Ent.of0, Ent.of1, Ent.of2, Ent.of3, V, bP, bq, a9, cm, cQ, cP, gt, lk, cr, cb, b0, cq, cI, ce, ce.subCs, cV, bz, bL, bT, aW, a8, bh, aT, bp, br, aC, bj, aJ, bN, cK, cZ, au, aN, bM, cg, cp, cN, cS, aI, aj, cJ, bl, zC, argS, bK, cD, cW, cU, ah, aQ, aB, aY, bV, leC, cu, cn, bY, cR, bS, aH, aE, cM, am, cF, bG, bG.viewCs, bH, bH.flatCs, ax, ax.LensOks, Value.oneCell', ↓reduceIte, ite_true, ite_false, if_true, if_false, Nat.reduceAdd, Nat.reduceSub, Nat.reduceMul, Nat.reduceEqDiff, Nat.reduceLT, Nat.reduceLeDiff, reduceCtorEq, Int.reduceToNat, forall_const, implies_true, a4, Ent.mk3, bm, bg, bw, bJ, bB, bf, a6, bu, a5, bv, bo, bR, be, cT, rn, co, co.renCs, aR, av, aX, aX.viewOks, aK, bn, bn.flatBs, aU, ak, az, an, aL, aZ, aZ.keysBs, aP, ai, bk, cz, bD, bW, ae, ae.passKs, aV, aA, af, af.lendKs, cC, bQ, bX, bF, setInn, ag, cY, cO, aM, a7, cc, cG, ay, aO, Glob.gl, aG, cd, bE, bU, bA, ap, cj, c6, cH, cL, cB, ar, ar.ptrOnlys, aq, aw, bZ, aD, bC, a3, bO, aF, bI, ca, Nat.reduceBEq, undef]
    have hbd : bd (symDetS m) 4000000 := by
      have e : symDetS m = detS m := by unfold symDetS symDetE at *; split at z1 <;> simp_all
      rw [e]
      rcases d1 with ⟨a, rfl⟩ | ⟨a, b, c, d, rfl, _, _⟩
      · have := (d2 [a] (by simp)).2 a (by simp)
        simp only [detS, bd] at *; omega
      · have ha := (d2 [a, b] (by simp)).2 a (by simp)
        have hb := (d2 [a, b] (by simp)).2 b (by simp)
        have hc := (d2 [c, d] (by simp)).2 c (by simp)
        have hd := (d2 [c, d] (by simp)).2 d (by simp)
        have q1 := bd_gmul ha hd
        have q2 := bd_gmul hb hc
        simp only [detS, bd, gsub] at *
        omega
    have hgc : gconj (symDetS m) = ⟨(symDetS m).re, -(symDetS m).im⟩ := rfl
    have hgain : gainS m = (gmul (symDetS m) ⟨(symDetS m).re, -(symDetS m).im⟩).re := rfl
    have hgain2 : gainS m = (symDetS m).re * (symDetS m).re + (symDetS m).im * (symDetS m).im := by
      rw [hgain]; simp only [gmul]; rw [Int.mul_neg]; omega
    have heE : eqE m r = if gainS m > 10000000 then 8 else if (eqOut m r).all fun x => x.all (smallG · 100000000) then 0 else 8 := by unfold eqE; rw [if_neg (by simpa using he)]
    have hout : eqOut m r = (applS (adjS m) r).map fun x => x.map (gmul (gconj (symDetS m))) := rfl
    refine ⟨by simp only [bd, InR] at *; omega, ⟨4000000, 4000000, hbd, by simp only [bd] at *; omega, by omega⟩, ?_⟩
    rw [← hgain]
    by_cases hG : gainS m > 10000000
    · rw [if_pos hG, heE, if_pos hG]
      exact ⟨trivial, rfl, rfl⟩
    · rw [if_neg hG]
      rw [if_neg hG] at heE
      have hal := adjS_length d1
      have hrows : ∀ x ∈ applS (adjS m) r, x.length ≤ 1000000 ∧ ∀ g ∈ x, bd g 800000000000 := fun x hx => by
        obtain ⟨row, hrow, rfl⟩ := List.mem_map.1 hx
        refine ⟨by simp only [rowS', List.length_map, List.length_range]; exact hf.short, fun g hg => ?_⟩
        obtain ⟨k, hk, rfl⟩ := List.mem_map.1 hg
        have := bd_dot hf hrow (by simpa using hk) r.length (Nat.le_refl _)
        have h4 : r.length * (2 * (1000 * 100000000)) ≤ 4 * (2 * (1000 * 100000000)) := Nat.mul_le_mul_right _ l2
        simp only [bd] at *; omega
      refine ⟨d1, ⟨by omega, fun x hx => by rw [hal.2 x hx]; omega⟩, ⟨by omega, fun x hx => by have := (l3 x hx).2.2.1; omega⟩, ⟨_, _, _, _, hf, by omega, hga, hgr⟩, ⟨hrep, by omega, fun x hx => (hrows x hx).1, fun x hx g hg => by have := (hrows x hx).2 g hg; simp only [bd] at *; omega⟩, ?_⟩
      have hback : bd (gconj (symDetS m)) 4000 := by
        have sq : ∀ a b : Int, a * a + b * b ≤ 10000000 → a.natAbs ≤ 4000 := fun a b h => by
          rcases Nat.lt_or_ge 4000 a.natAbs with h1 | h1
          · have h2 : 4001 * 4001 ≤ a.natAbs * a.natAbs := Nat.mul_le_mul h1 h1
            have h3 : ((a.natAbs * a.natAbs : Nat) : Int) = a * a := by rw [← Int.natAbs_mul_self]
            have h4 : (0 : Int) ≤ b * b := by rw [← Int.natAbs_mul_self]; omega
            omega
          · exact h1
        have q1 := sq (symDetS m).re (symDetS m).im (by omega)
        have q2 := sq (symDetS m).im (symDetS m).re (by omega)
        simp only [bd, gconj] at *; omega
      generalize hF : gmul (gconj (symDetS m)) = F at *
      generalize hOO : applS (adjS m) r = O at *
      rw [hgc] at hF hback
      have hFg : ∀ g, gmul ⟨(symDetS m).re, -(symDetS m).im⟩ g = F g := fun g => by rw [← hF]
      generalize hB : (⟨(symDetS m).re, -(symDetS m).im⟩ : Gs) = B at *
      generalize (symDetS m).re = Dr at *
      generalize (symDetS m).im = Di at *
      generalize eqE m r = E at *
      generalize eqOut m r = Out at *
      generalize gainS m = n at *
      clear hF hgain hgain2 hgc hbd hEq he hz z1 z2 z3 d1 d2 hf l3 hga hgr hrep hO hal hOO hG
      subst hB
      refine S_forU O.length (fun i => [(60, .s (.int .i64 (i : Int)))]) (fun i => [(57, .deep 2 48 35 none (riC F O i))]) (fun i => ((O.take i).all fun x => x.all fun g => smallG (F g) 100000000) = true) (by simp) ?_ (fun i hi hv => S_run [e83, e88] 800 ?_)
      · simp (maxSteps := 4000000) -implicitDefEqProofs only [riC_zero, Ent.of0, Ent.of1, Ent.of2, Ent.of3, V, bP, bq, a9, cm, cQ, cP, gt, lk, cr, cb, b0, cq, cI, ce, ce.subCs, cV, bz, bL, bT, aW, a8, bh, aT, bp, br, aC, bj, aJ, bN, cK, cZ, au, aN, bM, cg, cp, cN, cS, aI, aj, cJ, bl, zC, argS, bK, cD, cW, cU, ah, aQ, aB, aY, bV, leC, cu, cn, bY, cR, bS, aH, aE, cM, am, cF, bG, bG.viewCs, bH, bH.flatCs, ax, ax.LensOks, Value.oneCell', ↓reduceIte, ite_true, ite_false, if_true, if_false, Nat.reduceAdd, Nat.reduceSub, Nat.reduceMul, Nat.reduceEqDiff, Nat.reduceLT, Nat.reduceLeDiff, reduceCtorEq, Int.reduceToNat, forall_const, implies_true, a4, Ent.mk3, bm, bg, bw, bJ, bB, bf, a6, bu, a5, bv, bo, bR, be, cT, rn, co, co.renCs, aR, av, aX, aX.viewOks, aK, bn, bn.flatBs, aU, ak, az, an, aL, aZ, aZ.keysBs, aP, ai, bk, cz, bD, bW, ae, ae.passKs, aV, aA, af, af.lendKs, cC, bQ, bX, bF, setInn, ag, cY, cO, aM, a7, cc, cG, ay, aO, Glob.gl, aG, cd, bE, bU, bA, ap, cj, c6, cH, cL, cB, ar, ar.ptrOnlys, aq, aw, bZ, aD, bC, a3, bO, aF, bI, ca, Nat.reduceBEq, undef]
        rfl
      · delta D.c17l2
        by_cases h : i < O.length
        · have hi2 : (i : Int) < (O.length : Int) := by omega
          have r1 : (rjC F O i 0).length = O.length := rjC_length h
          have r2 : (rjC F O i 0).getD i [] = xjC F (O.getD i []) 0 := rjC_get h []
          have r3 : (xjC F (O.getD i []) 0).length = (O.getD i []).length := xjC_length (by omega)
          rw [riC_rj h]
          simp (maxSteps := 4000000) -implicitDefEqProofs only [hi2, r1, r2, r3, h, InR, Ent.of0, Ent.of1, Ent.of2, Ent.of3, V, bP, bq, a9, cm, cQ, cP, gt, lk, cr, cb, b0, cq, cI, ce, ce.subCs, cV, bz, bL, bT, aW, a8, bh, aT, bp, br, aC, bj, aJ, bN, cK, cZ, au, aN, bM, cg, cp, cN, cS, aI, aj, cJ, bl, zC, argS, bK, cD, cW, cU, ah, aQ, aB, aY, bV, leC, cu, cn, bY, cR, bS, aH, aE, cM, am, cF, bG, bG.viewCs, bH, bH.flatCs, ax, ax.LensOks, Value.oneCell', ↓reduceIte, ite_true, ite_false, if_true, if_false, Nat.reduceAdd, Nat.reduceSub, Nat.reduceMul, Nat.reduceEqDiff, Nat.reduceLT, Nat.reduceLeDiff, reduceCtorEq, Int.reduceToNat, forall_const, implies_true, a4, Ent.mk3, bm, bg, bw, bJ, bB, bf, a6, bu, a5, bv, bo, bR, be, cT, rn, co, co.renCs, aR, av, aX, aX.viewOks, aK, bn, bn.flatBs, aU, ak, az, an, aL, aZ, aZ.keysBs, aP, ai, bk, cz, bD, bW, ae, ae.passKs, aV, aA, af, af.lendKs, cC, bQ, bX, bF, setInn, ag, cY, cO, aM, a7, cc, cG, ay, aO, Glob.gl, aG, cd, bE, bU, bA, ap, cj, c6, cH, cL, cB, ar, ar.ptrOnlys, aq, aw, bZ, aD, bC, a3, bO, aF, bI, ca, Nat.reduceBEq, undef]
          refine ⟨by omega, by simp, by simp, ?_⟩
          have hXm := hrows _ (getD_mem [] h)
          have htk : O.take (i + 1) = O.take i ++ [O.getD i []] := take_getD [] h
          have hXmem : O.getD i [] ∈ O := getD_mem [] h
          have rn := rjC_ri (F := F) h
          have g1 : ∀ j, (rjC F O i j).length = O.length := fun j => rjC_length h
          have g2 : ∀ j, (rjC F O i j).getD i [] = xjC F (O.getD i []) j := fun j => rjC_get h []
          have g3 : ∀ j, (rjC F O i j).set i (xjC F (O.getD i []) (j + 1)) = rjC F O i (j + 1) := fun j => rjC_set h
          generalize hX : O.getD i [] = X at *
          refine S_forU X.length (fun j => [(66, .s (.int .i64 (j : Int)))]) (fun j => [(57, .deep 2 48 35 none (rjC F O i j))]) (fun j => ((X.take j).all fun g => smallG (F g) 100000000) = true) (by simp) ?_ (fun j hj hw => S_run [e83, e88] 800 ?_)
          · simp (maxSteps := 4000000) -implicitDefEqProofs only [Ent.of0, Ent.of1, Ent.of2, Ent.of3, V, bP, bq, a9, cm, cQ, cP, gt, lk, cr, cb, b0, cq, cI, ce, ce.subCs, cV, bz, bL, bT, aW, a8, bh, aT, bp, br, aC, bj, aJ, bN, cK, cZ, au, aN, bM, cg, cp, cN, cS, aI, aj, cJ, bl, zC, argS, bK, cD, cW, cU, ah, aQ, aB, aY, bV, leC, cu, cn, bY, cR, bS, aH, aE, cM, am, cF, bG, bG.viewCs, bH, bH.flatCs, ax, ax.LensOks, Value.oneCell', ↓reduceIte, ite_true, ite_false, if_true, if_false, Nat.reduceAdd, Nat.reduceSub, Nat.reduceMul, Nat.reduceEqDiff, Nat.reduceLT, Nat.reduceLeDiff, reduceCtorEq, Int.reduceToNat, forall_const, implies_true, a4, Ent.mk3, bm, bg, bw, bJ, bB, bf, a6, bu, a5, bv, bo, bR, be, cT, rn, co, co.renCs, aR, av, aX, aX.viewOks, aK, bn, bn.flatBs, aU, ak, az, an, aL, aZ, aZ.keysBs, aP, ai, bk, cz, bD, bW, ae, ae.passKs, aV, aA, af, af.lendKs, cC, bQ, bX, bF, setInn, ag, cY, cO, aM, a7, cc, cG, ay, aO, Glob.gl, aG, cd, bE, bU, bA, ap, cj, c6, cH, cL, cB, ar, ar.ptrOnlys, aq, aw, bZ, aD, bC, a3, bO, aF, bI, ca, Nat.reduceBEq, undef]; rfl
          · delta D.c17l1
            by_cases hjl : j < X.length
            · have hj2 : (j : Int) < (X.length : Int) := by omega
              have g4 : (xjC F X j).length = X.length := xjC_length (by omega)
              have g4' : (xjC F X (j + 1)).length = X.length := xjC_length (by omega)
              have g5 : (xjC F X j).getD j [] = [.s (.int .i64 (X.getD j ⟨0, 0⟩).re), .s (.int .i64 (X.getD j ⟨0, 0⟩).im)] := xjC_get hjl []
              have g6 : (xjC F X (j + 1)).getD j [] = [.s (.int .i64 (F (X.getD j ⟨0, 0⟩)).re), .s (.int .i64 (F (X.getD j ⟨0, 0⟩)).im)] := xjC_get' hjl []
              have g7 : (xjC F X j).set j [.s (.int .i64 (F (X.getD j ⟨0, 0⟩)).re), .s (.int .i64 (F (X.getD j ⟨0, 0⟩)).im)] = xjC F X (j + 1) := xjC_set hjl
              have hgm := getD_mem ⟨0, 0⟩ hjl
              have hm1 : mulOk ⟨Dr, -Di⟩ (X.getD j ⟨0, 0⟩) := ⟨4000, 800000000000, hback, hXm.2 _ hgm, by omega⟩
              have htk2 : X.take (j + 1) = X.take j ++ [X.getD j ⟨0, 0⟩] := take_getD _ hjl
              simp (maxSteps := 4000000) -implicitDefEqProofs only [hj2, g1, g2, g3, g4, g4', g5, g6, g7, h, hjl, gs_eta, hFg, hm1, e83, e88, aT, D.rv17, InR, Ent.of0, Ent.of1, Ent.of2, Ent.of3, V, bP, bq, a9, cm, cQ, cP, gt, lk, cr, cb, b0, cq, cI, ce, ce.subCs, cV, bz, bL, bT, aW, a8, bh, aT, bp, br, aC, bj, aJ, bN, cK, cZ, au, aN, bM, cg, cp, cN, cS, aI, aj, cJ, bl, zC, argS, bK, cD, cW, cU, ah, aQ, aB, aY, bV, leC, cu, cn, bY, cR, bS, aH, aE, cM, am, cF, bG, bG.viewCs, bH, bH.flatCs, ax, ax.LensOks, Value.oneCell', ↓reduceIte, ite_true, ite_false, if_true, if_false, Nat.reduceAdd, Nat.reduceSub, Nat.reduceMul, Nat.reduceEqDiff, Nat.reduceLT, Nat.reduceLeDiff, reduceCtorEq, Int.reduceToNat, forall_const, implies_true, a4, Ent.mk3, bm, bg, bw, bJ, bB, bf, a6, bu, a5, bv, bo, bR, be, cT, rn, co, co.renCs, aR, av, aX, aX.viewOks, aK, bn, bn.flatBs, aU, ak, az, an, aL, aZ, aZ.keysBs, aP, ai, bk, cz, bD, bW, ae, ae.passKs, aV, aA, af, af.lendKs, cC, bQ, bX, bF, setInn, ag, cY, cO, aM, a7, cc, cG, ay, aO, Glob.gl, aG, cd, bE, bU, bA, ap, cj, c6, cH, cL, cB, ar, ar.ptrOnlys, aq, aw, bZ, aD, bC, a3, bO, aF, bI, ca, Nat.reduceBEq, undef]
              have hne : (none : Option Nat) ≠ some i := by simp
              have hj0 : (0 : Int) ≤ (j : Int) := by omega
              refine ⟨⟨hne, hj0⟩, hne, ⟨hne, hj0⟩, hne, ⟨hne, hj0⟩, hne, by omega, ?_⟩
              by_cases hs : smallG (F (X.getD j ⟨0, 0⟩)) 100000000 = false
              · rw [if_pos hs]
                have hE8 : E = 8 := by
                  rw [heE, if_neg]
                  rw [hout]
                  intro ha
                  have h1 := List.all_eq_true.1 ha _ (List.mem_map.2 ⟨X, hXmem, rfl⟩)
                  have h2 := List.all_eq_true.1 h1 _ (List.mem_map.2 ⟨_, hgm, rfl⟩)
                  rw [hs] at h2; cases h2
                rw [hE8]
                exact ⟨trivial, rfl, rfl⟩
              · rw [if_neg hs]
                refine ⟨by omega, ?_, by omega⟩
                rw [htk2, List.all_append, hw]
                simpa using hs
            · have hje : j = X.length := by omega
              subst hje
              have hj2 : ¬ (X.length : Int) < (X.length : Int) := by omega
              simp (maxSteps := 4000000) -implicitDefEqProofs only [hj2, rn, h, htk, InR, Ent.of0, Ent.of1, Ent.of2, Ent.of3, V, bP, bq, a9, cm, cQ, cP, gt, lk, cr, cb, b0, cq, cI, ce, ce.subCs, cV, bz, bL, bT, aW, a8, bh, aT, bp, br, aC, bj, aJ, bN, cK, cZ, au, aN, bM, cg, cp, cN, cS, aI, aj, cJ, bl, zC, argS, bK, cD, cW, cU, ah, aQ, aB, aY, bV, leC, cu, cn, bY, cR, bS, aH, aE, cM, am, cF, bG, bG.viewCs, bH, bH.flatCs, ax, ax.LensOks, Value.oneCell', ↓reduceIte, ite_true, ite_false, if_true, if_false, Nat.reduceAdd, Nat.reduceSub, Nat.reduceMul, Nat.reduceEqDiff, Nat.reduceLT, Nat.reduceLeDiff, reduceCtorEq, Int.reduceToNat, forall_const, implies_true, a4, Ent.mk3, bm, bg, bw, bJ, bB, bf, a6, bu, a5, bv, bo, bR, be, cT, rn, co, co.renCs, aR, av, aX, aX.viewOks, aK, bn, bn.flatBs, aU, ak, az, an, aL, aZ, aZ.keysBs, aP, ai, bk, cz, bD, bW, ae, ae.passKs, aV, aA, af, af.lendKs, cC, bQ, bX, bF, setInn, ag, cY, cO, aM, a7, cc, cG, ay, aO, Glob.gl, aG, cd, bE, bU, bA, ap, cj, c6, cH, cL, cB, ar, ar.ptrOnlys, aq, aw, bZ, aD, bC, a3, bO, aF, bI, ca, Nat.reduceBEq, undef]
              rw [List.take_length] at hw
              refine ⟨by omega, ?_, by omega⟩
              rw [List.all_append, hv]
              simp only [List.all_cons, List.all_nil, Bool.and_true, Bool.true_and]
              exact hw
        · have hie : i = O.length := by omega
          subst hie
          have hi2 : ¬ (O.length : Int) < (O.length : Int) := by omega
          rw [riC_all]
          simp (maxSteps := 4000000) -implicitDefEqProofs only [hi2, D.rv17, InR, Ent.of0, Ent.of1, Ent.of2, Ent.of3, V, bP, bq, a9, cm, cQ, cP, gt, lk, cr, cb, b0, cq, cI, ce, ce.subCs, cV, bz, bL, bT, aW, a8, bh, aT, bp, br, aC, bj, aJ, bN, cK, cZ, au, aN, bM, cg, cp, cN, cS, aI, aj, cJ, bl, zC, argS, bK, cD, cW, cU, ah, aQ, aB, aY, bV, leC, cu, cn, bY, cR, bS, aH, aE, cM, am, cF, bG, bG.viewCs, bH, bH.flatCs, ax, ax.LensOks, Value.oneCell', ↓reduceIte, ite_true, ite_false, if_true, if_false, Nat.reduceAdd, Nat.reduceSub, Nat.reduceMul, Nat.reduceEqDiff, Nat.reduceLT, Nat.reduceLeDiff, reduceCtorEq, Int.reduceToNat, forall_const, implies_true, a4, Ent.mk3, bm, bg, bw, bJ, bB, bf, a6, bu, a5, bv, bo, bR, be, cT, rn, co, co.renCs, aR, av, aX, aX.viewOks, aK, bn, bn.flatBs, aU, ak, az, an, aL, aZ, aZ.keysBs, aP, ai, bk, cz, bD, bW, ae, ae.passKs, aV, aA, af, af.lendKs, cC, bQ, bX, bF, setInn, ag, cY, cO, aM, a7, cc, cG, ay, aO, Glob.gl, aG, cd, bE, bU, bA, ap, cj, c6, cH, cL, cB, ar, ar.ptrOnlys, aq, aw, bZ, aD, bC, a3, bO, aF, bI, ca, Nat.reduceBEq, undef]
          rw [List.take_length] at hv
          have hE0 : E = 0 := by
            rw [heE, if_pos]
            rw [hout, List.all_map]
            simpa [Function.comp_def, List.all_map] using hv
          rw [hE0, if_pos rfl, if_pos rfl, hout]
          refine ⟨?_, rfl, rfl⟩
          simp only [List.map_map]
          rfl
  · have hE : eqE m r = eqErr m r := by unfold eqE; rw [if_pos he]
    delta D.c17
    simp (maxSteps := 4000000) -implicitDefEqProofs only [D.rv17, e49, e81, e82, e80, e83, Ent.of0, Ent.of1, Ent.of2, Ent.of3, V, bP, bq, a9, cm, cQ, cP, gt, lk, cr, cb, b0, cq, cI, ce, ce.subCs, cV, bz, bL, bT, aW, a8, bh, aT, bp, br, aC, bj, aJ, bN, cK, cZ, au, aN, bM, cg, cp, cN, cS, aI, aj, cJ, bl, zC, argS, bK, cD, cW, cU, ah, aQ, aB, aY, bV, leC, cu, cn, bY, cR, bS, aH, aE, cM, am, cF, bG, bG.viewCs, bH, bH.flatCs, ax, ax.LensOks, Value.oneCell', ↓reduceIte, ite_true, ite_false, if_true, if_false, Nat.reduceAdd, Nat.reduceSub, Nat.reduceMul, Nat.reduceEqDiff, Nat.reduceLT, Nat.reduceLeDiff, reduceCtorEq, Int.reduceToNat, forall_const, implies_true, a4, Ent.mk3, bm, bg, bw, bJ, bB, bf, a6, bu, a5, bv, bo, bR, be, cT, rn, co, co.renCs, aR, av, aX, aX.viewOks, aK, bn, bn.flatBs, aU, ak, az, an, aL, aZ, aZ.keysBs, aP, ai, bk, cz, bD, bW, ae, ae.passKs, aV, aA, af, af.lendKs, cC, bQ, bX, bF, setInn, ag, cY, cO, aM, a7, cc, cG, ay, aO, Glob.gl, aG, cd, bE, bU, bA, ap, cj, c6, cH, cL, cB, ar, ar.ptrOnlys, aq, aw, bZ, aD, bC, a3, bO, aF, bI, ca, Nat.reduceBEq, undef]
    rw [hEq, if_pos he, hE, if_neg he, if_neg he]
    exact ⟨trivial, rfl, rfl⟩
end Go.Proofs.Ytfgpbmjmoobcnaa
end
section
open Go Go.Am
open Go.Am.Dat (cells)
namespace Go.Proofs.Ytfgpbmjmoobcnaa
set_option maxHeartbeats 4000000
set_option maxRecDepth 100000
set_option linter.unusedSimpArgs false
def regX : Reg := ⟨3, [0, 1], [1, 0, 0]⟩
theorem Register_c : FC Try.prog 79 [] [] (enc regX) [] := by
  refine fc_intro' is79 (by simp) (fun cx hl => S_run [] 800 ?_)
  delta c79
  simp (maxSteps := 4000000) -implicitDefEqProofs only [rv79, regX, enc_reg, aT, Ent.of0, Ent.of1, Ent.of2, Ent.of3, V, bP, bq, a9, cm, cQ, cP, gt, lk, cr, cb, b0, cq, cI, ce, ce.subCs, cV, bz, bL, bT, aW, a8, bh, aT, bp, br, aC, bj, aJ, bN, cK, cZ, au, aN, bM, cg, cp, cN, cS, aI, aj, cJ, bl, zC, argS, bK, cD, cW, cU, ah, aQ, aB, aY, bV, leC, cu, cn, bY, cR, bS, aH, aE, cM, am, cF, bG, bG.viewCs, bH, bH.flatCs, ax, ax.LensOks, Value.oneCell', ↓reduceIte, ite_true, ite_false, if_true, if_false, Nat.reduceAdd, Nat.reduceSub, Nat.reduceMul, Nat.reduceEqDiff, Nat.reduceLT, Nat.reduceLeDiff, reduceCtorEq, Int.reduceToNat, forall_const, implies_true, a4, Ent.mk3, bm, bg, bw, bJ, bB, bf, a6, bu, a5, bv, bo, bR, be, cT, rn, co, co.renCs, aR, av, aX, aX.viewOks, aK, bn, bn.flatBs, aU, ak, az, an, aL, aZ, aZ.keysBs, aP, ai, bk, cz, bD, bW, ae, ae.passKs, aV, aA, af, af.lendKs, cC, bQ, bX, bF, setInn, ag, cY, cO, aM, a7, cc, cG, ay, aO, Glob.gl, aG, cd, bE, bU, bA, ap, cj, c6, cH, cL, cB, ar, ar.ptrOnlys, aq, aw, bZ, aD, bC, a3, bO, aF, bI, ca, Nat.reduceBEq, undef]
def e79 : Ent Try.prog := .of0 79 (enc regX) (by simp [enc_reg, regX, keysIn, keysIn.keysIns]) Register_c
def mX : List (List Gs) := [[⟨1, 0⟩, ⟨0, 1⟩], [⟨0, 0⟩, ⟨2, 0⟩]]
def rX : List (List Gs) := [[⟨2, 1⟩], [⟨2, 2⟩]]
theorem eqX : FC Try.prog 17 [enc mX, enc rX] [] (.tup [enc [[(⟨12, 0⟩ : Gs)], [⟨4, 4⟩]], enc (4 : Int), enc (0 : Int)]) [] := by
  have s7 : eqE mX rX = 0 := by decide +kernel
  have s8 : eqOut mX rX = [[⟨12, 0⟩], [⟨4, 4⟩]] := by decide +kernel
  have s9 : gainS mX = 4 := by decide +kernel
  have := Equalized_c mX rX
  rwa [s7, if_pos rfl, if_pos rfl, s8, s9] at this
def e17X : Ent Try.prog := .mk3 17 (fun args chs => match chs with | [] => some (args = [enc mX, enc rX], .tup [enc [[(⟨12, 0⟩ : Gs)], [⟨4, 4⟩]], enc (4 : Int), enc (0 : Int)], [], []) | _ => none) (by
  intro args chs p r chs' nk hs hp
  split at hs
  · simp only [Option.some.injEq, Prod.mk.injEq] at hs
    obtain ⟨rfl, rfl, rfl, rfl⟩ := hs
    subst hp
    exact ⟨eqX, .plain (by simp [enc_list, enc_int, keysIn, keysIn.keysIns])⟩
  · cases hs)
theorem awake_c : FC Try.prog 15 [] [] (enc true) [] := by
  have s1 : sequenceErr ⟨3, [0, 1], [1, 0, 0]⟩ 7 = 0 := by decide +kernel
  have s2 : seqS (wireW ⟨3, [0, 1], [1, 0, 0]⟩) 7 = [1, 0, 0, 1, 0, 1, 1] := by decide +kernel
  have s3 : modErr 4 [0, 1, 1, 0] = 0 := by decide +kernel
  have s4 : modS 4 [0, 1, 1, 0] 1 = [⟨3, -1⟩] := by decide +kernel
  have s5 : recvErr ⟨4, 2, [⟨5, 1⟩]⟩ = 0 := by decide +kernel
  have s6 : judgeAll softS ⟨4, 2, [⟨5, 1⟩]⟩ = [48, 8, -8, 24] := by decide +kernel
  have t7 : Int.toNat 7 = 7 := rfl
  have t4 : Int.toNat 4 = 4 := rfl
  have d1 : (4 : Nat) / 4 = 1 := rfl
  refine fc_intro' is15 (by simp) (fun cx hl => S_run [e79, e72, e24] 800 ?_)
  delta c15
  simp (maxSteps := 4000000) -implicitDefEqProofs only [rv15, e79, regX, e72, e24, enc_reg, decV_reg, s1, s2, s3, s4, t7, t4, d1, Int.cast_ofNat_Int, Int.natCast_one, Int.natCast_zero, Int.reduceAdd, Int.reduceSub, Int.reduceMul, Int.reduceLT, Int.reduceLE, Int.reduceTMod, Int.reduceTDiv, Int.reduceNeg, Int.reduceEq, Nat.reducePow, Int.reducePow, ne_eq, not_false_eq_true, Ent.of0, Ent.of1, Ent.of2, Ent.of3, V, bP, bq, a9, cm, cQ, cP, gt, lk, cr, cb, b0, cq, cI, ce, ce.subCs, cV, bz, bL, bT, aW, a8, bh, aT, bp, br, aC, bj, aJ, bN, cK, cZ, au, aN, bM, cg, cp, cN, cS, aI, aj, cJ, bl, zC, argS, bK, cD, cW, cU, ah, aQ, aB, aY, bV, leC, cu, cn, bY, cR, bS, aH, aE, cM, am, cF, bG, bG.viewCs, bH, bH.flatCs, ax, ax.LensOks, Value.oneCell', ↓reduceIte, ite_true, ite_false, if_true, if_false, Nat.reduceAdd, Nat.reduceSub, Nat.reduceMul, Nat.reduceEqDiff, Nat.reduceLT, Nat.reduceLeDiff, reduceCtorEq, Int.reduceToNat, forall_const, implies_true, a4, Ent.mk3, bm, bg, bw, bJ, bB, bf, a6, bu, a5, bv, bo, bR, be, cT, rn, co, co.renCs, aR, av, aX, aX.viewOks, aK, bn, bn.flatBs, aU, ak, az, an, aL, aZ, aZ.keysBs, aP, ai, bk, cz, bD, bW, ae, ae.passKs, aV, aA, af, af.lendKs, cC, bQ, bX, bF, setInn, ag, cY, cO, aM, a7, cc, cG, ay, aO, Glob.gl, aG, cd, bE, bU, bA, ap, cj, c6, cH, cL, cB, ar, ar.ptrOnlys, aq, aw, bZ, aD, bC, a3, bO, aF, bI, ca, Nat.reduceBEq, undef]
  refine D_run [e58] 800 ?_
  simp (maxSteps := 4000000) -implicitDefEqProofs only [e58, enc_recv, decV_recv, s5, s6, Int.cast_ofNat_Int, Int.natCast_one, Int.natCast_zero, Int.reduceAdd, Int.reduceSub, Int.reduceMul, Int.reduceLT, Int.reduceLE, Int.reduceTMod, Int.reduceTDiv, Int.reduceNeg, Int.reduceEq, Nat.reducePow, Int.reducePow, ne_eq, not_false_eq_true, Ent.of0, Ent.of1, Ent.of2, Ent.of3, V, bP, bq, a9, cm, cQ, cP, gt, lk, cr, cb, b0, cq, cI, ce, ce.subCs, cV, bz, bL, bT, aW, a8, bh, aT, bp, br, aC, bj, aJ, bN, cK, cZ, au, aN, bM, cg, cp, cN, cS, aI, aj, cJ, bl, zC, argS, bK, cD, cW, cU, ah, aQ, aB, aY, bV, leC, cu, cn, bY, cR, bS, aH, aE, cM, am, cF, bG, bG.viewCs, bH, bH.flatCs, ax, ax.LensOks, Value.oneCell', ↓reduceIte, ite_true, ite_false, if_true, if_false, Nat.reduceAdd, Nat.reduceSub, Nat.reduceMul, Nat.reduceEqDiff, Nat.reduceLT, Nat.reduceLeDiff, reduceCtorEq, Int.reduceToNat, forall_const, implies_true, a4, Ent.mk3, bm, bg, bw, bJ, bB, bf, a6, bu, a5, bv, bo, bR, be, cT, rn, co, co.renCs, aR, av, aX, aX.viewOks, aK, bn, bn.flatBs, aU, ak, az, an, aL, aZ, aZ.keysBs, aP, ai, bk, cz, bD, bW, ae, ae.passKs, aV, aA, af, af.lendKs, cC, bQ, bX, bF, setInn, ag, cY, cO, aM, a7, cc, cG, ay, aO, Glob.gl, aG, cd, bE, bU, bA, ap, cj, c6, cH, cL, cB, ar, ar.ptrOnlys, aq, aw, bZ, aD, bC, a3, bO, aF, bI, ca, Nat.reduceBEq, undef]
  refine D_run [e17X] 800 ?_
  simp (maxSteps := 4000000) -implicitDefEqProofs only [e17X, mX, rX, Int.cast_ofNat_Int, Int.natCast_one, Int.natCast_zero, Int.reduceAdd, Int.reduceSub, Int.reduceMul, Int.reduceLT, Int.reduceLE, Int.reduceTMod, Int.reduceTDiv, Int.reduceNeg, Int.reduceEq, Nat.reducePow, Int.reducePow, ne_eq, not_false_eq_true, Ent.of0, Ent.of1, Ent.of2, Ent.of3, V, bP, bq, a9, cm, cQ, cP, gt, lk, cr, cb, b0, cq, cI, ce, ce.subCs, cV, bz, bL, bT, aW, a8, bh, aT, bp, br, aC, bj, aJ, bN, cK, cZ, au, aN, bM, cg, cp, cN, cS, aI, aj, cJ, bl, zC, argS, bK, cD, cW, cU, ah, aQ, aB, aY, bV, leC, cu, cn, bY, cR, bS, aH, aE, cM, am, cF, bG, bG.viewCs, bH, bH.flatCs, ax, ax.LensOks, Value.oneCell', ↓reduceIte, ite_true, ite_false, if_true, if_false, Nat.reduceAdd, Nat.reduceSub, Nat.reduceMul, Nat.reduceEqDiff, Nat.reduceLT, Nat.reduceLeDiff, reduceCtorEq, Int.reduceToNat, forall_const, implies_true, a4, Ent.mk3, bm, bg, bw, bJ, bB, bf, a6, bu, a5, bv, bo, bR, be, cT, rn, co, co.renCs, aR, av, aX, aX.viewOks, aK, bn, bn.flatBs, aU, ak, az, an, aL, aZ, aZ.keysBs, aP, ai, bk, cz, bD, bW, ae, ae.passKs, aV, aA, af, af.lendKs, cC, bQ, bX, bF, setInn, ag, cY, cO, aM, a7, cc, cG, ay, aO, Glob.gl, aG, cd, bE, bU, bA, ap, cj, c6, cH, cL, cB, ar, ar.ptrOnlys, aq, aw, bZ, aD, bC, a3, bO, aF, bI, ca, Nat.reduceBEq, undef]
  refine D_run [e37, e27, e21] 800 ?_
  simp (maxSteps := 4000000) -implicitDefEqProofs only [e37, e27, e21, rv15, Int.cast_ofNat_Int, Int.natCast_one, Int.natCast_zero, Int.reduceAdd, Int.reduceSub, Int.reduceMul, Int.reduceLT, Int.reduceLE, Int.reduceTMod, Int.reduceTDiv, Int.reduceNeg, Int.reduceEq, Nat.reducePow, Int.reducePow, ne_eq, not_false_eq_true, Ent.of0, Ent.of1, Ent.of2, Ent.of3, V, bP, bq, a9, cm, cQ, cP, gt, lk, cr, cb, b0, cq, cI, ce, ce.subCs, cV, bz, bL, bT, aW, a8, bh, aT, bp, br, aC, bj, aJ, bN, cK, cZ, au, aN, bM, cg, cp, cN, cS, aI, aj, cJ, bl, zC, argS, bK, cD, cW, cU, ah, aQ, aB, aY, bV, leC, cu, cn, bY, cR, bS, aH, aE, cM, am, cF, bG, bG.viewCs, bH, bH.flatCs, ax, ax.LensOks, Value.oneCell', ↓reduceIte, ite_true, ite_false, if_true, if_false, Nat.reduceAdd, Nat.reduceSub, Nat.reduceMul, Nat.reduceEqDiff, Nat.reduceLT, Nat.reduceLeDiff, reduceCtorEq, Int.reduceToNat, forall_const, implies_true, a4, Ent.mk3, bm, bg, bw, bJ, bB, bf, a6, bu, a5, bv, bo, bR, be, cT, rn, co, co.renCs, aR, av, aX, aX.viewOks, aK, bn, bn.flatBs, aU, ak, az, an, aL, aZ, aZ.keysBs, aP, ai, bk, cz, bD, bW, ae, ae.passKs, aV, aA, af, af.lendKs, cC, bQ, bX, bF, setInn, ag, cY, cO, aM, a7, cc, cG, ay, aO, Glob.gl, aG, cd, bE, bU, bA, ap, cj, c6, cH, cL, cB, ar, ar.ptrOnlys, aq, aw, bZ, aD, bC, a3, bO, aF, bI, ca, Nat.reduceBEq, undef]
def e15 : Ent Try.prog := .of0 15 (enc true) trivial awake_c
end Go.Proofs.Ytfgpbmjmoobcnaa
end
section
open Go Go.Am
open Go.Am.Dat (cells)
namespace Go.Proofs.Ytfgpbmjmoobcnaa
set_option maxHeartbeats 4000000
set_option maxRecDepth 100000
set_option linter.unusedSimpArgs false
def blE (c n : Int) : Int := if 1 ≤ c ∧ c ≤ 3 then (if (ofLevelI c.toNat n).isSome then 0 else 3) else 2
def blS (c n : Int) : List Int := if 1 ≤ c ∧ c ≤ 3 then (match ofLevelI c.toNat n with | some i => bitsOfS i c.toNat c.toNat | none => []) else []
end Go.Proofs.Ytfgpbmjmoobcnaa
end
section
open Go Go.Am
open Go.Am.Dat (cells)
namespace Go.Proofs.Ytfgpbmjmoobcnaa
set_option maxHeartbeats 4000000
set_option maxRecDepth 100000
set_option linter.unusedSimpArgs false
theorem bits3 {l : List Int} (h0 : 0 < l.length) (h3 : l.length ≤ 3) (hb : bitsOk l) : blS (l.length : Int) (levelS l) = l ∧ blE (l.length : Int) (levelS l) = 0 := by
  have : l.length = 1 ∨ l.length = 2 ∨ l.length = 3 := by omega
  rcases this with h | h | h
  · match l, h with
    | [a], _ =>
      have ha := hb a (by simp)
      rcases ha with rfl | rfl <;> decide +kernel
  · match l, h with
    | [a, b], _ =>
      have ha := hb a (by simp)
      have hb' := hb b (by simp)
      rcases ha with rfl | rfl <;> rcases hb' with rfl | rfl <;> decide +kernel
  · match l, h with
    | [a, b, c], _ =>
      have ha := hb a (by simp)
      have hb' := hb b (by simp)
      have hc := hb c (by simp)
      rcases ha with rfl | rfl <;> rcases hb' with rfl | rfl <;> rcases hc with rfl | rfl <;> decide +kernel
end Go.Proofs.Ytfgpbmjmoobcnaa
end
section
open Go Go.Am
open Go.Am.Dat (cells)
namespace Go.Proofs.Ytfgpbmjmoobcnaa
set_option maxHeartbeats 4000000
set_option maxRecDepth 100000
set_option linter.unusedSimpArgs false
theorem ordErr_eq (n : Int) : ordErr n = orderErrS n := by unfold ordErr orderErrS; split <;> split <;> first | rfl | omega
end Go.Proofs.Ytfgpbmjmoobcnaa
end
section
open Go Go.Am
open Go.Am.Dat (cells)
namespace Go.Proofs.Ytfgpbmjmoobcnaa
set_option maxHeartbeats 4000000
set_option maxRecDepth 100000
set_option linter.unusedSimpArgs false
theorem minS_le : ∀ (l : List Int) (x : Int), ∀ y ∈ x :: l, l.foldl (fun a b => if b < a then b else a) x ≤ y
  | [], x, y, h => by simp at h; subst h; exact Int.le_refl _
  | z :: l, x, y, h => by
    simp only [List.foldl_cons]
    have e : (if z < x then z else x) ≤ x ∧ (if z < x then z else x) ≤ z := by split <;> omega
    have ih := minS_le l (if z < x then z else x)
    rcases List.mem_cons.1 h with rfl | h
    · have := ih _ List.mem_cons_self
      omega
    · rcases List.mem_cons.1 h with rfl | h
      · have := ih _ List.mem_cons_self
        omega
      · exact ih _ (List.mem_cons_of_mem _ h)
theorem minS_eq {l : List Int} {m : Int} (h1 : m ∈ l) (h2 : ∀ x ∈ l, m ≤ x) : minS l = m := by
  cases l with
  | nil => cases h1
  | cons x t =>
    have a1 := minS_mem t x
    have a2 := minS_le t x
    have b1 := h2 _ a1
    have b2 := a2 _ h1
    show t.foldl _ x = m
    omega
theorem idx_first {sq : List Int} {b : Nat} (hb : b < sq.length) (h1 : ∀ j, j < sq.length → sq.getD b 0 ≤ sq.getD j 0) (h2 : ∀ j, j < b → sq.getD b 0 < sq.getD j 0) :
    minS sq = sq.getD b 0 ∧ idxOfI sq (fun x => decide (minS sq = x)) = (b : Int) := by
  have hm : minS sq = sq.getD b 0 := minS_eq (by rw [List.getD_eq_getElem?_getD, List.getElem?_eq_getElem hb]; exact List.getElem_mem hb) (fun x hx => by
    obtain ⟨j, hj, rfl⟩ := List.getElem_of_mem hx
    have := h1 j hj
    rwa [List.getD_eq_getElem?_getD (i := j), List.getElem?_eq_getElem hj] at this)
  refine ⟨hm, ?_⟩
  unfold idxOfI
  have : sq.findIdx? (fun x => decide (minS sq = x)) = some b := by
    rw [List.findIdx?_eq_some_iff_getElem]
    refine ⟨hb, ?_, fun j hj => ?_⟩
    · rw [hm, List.getD_eq_getElem?_getD, List.getElem?_eq_getElem hb]; simp
    · have := h2 j hj
      rw [← hm] at this
      rw [List.getD_eq_getElem?_getD (i := j), List.getElem?_eq_getElem (by omega)] at this
      simp only [Option.getD_some] at this
      rw [decide_eq_true_eq]; omega
  rw [this]
theorem lvls_getD {c i : Nat} (h : i < 2 ^ c) : (lvls c).getD i 0 = 2 * (i : Int) - (2 ^ c - 1) := by
  have hi' : i < (lvls c).length := by rw [lvls_length]; exact h
  rw [List.getD_eq_getElem?_getD, List.getElem?_eq_getElem hi']
  simp [lvls]
theorem sqS_getD {c i : Nat} (h : i < 2 ^ c) (g n : Int) : (sqS c g n).getD i 0 = (n - (lvls c).getD i 0 * g) * (n - (lvls c).getD i 0 * g) :=
  getD_map' _ _ _ _ _ (by rw [lvls_length]; exact h)
end Go.Proofs.Ytfgpbmjmoobcnaa
end
section
open Go Go.Am
open Go.Am.Dat (cells)
namespace Go.Proofs.Ytfgpbmjmoobcnaa
set_option maxHeartbeats 4000000
set_option maxRecDepth 100000
set_option linter.unusedSimpArgs false
theorem CopyRecv_c (x : Recv) (h : x.symbols.length ≤ 1000000) : FC Try.prog 57 [enc x] [] (enc x) [] := by
  obtain ⟨o, g, l⟩ := x
  refine fc_intro' is57 (by simp) (fun cx hl => S_run [e60] 800 ?_)
  simp only at h
  delta c57
  simp (maxSteps := 4000000) -implicitDefEqProofs only [rv57, e60, enc_recv, h, Ent.of0, Ent.of1, Ent.of2, Ent.of3, V, bP, bq, a9, cm, cQ, cP, gt, lk, cr, cb, b0, cq, cI, ce, ce.subCs, cV, bz, bL, bT, aW, a8, bh, aT, bp, br, aC, bj, aJ, bN, cK, cZ, au, aN, bM, cg, cp, cN, cS, aI, aj, cJ, bl, zC, argS, bK, cD, cW, cU, ah, aQ, aB, aY, bV, leC, cu, cn, bY, cR, bS, aH, aE, cM, am, cF, bG, bG.viewCs, bH, bH.flatCs, ax, ax.LensOks, Value.oneCell', ↓reduceIte, ite_true, ite_false, if_true, if_false, Nat.reduceAdd, Nat.reduceSub, Nat.reduceMul, Nat.reduceEqDiff, Nat.reduceLT, Nat.reduceLeDiff, reduceCtorEq, Int.reduceToNat, forall_const, implies_true, a4, Ent.mk3, bm, bg, bw, bJ, bB, bf, a6, bu, a5, bv, bo, bR, be, cT, rn, co, co.renCs, aR, av, aX, aX.viewOks, aK, bn, bn.flatBs, aU, ak, az, an, aL, aZ, aZ.keysBs, aP, ai, bk, cz, bD, bW, ae, ae.passKs, aV, aA, af, af.lendKs, cC, bQ, bX, bF, setInn, ag, cY, cO, aM, a7, cc, cG, ay, aO, Glob.gl, aG, cd, bE, bU, bA, ap, cj, c6, cH, cL, cB, ar, ar.ptrOnlys, aq, aw, bZ, aD, bC, a3, bO, aF, bI, ca, Nat.reduceBEq, undef]
def e57 : Ent Try.prog := .of1 57 (fun x => x.symbols.length ≤ 1000000) (fun x : Recv => enc x) (fun _ => ⟨trivial, trivial, trivial, trivial⟩) (fun x h => CopyRecv_c x h)
theorem recvErr_eq (x : Recv) : recvErr x = if ordErr x.order ≠ 0 then ordErr x.order else if 1 ≤ x.gain ∧ x.gain ≤ 10000000 then symErr x.symbols else 2 := by
  unfold recvErr
  rw [ordErr_eq]
  simp only [firstS]
  split
  · rfl
  · split
    · simp only [ne_eq, not_true_eq_false, if_false]; split <;> simp_all
    · rfl
structure RecvOk (x : Recv) : Prop where
  ord : x.order = 2 ∨ x.order = 4 ∨ x.order = 6
  gn : 1 ≤ x.gain ∧ x.gain ≤ 10000000
  pos : 0 < x.symbols.length
  len : x.symbols.length ≤ 200
  sym : ∀ s ∈ x.symbols, (-100000000 ≤ s.re ∧ s.re ≤ 100000000) ∧ -100000000 ≤ s.im ∧ s.im ≤ 100000000
theorem recvOk_of {x : Recv} (h : recvErr x = 0) : RecvOk x := by
  rw [recvErr_eq, ordErr_eq] at h
  by_cases h1 : orderErrS x.order = 0
  · rw [if_neg (fun hh => hh h1)] at h
    by_cases h2 : 1 ≤ x.gain ∧ x.gain ≤ 10000000
    · rw [if_pos h2] at h
      obtain ⟨s1, s2, s3⟩ := sym_of h
      exact ⟨by unfold orderErrS at h1; grind, h2, s1, s2, fun s hs => by have := s3 s hs; simp only [bd] at this; omega⟩
    · rw [if_neg h2] at h; cases h
  · rw [if_pos h1] at h; exact absurd h h1
end Go.Proofs.Ytfgpbmjmoobcnaa
end
section
open Go Go.Am
open Go.Am.Dat (cells)
namespace Go.Proofs.Ytfgpbmjmoobcnaa
set_option maxHeartbeats 4000000
set_option maxRecDepth 100000
set_option linter.unusedSimpArgs false
def errM (a b : Int) : Int := cZ true (if -a > a then -a else a) (if -b > b then -b else b)
theorem mx4 (a b : Int) : cZ true (cZ true (cZ true a (-a)) b) (-b) = errM a b := by
  simp only [cZ, errM, if_true]
  repeat' split
  all_goals omega
theorem errM_bd {a b B : Int} (h1 : -B ≤ a ∧ a ≤ B) (h2 : -B ≤ b ∧ b ≤ B) : 0 ≤ errM a b ∧ errM a b ≤ B := by
  simp only [cZ, errM, if_true]
  repeat' split
  all_goals omega
def errAt (g : Int) (a s : Gs) : Int := errM (a.re - s.re * g) (a.im - s.im * g)
def geF (g : Int) (l sent : List Gs) : Nat → Int × Int
  | 0 => (-1, 0)
  | i + 1 => if errAt g (l.getD i ⟨0, 0⟩) (sent.getD i ⟨0, 0⟩) > (geF g l sent i).1 then (errAt g (l.getD i ⟨0, 0⟩) (sent.getD i ⟨0, 0⟩), (i : Int)) else geF g l sent i
def fitG (g : Int) (s : Gs) : Prop := (-100000000 ≤ s.re * g ∧ s.re * g ≤ 100000000) ∧ -100000000 ≤ s.im * g ∧ s.im * g ≤ 100000000
instance (g : Int) (s : Gs) : Decidable (fitG g s) := inferInstanceAs (Decidable (_ ∧ _))
def geR (x : Recv) (sent : List Gs) : Int := if sent.length ≠ x.symbols.length then 13 else if sent.all (fun s => decide (fitG x.gain s)) then 0 else 8
def geE (x : Recv) (sent : List Gs) : Int := if recvErr x ≠ 0 then recvErr x else if symErr sent ≠ 0 then symErr sent else geR x sent
theorem prod_bd {a g : Int} (ha : -100000000 ≤ a ∧ a ≤ 100000000) (hg : 1 ≤ g ∧ g ≤ 10000000) : -1000000000000000 ≤ a * g ∧ a * g ≤ 1000000000000000 := by
  have := mul_bd (a := a) (b := g) (A := 100000000) (B := 10000000) (by omega) (by omega)
  omega
theorem geF_bd (g : Int) (l sent : List Gs) (hl : ∀ s ∈ l, (-100000000 ≤ s.re ∧ s.re ≤ 100000000) ∧ -100000000 ≤ s.im ∧ s.im ≤ 100000000) : ∀ i, i ≤ l.length → (∀ j, j < i → fitG g (sent.getD j ⟨0, 0⟩)) → (-1 ≤ (geF g l sent i).1 ∧ (geF g l sent i).1 ≤ 200000000) ∧ 0 ≤ (geF g l sent i).2 ∧ (geF g l sent i).2 ≤ i
  | 0, _, _ => by simp [geF]
  | i + 1, hi, hf => by
    have ih := geF_bd g l sent hl i (by omega) (fun j hj => hf j (by omega))
    have h1 := hl _ (getD_mem ⟨0, 0⟩ (by omega : i < l.length))
    have h2 := hf i (by omega)
    simp only [fitG] at h2
    have h3 := errM_bd (a := (l.getD i ⟨0, 0⟩).re - (sent.getD i ⟨0, 0⟩).re * g) (b := (l.getD i ⟨0, 0⟩).im - (sent.getD i ⟨0, 0⟩).im * g) (B := 200000000) (by omega) (by omega)
    have e : geF g l sent (i + 1) = if errAt g (l.getD i ⟨0, 0⟩) (sent.getD i ⟨0, 0⟩) > (geF g l sent i).1 then (errAt g (l.getD i ⟨0, 0⟩) (sent.getD i ⟨0, 0⟩), (i : Int)) else geF g l sent i := rfl
    rw [e]
    by_cases hq : errAt g (l.getD i ⟨0, 0⟩) (sent.getD i ⟨0, 0⟩) > (geF g l sent i).1
    · rw [if_pos hq]; simp only [errAt]; omega
    · rw [if_neg hq]; omega
theorem Greatest_c (x : Recv) (sent : List Gs) : FC Try.prog 59 [enc x, enc sent] [] (.tup [enc (if geE x sent = 0 then (geF x.gain x.symbols sent sent.length).1 else 0), enc (if geE x sent = 0 then (geF x.gain x.symbols sent sent.length).2 else 0), enc (geE x sent)]) [] := by
  refine fc_intro' is59 (by simp) (fun cx hl => S_run [e114, e118, e82, e80] 800 ?_)
  by_cases h1 : recvErr x = 0
  rotate_left
  · have hE : geE x sent = recvErr x := by unfold geE; rw [if_pos h1]
    have hf : ∀ a b, firstS [recvErr x, a, b] = recvErr x := fun a b => by simp [firstS, h1]
    rw [hE, if_neg h1, if_neg h1]
    obtain ⟨o, g, l⟩ := x
    delta c59
    simp (maxSteps := 4000000) -implicitDefEqProofs only [rv59, e114, e118, e82, e80, enc_recv, decV_recv, hf, h1, InR, Int.cast_ofNat_Int, Int.natCast_one, Int.natCast_zero, Int.reduceAdd, Int.reduceSub, Int.reduceMul, Int.reduceLT, Int.reduceLE, Int.reduceTMod, Int.reduceTDiv, Int.reduceNeg, Int.reduceEq, Nat.reducePow, Int.reducePow, ne_eq, not_false_eq_true, Ent.of0, Ent.of1, Ent.of2, Ent.of3, V, bP, bq, a9, cm, cQ, cP, gt, lk, cr, cb, b0, cq, cI, ce, ce.subCs, cV, bz, bL, bT, aW, a8, bh, aT, bp, br, aC, bj, aJ, bN, cK, cZ, au, aN, bM, cg, cp, cN, cS, aI, aj, cJ, bl, zC, argS, bK, cD, cW, cU, ah, aQ, aB, aY, bV, leC, cu, cn, bY, cR, bS, aH, aE, cM, am, cF, bG, bG.viewCs, bH, bH.flatCs, ax, ax.LensOks, Value.oneCell', ↓reduceIte, ite_true, ite_false, if_true, if_false, Nat.reduceAdd, Nat.reduceSub, Nat.reduceMul, Nat.reduceEqDiff, Nat.reduceLT, Nat.reduceLeDiff, reduceCtorEq, Int.reduceToNat, forall_const, implies_true, a4, Ent.mk3, bm, bg, bw, bJ, bB, bf, a6, bu, a5, bv, bo, bR, be, cT, rn, co, co.renCs, aR, av, aX, aX.viewOks, aK, bn, bn.flatBs, aU, ak, az, an, aL, aZ, aZ.keysBs, aP, ai, bk, cz, bD, bW, ae, ae.passKs, aV, aA, af, af.lendKs, cC, bQ, bX, bF, setInn, ag, cY, cO, aM, a7, cc, cG, ay, aO, Glob.gl, aG, cd, bE, bU, bA, ap, cj, c6, cH, cL, cB, ar, ar.ptrOnlys, aq, aw, bZ, aD, bC, a3, bO, aF, bI, ca, Nat.reduceBEq, undef]
  by_cases h2 : symErr sent = 0
  rotate_left
  · have hE : geE x sent = symErr sent := by unfold geE; rw [if_neg (fun h => h h1), if_pos h2]
    have hf : ∀ b, firstS [0, symErr sent, b] = symErr sent := fun b => by simp [firstS, h2]
    rw [hE, if_neg h2, if_neg h2]
    obtain ⟨o, g, l⟩ := x
    delta c59
    simp (maxSteps := 4000000) -implicitDefEqProofs only [rv59, e114, e118, e82, e80, enc_recv, decV_recv, hf, h1, h2, InR, Int.cast_ofNat_Int, Int.natCast_one, Int.natCast_zero, Int.reduceAdd, Int.reduceSub, Int.reduceMul, Int.reduceLT, Int.reduceLE, Int.reduceTMod, Int.reduceTDiv, Int.reduceNeg, Int.reduceEq, Nat.reducePow, Int.reducePow, ne_eq, not_false_eq_true, Ent.of0, Ent.of1, Ent.of2, Ent.of3, V, bP, bq, a9, cm, cQ, cP, gt, lk, cr, cb, b0, cq, cI, ce, ce.subCs, cV, bz, bL, bT, aW, a8, bh, aT, bp, br, aC, bj, aJ, bN, cK, cZ, au, aN, bM, cg, cp, cN, cS, aI, aj, cJ, bl, zC, argS, bK, cD, cW, cU, ah, aQ, aB, aY, bV, leC, cu, cn, bY, cR, bS, aH, aE, cM, am, cF, bG, bG.viewCs, bH, bH.flatCs, ax, ax.LensOks, Value.oneCell', ↓reduceIte, ite_true, ite_false, if_true, if_false, Nat.reduceAdd, Nat.reduceSub, Nat.reduceMul, Nat.reduceEqDiff, Nat.reduceLT, Nat.reduceLeDiff, reduceCtorEq, Int.reduceToNat, forall_const, implies_true, a4, Ent.mk3, bm, bg, bw, bJ, bB, bf, a6, bu, a5, bv, bo, bR, be, cT, rn, co, co.renCs, aR, av, aX, aX.viewOks, aK, bn, bn.flatBs, aU, ak, az, an, aL, aZ, aZ.keysBs, aP, ai, bk, cz, bD, bW, ae, ae.passKs, aV, aA, af, af.lendKs, cC, bQ, bX, bF, setInn, ag, cY, cO, aM, a7, cc, cG, ay, aO, Glob.gl, aG, cd, bE, bU, bA, ap, cj, c6, cH, cL, cB, ar, ar.ptrOnlys, aq, aw, bZ, aD, bC, a3, bO, aF, bI, ca, Nat.reduceBEq, undef]
  have hE : geE x sent = geR x sent := by unfold geE; rw [if_neg (fun h => h h1), if_neg (fun h => h h2)]
  rw [hE]
  by_cases h3 : sent.length = x.symbols.length
  rotate_left
  · have hR : geR x sent = 13 := by unfold geR; rw [if_pos h3]
    rw [hR]
    obtain ⟨o, g, l⟩ := x
    have h3' : ¬ (sent.length : Int) = (l.length : Int) := by simp only at h3; omega
    have hf : firstS [0, 0, 13] = 13 := rfl
    delta c59
    simp (maxSteps := 4000000) -implicitDefEqProofs only [rv59, e114, e118, e82, e80, enc_recv, decV_recv, hf, h1, h2, h3', InR, Int.cast_ofNat_Int, Int.natCast_one, Int.natCast_zero, Int.reduceAdd, Int.reduceSub, Int.reduceMul, Int.reduceLT, Int.reduceLE, Int.reduceTMod, Int.reduceTDiv, Int.reduceNeg, Int.reduceEq, Nat.reducePow, Int.reducePow, ne_eq, not_false_eq_true, Ent.of0, Ent.of1, Ent.of2, Ent.of3, V, bP, bq, a9, cm, cQ, cP, gt, lk, cr, cb, b0, cq, cI, ce, ce.subCs, cV, bz, bL, bT, aW, a8, bh, aT, bp, br, aC, bj, aJ, bN, cK, cZ, au, aN, bM, cg, cp, cN, cS, aI, aj, cJ, bl, zC, argS, bK, cD, cW, cU, ah, aQ, aB, aY, bV, leC, cu, cn, bY, cR, bS, aH, aE, cM, am, cF, bG, bG.viewCs, bH, bH.flatCs, ax, ax.LensOks, Value.oneCell', ↓reduceIte, ite_true, ite_false, if_true, if_false, Nat.reduceAdd, Nat.reduceSub, Nat.reduceMul, Nat.reduceEqDiff, Nat.reduceLT, Nat.reduceLeDiff, reduceCtorEq, Int.reduceToNat, forall_const, implies_true, a4, Ent.mk3, bm, bg, bw, bJ, bB, bf, a6, bu, a5, bv, bo, bR, be, cT, rn, co, co.renCs, aR, av, aX, aX.viewOks, aK, bn, bn.flatBs, aU, ak, az, an, aL, aZ, aZ.keysBs, aP, ai, bk, cz, bD, bW, ae, ae.passKs, aV, aA, af, af.lendKs, cC, bQ, bX, bF, setInn, ag, cY, cO, aM, a7, cc, cG, ay, aO, Glob.gl, aG, cd, bE, bU, bA, ap, cj, c6, cH, cL, cB, ar, ar.ptrOnlys, aq, aw, bZ, aD, bC, a3, bO, aF, bI, ca, Nat.reduceBEq, undef]
  have hok := recvOk_of h1
  obtain ⟨y1, y2, y3⟩ := sym_of h2
  have hg := hok.gn
  have hle := hok.len
  have hsy := hok.sym
  obtain ⟨o, g, l⟩ := x
  simp only at hg hle hsy h3
  have hgR : geR ⟨o, g, l⟩ sent = if sent.all (fun s => decide (fitG g s)) then 0 else 8 := by unfold geR; rw [if_neg (fun h => h h3)]
  rw [hgR]
  have h3' : (sent.length : Int) = (l.length : Int) := by omega
  have hf : firstS [0, 0, 0] = 0 := rfl
  delta c59
  simp (maxSteps := 4000000) -implicitDefEqProofs only [rv59, e114, e118, e82, e80, enc_recv, decV_recv, hf, h1, h2, h3', InR, Int.cast_ofNat_Int, Int.natCast_one, Int.natCast_zero, Int.reduceAdd, Int.reduceSub, Int.reduceMul, Int.reduceLT, Int.reduceLE, Int.reduceTMod, Int.reduceTDiv, Int.reduceNeg, Int.reduceEq, Nat.reducePow, Int.reducePow, ne_eq, not_false_eq_true, Ent.of0, Ent.of1, Ent.of2, Ent.of3, V, bP, bq, a9, cm, cQ, cP, gt, lk, cr, cb, b0, cq, cI, ce, ce.subCs, cV, bz, bL, bT, aW, a8, bh, aT, bp, br, aC, bj, aJ, bN, cK, cZ, au, aN, bM, cg, cp, cN, cS, aI, aj, cJ, bl, zC, argS, bK, cD, cW, cU, ah, aQ, aB, aY, bV, leC, cu, cn, bY, cR, bS, aH, aE, cM, am, cF, bG, bG.viewCs, bH, bH.flatCs, ax, ax.LensOks, Value.oneCell', ↓reduceIte, ite_true, ite_false, if_true, if_false, Nat.reduceAdd, Nat.reduceSub, Nat.reduceMul, Nat.reduceEqDiff, Nat.reduceLT, Nat.reduceLeDiff, reduceCtorEq, Int.reduceToNat, forall_const, implies_true, a4, Ent.mk3, bm, bg, bw, bJ, bB, bf, a6, bu, a5, bv, bo, bR, be, cT, rn, co, co.renCs, aR, av, aX, aX.viewOks, aK, bn, bn.flatBs, aU, ak, az, an, aL, aZ, aZ.keysBs, aP, ai, bk, cz, bD, bW, ae, ae.passKs, aV, aA, af, af.lendKs, cC, bQ, bX, bF, setInn, ag, cY, cO, aM, a7, cc, cG, ay, aO, Glob.gl, aG, cd, bE, bU, bA, ap, cj, c6, cH, cL, cB, ar, ar.ptrOnlys, aq, aw, bZ, aD, bC, a3, bO, aF, bI, ca, Nat.reduceBEq, undef]
  refine S_forU sent.length (fun i => [(33, .s (.int .i64 (i : Int))), (8, .s (.int .i64 (geF g l sent i).1)), (9, .s (.int .i64 (geF g l sent i).2))]) (fun _ => []) (fun i => ∀ j, j < i → fitG g (sent.getD j ⟨0, 0⟩)) (by omega) ?_ (fun i hi hv => S_run [e119] 800 ?_)
  · simp (maxSteps := 4000000) -implicitDefEqProofs only [Ent.of0, Ent.of1, Ent.of2, Ent.of3, V, bP, bq, a9, cm, cQ, cP, gt, lk, cr, cb, b0, cq, cI, ce, ce.subCs, cV, bz, bL, bT, aW, a8, bh, aT, bp, br, aC, bj, aJ, bN, cK, cZ, au, aN, bM, cg, cp, cN, cS, aI, aj, cJ, bl, zC, argS, bK, cD, cW, cU, ah, aQ, aB, aY, bV, leC, cu, cn, bY, cR, bS, aH, aE, cM, am, cF, bG, bG.viewCs, bH, bH.flatCs, ax, ax.LensOks, Value.oneCell', ↓reduceIte, ite_true, ite_false, if_true, if_false, Nat.reduceAdd, Nat.reduceSub, Nat.reduceMul, Nat.reduceEqDiff, Nat.reduceLT, Nat.reduceLeDiff, reduceCtorEq, Int.reduceToNat, forall_const, implies_true, a4, Ent.mk3, bm, bg, bw, bJ, bB, bf, a6, bu, a5, bv, bo, bR, be, cT, rn, co, co.renCs, aR, av, aX, aX.viewOks, aK, bn, bn.flatBs, aU, ak, az, an, aL, aZ, aZ.keysBs, aP, ai, bk, cz, bD, bW, ae, ae.passKs, aV, aA, af, af.lendKs, cC, bQ, bX, bF, setInn, ag, cY, cO, aM, a7, cc, cG, ay, aO, Glob.gl, aG, cd, bE, bU, bA, ap, cj, c6, cH, cL, cB, ar, ar.ptrOnlys, aq, aw, bZ, aD, bC, a3, bO, aF, bI, ca, Nat.reduceBEq, undef]; simp [geF]
  · by_cases h : i < sent.length
    · have hi2 : (i : Int) < (l.length : Int) := by omega
      have hil : i < l.length := by omega
      have hi4 : (i : Int) < (sent.length : Int) := by omega
      have b1 := (y3 _ (getD_mem ⟨0, 0⟩ h))
      simp only [bd] at b1
      have q1 := prod_bd (a := (sent.getD i ⟨0, 0⟩).re) (by omega) hg
      have q2 := prod_bd (a := (sent.getD i ⟨0, 0⟩).im) (by omega) hg
      have b2 := hsy _ (getD_mem ⟨0, 0⟩ hil)
      have b3 := geF_bd g l sent hsy i (by omega) hv
      have hAll : ∀ hh : ¬ fitG g (sent.getD i ⟨0, 0⟩), sent.all (fun s => decide (fitG g s)) = false := fun hh => by
        rw [List.all_eq_false]
        exact ⟨_, getD_mem ⟨0, 0⟩ h, by simpa using hh⟩
      have hge : geF g l sent (i + 1) = if errM ((l.getD i ⟨0, 0⟩).re - (sent.getD i ⟨0, 0⟩).re * g) ((l.getD i ⟨0, 0⟩).im - (sent.getD i ⟨0, 0⟩).im * g) > (geF g l sent i).1 then (errM ((l.getD i ⟨0, 0⟩).re - (sent.getD i ⟨0, 0⟩).re * g) ((l.getD i ⟨0, 0⟩).im - (sent.getD i ⟨0, 0⟩).im * g), (i : Int)) else geF g l sent i := rfl
      by_cases f1 : -100000000 ≤ (sent.getD i ⟨0, 0⟩).re * g ∧ (sent.getD i ⟨0, 0⟩).re * g ≤ 100000000
      rotate_left
      · have hA := hAll (fun hh => f1 hh.1)
        rw [hA]
        delta c59l1
        simp (maxSteps := 4000000) -implicitDefEqProofs only [rv59, hi2, hil, h, hi4, e119, f1, InR, Int.cast_ofNat_Int, Int.natCast_one, Int.natCast_zero, Int.reduceAdd, Int.reduceSub, Int.reduceMul, Int.reduceLT, Int.reduceLE, Int.reduceTMod, Int.reduceTDiv, Int.reduceNeg, Int.reduceEq, Nat.reducePow, Int.reducePow, ne_eq, not_false_eq_true, Ent.of0, Ent.of1, Ent.of2, Ent.of3, V, bP, bq, a9, cm, cQ, cP, gt, lk, cr, cb, b0, cq, cI, ce, ce.subCs, cV, bz, bL, bT, aW, a8, bh, aT, bp, br, aC, bj, aJ, bN, cK, cZ, au, aN, bM, cg, cp, cN, cS, aI, aj, cJ, bl, zC, argS, bK, cD, cW, cU, ah, aQ, aB, aY, bV, leC, cu, cn, bY, cR, bS, aH, aE, cM, am, cF, bG, bG.viewCs, bH, bH.flatCs, ax, ax.LensOks, Value.oneCell', ↓reduceIte, ite_true, ite_false, if_true, if_false, Nat.reduceAdd, Nat.reduceSub, Nat.reduceMul, Nat.reduceEqDiff, Nat.reduceLT, Nat.reduceLeDiff, reduceCtorEq, Int.reduceToNat, forall_const, implies_true, a4, Ent.mk3, bm, bg, bw, bJ, bB, bf, a6, bu, a5, bv, bo, bR, be, cT, rn, co, co.renCs, aR, av, aX, aX.viewOks, aK, bn, bn.flatBs, aU, ak, az, an, aL, aZ, aZ.keysBs, aP, ai, bk, cz, bD, bW, ae, ae.passKs, aV, aA, af, af.lendKs, cC, bQ, bX, bF, setInn, ag, cY, cO, aM, a7, cc, cG, ay, aO, Glob.gl, aG, cd, bE, bU, bA, ap, cj, c6, cH, cL, cB, ar, ar.ptrOnlys, aq, aw, bZ, aD, bC, a3, bO, aF, bI, ca, Nat.reduceBEq, undef]
        and_intros <;> omega
      by_cases f2 : -100000000 ≤ (sent.getD i ⟨0, 0⟩).im * g ∧ (sent.getD i ⟨0, 0⟩).im * g ≤ 100000000
      rotate_left
      · have hA := hAll (fun hh => f2 hh.2)
        rw [hA]
        delta c59l1
        simp (maxSteps := 4000000) -implicitDefEqProofs only [rv59, hi2, hil, h, hi4, e119, f1, f2, InR, Int.cast_ofNat_Int, Int.natCast_one, Int.natCast_zero, Int.reduceAdd, Int.reduceSub, Int.reduceMul, Int.reduceLT, Int.reduceLE, Int.reduceTMod, Int.reduceTDiv, Int.reduceNeg, Int.reduceEq, Nat.reducePow, Int.reducePow, ne_eq, not_false_eq_true, Ent.of0, Ent.of1, Ent.of2, Ent.of3, V, bP, bq, a9, cm, cQ, cP, gt, lk, cr, cb, b0, cq, cI, ce, ce.subCs, cV, bz, bL, bT, aW, a8, bh, aT, bp, br, aC, bj, aJ, bN, cK, cZ, au, aN, bM, cg, cp, cN, cS, aI, aj, cJ, bl, zC, argS, bK, cD, cW, cU, ah, aQ, aB, aY, bV, leC, cu, cn, bY, cR, bS, aH, aE, cM, am, cF, bG, bG.viewCs, bH, bH.flatCs, ax, ax.LensOks, Value.oneCell', ↓reduceIte, ite_true, ite_false, if_true, if_false, Nat.reduceAdd, Nat.reduceSub, Nat.reduceMul, Nat.reduceEqDiff, Nat.reduceLT, Nat.reduceLeDiff, reduceCtorEq, Int.reduceToNat, forall_const, implies_true, a4, Ent.mk3, bm, bg, bw, bJ, bB, bf, a6, bu, a5, bv, bo, bR, be, cT, rn, co, co.renCs, aR, av, aX, aX.viewOks, aK, bn, bn.flatBs, aU, ak, az, an, aL, aZ, aZ.keysBs, aP, ai, bk, cz, bD, bW, ae, ae.passKs, aV, aA, af, af.lendKs, cC, bQ, bX, bF, setInn, ag, cY, cO, aM, a7, cc, cG, ay, aO, Glob.gl, aG, cd, bE, bU, bA, ap, cj, c6, cH, cL, cB, ar, ar.ptrOnlys, aq, aw, bZ, aD, bC, a3, bO, aF, bI, ca, Nat.reduceBEq, undef]
        and_intros <;> omega
      have hv' : ∀ j, j < i + 1 → fitG g (sent.getD j ⟨0, 0⟩) := fun j hj => by
        by_cases hj2 : j = i
        · rw [hj2]; exact ⟨f1, f2⟩
        · exact hv j (by omega)
      by_cases hq : errM ((l.getD i ⟨0, 0⟩).re - (sent.getD i ⟨0, 0⟩).re * g) ((l.getD i ⟨0, 0⟩).im - (sent.getD i ⟨0, 0⟩).im * g) > (geF g l sent i).1
      · rw [if_pos hq] at hge
        delta c59l1
        simp (maxSteps := 4000000) -implicitDefEqProofs only [mx4, hi2, hil, h, hi4, e119, f1, f2, hq, hge, InR, Int.cast_ofNat_Int, Int.natCast_one, Int.natCast_zero, Int.reduceAdd, Int.reduceSub, Int.reduceMul, Int.reduceLT, Int.reduceLE, Int.reduceTMod, Int.reduceTDiv, Int.reduceNeg, Int.reduceEq, Nat.reducePow, Int.reducePow, ne_eq, not_false_eq_true, Ent.of0, Ent.of1, Ent.of2, Ent.of3, V, bP, bq, a9, cm, cQ, cP, gt, lk, cr, cb, b0, cq, cI, ce, ce.subCs, cV, bz, bL, bT, aW, a8, bh, aT, bp, br, aC, bj, aJ, bN, cK, au, aN, bM, cg, cp, cN, cS, aI, aj, cJ, bl, zC, argS, bK, cD, cW, cU, ah, aQ, aB, aY, bV, leC, cu, cn, bY, cR, bS, aH, aE, cM, am, cF, bG, bG.viewCs, bH, bH.flatCs, ax, ax.LensOks, Value.oneCell', ↓reduceIte, ite_true, ite_false, if_true, if_false, Nat.reduceAdd, Nat.reduceSub, Nat.reduceMul, Nat.reduceEqDiff, Nat.reduceLT, Nat.reduceLeDiff, reduceCtorEq, Int.reduceToNat, forall_const, implies_true, a4, Ent.mk3, bm, bg, bw, bJ, bB, bf, a6, bu, a5, bv, bo, bR, be, cT, rn, co, co.renCs, aR, av, aX, aX.viewOks, aK, bn, bn.flatBs, aU, ak, az, an, aL, aZ, aZ.keysBs, aP, ai, bk, cz, bD, bW, ae, ae.passKs, aV, aA, af, af.lendKs, cC, bQ, bX, bF, setInn, ag, cY, cO, aM, a7, cc, cG, ay, aO, Glob.gl, aG, cd, bE, bU, bA, ap, cj, c6, cH, cL, cB, ar, ar.ptrOnlys, aq, aw, bZ, aD, bC, a3, bO, aF, bI, ca, Nat.reduceBEq, undef]
        and_intros <;> first | omega | exact fun j hj => hv' j hj | rfl | trivial
      · rw [if_neg hq] at hge
        delta c59l1
        simp (maxSteps := 4000000) -implicitDefEqProofs only [mx4, hi2, hil, h, hi4, e119, f1, f2, hq, hge, InR, Int.cast_ofNat_Int, Int.natCast_one, Int.natCast_zero, Int.reduceAdd, Int.reduceSub, Int.reduceMul, Int.reduceLT, Int.reduceLE, Int.reduceTMod, Int.reduceTDiv, Int.reduceNeg, Int.reduceEq, Nat.reducePow, Int.reducePow, ne_eq, not_false_eq_true, Ent.of0, Ent.of1, Ent.of2, Ent.of3, V, bP, bq, a9, cm, cQ, cP, gt, lk, cr, cb, b0, cq, cI, ce, ce.subCs, cV, bz, bL, bT, aW, a8, bh, aT, bp, br, aC, bj, aJ, bN, cK, au, aN, bM, cg, cp, cN, cS, aI, aj, cJ, bl, zC, argS, bK, cD, cW, cU, ah, aQ, aB, aY, bV, leC, cu, cn, bY, cR, bS, aH, aE, cM, am, cF, bG, bG.viewCs, bH, bH.flatCs, ax, ax.LensOks, Value.oneCell', ↓reduceIte, ite_true, ite_false, if_true, if_false, Nat.reduceAdd, Nat.reduceSub, Nat.reduceMul, Nat.reduceEqDiff, Nat.reduceLT, Nat.reduceLeDiff, reduceCtorEq, Int.reduceToNat, forall_const, implies_true, a4, Ent.mk3, bm, bg, bw, bJ, bB, bf, a6, bu, a5, bv, bo, bR, be, cT, rn, co, co.renCs, aR, av, aX, aX.viewOks, aK, bn, bn.flatBs, aU, ak, az, an, aL, aZ, aZ.keysBs, aP, ai, bk, cz, bD, bW, ae, ae.passKs, aV, aA, af, af.lendKs, cC, bQ, bX, bF, setInn, ag, cY, cO, aM, a7, cc, cG, ay, aO, Glob.gl, aG, cd, bE, bU, bA, ap, cj, c6, cH, cL, cB, ar, ar.ptrOnlys, aq, aw, bZ, aD, bC, a3, bO, aF, bI, ca, Nat.reduceBEq, undef]
        and_intros <;> first | omega | exact fun j hj => hv' j hj | rfl | trivial
    · have hi2 : ¬ (i : Int) < (l.length : Int) := by omega
      have hie : i = sent.length := by omega
      have hA : sent.all (fun s => decide (fitG g s)) = true := by
        rw [List.all_eq_true]
        intro s hs
        obtain ⟨j, hj, rfl⟩ := List.getElem_of_mem hs
        have := hv j (by omega)
        rw [List.getD_eq_getElem?_getD, List.getElem?_eq_getElem hj] at this
        simpa using this
      rw [hA]
      subst hie
      delta c59l1
      simp (maxSteps := 4000000) -implicitDefEqProofs only [rv59, hi2, InR, Int.cast_ofNat_Int, Int.natCast_one, Int.natCast_zero, Int.reduceAdd, Int.reduceSub, Int.reduceMul, Int.reduceLT, Int.reduceLE, Int.reduceTMod, Int.reduceTDiv, Int.reduceNeg, Int.reduceEq, Nat.reducePow, Int.reducePow, ne_eq, not_false_eq_true, Ent.of0, Ent.of1, Ent.of2, Ent.of3, V, bP, bq, a9, cm, cQ, cP, gt, lk, cr, cb, b0, cq, cI, ce, ce.subCs, cV, bz, bL, bT, aW, a8, bh, aT, bp, br, aC, bj, aJ, bN, cK, cZ, au, aN, bM, cg, cp, cN, cS, aI, aj, cJ, bl, zC, argS, bK, cD, cW, cU, ah, aQ, aB, aY, bV, leC, cu, cn, bY, cR, bS, aH, aE, cM, am, cF, bG, bG.viewCs, bH, bH.flatCs, ax, ax.LensOks, Value.oneCell', ↓reduceIte, ite_true, ite_false, if_true, if_false, Nat.reduceAdd, Nat.reduceSub, Nat.reduceMul, Nat.reduceEqDiff, Nat.reduceLT, Nat.reduceLeDiff, reduceCtorEq, Int.reduceToNat, forall_const, implies_true, a4, Ent.mk3, bm, bg, bw, bJ, bB, bf, a6, bu, a5, bv, bo, bR, be, cT, rn, co, co.renCs, aR, av, aX, aX.viewOks, aK, bn, bn.flatBs, aU, ak, az, an, aL, aZ, aZ.keysBs, aP, ai, bk, cz, bD, bW, ae, ae.passKs, aV, aA, af, af.lendKs, cC, bQ, bX, bF, setInn, ag, cY, cO, aM, a7, cc, cG, ay, aO, Glob.gl, aG, cd, bE, bU, bA, ap, cj, c6, cH, cL, cB, ar, ar.ptrOnlys, aq, aw, bZ, aD, bC, a3, bO, aF, bI, ca, Nat.reduceBEq, undef]
def e59 : Ent Try.prog := .of2 59 (fun _ _ => True) (fun (x : Recv) (sent : List Gs) => .tup [enc (if geE x sent = 0 then (geF x.gain x.symbols sent sent.length).1 else 0), enc (if geE x sent = 0 then (geF x.gain x.symbols sent sent.length).2 else 0), enc (geE x sent)]) (fun _ _ => ⟨trivial, trivial, trivial, trivial⟩) (fun x sent _ => Greatest_c x sent)
end Go.Proofs.Ytfgpbmjmoobcnaa
end
section
open Go Go.Am
open Go.Am.Dat (cells)
namespace Go.Proofs.Ytfgpbmjmoobcnaa
set_option maxHeartbeats 4000000
set_option maxRecDepth 100000
set_option linter.unusedSimpArgs false
theorem minS_lem {l : List Int} {x : Int} (h : x ∈ l) : minS l ≤ x := by
  cases l with
  | nil => cases h
  | cons y t => exact minS_le t y x h
theorem near_ne : ([(1, 0), (2, 0), (2, 1), (3, 0), (3, 1), (3, 2)] : List (Nat × Nat)).all (fun a => ([0, 1] : List Int).all fun b => !((List.range (2 ^ a.1)).filter fun (k : Nat) => decide (((ofLevelI a.1 (2 * (k : Int) - (2 ^ a.1 - 1))).map fun m => (bitsOfS m a.1 a.1).getD a.2 0) = some b)).isEmpty) = true := by decide +kernel
end Go.Proofs.Ytfgpbmjmoobcnaa
end
section
open Go Go.Am
open Go.Am.Dat (cells)
namespace Go.Proofs.Ytfgpbmjmoobcnaa
set_option maxRecDepth 100000
set_option linter.unusedSimpArgs false
def agreeR (R : Int → Int → Prop) : List Int → List Int → Prop
  | h :: hs, s :: ss => R h s ∧ agreeR R hs ss
  | [], [] => True
  | _, _ => False
theorem agreeR_append {R : Int → Int → Prop} : ∀ {a b a' b' : List Int}, agreeR R a b → agreeR R a' b' → agreeR R (a ++ a') (b ++ b')
  | [], [], _, _, _, h => h
  | _ :: _, _ :: _, _, _, h1, h2 => ⟨h1.1, agreeR_append h1.2 h2⟩
  | [], _ :: _, _, _, h, _ => h.elim
  | _ :: _, [], _, _, h, _ => h.elim
theorem agreeR_len {R : Int → Int → Prop} : ∀ {a b : List Int}, agreeR R a b → a.length = b.length
  | [], [], _ => rfl
  | _ :: _, _ :: _, h => by rw [List.length_cons, List.length_cons, agreeR_len h.2]
  | [], _ :: _, h => h.elim
  | _ :: _, [], h => h.elim
theorem agreeR_getD {R : Int → Int → Prop} : ∀ {a b : List Int} {i : Nat}, agreeR R a b → i < b.length → R (a.getD i 0) (b.getD i 0)
  | _ :: _, _ :: _, 0, h, _ => h.1
  | _ :: _, _ :: _, i + 1, h, hi => agreeR_getD (i := i) h.2 (by simpa using hi)
  | [], [], _, _, hi => by simp at hi
  | [], _ :: _, _, h, _ => h.elim
  | _ :: _, [], _, h, _ => h.elim
def sgn (b s : Int) : Prop := ¬ s = 0 ∧ (s < 0 ↔ b = 1)
theorem sent_sq {c i : Nat} {g e : Int} (hi : i < 2 ^ c) (he : -(g - 1) ≤ e ∧ e ≤ g - 1) (hg : 1 ≤ g) (j : Nat) (hj : j < 2 ^ c) (hji : j ≠ i) :
    (sqS c g (g * (2 * (i : Int) - (2 ^ c - 1)) + e)).getD i 0 = e * e ∧ e * e < (sqS c g (g * (2 * (i : Int) - (2 ^ c - 1)) + e)).getD j 0 := by
  rw [sqS_getD hi, sqS_getD hj, lvls_getD hi, lvls_getD hj]
  generalize (2 : Int) ^ c - 1 = q
  have e1 : g * (2 * (i : Int) - q) + e - (2 * (i : Int) - q) * g = e := by grind
  have e2 : g * (2 * (i : Int) - q) + e - (2 * (j : Int) - q) * g = e + 2 * (g * ((i : Int) - j)) := by grind
  rw [e1, e2]
  refine ⟨rfl, ?_⟩
  have hd : ((i : Int) - j) ≤ -1 ∨ 1 ≤ ((i : Int) - j) := by omega
  generalize (i : Int) - (j : Int) = d at hd
  have hgd : g * d ≤ -g ∨ g ≤ g * d := by
    rcases hd with h | h
    · left
      have := Int.mul_le_mul_of_nonneg_left h (show 0 ≤ g by omega)
      omega
    · right
      have := Int.mul_le_mul_of_nonneg_left h (show 0 ≤ g by omega)
      omega
  generalize g * d = t at hgd
  have h0 : 0 < t * (e + t) := by
    rcases hgd with h | h
    · have := Int.mul_pos (a := -t) (b := -(e + t)) (by omega) (by omega)
      rw [Int.neg_mul_neg] at this; exact this
    · exact Int.mul_pos (by omega) (by omega)
  have e3 : (e + 2 * t) * (e + 2 * t) = e * e + 4 * (t * (e + t)) := by grind
  omega
theorem idx_lvl : ([1, 2, 3] : List Nat).all (fun c => (List.range (2 ^ c)).all fun m => (List.range (2 ^ c)).any fun i => decide (levelS (bitsOfS m c c) = 2 * (i : Int) - (2 ^ c - 1))) = true := by decide +kernel
theorem lvl_idx {c : Nat} {b : List Int} (hc : c = 1 ∨ c = 2 ∨ c = 3) (hl : b.length = c) (hb : bitsOk b) : ∃ i : Nat, i < 2 ^ c ∧ levelS b = 2 * (i : Int) - (2 ^ c - 1) ∧ ∃ m, ofLevelI c (2 * (i : Int) - (2 ^ c - 1)) = some m ∧ bitsOfS m c c = b := by
  have h3 := bits3 (l := b) (by omega) (by omega) hb
  rw [hl] at h3
  obtain ⟨q1, q2⟩ := h3
  unfold blS at q1
  rw [if_pos (by omega), Int.toNat_natCast] at q1
  cases ho : ofLevelI c (levelS b) with
  | none =>
    rw [ho] at q1; simp only at q1
    rw [← q1] at hl; simp at hl; omega
  | some m =>
    rw [ho] at q1; simp only at q1
    have hm : m < 2 ^ c := by
      unfold ofLevelI at ho
      exact List.mem_range.1 (List.mem_of_find?_eq_some ho)
    have h := idx_lvl
    rw [List.all_eq_true] at h
    have h1 := h c (by rcases hc with rfl | rfl | rfl <;> simp)
    rw [List.all_eq_true] at h1
    have h2 := h1 m (List.mem_range.2 hm)
    rw [List.any_eq_true] at h2
    obtain ⟨i, hi, hi2⟩ := h2
    rw [decide_eq_true_eq, q1] at hi2
    exact ⟨i, List.mem_range.1 hi, hi2, m, by rw [← hi2]; exact ho, q1⟩
theorem sent_bits {c : Nat} {g e : Int} {b : List Int} (hc : c = 1 ∨ c = 2 ∨ c = 3) (hl : b.length = c) (hb : bitsOk b) (he : -(g - 1) ≤ e ∧ e ≤ g - 1) (hg : 1 ≤ g) :
    hardS c (sqS c g (g * levelS b + e)) = b ∧ ∀ bt, bt < c → sgn (b.getD bt 0) ((softS c (sqS c g (g * levelS b + e))).getD bt 0) := by
  obtain ⟨i, hi, hv, m, ho, hm⟩ := lvl_idx hc hl hb
  rw [hv]
  have hsl : ∀ n, (sqS c g n).length = 2 ^ c := fun n => by rw [sqS, List.length_map, lvls_length]
  have hsq := fun j hj hji => sent_sq (c := c) (e := e) hi he hg j hj hji
  generalize hq : sqS c g (g * (2 * (i : Int) - (2 ^ c - 1)) + e) = sq at *
  have hsl : sq.length = 2 ^ c := by rw [← hq]; exact hsl _
  have hp2 : 2 ≤ 2 ^ c := by rcases hc with rfl | rfl | rfl <;> decide
  have hle : ∀ j, j < 2 ^ c → j ≠ i → sq.getD i 0 < sq.getD j 0 := fun j hj hji => by
    obtain ⟨a1, a2⟩ := hsq j hj hji; omega
  obtain ⟨k1, k2⟩ := idx_first (sq := sq) (b := i) (by omega) (fun j hj => by
    by_cases h : j = i
    · rw [h]; exact Int.le_refl _
    · exact Int.le_of_lt (hle j (by omega) h)) (fun j hj => hle j (by omega) (by omega))
  refine ⟨?_, fun bt hbt => ?_⟩
  · unfold hardS
    rw [k2, Int.toNat_natCast, lvls_getD hi, ho]
    exact hm
  · have hS : (softS c sq).getD bt 0 = minS (nearS c bt 1 sq) - minS (nearS c bt 0 sq) := by unfold softS; rw [rng_getD _ _ hbt]
    rw [hS]
    have hmem : ∀ v, b.getD bt 0 = v → minS (nearS c bt v sq) ≤ sq.getD i 0 := fun v hv => by
      refine minS_lem (List.mem_map.2 ⟨i, List.mem_filter.2 ⟨List.mem_range.2 hi, ?_⟩, rfl⟩)
      rw [ho]; simpa [hm] using hv
    have hoth : ∀ v, v = 0 ∨ v = 1 → b.getD bt 0 ≠ v → sq.getD i 0 < minS (nearS c bt v sq) := fun v h01 hv => by
      have hpos : 0 < (nearS c bt v sq).length := by
        have h := near_ne
        rw [List.all_eq_true] at h
        have h1 := h (c, bt) (by
          rcases hc with rfl | rfl | rfl
          · have : bt = 0 := by omega
            subst this; decide
          · have : bt = 0 ∨ bt = 1 := by omega
            rcases this with rfl | rfl <;> decide
          · have : bt = 0 ∨ bt = 1 ∨ bt = 2 := by omega
            rcases this with rfl | rfl | rfl <;> decide)
        rw [List.all_eq_true] at h1
        have h2 := h1 v (by rcases h01 with rfl | rfl <;> simp)
        unfold nearS
        rw [List.length_map]
        simp only [Bool.not_eq_true'] at h2
        exact List.length_pos_iff.2 (fun e => by rw [e] at h2; cases h2)
      obtain ⟨k, hk, he2⟩ := List.mem_map.1 (minS_in _ hpos)
      have hk1 := List.mem_range.1 (List.mem_filter.1 hk).1
      have hk2 := (List.mem_filter.1 hk).2
      have he3 : minS (nearS c bt v sq) = sq.getD k 0 := he2.symm
      rw [he3]
      refine hle k hk1 (fun hki => hv ?_)
      rw [hki, ho] at hk2
      simpa [hm] using hk2
    rcases bits_getD hb bt with h0 | h0
    · have a1 := hmem 0 h0
      have a2 := hoth 1 (.inr rfl) (by omega)
      rw [h0]; exact ⟨by omega, by omega⟩
    · have a1 := hmem 1 h0
      have a2 := hoth 0 (.inl rfl) (by omega)
      rw [h0]; exact ⟨by omega, by omega⟩
theorem evens_odds {c : Nat} (hc : c = 1 ∨ c = 2 ∨ c = 3) {l : List Int} (hl : l.length = 2 * c) (hb : bitsOk l) : (evens l).length = c ∧ (odds l).length = c ∧ bitsOk (evens l) ∧ bitsOk (odds l) ∧ turnsS c (evens l) (odds l) = l := by
  unfold bitsOk at *
  rcases hc with rfl | rfl | rfl
  · match l, hl with
    | [a, b], _ => simp [evens, odds, turnsS, List.range_succ] at *; simp_all
  · match l, hl with
    | [a, b, c, d], _ => simp [evens, odds, turnsS, List.range_succ] at *; simp_all
  · match l, hl with
    | [a, b, c, d, e, f], _ => simp [evens, odds, turnsS, List.range_succ] at *; simp_all
def recV (g : Int) (p e : Gs) : Gs := ⟨g * p.re + (e.re % (2 * g - 1) - g + 1), g * p.im + (e.im % (2 * g - 1) - g + 1)⟩
def recS (g : Int) (m errs : List Gs) (j : Nat) : List Gs := (List.range j).map fun i => recV g (m.getD i ⟨0, 0⟩) (errs.getD i ⟨0, 0⟩)
theorem recS_succ (g : Int) (m errs : List Gs) (j : Nat) : recS g m errs (j + 1) = recS g m errs j ++ [recV g (m.getD j ⟨0, 0⟩) (errs.getD j ⟨0, 0⟩)] := by simp [recS, List.range_succ]
theorem recS_length (g : Int) (m errs : List Gs) (j : Nat) : (recS g m errs j).length = j := by simp [recS]
theorem err_bd {g e : Int} (hg : 1 ≤ g) : -(g - 1) ≤ e % (2 * g - 1) - g + 1 ∧ e % (2 * g - 1) - g + 1 ≤ g - 1 := by
  have h1 := Int.emod_nonneg e (show (2 * g - 1) ≠ 0 by omega)
  have h2 := Int.emod_lt_of_pos e (show 0 < 2 * g - 1 by omega)
  omega
theorem modS_getD {n : Nat} {l : List Int} {N i : Nat} (h : i < N) : (modS n l N).getD i ⟨0, 0⟩ = pointS (chunkAt l n i) := rng_getD _ _ h
theorem judged_snoc (c : Nat) (T : List Int → List Int) (g : Int) (l : List Gs) (x : Gs) : judgedS c T g (l ++ [x]) = judgedS c T g l ++ turnsS c (T (sqS c g x.re)) (T (sqS c g x.im)) := by
  rw [judgedS, judgedS, List.flatMap_append]; simp
theorem sent_all {c N : Nat} {g : Int} {l : List Int} (errs : List Gs) (hc : c = 1 ∨ c = 2 ∨ c = 3) (hl : l.length = N * (2 * c)) (hb : bitsOk l) (hg : 1 ≤ g) : ∀ j, j ≤ N →
    judgedS c (hardS c) g (recS g (modS (2 * c) l N) errs j) = l.take (j * (2 * c)) ∧ agreeR sgn (l.take (j * (2 * c))) (judgedS c (softS c) g (recS g (modS (2 * c) l N) errs j))
  | 0, _ => by simp [recS, judgedS, agreeR]
  | j + 1, hj => by
    obtain ⟨i1, i2⟩ := sent_all errs hc hl hb hg j (by omega)
    obtain ⟨g1, g2⟩ := chunk_ok hl hb (show j < N by omega)
    obtain ⟨v1, v2, v3, v4, v5⟩ := evens_odds hc g1 g2
    have e1 : l.take ((j + 1) * (2 * c)) = l.take (j * (2 * c)) ++ chunkAt l (2 * c) j := by rw [Nat.add_mul, Nat.one_mul, List.take_add]; rfl
    rw [recS_succ, judged_snoc, judged_snoc, i1, e1, modS_getD (by omega)]
    obtain ⟨a1, a2⟩ := sent_bits hc v1 v3 (err_bd (e := (errs.getD j ⟨0, 0⟩).re) hg) hg
    obtain ⟨b1, b2⟩ := sent_bits hc v2 v4 (err_bd (e := (errs.getD j ⟨0, 0⟩).im) hg) hg
    simp only [recV, pointS]
    refine ⟨by rw [a1, b1, v5], agreeR_append i2 ?_⟩
    conv => enter [2]; rw [← v5]
    rcases hc with rfl | rfl | rfl
    · exact ⟨a2 0 (by omega), b2 0 (by omega), trivial⟩
    · exact ⟨a2 0 (by omega), b2 0 (by omega), a2 1 (by omega), b2 1 (by omega), trivial⟩
    · exact ⟨a2 0 (by omega), b2 0 (by omega), a2 1 (by omega), b2 1 (by omega), a2 2 (by omega), b2 2 (by omega), trivial⟩
theorem level7 {c : Nat} {b : List Int} (hc : c = 1 ∨ c = 2 ∨ c = 3) (hl : b.length = c) (hb : bitsOk b) : -7 ≤ levelS b ∧ levelS b ≤ 7 := by
  have h1 := levelS_le b hb
  rw [hl] at h1
  rcases hc with rfl | rfl | rfl
  · simp only [Int.reducePow] at h1; omega
  · simp only [Int.reducePow] at h1; omega
  · simp only [Int.reducePow] at h1; omega
theorem pt7 {c N j : Nat} {l : List Int} (hc : c = 1 ∨ c = 2 ∨ c = 3) (hl : l.length = N * (2 * c)) (hb : bitsOk l) (hj : j < N) :
    (-7 ≤ ((modS (2 * c) l N).getD j ⟨0, 0⟩).re ∧ ((modS (2 * c) l N).getD j ⟨0, 0⟩).re ≤ 7) ∧ -7 ≤ ((modS (2 * c) l N).getD j ⟨0, 0⟩).im ∧ ((modS (2 * c) l N).getD j ⟨0, 0⟩).im ≤ 7 := by
  obtain ⟨g1, g2⟩ := chunk_ok hl hb hj
  obtain ⟨v1, v2, v3, v4, _⟩ := evens_odds hc g1 g2
  rw [modS_getD hj]
  exact ⟨level7 hc v1 v3, level7 hc v2 v4⟩
theorem geF_sent {c N : Nat} {g : Int} {l : List Int} (errs : List Gs) (hc : c = 1 ∨ c = 2 ∨ c = 3) (hl : l.length = N * (2 * c)) (hb : bitsOk l) (hg : 1 ≤ g) (M : Nat) (hM : M ≤ N) : ∀ i, i ≤ M →
    -1 ≤ (geF g (recS g (modS (2 * c) l N) errs M) (modS (2 * c) l N) i).1 ∧ (geF g (recS g (modS (2 * c) l N) errs M) (modS (2 * c) l N) i).1 ≤ g - 1 ∧ (0 < i → 0 ≤ (geF g (recS g (modS (2 * c) l N) errs M) (modS (2 * c) l N) i).1)
  | 0, _ => by simp [geF]; omega
  | i + 1, hi => by
    obtain ⟨h1, h2, h3⟩ := geF_sent errs hc hl hb hg M hM i (by omega)
    have hr : (recS g (modS (2 * c) l N) errs M).getD i ⟨0, 0⟩ = recV g ((modS (2 * c) l N).getD i ⟨0, 0⟩) (errs.getD i ⟨0, 0⟩) := rng_getD _ _ (by omega)
    have e : geF g (recS g (modS (2 * c) l N) errs M) (modS (2 * c) l N) (i + 1) = if errAt g ((recS g (modS (2 * c) l N) errs M).getD i ⟨0, 0⟩) ((modS (2 * c) l N).getD i ⟨0, 0⟩) > (geF g (recS g (modS (2 * c) l N) errs M) (modS (2 * c) l N) i).1 then (errAt g ((recS g (modS (2 * c) l N) errs M).getD i ⟨0, 0⟩) ((modS (2 * c) l N).getD i ⟨0, 0⟩), (i : Int)) else geF g (recS g (modS (2 * c) l N) errs M) (modS (2 * c) l N) i := rfl
    have hb1 := err_bd (e := (errs.getD i ⟨0, 0⟩).re) hg
    have hb2 := err_bd (e := (errs.getD i ⟨0, 0⟩).im) hg
    rw [e, hr]
    generalize (modS (2 * c) l N).getD i ⟨0, 0⟩ = p
    generalize errs.getD i ⟨0, 0⟩ = er at *
    have k1 : g * p.re + (er.re % (2 * g - 1) - g + 1) - p.re * g = er.re % (2 * g - 1) - g + 1 := by rw [Int.mul_comm p.re]; omega
    have k2 : g * p.im + (er.im % (2 * g - 1) - g + 1) - p.im * g = er.im % (2 * g - 1) - g + 1 := by rw [Int.mul_comm p.im]; omega
    have hE : 0 ≤ errAt g (recV g p er) p ∧ errAt g (recV g p er) p ≤ g - 1 := by
      simp only [errAt, recV]
      rw [k1, k2]
      exact errM_bd (by omega) (by omega)
    by_cases hq : errAt g (recV g p er) p > (geF g (recS g (modS (2 * c) l N) errs M) (modS (2 * c) l N) i).1
    · rw [if_pos hq]; simp only; omega
    · rw [if_neg hq]; omega
end Go.Proofs.Ytfgpbmjmoobcnaa
end
section
open Go Go.Am
open Go.Am.Dat (cells)
namespace Go.Proofs.Ytfgpbmjmoobcnaa
set_option maxHeartbeats 4000000
set_option maxRecDepth 100000
set_option linter.unusedSimpArgs false
structure Noise where
  gain : Int
  errs : List Gs
instance : DatL Noise where
  sz := 2
  agg := true
  cells g := [.s (.int .i64 g.gain), .sl 2 (g.errs.map cells)]
  dec | [.s (.int .i64 a), .sl 2 t] => (decL t).map fun t' => ⟨a, t'⟩ | _ => none
  ok := by
    intro l a h
    split at h
    · simp only [Option.map_eq_some_iff] at h
      obtain ⟨t', h1, rfl⟩ := h
      rw [decL_ok h1]
    · cases h
  data := fun a => rfl
  one := fun h => by cases h
  dec_cells := fun a => by simp [decL_map]
theorem enc_noise (g : Noise) : enc g = .agg [.s (.int .i64 g.gain), .sl 2 (g.errs.map cells)] := rfl
structure SgF (c N : Nat) (g : Int) (l : List Int) (errs : List Gs) : Prop where
  hc : c = 1 ∨ c = 2 ∨ c = 3
  hl : l.length = N * (2 * c)
  pos : 0 < N
  le : N ≤ 20
  hb : bitsOk l
  hg : 1 ≤ g ∧ g ≤ 1000000
theorem symErr_ok {m : List Gs} (h0 : 0 < m.length) (h1 : m.length ≤ 200) (h : ∀ i, i < m.length → ((-100000000 ≤ (m.getD i ⟨0, 0⟩).re ∧ (m.getD i ⟨0, 0⟩).re ≤ 100000000) ∧ -100000000 ≤ (m.getD i ⟨0, 0⟩).im ∧ (m.getD i ⟨0, 0⟩).im ≤ 100000000)) : symErr m = 0 := by
  unfold symErr
  rw [if_neg (by omega), if_neg (by omega), if_pos]
  rw [List.all_eq_true]
  intro x hx
  obtain ⟨i, hi, rfl⟩ := List.getElem_of_mem hx
  have := h i hi
  rw [List.getD_eq_getElem?_getD, List.getElem?_eq_getElem hi] at this
  simpa [smallG] using this
theorem SgF.facts {c N : Nat} {g : Int} {l : List Int} {errs : List Gs} (f : SgF c N g l errs) :
    symErr (modS (2 * c) l N) = 0 ∧ recvErr ⟨((2 * c : Nat) : Int), g, recS g (modS (2 * c) l N) errs N⟩ = 0 ∧ geE ⟨((2 * c : Nat) : Int), g, recS g (modS (2 * c) l N) errs N⟩ (modS (2 * c) l N) = 0 ∧
    judgeAll hardS ⟨((2 * c : Nat) : Int), g, recS g (modS (2 * c) l N) errs N⟩ = l ∧ agreeR sgn l (judgeAll softS ⟨((2 * c : Nat) : Int), g, recS g (modS (2 * c) l N) errs N⟩) ∧
    0 ≤ (geF g (recS g (modS (2 * c) l N) errs N) (modS (2 * c) l N) N).1 ∧ (geF g (recS g (modS (2 * c) l N) errs N) (modS (2 * c) l N) N).1 ≤ g - 1 := by
  obtain ⟨hc, hl, pos, le, hb, hg⟩ := f
  have hp := fun j hj => pt7 (j := j) hc hl hb hj
  have hml := modS_length (2 * c) l N
  have hs : symErr (modS (2 * c) l N) = 0 := symErr_ok (by omega) (by omega) (fun i hi => by have := hp i (by omega); omega)
  have hrl := recS_length g (modS (2 * c) l N) errs N
  have g7 : ∀ t : Int, -7 ≤ t ∧ t ≤ 7 → -7000000 ≤ t * g ∧ t * g ≤ 7000000 := fun t ht => by
    have := mul_bd (a := t) (b := g) (A := 7) (B := 1000000) (by omega) (by omega)
    omega
  have hrs : symErr (recS g (modS (2 * c) l N) errs N) = 0 := symErr_ok (by omega) (by omega) (fun i hi => by
    have hr : (recS g (modS (2 * c) l N) errs N).getD i ⟨0, 0⟩ = recV g ((modS (2 * c) l N).getD i ⟨0, 0⟩) (errs.getD i ⟨0, 0⟩) := rng_getD _ _ (by omega)
    rw [hr]
    obtain ⟨q1, q2⟩ := hp i (by omega)
    have w1 := g7 _ q1
    have w2 := g7 _ q2
    have k1 := err_bd (e := (errs.getD i ⟨0, 0⟩).re) hg.1
    have k2 := err_bd (e := (errs.getD i ⟨0, 0⟩).im) hg.1
    simp only [recV]
    rw [Int.mul_comm g, Int.mul_comm g ((modS (2 * c) l N).getD i ⟨0, 0⟩).im]
    omega)
  have hrv : recvErr ⟨((2 * c : Nat) : Int), g, recS g (modS (2 * c) l N) errs N⟩ = 0 := by
    rw [recvErr_eq, ordErr_eq]
    have : orderErrS ((2 * c : Nat) : Int) = 0 := by unfold orderErrS; rw [if_pos (by omega)]
    simp only
    rw [this, if_neg (fun h => h rfl), if_pos (by omega), hrs]
  have hge : geE ⟨((2 * c : Nat) : Int), g, recS g (modS (2 * c) l N) errs N⟩ (modS (2 * c) l N) = 0 := by
    unfold geE
    rw [if_neg (fun h => h hrv), if_neg (fun h => h hs)]
    unfold geR
    simp only
    rw [if_neg (fun h => h (by omega)), if_pos]
    rw [List.all_eq_true]
    intro s hs
    obtain ⟨j, hj, rfl⟩ := List.getElem_of_mem hs
    have := hp j (by omega)
    rw [List.getD_eq_getElem?_getD, List.getElem?_eq_getElem hj] at this
    simp only [Option.getD_some] at this
    have w1 := g7 _ this.1
    have w2 := g7 _ this.2
    refine decide_eq_true ?_
    show fitG g ((modS (2 * c) l N)[j])
    unfold fitG; omega
  obtain ⟨a1, a2⟩ := sent_all errs hc hl hb hg.1 N (Nat.le_refl _)
  have htk : l.take (N * (2 * c)) = l := by rw [← hl]; exact List.take_length
  rw [htk] at a1 a2
  have ej : ∀ T, judgeAll T ⟨((2 * c : Nat) : Int), g, recS g (modS (2 * c) l N) errs N⟩ = judgedS c (T c) g (recS g (modS (2 * c) l N) errs N) := fun T => by
    unfold judgeAll
    have e : ((2 * c : Nat) : Int).toNat / 2 = c := by omega
    simp only [e]
  obtain ⟨b1, b2, b3⟩ := geF_sent errs hc hl hb hg.1 N (Nat.le_refl _) N (Nat.le_refl _)
  rw [ej, ej]
  exact ⟨hs, hrv, hge, a1, a2, b3 pos, b2⟩
theorem SymbolSigns_c (n : Int) (l : List Int) (x : Noise) : FC Try.prog 11 [enc n, enc l, enc x] [] (enc true) [] := by
  refine fc_intro' is11 (by simp) (fun cx hl => S_run [e15, e26, e29, e32, e25, e24, e64] 1500 ?_)
  obtain ⟨g, errs⟩ := x
  by_cases h1 : ordErr n = 0
  rotate_left
  · delta c11
    simp (maxSteps := 4000000) -implicitDefEqProofs only [rv11, e15, e26, enc_noise, h1, Int.cast_ofNat_Int, Int.natCast_one, Int.natCast_zero, Int.reduceAdd, Int.reduceSub, Int.reduceMul, Int.reduceLT, Int.reduceLE, Int.reduceTMod, Int.reduceTDiv, Int.reduceNeg, Int.reduceEq, Nat.reducePow, Int.reducePow, ne_eq, not_false_eq_true, Ent.of0, Ent.of1, Ent.of2, Ent.of3, V, bP, bq, a9, cm, cQ, cP, gt, lk, cr, cb, b0, cq, cI, ce, ce.subCs, cV, bz, bL, bT, aW, a8, bh, aT, bp, br, aC, bj, aJ, bN, cK, cZ, au, aN, bM, cg, cp, cN, cS, aI, aj, cJ, bl, zC, argS, bK, cD, cW, cU, ah, aQ, aB, aY, bV, leC, cu, cn, bY, cR, bS, aH, aE, cM, am, cF, bG, bG.viewCs, bH, bH.flatCs, ax, ax.LensOks, Value.oneCell', ↓reduceIte, ite_true, ite_false, if_true, if_false, Nat.reduceAdd, Nat.reduceSub, Nat.reduceMul, Nat.reduceEqDiff, Nat.reduceLT, Nat.reduceLeDiff, reduceCtorEq, Int.reduceToNat, forall_const, implies_true, a4, Ent.mk3, bm, bg, bw, bJ, bB, bf, a6, bu, a5, bv, bo, bR, be, cT, rn, co, co.renCs, aR, av, aX, aX.viewOks, aK, bn, bn.flatBs, aU, ak, az, an, aL, aZ, aZ.keysBs, aP, ai, bk, cz, bD, bW, ae, ae.passKs, aV, aA, af, af.lendKs, cC, bQ, bX, bF, setInn, ag, cY, cO, aM, a7, cc, cG, ay, aO, Glob.gl, aG, cd, bE, bU, bA, ap, cj, c6, cH, cL, cB, ar, ar.ptrOnlys, aq, aw, bZ, aD, bC, a3, bO, aF, bI, ca, Nat.reduceBEq, undef]
  rw [ordErr_eq] at h1
  have hn : n = 2 ∨ n = 4 ∨ n = 6 := by unfold orderErrS at h1; grind
  obtain ⟨c, hc, rfl⟩ : ∃ c : Nat, (c = 1 ∨ c = 2 ∨ c = 3) ∧ n = ((2 * c : Nat) : Int) := by
    rcases hn with h | h | h
    · exact ⟨1, by omega, by omega⟩
    · exact ⟨2, by omega, by omega⟩
    · exact ⟨3, by omega, by omega⟩
  by_cases h2 : l.length ≤ 40
  rotate_left
  · have h2' : (l.length : Int) > 40 := by omega
    delta c11
    simp (maxSteps := 4000000) -implicitDefEqProofs only [rv11, e15, e26, enc_noise, ordErr_eq, h1, h2', Int.cast_ofNat_Int, Int.natCast_one, Int.natCast_zero, Int.reduceAdd, Int.reduceSub, Int.reduceMul, Int.reduceLT, Int.reduceLE, Int.reduceTMod, Int.reduceTDiv, Int.reduceNeg, Int.reduceEq, Nat.reducePow, Int.reducePow, ne_eq, not_false_eq_true, Ent.of0, Ent.of1, Ent.of2, Ent.of3, V, bP, bq, a9, cm, cQ, cP, gt, lk, cr, cb, b0, cq, cI, ce, ce.subCs, cV, bz, bL, bT, aW, a8, bh, aT, bp, br, aC, bj, aJ, bN, cK, cZ, au, aN, bM, cg, cp, cN, cS, aI, aj, cJ, bl, zC, argS, bK, cD, cW, cU, ah, aQ, aB, aY, bV, leC, cu, cn, bY, cR, bS, aH, aE, cM, am, cF, bG, bG.viewCs, bH, bH.flatCs, ax, ax.LensOks, Value.oneCell', ↓reduceIte, ite_true, ite_false, if_true, if_false, Nat.reduceAdd, Nat.reduceSub, Nat.reduceMul, Nat.reduceEqDiff, Nat.reduceLT, Nat.reduceLeDiff, reduceCtorEq, Int.reduceToNat, forall_const, implies_true, a4, Ent.mk3, bm, bg, bw, bJ, bB, bf, a6, bu, a5, bv, bo, bR, be, cT, rn, co, co.renCs, aR, av, aX, aX.viewOks, aK, bn, bn.flatBs, aU, ak, az, an, aL, aZ, aZ.keysBs, aP, ai, bk, cz, bD, bW, ae, ae.passKs, aV, aA, af, af.lendKs, cC, bQ, bX, bF, setInn, ag, cY, cO, aM, a7, cc, cG, ay, aO, Glob.gl, aG, cd, bE, bU, bA, ap, cj, c6, cH, cL, cB, ar, ar.ptrOnlys, aq, aw, bZ, aD, bC, a3, bO, aF, bI, ca, Nat.reduceBEq, undef]
  have h2' : ¬ (l.length : Int) > 40 := by omega
  by_cases h3 : bitsErrS l = 0
  rotate_left
  · delta c11
    simp (maxSteps := 4000000) -implicitDefEqProofs only [rv11, e15, e26, e29, enc_noise, ordErr_eq, h1, h2', h3, Int.cast_ofNat_Int, Int.natCast_one, Int.natCast_zero, Int.reduceAdd, Int.reduceSub, Int.reduceMul, Int.reduceLT, Int.reduceLE, Int.reduceTMod, Int.reduceTDiv, Int.reduceNeg, Int.reduceEq, Nat.reducePow, Int.reducePow, ne_eq, not_false_eq_true, Ent.of0, Ent.of1, Ent.of2, Ent.of3, V, bP, bq, a9, cm, cQ, cP, gt, lk, cr, cb, b0, cq, cI, ce, ce.subCs, cV, bz, bL, bT, aW, a8, bh, aT, bp, br, aC, bj, aJ, bN, cK, cZ, au, aN, bM, cg, cp, cN, cS, aI, aj, cJ, bl, zC, argS, bK, cD, cW, cU, ah, aQ, aB, aY, bV, leC, cu, cn, bY, cR, bS, aH, aE, cM, am, cF, bG, bG.viewCs, bH, bH.flatCs, ax, ax.LensOks, Value.oneCell', ↓reduceIte, ite_true, ite_false, if_true, if_false, Nat.reduceAdd, Nat.reduceSub, Nat.reduceMul, Nat.reduceEqDiff, Nat.reduceLT, Nat.reduceLeDiff, reduceCtorEq, Int.reduceToNat, forall_const, implies_true, a4, Ent.mk3, bm, bg, bw, bJ, bB, bf, a6, bu, a5, bv, bo, bR, be, cT, rn, co, co.renCs, aR, av, aX, aX.viewOks, aK, bn, bn.flatBs, aU, ak, az, an, aL, aZ, aZ.keysBs, aP, ai, bk, cz, bD, bW, ae, ae.passKs, aV, aA, af, af.lendKs, cC, bQ, bX, bF, setInn, ag, cY, cO, aM, a7, cc, cG, ay, aO, Glob.gl, aG, cd, bE, bU, bA, ap, cj, c6, cH, cL, cB, ar, ar.ptrOnlys, aq, aw, bZ, aD, bC, a3, bO, aF, bI, ca, Nat.reduceBEq, undef]
  obtain ⟨hl0, hl4, hbits⟩ := bitsErrS_ok h3
  have hne : ¬ ((2 * c : Nat) : Int) = 0 := by omega
  have htm : (l.length : Int).tmod ((2 * c : Nat) : Int) = ((l.length % (2 * c) : Nat) : Int) := by
    rw [Int.tmod_eq_emod_of_nonneg (by omega)]; push_cast; rfl
  have htd : (l.length : Int).tdiv ((2 * c : Nat) : Int) = ((l.length / (2 * c) : Nat) : Int) := by
    rw [Int.tdiv_eq_ediv_of_nonneg (by omega)]; push_cast; rfl
  by_cases h4 : l.length % (2 * c) = 0
  rotate_left
  · have h4' : ¬ ((l.length % (2 * c) : Nat) : Int) = 0 := by omega
    delta c11
    simp (maxSteps := 4000000) -implicitDefEqProofs only [rv11, e15, e26, e29, enc_noise, ordErr_eq, h1, h2', h3, hne, htm, h4', InR, Int.cast_ofNat_Int, Int.natCast_one, Int.natCast_zero, Int.reduceAdd, Int.reduceSub, Int.reduceMul, Int.reduceLT, Int.reduceLE, Int.reduceTMod, Int.reduceTDiv, Int.reduceNeg, Int.reduceEq, Nat.reducePow, Int.reducePow, ne_eq, not_false_eq_true, Ent.of0, Ent.of1, Ent.of2, Ent.of3, V, bP, bq, a9, cm, cQ, cP, gt, lk, cr, cb, b0, cq, cI, ce, ce.subCs, cV, bz, bL, bT, aW, a8, bh, aT, bp, br, aC, bj, aJ, bN, cK, cZ, au, aN, bM, cg, cp, cN, cS, aI, aj, cJ, bl, zC, argS, bK, cD, cW, cU, ah, aQ, aB, aY, bV, leC, cu, cn, bY, cR, bS, aH, aE, cM, am, cF, bG, bG.viewCs, bH, bH.flatCs, ax, ax.LensOks, Value.oneCell', ↓reduceIte, ite_true, ite_false, if_true, if_false, Nat.reduceAdd, Nat.reduceSub, Nat.reduceMul, Nat.reduceEqDiff, Nat.reduceLT, Nat.reduceLeDiff, reduceCtorEq, Int.reduceToNat, forall_const, implies_true, a4, Ent.mk3, bm, bg, bw, bJ, bB, bf, a6, bu, a5, bv, bo, bR, be, cT, rn, co, co.renCs, aR, av, aX, aX.viewOks, aK, bn, bn.flatBs, aU, ak, az, an, aL, aZ, aZ.keysBs, aP, ai, bk, cz, bD, bW, ae, ae.passKs, aV, aA, af, af.lendKs, cC, bQ, bX, bF, setInn, ag, cY, cO, aM, a7, cc, cG, ay, aO, Glob.gl, aG, cd, bE, bU, bA, ap, cj, c6, cH, cL, cB, ar, ar.ptrOnlys, aq, aw, bZ, aD, bC, a3, bO, aF, bI, ca, Nat.reduceBEq, undef]
    try omega
  have h4' : ((l.length % (2 * c) : Nat) : Int) = 0 := by omega
  by_cases h5 : 1 ≤ g ∧ g ≤ 1000000
  rotate_left
  · delta c11
    simp (maxSteps := 4000000) -implicitDefEqProofs only [rv11, e15, e26, e29, e32, enc_noise, ordErr_eq, h1, h2', h3, hne, htm, h4', h5, InR, Int.cast_ofNat_Int, Int.natCast_one, Int.natCast_zero, Int.reduceAdd, Int.reduceSub, Int.reduceMul, Int.reduceLT, Int.reduceLE, Int.reduceTMod, Int.reduceTDiv, Int.reduceNeg, Int.reduceEq, Nat.reducePow, Int.reducePow, ne_eq, not_false_eq_true, Ent.of0, Ent.of1, Ent.of2, Ent.of3, V, bP, bq, a9, cm, cQ, cP, gt, lk, cr, cb, b0, cq, cI, ce, ce.subCs, cV, bz, bL, bT, aW, a8, bh, aT, bp, br, aC, bj, aJ, bN, cK, cZ, au, aN, bM, cg, cp, cN, cS, aI, aj, cJ, bl, zC, argS, bK, cD, cW, cU, ah, aQ, aB, aY, bV, leC, cu, cn, bY, cR, bS, aH, aE, cM, am, cF, bG, bG.viewCs, bH, bH.flatCs, ax, ax.LensOks, Value.oneCell', ↓reduceIte, ite_true, ite_false, if_true, if_false, Nat.reduceAdd, Nat.reduceSub, Nat.reduceMul, Nat.reduceEqDiff, Nat.reduceLT, Nat.reduceLeDiff, reduceCtorEq, Int.reduceToNat, forall_const, implies_true, a4, Ent.mk3, bm, bg, bw, bJ, bB, bf, a6, bu, a5, bv, bo, bR, be, cT, rn, co, co.renCs, aR, av, aX, aX.viewOks, aK, bn, bn.flatBs, aU, ak, az, an, aL, aZ, aZ.keysBs, aP, ai, bk, cz, bD, bW, ae, ae.passKs, aV, aA, af, af.lendKs, cC, bQ, bX, bF, setInn, ag, cY, cO, aM, a7, cc, cG, ay, aO, Glob.gl, aG, cd, bE, bU, bA, ap, cj, c6, cH, cL, cB, ar, ar.ptrOnlys, aq, aw, bZ, aD, bC, a3, bO, aF, bI, ca, Nat.reduceBEq, undef]
    try omega
  have hdl : l.length / (2 * c) ≤ l.length := Nat.div_le_self _ _
  by_cases h6 : (errs.length : Int) < ((l.length / (2 * c) : Nat) : Int)
  · delta c11
    simp (maxSteps := 4000000) -implicitDefEqProofs only [rv11, e15, e26, e29, e32, enc_noise, ordErr_eq, h1, h2', h3, hne, htm, htd, h4', h5, h6, InR, Int.cast_ofNat_Int, Int.natCast_one, Int.natCast_zero, Int.reduceAdd, Int.reduceSub, Int.reduceMul, Int.reduceLT, Int.reduceLE, Int.reduceTMod, Int.reduceTDiv, Int.reduceNeg, Int.reduceEq, Nat.reducePow, Int.reducePow, ne_eq, not_false_eq_true, Ent.of0, Ent.of1, Ent.of2, Ent.of3, V, bP, bq, a9, cm, cQ, cP, gt, lk, cr, cb, b0, cq, cI, ce, ce.subCs, cV, bz, bL, bT, aW, a8, bh, aT, bp, br, aC, bj, aJ, bN, cK, cZ, au, aN, bM, cg, cp, cN, cS, aI, aj, cJ, bl, zC, argS, bK, cD, cW, cU, ah, aQ, aB, aY, bV, leC, cu, cn, bY, cR, bS, aH, aE, cM, am, cF, bG, bG.viewCs, bH, bH.flatCs, ax, ax.LensOks, Value.oneCell', ↓reduceIte, ite_true, ite_false, if_true, if_false, Nat.reduceAdd, Nat.reduceSub, Nat.reduceMul, Nat.reduceEqDiff, Nat.reduceLT, Nat.reduceLeDiff, reduceCtorEq, Int.reduceToNat, forall_const, implies_true, a4, Ent.mk3, bm, bg, bw, bJ, bB, bf, a6, bu, a5, bv, bo, bR, be, cT, rn, co, co.renCs, aR, av, aX, aX.viewOks, aK, bn, bn.flatBs, aU, ak, az, an, aL, aZ, aZ.keysBs, aP, ai, bk, cz, bD, bW, ae, ae.passKs, aV, aA, af, af.lendKs, cC, bQ, bX, bF, setInn, ag, cY, cO, aM, a7, cc, cG, ay, aO, Glob.gl, aG, cd, bE, bU, bA, ap, cj, c6, cH, cL, cB, ar, ar.ptrOnlys, aq, aw, bZ, aD, bC, a3, bO, aF, bI, ca, Nat.reduceBEq, undef]
    try omega
  have hN := (Nat.div_mul_cancel (Nat.dvd_of_mod_eq_zero h4)).symm
  have h8 : l.length ≤ 1000000 := by omega
  have hme : modErr ((2 * c : Nat) : Int) l = 0 := by
    unfold modErr
    rw [if_neg (fun h => h h1), if_neg (fun h => h h3), if_neg]
    intro h; apply h; push_cast at h4' ⊢; exact h4'
  generalize hNN : l.length / (2 * c) = N at *
  have hNp : 0 < N := by rcases Nat.eq_zero_or_pos N with e | e; (rw [e, Nat.zero_mul] at hN; omega); exact e
  have hNl : N ≤ 20 := by
    have : N * 2 ≤ N * (2 * c) := Nat.mul_le_mul_left _ (by omega)
    omega
  have f : SgF c N g l errs := ⟨hc, hN, hNp, hNl, hbits, h5⟩
  obtain ⟨q1, q2, q3, q4, q5, q6, q7⟩ := f.facts
  have hp7 := fun j hj => pt7 (j := j) hc hN hbits hj
  have hml := modS_length (2 * c) l N
  have hml' : ((modS (2 * c) l N).length : Int) = (N : Int) := by omega
  delta c11
  simp (maxSteps := 4000000) -implicitDefEqProofs only [rv11, e15, e26, e29, e32, e25, e24, e64, enc_noise, ordErr_eq, h1, h2', h3, hne, htm, htd, h4', h5, h6, h8, hme, hNN, hml', q1, Int.toNat_natCast, InR, Int.cast_ofNat_Int, Int.natCast_one, Int.natCast_zero, Int.reduceAdd, Int.reduceSub, Int.reduceMul, Int.reduceLT, Int.reduceLE, Int.reduceTMod, Int.reduceTDiv, Int.reduceNeg, Int.reduceEq, Nat.reducePow, Int.reducePow, ne_eq, not_false_eq_true, Ent.of0, Ent.of1, Ent.of2, Ent.of3, V, bP, bq, a9, cm, cQ, cP, gt, lk, cr, cb, b0, cq, cI, ce, ce.subCs, cV, bz, bL, bT, aW, a8, bh, aT, bp, br, aC, bj, aJ, bN, cK, cZ, au, aN, bM, cg, cp, cN, cS, aI, aj, cJ, bl, zC, argS, bK, cD, cW, cU, ah, aQ, aB, aY, bV, leC, cu, cn, bY, cR, bS, aH, aE, cM, am, cF, bG, bG.viewCs, bH, bH.flatCs, ax, ax.LensOks, Value.oneCell', ↓reduceIte, ite_true, ite_false, if_true, if_false, Nat.reduceAdd, Nat.reduceSub, Nat.reduceMul, Nat.reduceEqDiff, Nat.reduceLT, Nat.reduceLeDiff, reduceCtorEq, Int.reduceToNat, forall_const, implies_true, a4, Ent.mk3, bm, bg, bw, bJ, bB, bf, a6, bu, a5, bv, bo, bR, be, cT, rn, co, co.renCs, aR, av, aX, aX.viewOks, aK, bn, bn.flatBs, aU, ak, az, an, aL, aZ, aZ.keysBs, aP, ai, bk, cz, bD, bW, ae, ae.passKs, aV, aA, af, af.lendKs, cC, bQ, bX, bF, setInn, ag, cY, cO, aM, a7, cc, cG, ay, aO, Glob.gl, aG, cd, bE, bU, bA, ap, cj, c6, cH, cL, cB, ar, ar.ptrOnlys, aq, aw, bZ, aD, bC, a3, bO, aF, bI, ca, Nat.reduceBEq, undef]
  refine ⟨by omega, by omega, ?_⟩
  obtain ⟨M, hM⟩ : ∃ M, modS (2 * c) l N = M := ⟨_, rfl⟩
  rw [hM] at q1 q2 q3 q4 q5 q6 q7 hp7 hml hml' ⊢
  have h2g : 0 < 2 * g - 1 ∧ 2 * g - 1 ≤ 4611686018427387903 := by omega
  refine S_forU N (fun j => [(10, .s (.int .i64 (j : Int)))]) (fun j => [(9, .row 2 48 ((recS g M errs j).map cells))]) (fun _ => True) trivial ?_ (fun j hj _ => S_run [e32, e31, e57, e60, e59, e56, e58, e37] 1500 ?_)
  · simp (maxSteps := 4000000) -implicitDefEqProofs only [recS, Ent.of0, Ent.of1, Ent.of2, Ent.of3, V, bP, bq, a9, cm, cQ, cP, gt, lk, cr, cb, b0, cq, cI, ce, ce.subCs, cV, bz, bL, bT, aW, a8, bh, aT, bp, br, aC, bj, aJ, bN, cK, cZ, au, aN, bM, cg, cp, cN, cS, aI, aj, cJ, bl, zC, argS, bK, cD, cW, cU, ah, aQ, aB, aY, bV, leC, cu, cn, bY, cR, bS, aH, aE, cM, am, cF, bG, bG.viewCs, bH, bH.flatCs, ax, ax.LensOks, Value.oneCell', ↓reduceIte, ite_true, ite_false, if_true, if_false, Nat.reduceAdd, Nat.reduceSub, Nat.reduceMul, Nat.reduceEqDiff, Nat.reduceLT, Nat.reduceLeDiff, reduceCtorEq, Int.reduceToNat, forall_const, implies_true, a4, Ent.mk3, bm, bg, bw, bJ, bB, bf, a6, bu, a5, bv, bo, bR, be, cT, rn, co, co.renCs, aR, av, aX, aX.viewOks, aK, bn, bn.flatBs, aU, ak, az, an, aL, aZ, aZ.keysBs, aP, ai, bk, cz, bD, bW, ae, ae.passKs, aV, aA, af, af.lendKs, cC, bQ, bX, bF, setInn, ag, cY, cO, aM, a7, cc, cG, ay, aO, Glob.gl, aG, cd, bE, bU, bA, ap, cj, c6, cH, cL, cB, ar, ar.ptrOnlys, aq, aw, bZ, aD, bC, a3, bO, aF, bI, ca, Nat.reduceBEq, undef]; simp
  · by_cases h : j < N
    · have hj2 : (j : Int) < (N : Int) := by omega
      have hj3 : j < M.length := by omega
      have hj4 : (j : Int) < (errs.length : Int) := by omega
      have hj5 : j < errs.length := by omega
      obtain ⟨r1, r2⟩ := hp7 j h
      have k1 := err_bd (e := (errs.getD j ⟨0, 0⟩).re) h5.1
      have k2 := err_bd (e := (errs.getD j ⟨0, 0⟩).im) h5.1
      have u1 := Int.emod_nonneg (errs.getD j ⟨0, 0⟩).re (show (2 * g - 1) ≠ 0 by omega)
      have u2 := Int.emod_nonneg (errs.getD j ⟨0, 0⟩).im (show (2 * g - 1) ≠ 0 by omega)
      have w1 := mul_bd (a := g) (b := (M.getD j ⟨0, 0⟩).re) (A := 1000000) (B := 7) (by omega) (by omega)
      have w2 := mul_bd (a := g) (b := (M.getD j ⟨0, 0⟩).im) (A := 1000000) (B := 7) (by omega) (by omega)
      have hsucc : (recS g M errs j).map cells ++ [cells (recV g (M.getD j ⟨0, 0⟩) (errs.getD j ⟨0, 0⟩))] = (recS g M errs (j + 1)).map cells := by rw [recS_succ, List.map_append]; rfl
      simp only [cells_gs, recV] at hsucc
      have hlen := recS_length g M errs j
      delta c11l1
      simp (maxSteps := 4000000) -implicitDefEqProofs only [e32, e31, hml', hj2, hj3, hj4, hj5, r1, r2, h2g, hsucc, hlen, InR, Int.cast_ofNat_Int, Int.natCast_one, Int.natCast_zero, Int.reduceAdd, Int.reduceSub, Int.reduceMul, Int.reduceLT, Int.reduceLE, Int.reduceTMod, Int.reduceTDiv, Int.reduceNeg, Int.reduceEq, Nat.reducePow, Int.reducePow, ne_eq, not_false_eq_true, Ent.of0, Ent.of1, Ent.of2, Ent.of3, V, bP, bq, a9, cm, cQ, cP, gt, lk, cr, cb, b0, cq, cI, ce, ce.subCs, cV, bz, bL, bT, aW, a8, bh, aT, bp, br, aC, bj, aJ, bN, cK, cZ, au, aN, bM, cg, cp, cN, cS, aI, aj, cJ, bl, zC, argS, bK, cD, cW, cU, ah, aQ, aB, aY, bV, leC, cu, cn, bY, cR, bS, aH, aE, cM, am, cF, bG, bG.viewCs, bH, bH.flatCs, ax, ax.LensOks, Value.oneCell', ↓reduceIte, ite_true, ite_false, if_true, if_false, Nat.reduceAdd, Nat.reduceSub, Nat.reduceMul, Nat.reduceEqDiff, Nat.reduceLT, Nat.reduceLeDiff, reduceCtorEq, Int.reduceToNat, forall_const, implies_true, a4, Ent.mk3, bm, bg, bw, bJ, bB, bf, a6, bu, a5, bv, bo, bR, be, cT, rn, co, co.renCs, aR, av, aX, aX.viewOks, aK, bn, bn.flatBs, aU, ak, az, an, aL, aZ, aZ.keysBs, aP, ai, bk, cz, bD, bW, ae, ae.passKs, aV, aA, af, af.lendKs, cC, bQ, bX, bF, setInn, ag, cY, cO, aM, a7, cc, cG, ay, aO, Glob.gl, aG, cd, bE, bU, bA, ap, cj, c6, cH, cL, cB, ar, ar.ptrOnlys, aq, aw, bZ, aD, bC, a3, bO, aF, bI, ca, Nat.reduceBEq, undef]
      and_intros <;> first | omega | rfl | trivial
    · have hj2 : ¬ (j : Int) < (N : Int) := by omega
      have hjN : j = N := by omega
      subst hjN
      have hlen := recS_length g M errs j
      have bb57 : (recS g M errs j).length ≤ 1000000 := by omega
      have bb60 : j ≤ 1000000 := by omega
      have w0 : 0 ≤ (geF g (recS g M errs j) M j).1 ∧ (geF g (recS g M errs j) M j).1 ≤ g - 1 := ⟨q6, q7⟩
      have hle := agreeR_len q5
      have hag := fun k (hk : k < (judgeAll softS ⟨((2 * c : Nat) : Int), g, recS g M errs j⟩).length) => agreeR_getD q5 hk
      delta c11l1
      simp (maxSteps := 4000000) -implicitDefEqProofs only [hml', hj2, e32, e31, e57, e60, e59, e56, e58, e37, enc_recv, decV_recv, hml, bb57, bb60, q2, q3, q4, w0, hle, InR, Int.cast_ofNat_Int, Int.natCast_one, Int.natCast_zero, Int.reduceAdd, Int.reduceSub, Int.reduceMul, Int.reduceLT, Int.reduceLE, Int.reduceTMod, Int.reduceTDiv, Int.reduceNeg, Int.reduceEq, Nat.reducePow, Int.reducePow, ne_eq, not_false_eq_true, Ent.of0, Ent.of1, Ent.of2, Ent.of3, V, bP, bq, a9, cm, cQ, cP, gt, lk, cr, cb, b0, cq, cI, ce, ce.subCs, cV, bz, bL, bT, aW, a8, bh, aT, bp, br, aC, bj, aJ, bN, cK, cZ, au, aN, bM, cg, cp, cN, cS, aI, aj, cJ, bl, zC, argS, bK, cD, cW, cU, ah, aQ, aB, aY, bV, leC, cu, cn, bY, cR, bS, aH, aE, cM, am, cF, bG, bG.viewCs, bH, bH.flatCs, ax, ax.LensOks, Value.oneCell', ↓reduceIte, ite_true, ite_false, if_true, if_false, Nat.reduceAdd, Nat.reduceSub, Nat.reduceMul, Nat.reduceEqDiff, Nat.reduceLT, Nat.reduceLeDiff, reduceCtorEq, Int.reduceToNat, forall_const, implies_true, a4, Ent.mk3, bm, bg, bw, bJ, bB, bf, a6, bu, a5, bv, bo, bR, be, cT, rn, co, co.renCs, aR, av, aX, aX.viewOks, aK, bn, bn.flatBs, aU, ak, az, an, aL, aZ, aZ.keysBs, aP, ai, bk, cz, bD, bW, ae, ae.passKs, aV, aA, af, af.lendKs, cC, bQ, bX, bF, setInn, ag, cY, cO, aM, a7, cc, cG, ay, aO, Glob.gl, aG, cd, bE, bU, bA, ap, cj, c6, cH, cL, cB, ar, ar.ptrOnlys, aq, aw, bZ, aD, bC, a3, bO, aF, bI, ca, Nat.reduceBEq, undef]
      generalize judgeAll softS ⟨((2 * c : Nat) : Int), g, recS g M errs j⟩ = S at *
      refine ⟨by omega, ?_⟩
      refine S_forU S.length (fun k => [(21, .s (.int .i64 (k : Int)))]) (fun _ => []) (fun _ => True) trivial ?_ (fun k hk _ => S_run [] 1500 ?_)
      · simp (maxSteps := 4000000) -implicitDefEqProofs only [Ent.of0, Ent.of1, Ent.of2, Ent.of3, V, bP, bq, a9, cm, cQ, cP, gt, lk, cr, cb, b0, cq, cI, ce, ce.subCs, cV, bz, bL, bT, aW, a8, bh, aT, bp, br, aC, bj, aJ, bN, cK, cZ, au, aN, bM, cg, cp, cN, cS, aI, aj, cJ, bl, zC, argS, bK, cD, cW, cU, ah, aQ, aB, aY, bV, leC, cu, cn, bY, cR, bS, aH, aE, cM, am, cF, bG, bG.viewCs, bH, bH.flatCs, ax, ax.LensOks, Value.oneCell', ↓reduceIte, ite_true, ite_false, if_true, if_false, Nat.reduceAdd, Nat.reduceSub, Nat.reduceMul, Nat.reduceEqDiff, Nat.reduceLT, Nat.reduceLeDiff, reduceCtorEq, Int.reduceToNat, forall_const, implies_true, a4, Ent.mk3, bm, bg, bw, bJ, bB, bf, a6, bu, a5, bv, bo, bR, be, cT, rn, co, co.renCs, aR, av, aX, aX.viewOks, aK, bn, bn.flatBs, aU, ak, az, an, aL, aZ, aZ.keysBs, aP, ai, bk, cz, bD, bW, ae, ae.passKs, aV, aA, af, af.lendKs, cC, bQ, bX, bF, setInn, ag, cY, cO, aM, a7, cc, cG, ay, aO, Glob.gl, aG, cd, bE, bU, bA, ap, cj, c6, cH, cL, cB, ar, ar.ptrOnlys, aq, aw, bZ, aD, bC, a3, bO, aF, bI, ca, Nat.reduceBEq, undef]; simp
      · by_cases h : k < S.length
        · have hk2 : (k : Int) < (S.length : Int) := by omega
          have hk3 : (k : Int) < (l.length : Int) := by omega
          have hk4 : k < l.length := by omega
          obtain ⟨z1, z2⟩ := hag k h
          rcases bits_getD hbits k with hb | hb
          · have hs : ¬ S.getD k 0 < 0 := fun hh => by have := z2.1 hh; omega
            delta c11l2
            simp (maxSteps := 4000000) -implicitDefEqProofs only [hk2, hk3, hk4, h, z1, hb, hs, InR, Int.cast_ofNat_Int, Int.natCast_one, Int.natCast_zero, Int.reduceAdd, Int.reduceSub, Int.reduceMul, Int.reduceLT, Int.reduceLE, Int.reduceTMod, Int.reduceTDiv, Int.reduceNeg, Int.reduceEq, Nat.reducePow, Int.reducePow, ne_eq, not_false_eq_true, Ent.of0, Ent.of1, Ent.of2, Ent.of3, V, bP, bq, a9, cm, cQ, cP, gt, lk, cr, cb, b0, cq, cI, ce, ce.subCs, cV, bz, bL, bT, aW, a8, bh, aT, bp, br, aC, bj, aJ, bN, cK, cZ, au, aN, bM, cg, cp, cN, cS, aI, aj, cJ, bl, zC, argS, bK, cD, cW, cU, ah, aQ, aB, aY, bV, leC, cu, cn, bY, cR, bS, aH, aE, cM, am, cF, bG, bG.viewCs, bH, bH.flatCs, ax, ax.LensOks, Value.oneCell', ↓reduceIte, ite_true, ite_false, if_true, if_false, Nat.reduceAdd, Nat.reduceSub, Nat.reduceMul, Nat.reduceEqDiff, Nat.reduceLT, Nat.reduceLeDiff, reduceCtorEq, Int.reduceToNat, forall_const, implies_true, a4, Ent.mk3, bm, bg, bw, bJ, bB, bf, a6, bu, a5, bv, bo, bR, be, cT, rn, co, co.renCs, aR, av, aX, aX.viewOks, aK, bn, bn.flatBs, aU, ak, az, an, aL, aZ, aZ.keysBs, aP, ai, bk, cz, bD, bW, ae, ae.passKs, aV, aA, af, af.lendKs, cC, bQ, bX, bF, setInn, ag, cY, cO, aM, a7, cc, cG, ay, aO, Glob.gl, aG, cd, bE, bU, bA, ap, cj, c6, cH, cL, cB, ar, ar.ptrOnlys, aq, aw, bZ, aD, bC, a3, bO, aF, bI, ca, Nat.reduceBEq, undef]
            omega
          · have hs : S.getD k 0 < 0 := z2.2 hb
            delta c11l2
            simp (maxSteps := 4000000) -implicitDefEqProofs only [hk2, hk3, hk4, h, z1, hb, hs, InR, Int.cast_ofNat_Int, Int.natCast_one, Int.natCast_zero, Int.reduceAdd, Int.reduceSub, Int.reduceMul, Int.reduceLT, Int.reduceLE, Int.reduceTMod, Int.reduceTDiv, Int.reduceNeg, Int.reduceEq, Nat.reducePow, Int.reducePow, ne_eq, not_false_eq_true, Ent.of0, Ent.of1, Ent.of2, Ent.of3, V, bP, bq, a9, cm, cQ, cP, gt, lk, cr, cb, b0, cq, cI, ce, ce.subCs, cV, bz, bL, bT, aW, a8, bh, aT, bp, br, aC, bj, aJ, bN, cK, cZ, au, aN, bM, cg, cp, cN, cS, aI, aj, cJ, bl, zC, argS, bK, cD, cW, cU, ah, aQ, aB, aY, bV, leC, cu, cn, bY, cR, bS, aH, aE, cM, am, cF, bG, bG.viewCs, bH, bH.flatCs, ax, ax.LensOks, Value.oneCell', ↓reduceIte, ite_true, ite_false, if_true, if_false, Nat.reduceAdd, Nat.reduceSub, Nat.reduceMul, Nat.reduceEqDiff, Nat.reduceLT, Nat.reduceLeDiff, reduceCtorEq, Int.reduceToNat, forall_const, implies_true, a4, Ent.mk3, bm, bg, bw, bJ, bB, bf, a6, bu, a5, bv, bo, bR, be, cT, rn, co, co.renCs, aR, av, aX, aX.viewOks, aK, bn, bn.flatBs, aU, ak, az, an, aL, aZ, aZ.keysBs, aP, ai, bk, cz, bD, bW, ae, ae.passKs, aV, aA, af, af.lendKs, cC, bQ, bX, bF, setInn, ag, cY, cO, aM, a7, cc, cG, ay, aO, Glob.gl, aG, cd, bE, bU, bA, ap, cj, c6, cH, cL, cB, ar, ar.ptrOnlys, aq, aw, bZ, aD, bC, a3, bO, aF, bI, ca, Nat.reduceBEq, undef]
            omega
        · have hk2 : ¬ (k : Int) < (S.length : Int) := by omega
          delta c11l2
          simp (maxSteps := 4000000) -implicitDefEqProofs only [rv11, hk2, InR, Int.cast_ofNat_Int, Int.natCast_one, Int.natCast_zero, Int.reduceAdd, Int.reduceSub, Int.reduceMul, Int.reduceLT, Int.reduceLE, Int.reduceTMod, Int.reduceTDiv, Int.reduceNeg, Int.reduceEq, Nat.reducePow, Int.reducePow, ne_eq, not_false_eq_true, Ent.of0, Ent.of1, Ent.of2, Ent.of3, V, bP, bq, a9, cm, cQ, cP, gt, lk, cr, cb, b0, cq, cI, ce, ce.subCs, cV, bz, bL, bT, aW, a8, bh, aT, bp, br, aC, bj, aJ, bN, cK, cZ, au, aN, bM, cg, cp, cN, cS, aI, aj, cJ, bl, zC, argS, bK, cD, cW, cU, ah, aQ, aB, aY, bV, leC, cu, cn, bY, cR, bS, aH, aE, cM, am, cF, bG, bG.viewCs, bH, bH.flatCs, ax, ax.LensOks, Value.oneCell', ↓reduceIte, ite_true, ite_false, if_true, if_false, Nat.reduceAdd, Nat.reduceSub, Nat.reduceMul, Nat.reduceEqDiff, Nat.reduceLT, Nat.reduceLeDiff, reduceCtorEq, Int.reduceToNat, forall_const, implies_true, a4, Ent.mk3, bm, bg, bw, bJ, bB, bf, a6, bu, a5, bv, bo, bR, be, cT, rn, co, co.renCs, aR, av, aX, aX.viewOks, aK, bn, bn.flatBs, aU, ak, az, an, aL, aZ, aZ.keysBs, aP, ai, bk, cz, bD, bW, ae, ae.passKs, aV, aA, af, af.lendKs, cC, bQ, bX, bF, setInn, ag, cY, cO, aM, a7, cc, cG, ay, aO, Glob.gl, aG, cd, bE, bU, bA, ap, cj, c6, cH, cL, cB, ar, ar.ptrOnlys, aq, aw, bZ, aD, bC, a3, bO, aF, bI, ca, Nat.reduceBEq, undef]
end Go.Proofs.Ytfgpbmjmoobcnaa
end
section
open Go Go.Am
open Go.Am.Dat (cells)
namespace Go.Proofs.Ytfgpbmjmoobcnaa
open Go.ChangeShapes Go.WideShapes Go.ChangeAt Go.RowKit
set_option linter.unusedVariables false
theorem own : ownKnob Try.prog.godebug = none := by kernel_rfl
theorem laidOut : laidOutB Try.prog = true := by kernel_rfl
theorem glob0 : Glob.gl Try.prog = [] := rfl
theorem rInt : ReadsAs Try.prog 3 Int := ReadsAs.int Try.underlying3 (by kernel_rfl)
theorem rInts : ReadsAs Try.prog 33 (List Int) := ReadsAs.list rInt Try.underlying33 (by kernel_rfl)
theorem rGauss : ReadsAs Try.prog 48 Gs := by
  refine ⟨by kernel_rfl, by decide, fun en w sp fuel cs x h => ?_⟩
  obtain ⟨l, a, ha, h1⟩ := field_rd rInt Try.underlying48 h 0 rfl rfl
  obtain ⟨_, b, hb, h2⟩ := field_rd rInt Try.underlying48 h 1 rfl rfl
  refine ⟨⟨a, b⟩, rfl, l.trans (by kernel_rfl), fun j c hj => ?_⟩
  match j, hj with
  | 0, hj => cases hj; exact h1 0 _ rfl
  | 1, hj => cases hj; exact h2 0 _ rfl
theorem rGausses : ReadsAs Try.prog 35 (List Gs) := ReadsAs.list rGauss Try.underlying35 (by kernel_rfl)
theorem rNoise : ReadsAs Try.prog 92 Noise := by
  refine ⟨by kernel_rfl, by decide, fun en w sp fuel cs x h => ?_⟩
  obtain ⟨l, a0, e0, h0⟩ := field_rd rInt Try.underlying92 h 0 rfl rfl
  obtain ⟨_, a1, e1, h1⟩ := field_rd rGausses Try.underlying92 h 1 rfl rfl
  refine ⟨⟨a0, a1⟩, rfl, l.trans (by kernel_rfl), fun j c hj => ?_⟩
  match j, hj with
  | 0, hj => cases hj; exact h0 0 _ rfl
  | 1, hj => cases hj; exact h1 0 _ rfl
set_option maxRecDepth 100000 in
theorem lifted11 (os : Os) (started : os.Started) (H : Type) (en : TypeId × Value → H) :
    ReturnsInHanded {} Try.checked os 11 .any (Rows.symbolSignsSpec.pre6 en Try.prog Try.f11 Rows.symbolSignsRow.domain false) (Rows.symbolSignsSpec.post en Try.prog Try.f11 false true false false) := by
  refine returnsInHanded_of_change (C := Try.checked) own started (by kernel_rfl) Try.func11
    (ChangeSpec.witness6 (enc := en) (C := Try.checked) false ⟨#[], #[.int .i64 0, .slice none 0 0, .agg #[.int .i64 0, .slice none 0 0]], []⟩ 8 (by kernel_rfl) (by kernel_rfl) (by kernel_rfl) (by kernel_rfl)) ?_
  intro W base args ds gs before hval0 hW hcnd _
  have hval : ∀ (j : Nat) t v, Try.f11.params[j]? = some t → args[j]? = some v → Value.okWide Try.prog W .any base t v := hval0
  have hW' := hW
  obtain ⟨p, q, hA0, hV, rfl, hfz, hnd⟩ := hW
  have hA : DataW.TrodAll en Try.prog W 0 (fun _ => true) true Try.f11.params.toList args.toList ds p := hA0
  rw [Try.params11] at hA hval
  obtain ⟨v0, vs0, d0, ds0, p0, q0, hargs, rfl, rfl, h0, r0⟩ := trodAll_cons hA
  obtain ⟨v1, vs1, d1, ds1, p1, q1, rfl, rfl, rfl, h1, r1⟩ := trodAll_cons r0
  obtain ⟨v2, vs2, d2, ds2, p2, q2, rfl, rfl, rfl, h2, r2⟩ := trodAll_cons r1
  obtain ⟨rfl, rfl, rfl⟩ := trodAll_nil r2
  obtain rfl : args = #[v0, v1, v2] := by cases args; simp_all
  obtain ⟨rfl, rfl⟩ := trodVars_none hV
  have lt1 : ∀ x ∈ p1, x.block < W.heap.size := by obtain ⟨m, hm⟩ := h1; exact DataW.trod_lt m _ _ _ hm
  have lt2 : ∀ x ∈ p2, x.block < W.heap.size := by obtain ⟨m, hm⟩ := h2; exact DataW.trod_lt m _ _ _ hm
  obtain ⟨x0, rfl, rfl, rfl, w0⟩ := open_int Try.underlying3 (hval 0 3 v0 rfl rfl) h0
  obtain ⟨x1, hx1⟩ := rInts.arg Try.underlying33 (hval 1 33 v1 rfl rfl) h1
  obtain ⟨x2, hx2⟩ := rNoise.argS rfl Try.underlying92 (hval 2 92 v2 rfl rfl) h2
  clear hA0 hval0
  refine (law_walk glob0 (SymbolSigns_c x0 x1 x2) (W := W) (vs := #[.int .i64 x0, v1, v2]) rfl (fun j c hj E => ?_)).mono fun e W' ⟨he, bel⟩ => ?_
  · match j, hj with
    | 0, hj => cases hj; exact .d (.s _)
    | 1, hj => cases hj; exact hx1 E
    | 2, hj => cases hj; exact hx2 E
  · subst he
    exact ⟨_, rfl, _, _, _, [], _, [], hW', trodAll_mk1 (shut_bool Try.underlying4 _), (trodAll_cons_mk (shut_int Try.underlying3 w0) (trodAll_cons_mk (Below.trod laidOut (by kernel_rfl) (of_decide_eq_true (by kernel_rfl)) h1 bel lt1) (trodAll_cons_mk (Below.trod laidOut (by kernel_rfl) (of_decide_eq_true (by kernel_rfl)) h2 bel lt2) trodAll_mk0))), rfl, bel.frame _, fun h => by cases h⟩
theorem over11 : Rows.symbolSignsRow.holds Try.pinned (OpenSpec.ofChange Rows.symbolSignsSpec) :=
  OpenClaim.holds_of_wide 11 Try.f11 rfl rfl rfl rfl rfl rfl rfl ⟨rfl, rfl, rfl, rfl, rfl⟩ rfl rfl rfl rfl rfl (by kernel_rfl) Try.func11 (by kernel_rfl)
    (of_decide_eq_true (by kernel_rfl)) (by unfold Func.isWrapper; first | (rw [if_pos (by decide +kernel)]; kernel_rfl) | (rw [if_neg (by decide +kernel)]; exact ⟨rfl, rfl⟩))
    (fun os started H en _ => lifted11 os started H en)
theorem SymbolSigns_holds : Rows.SymbolSignsSaid := over11
#print axioms SymbolSigns_holds
end Go.Proofs.Ytfgpbmjmoobcnaa
end
