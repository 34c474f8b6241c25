/- SymbolGray returns true for every input and never panics: neighbours on the plane carry words that differ in one bit, and every point is odd and within seven; conditions: none beyond the given statement. -/
import Derived.Test.YtfgpbmjmoobcnaaRows
import Derived.ProofKit
import Derived.Test.YtfgpbmjmoobcnaaAm4
set_option linter.all false
section
open Go Go.Am
open Go.Am.Dat (cells)
namespace Go.Proofs.Ytfgpbmjmoobcnaa
set_option maxHeartbeats 4000000
set_option maxRecDepth 100000
set_option linter.unusedSimpArgs false
theorem receivedErr_c (x : Recv) : FC Try.prog 114 [enc x] [] (enc (recvErr x)) [] := by
  obtain ⟨o, g, l⟩ := x
  refine fc_intro' is114 (by simp) (fun cx hl => S_run [e95, e103, e82, e118, e80] 800 ?_)
  delta c114
  simp (maxSteps := 4000000) -implicitDefEqProofs only [rv114, e95, e103, e82, e118, e80, enc_recv, Ent.of0, Ent.of1, Ent.of2, Ent.of3, V, bX, bo, bF, cG, cW, cP, gt, lk, cu, bQ, cr, cz, ce, cj, cj.subCs, cT, bG, a3, b0, aY, aZ, bA, aw, a8, bD, aO, bu, aB, bP, cV, cR, aj, aA, bZ, bR, bN, cU, cK, aE, ap, cp, bz, zC, argS, bI, cd, cN, cJ, ak, aM, aT, aD, bL, leC, bV, cC, bW, cI, cF, aI, aG, cY, aq, bT, a4, a4.viewCs, bn, bn.flatCs, aU, aU.LensOks, Value.oneCell', ↓reduceIte, ite_true, ite_false, if_true, if_false, Nat.reduceAdd, Nat.reduceSub, Nat.reduceMul, Nat.reduceEqDiff, Nat.reduceLT, Nat.reduceLeDiff, reduceCtorEq, Int.reduceToNat, forall_const, implies_true, br, Ent.mk3, bl, bB, a5, be, bC, a0, bj, bp, bH, bk, bE, bK, bt, cQ, rn, cm, cm.renCs, az, aL, aR, aR.viewOks, aH, bf, bf.flatBs, aP, ah, aX, ag, aV, bw, bw.keysBs, aN, ar, a6, bY, bq, cc, ae, ae.passKs, ay, aK, af, af.lendKs, cH, cD, cq, a7, setInn, ai, cM, cO, aC, a9, bM, bU, aJ, av, Glob.gl, ax, cn, bJ, ca, bv, au, bS, cL, cb, cS, co, an, an.ptrOnlys, am, aQ, cB, aW, bg, bm, bO, aF, bh, cg, Nat.reduceBEq, undef]
  rfl
def e114 : Ent Try.prog := .of1 114 (fun _ => True) (fun x : Recv => enc (recvErr x)) (fun _ => trivial) (fun x _ => receivedErr_c x)
def sqS (c : Nat) (gain n : Int) : List Int := (lvls c).map fun l => (n - l * gain) * (n - l * gain)
end Go.Proofs.Ytfgpbmjmoobcnaa
end
section
open Go Go.Am
open Go.Am.Dat (cells)
namespace Go.Proofs.Ytfgpbmjmoobcnaa
set_option maxHeartbeats 4000000
set_option maxRecDepth 100000
set_option linter.unusedSimpArgs false
theorem lvls_bd {c : Nat} (hc : c = 1 ∨ c = 2 ∨ c = 3) : ∀ l ∈ lvls c, -7 ≤ l ∧ l ≤ 7 := by
  rcases hc with rfl | rfl | rfl <;> decide
theorem lvls_length (c : Nat) : (lvls c).length = 2 ^ c := by simp [lvls]
theorem sq_bd {d B : Int} (h : -B ≤ d ∧ d ≤ B) : 0 ≤ d * d ∧ d * d ≤ B * B := by
  have h1 := Int.mul_nonneg (show 0 ≤ B - d by omega) (show 0 ≤ B + d by omega)
  rw [Int.sub_mul, Int.mul_add, Int.mul_add, Int.mul_comm d B] at h1
  refine ⟨?_, by omega⟩
  rcases Int.le_total 0 d with h0 | h0
  · exact Int.mul_nonneg h0 h0
  · exact Int.mul_nonneg_of_nonpos_of_nonpos h0 h0
theorem lg_bd {t g : Int} (ht : -7 ≤ t ∧ t ≤ 7) (hg : 1 ≤ g ∧ g ≤ 10000000) : -70000000 ≤ t * g ∧ t * g ≤ 70000000 := by
  have : t = -7 ∨ t = -6 ∨ t = -5 ∨ t = -4 ∨ t = -3 ∨ t = -2 ∨ t = -1 ∨ t = 0 ∨ t = 1 ∨ t = 2 ∨ t = 3 ∨ t = 4 ∨ t = 5 ∨ t = 6 ∨ t = 7 := by omega
  rcases this with rfl | rfl | rfl | rfl | rfl | rfl | rfl | rfl | rfl | rfl | rfl | rfl | rfl | rfl | rfl <;> omega
theorem part_c (f : FuncId) (T : List Int → List Int) (c : Nat) (hc : c = 1 ∨ c = 2 ∨ c = 3) (hf : ∀ sq : List Int, sq.length = 2 ^ c → (∀ s ∈ sq, 0 ≤ s ∧ s ≤ 4611686018427387903) → FC Try.prog f [enc (lvls c), enc sq] [] (enc (T sq)) [])
    (x : Recv) (n : Int) (hg : 1 ≤ x.gain ∧ x.gain ≤ 10000000) (hn : -100000000 ≤ n ∧ n ≤ 100000000) :
    FC Try.prog 136 [enc n, .ptr 100000 0, .ptr 100001 0, .ptr 100002 0] [(100000, .box [enc (lvls c)]), (100001, .box (cells x)), (100002, .box [.fn (.func f) [] []])] (enc (T (sqS c x.gain n))) [(100000, .box [enc (lvls c)]), (100001, .box (cells x)), (100002, .box [.fn (.func f) [] []])] := by
  obtain ⟨o, g, l⟩ := x
  simp only at hg
  have hcl : cells (⟨o, g, l⟩ : Recv) = [.s (.int .i64 o), .s (.int .i64 g), .sl 2 (l.map cells)] := rfl
  rw [hcl]
  have hll := lvls_length c
  have hlb := lvls_bd hc
  have hp : 2 ^ c ≤ 8 := by rcases hc with rfl | rfl | rfl <;> decide
  have hsq : sqS c g n = (lvls c).map fun l => (n - l * g) * (n - l * g) := rfl
  generalize lvls c = L at *
  refine fc_introC [] is136 (by simp) (by simp [bS]) (by simp [aI, aG, b0]) (by simp [aI, aG, b0]) (by simp [au, lk]) (fun cx _ _ _ => S_run [] 800 ?_)
  delta c136
  simp (maxSteps := 4000000) -implicitDefEqProofs only [rv136, InR, Ent.of0, Ent.of1, Ent.of2, Ent.of3, V, bX, bo, bF, cG, cW, cP, gt, lk, cu, bQ, cr, cz, ce, cj, cj.subCs, cT, bG, a3, b0, aY, aZ, bA, aw, a8, bD, aO, bu, aB, bP, cV, cR, aj, aA, bZ, bR, bN, cU, cK, aE, ap, cp, bz, zC, argS, bI, cd, cN, cJ, ak, aM, aT, aD, bL, leC, bV, cC, bW, cI, cF, aI, aG, cY, aq, bT, a4, a4.viewCs, bn, bn.flatCs, aU, aU.LensOks, Value.oneCell', ↓reduceIte, ite_true, ite_false, if_true, if_false, Nat.reduceAdd, Nat.reduceSub, Nat.reduceMul, Nat.reduceEqDiff, Nat.reduceLT, Nat.reduceLeDiff, reduceCtorEq, Int.reduceToNat, forall_const, implies_true, br, Ent.mk3, bl, bB, a5, be, bC, a0, bj, bp, bH, bk, bE, bK, bt, cQ, rn, cm, cm.renCs, az, aL, aR, aR.viewOks, aH, bf, bf.flatBs, aP, ah, aX, ag, aV, bw, bw.keysBs, aN, ar, a6, bY, bq, cc, ae, ae.passKs, ay, aK, af, af.lendKs, cH, cD, cq, a7, setInn, ai, cM, cO, aC, a9, bM, bU, aJ, av, Glob.gl, ax, cn, bJ, ca, bv, au, bS, cL, cb, cS, co, an, an.ptrOnlys, am, aQ, cB, aW, bg, bm, bO, aF, bh, cg, Nat.reduceBEq, undef]
  refine S_forU L.length (fun i => [(11, .s (.int .i64 (i : Int)))]) (fun i => [(6, .row 1 3 (((L.take i).map fun l => (n - l * g) * (n - l * g)).map cells))]) (fun _ => True) trivial ?_ (fun i hi _ => S_run [.of2 f (fun a b => a = L ∧ b.length = 2 ^ c ∧ ∀ s ∈ b, 0 ≤ s ∧ s ≤ 4611686018427387903) (fun _ b => enc (T b)) (fun _ _ => trivial) (fun a b h => by obtain ⟨rfl, h1, h2⟩ := h; exact hf b h1 h2)] 800 ?_)
  · simp (maxSteps := 4000000) -implicitDefEqProofs only [Ent.of0, Ent.of1, Ent.of2, Ent.of3, V, bX, bo, bF, cG, cW, cP, gt, lk, cu, bQ, cr, cz, ce, cj, cj.subCs, cT, bG, a3, b0, aY, aZ, bA, aw, a8, bD, aO, bu, aB, bP, cV, cR, aj, aA, bZ, bR, bN, cU, cK, aE, ap, cp, bz, zC, argS, bI, cd, cN, cJ, ak, aM, aT, aD, bL, leC, bV, cC, bW, cI, cF, aI, aG, cY, aq, bT, a4, a4.viewCs, bn, bn.flatCs, aU, aU.LensOks, Value.oneCell', ↓reduceIte, ite_true, ite_false, if_true, if_false, Nat.reduceAdd, Nat.reduceSub, Nat.reduceMul, Nat.reduceEqDiff, Nat.reduceLT, Nat.reduceLeDiff, reduceCtorEq, Int.reduceToNat, forall_const, implies_true, br, Ent.mk3, bl, bB, a5, be, bC, a0, bj, bp, bH, bk, bE, bK, bt, cQ, rn, cm, cm.renCs, az, aL, aR, aR.viewOks, aH, bf, bf.flatBs, aP, ah, aX, ag, aV, bw, bw.keysBs, aN, ar, a6, bY, bq, cc, ae, ae.passKs, ay, aK, af, af.lendKs, cH, cD, cq, a7, setInn, ai, cM, cO, aC, a9, bM, bU, aJ, av, Glob.gl, ax, cn, bJ, ca, bv, au, bS, cL, cb, cS, co, an, an.ptrOnlys, am, aQ, cB, aW, bg, bm, bO, aF, bh, cg, Nat.reduceBEq, undef]; simp
  · by_cases h : i < L.length
    · have hi2 : (i : Int) < (L.length : Int) := by omega
      have hm : L.getD i 0 ∈ L := by rw [List.getD_eq_getElem?_getD, List.getElem?_eq_getElem h]; exact List.getElem_mem _
      have b1 := lg_bd (hlb _ hm) hg
      have b2 := sq_bd (d := n - L.getD i 0 * g) (B := 170000000) (by omega)
      have htk : ((L.take i).map fun l => (n - l * g) * (n - l * g)).map cells ++ [[C.s (.int .i64 ((n - L.getD i 0 * g) * (n - L.getD i 0 * g)))]] = ((L.take (i + 1)).map fun l => (n - l * g) * (n - l * g)).map cells := by
        rw [take_getD 0 h, List.map_append, List.map_append]; rfl
      have htl : (L.take i).length = i := by rw [List.length_take]; omega
      delta c136l1
      simp (maxSteps := 4000000) -implicitDefEqProofs only [hi2, h, htk, InR, Ent.of0, Ent.of1, Ent.of2, Ent.of3, V, bX, bo, bF, cG, cW, cP, gt, lk, cu, bQ, cr, cz, ce, cj, cj.subCs, cT, bG, a3, b0, aY, aZ, bA, aw, a8, bD, aO, bu, aB, bP, cV, cR, aj, aA, bZ, bR, bN, cU, cK, aE, ap, cp, bz, zC, argS, bI, cd, cN, cJ, ak, aM, aT, aD, bL, leC, bV, cC, bW, cI, cF, aI, aG, cY, aq, bT, a4, a4.viewCs, bn, bn.flatCs, aU, aU.LensOks, Value.oneCell', ↓reduceIte, ite_true, ite_false, if_true, if_false, Nat.reduceAdd, Nat.reduceSub, Nat.reduceMul, Nat.reduceEqDiff, Nat.reduceLT, Nat.reduceLeDiff, reduceCtorEq, Int.reduceToNat, forall_const, implies_true, br, Ent.mk3, bl, bB, a5, be, bC, a0, bj, bp, bH, bk, bE, bK, bt, cQ, rn, cm, cm.renCs, az, aL, aR, aR.viewOks, aH, bf, bf.flatBs, aP, ah, aX, ag, aV, bw, bw.keysBs, aN, ar, a6, bY, bq, cc, ae, ae.passKs, ay, aK, af, af.lendKs, cH, cD, cq, a7, setInn, ai, cM, cO, aC, a9, bM, bU, aJ, av, Glob.gl, ax, cn, bJ, ca, bv, au, bS, cL, cb, cS, co, an, an.ptrOnlys, am, aQ, cB, aW, bg, bm, bO, aF, bh, cg, Nat.reduceBEq, undef]
      exact ⟨by omega, by omega, by omega, by omega, by omega, by omega, by omega, by omega, by push_cast; rfl⟩
    · have hi2 : ¬ (i : Int) < (L.length : Int) := by omega
      have hie : i = L.length := by omega
      subst hie
      have htk : L.take L.length = L := List.take_length
      delta c136l1
      simp (maxSteps := 4000000) -implicitDefEqProofs only [hi2, rv136, htk, hsq, InR, Ent.of0, Ent.of1, Ent.of2, Ent.of3, V, bX, bo, bF, cG, cW, cP, gt, lk, cu, bQ, cr, cz, ce, cj, cj.subCs, cT, bG, a3, b0, aY, aZ, bA, aw, a8, bD, aO, bu, aB, bP, cV, cR, aj, aA, bZ, bR, bN, cU, cK, aE, ap, cp, bz, zC, argS, bI, cd, cN, cJ, ak, aM, aT, aD, bL, leC, bV, cC, bW, cI, cF, aI, aG, cY, aq, bT, a4, a4.viewCs, bn, bn.flatCs, aU, aU.LensOks, Value.oneCell', ↓reduceIte, ite_true, ite_false, if_true, if_false, Nat.reduceAdd, Nat.reduceSub, Nat.reduceMul, Nat.reduceEqDiff, Nat.reduceLT, Nat.reduceLeDiff, reduceCtorEq, Int.reduceToNat, forall_const, implies_true, br, Ent.mk3, bl, bB, a5, be, bC, a0, bj, bp, bH, bk, bE, bK, bt, cQ, rn, cm, cm.renCs, az, aL, aR, aR.viewOks, aH, bf, bf.flatBs, aP, ah, aX, ag, aV, bw, bw.keysBs, aN, ar, a6, bY, bq, cc, ae, ae.passKs, ay, aK, af, af.lendKs, cH, cD, cq, a7, setInn, ai, cM, cO, aC, a9, bM, bU, aJ, av, Glob.gl, ax, cn, bJ, ca, bv, au, bS, cL, cb, cS, co, an, an.ptrOnlys, am, aQ, cB, aW, bg, bm, bO, aF, bh, cg, Nat.reduceBEq, undef]
      refine ⟨hll, fun s hs => ?_⟩
      obtain ⟨t, ht, rfl⟩ := List.mem_map.1 hs
      have b1 := lg_bd (hlb _ ht) hg
      have b2 := sq_bd (d := n - t * g) (B := 170000000) (by omega)
      omega
end Go.Proofs.Ytfgpbmjmoobcnaa
end
section
open Go Go.Am
open Go.Am.Dat (cells)
namespace Go.Proofs.Ytfgpbmjmoobcnaa
set_option maxHeartbeats 4000000
set_option maxRecDepth 20000
set_option linter.unusedSimpArgs false
def RepR (a : List Fz) (r : List Gs) : Prop := a.length = r.length ∧ ∀ i, i < r.length → IsC (a.getD i ⟨0, 0⟩) (r.getD i ⟨0, 0⟩)
def RepM (a : List (List Fz)) (m : List (List Gs)) : Prop := a.length = m.length ∧ ∀ i, i < m.length → RepR (a.getD i []) (m.getD i [])
def gridS (m : List (List Gs)) : List (List Fz) := m.map fun r => r.map toW
theorem getD_map' {α β : Type} (f : α → β) (l : List α) (i : Nat) (d : α) (e : β) (h : i < l.length) : (l.map f).getD i e = f (l.getD i d) := by
  rw [List.getD_eq_getElem?_getD, List.getD_eq_getElem?_getD, List.getElem?_map, List.getElem?_eq_getElem h]; rfl
theorem grid_rep {m : List (List Gs)} (h : ∀ r ∈ m, ∀ g ∈ r, bd g 9007199254740991) : RepM (gridS m) m := by
  refine ⟨by simp [gridS], fun i hi => ?_⟩
  rw [gridS, getD_map' _ m i [] [] hi]
  refine ⟨by simp, fun j hj => ?_⟩
  rw [getD_map' _ _ j ⟨0, 0⟩ _ hj]
  exact isC_toW (h _ (getD_mem [] hi) _ (getD_mem _ hj))
theorem gridOf_c (m : List (List Gs)) (hm : m.length ≤ 1000) (hr : ∀ r ∈ m, r.length ≤ 1000000) : FC Try.prog 84 [enc m] [] (enc (gridS m)) [] := by
  refine fc_intro' is84 (by simp) (fun cx hl => S_run [] 800 ?_)
  delta c84
  simp (maxSteps := 4000000) -implicitDefEqProofs only [rv84, Ent.of0, Ent.of1, Ent.of2, Ent.of3, V, bX, bo, bF, cG, cW, cP, gt, lk, cu, bQ, cr, cz, ce, cj, cj.subCs, cT, bG, a3, b0, aY, aZ, bA, aw, a8, bD, aO, bu, aB, bP, cV, cR, aj, aA, bZ, bR, bN, cU, cK, aE, ap, cp, bz, zC, argS, bI, cd, cN, cJ, ak, aM, aT, aD, bL, leC, bV, cC, bW, cI, cF, aI, aG, cY, aq, bT, a4, a4.viewCs, bn, bn.flatCs, aU, aU.LensOks, Value.oneCell', ↓reduceIte, ite_true, ite_false, if_true, if_false, Nat.reduceAdd, Nat.reduceSub, Nat.reduceMul, Nat.reduceEqDiff, Nat.reduceLT, Nat.reduceLeDiff, reduceCtorEq, Int.reduceToNat, forall_const, implies_true, br, Ent.mk3, bl, bB, a5, be, bC, a0, bj, bp, bH, bk, bE, bK, bt, cQ, rn, cm, cm.renCs, az, aL, aR, aR.viewOks, aH, bf, bf.flatBs, aP, ah, aX, ag, aV, bw, bw.keysBs, aN, ar, a6, bY, bq, cc, ae, ae.passKs, ay, aK, af, af.lendKs, cH, cD, cq, a7, setInn, ai, cM, cO, aC, a9, bM, bU, aJ, av, Glob.gl, ax, cn, bJ, ca, bv, au, bS, cL, cb, cS, co, an, an.ptrOnlys, am, aQ, cB, aW, bg, bm, bO, aF, bh, cg, Nat.reduceBEq, undef]
  refine S_forU m.length (fun i => [(11, .s (.int .i64 i))]) (fun i => [(3, .row 1 152 ((gridS (m.take i)).map cells))]) (fun _ => True) trivial ?_ (fun i hi _ => S_run [] 800 ?_)
  · simp (maxSteps := 4000000) -implicitDefEqProofs only [gridS, Ent.of0, Ent.of1, Ent.of2, Ent.of3, V, bX, bo, bF, cG, cW, cP, gt, lk, cu, bQ, cr, cz, ce, cj, cj.subCs, cT, bG, a3, b0, aY, aZ, bA, aw, a8, bD, aO, bu, aB, bP, cV, cR, aj, aA, bZ, bR, bN, cU, cK, aE, ap, cp, bz, zC, argS, bI, cd, cN, cJ, ak, aM, aT, aD, bL, leC, bV, cC, bW, cI, cF, aI, aG, cY, aq, bT, a4, a4.viewCs, bn, bn.flatCs, aU, aU.LensOks, Value.oneCell', ↓reduceIte, ite_true, ite_false, if_true, if_false, Nat.reduceAdd, Nat.reduceSub, Nat.reduceMul, Nat.reduceEqDiff, Nat.reduceLT, Nat.reduceLeDiff, reduceCtorEq, Int.reduceToNat, forall_const, implies_true, br, Ent.mk3, bl, bB, a5, be, bC, a0, bj, bp, bH, bk, bE, bK, bt, cQ, rn, cm, cm.renCs, az, aL, aR, aR.viewOks, aH, bf, bf.flatBs, aP, ah, aX, ag, aV, bw, bw.keysBs, aN, ar, a6, bY, bq, cc, ae, ae.passKs, ay, aK, af, af.lendKs, cH, cD, cq, a7, setInn, ai, cM, cO, aC, a9, bM, bU, aJ, av, Glob.gl, ax, cn, bJ, ca, bv, au, bS, cL, cb, cS, co, an, an.ptrOnlys, am, aQ, cB, aW, bg, bm, bO, aF, bh, cg, Nat.reduceBEq, undef]; simp
  · by_cases h : i < m.length
    · have hi2 : (i : Int) < (m.length : Int) := by omega
      have hrl := hr _ (getD_mem [] h)
      delta c84l2
      simp (maxSteps := 4000000) -implicitDefEqProofs only [hi2, getD_list, h, Ent.of0, Ent.of1, Ent.of2, Ent.of3, V, bX, bo, bF, cG, cW, cP, gt, lk, cu, bQ, cr, cz, ce, cj, cj.subCs, cT, bG, a3, b0, aY, aZ, bA, aw, a8, bD, aO, bu, aB, bP, cV, cR, aj, aA, bZ, bR, bN, cU, cK, aE, ap, cp, bz, zC, argS, bI, cd, cN, cJ, ak, aM, aT, aD, bL, leC, bV, cC, bW, cI, cF, aI, aG, cY, aq, bT, a4, a4.viewCs, bn, bn.flatCs, aU, aU.LensOks, Value.oneCell', ↓reduceIte, ite_true, ite_false, if_true, if_false, Nat.reduceAdd, Nat.reduceSub, Nat.reduceMul, Nat.reduceEqDiff, Nat.reduceLT, Nat.reduceLeDiff, reduceCtorEq, Int.reduceToNat, forall_const, implies_true, br, Ent.mk3, bl, bB, a5, be, bC, a0, bj, bp, bH, bk, bE, bK, bt, cQ, rn, cm, cm.renCs, az, aL, aR, aR.viewOks, aH, bf, bf.flatBs, aP, ah, aX, ag, aV, bw, bw.keysBs, aN, ar, a6, bY, bq, cc, ae, ae.passKs, ay, aK, af, af.lendKs, cH, cD, cq, a7, setInn, ai, cM, cO, aC, a9, bM, bU, aJ, av, Glob.gl, ax, cn, bJ, ca, bv, au, bS, cL, cb, cS, co, an, an.ptrOnlys, am, aQ, cB, aW, bg, bm, bO, aF, bh, cg, Nat.reduceBEq, undef]
      refine ⟨by omega, ?_⟩
      generalize hR : m.getD i [] = R at *
      refine S_forU R.length (fun j => [(17, .s (.int .i64 j))]) (fun j => [(6, .row 1 153 (((R.take j).map toW).map cells))]) (fun _ => True) trivial ?_ (fun j hj _ => S_run [] 800 ?_)
      · simp (maxSteps := 4000000) -implicitDefEqProofs only [Ent.of0, Ent.of1, Ent.of2, Ent.of3, V, bX, bo, bF, cG, cW, cP, gt, lk, cu, bQ, cr, cz, ce, cj, cj.subCs, cT, bG, a3, b0, aY, aZ, bA, aw, a8, bD, aO, bu, aB, bP, cV, cR, aj, aA, bZ, bR, bN, cU, cK, aE, ap, cp, bz, zC, argS, bI, cd, cN, cJ, ak, aM, aT, aD, bL, leC, bV, cC, bW, cI, cF, aI, aG, cY, aq, bT, a4, a4.viewCs, bn, bn.flatCs, aU, aU.LensOks, Value.oneCell', ↓reduceIte, ite_true, ite_false, if_true, if_false, Nat.reduceAdd, Nat.reduceSub, Nat.reduceMul, Nat.reduceEqDiff, Nat.reduceLT, Nat.reduceLeDiff, reduceCtorEq, Int.reduceToNat, forall_const, implies_true, br, Ent.mk3, bl, bB, a5, be, bC, a0, bj, bp, bH, bk, bE, bK, bt, cQ, rn, cm, cm.renCs, az, aL, aR, aR.viewOks, aH, bf, bf.flatBs, aP, ah, aX, ag, aV, bw, bw.keysBs, aN, ar, a6, bY, bq, cc, ae, ae.passKs, ay, aK, af, af.lendKs, cH, cD, cq, a7, setInn, ai, cM, cO, aC, a9, bM, bU, aJ, av, Glob.gl, ax, cn, bJ, ca, bv, au, bS, cL, cb, cS, co, an, an.ptrOnlys, am, aQ, cB, aW, bg, bm, bO, aF, bh, cg, Nat.reduceBEq, undef]; simp
      · by_cases hjl : j < R.length
        · have hj2 : (j : Int) < (R.length : Int) := by omega
          have htk : ((R.take j).map toW).map cells ++ [[C.s (.complex .f64 (FloatKind.f64.nearest (R.getD j ⟨0, 0⟩).re) (FloatKind.f64.nearest (R.getD j ⟨0, 0⟩).im))]] = ((R.take (j + 1)).map toW).map cells := by
            rw [take_getD ⟨0, 0⟩ hjl, List.map_append, List.map_append]; rfl
          have htl : (R.take j).length = j := by rw [List.length_take]; omega
          delta c84l1
          simp (maxSteps := 4000000) -implicitDefEqProofs only [hj2, hjl, bP, htk, htl, InR, Ent.of0, Ent.of1, Ent.of2, Ent.of3, V, bX, bo, bF, cG, cW, cP, gt, lk, cu, bQ, cr, cz, ce, cj, cj.subCs, cT, bG, a3, b0, aY, aZ, bA, aw, a8, bD, aO, bu, aB, bP, cV, cR, aj, aA, bZ, bR, bN, cU, cK, aE, ap, cp, bz, zC, argS, bI, cd, cN, cJ, ak, aM, aT, aD, bL, leC, bV, cC, bW, cI, cF, aI, aG, cY, aq, bT, a4, a4.viewCs, bn, bn.flatCs, aU, aU.LensOks, Value.oneCell', ↓reduceIte, ite_true, ite_false, if_true, if_false, Nat.reduceAdd, Nat.reduceSub, Nat.reduceMul, Nat.reduceEqDiff, Nat.reduceLT, Nat.reduceLeDiff, reduceCtorEq, Int.reduceToNat, forall_const, implies_true, br, Ent.mk3, bl, bB, a5, be, bC, a0, bj, bp, bH, bk, bE, bK, bt, cQ, rn, cm, cm.renCs, az, aL, aR, aR.viewOks, aH, bf, bf.flatBs, aP, ah, aX, ag, aV, bw, bw.keysBs, aN, ar, a6, bY, bq, cc, ae, ae.passKs, ay, aK, af, af.lendKs, cH, cD, cq, a7, setInn, ai, cM, cO, aC, a9, bM, bU, aJ, av, Glob.gl, ax, cn, bJ, ca, bv, au, bS, cL, cb, cS, co, an, an.ptrOnlys, am, aQ, cB, aW, bg, bm, bO, aF, bh, cg, Nat.reduceBEq, undef]
          and_intros <;> first | omega | rfl | trivial
        · have : j = R.length := by omega
          subst this
          have hj2 : ¬ (R.length : Int) < (R.length : Int) := by omega
          have htk : (gridS (m.take i)).map cells ++ [[C.sl 1 ((R.map toW).map cells)]] = (gridS (m.take (i + 1))).map cells := by
            rw [take_getD [] h, hR, gridS, gridS, List.map_append, List.map_append]; rfl
          have htl : (gridS (m.take i)).length = i := by rw [gridS, List.length_map, List.length_take]; omega
          delta c84l1
          simp (maxSteps := 4000000) -implicitDefEqProofs only [hj2, List.take_length, htk, htl, InR, Ent.of0, Ent.of1, Ent.of2, Ent.of3, V, bX, bo, bF, cG, cW, cP, gt, lk, cu, bQ, cr, cz, ce, cj, cj.subCs, cT, bG, a3, b0, aY, aZ, bA, aw, a8, bD, aO, bu, aB, bP, cV, cR, aj, aA, bZ, bR, bN, cU, cK, aE, ap, cp, bz, zC, argS, bI, cd, cN, cJ, ak, aM, aT, aD, bL, leC, bV, cC, bW, cI, cF, aI, aG, cY, aq, bT, a4, a4.viewCs, bn, bn.flatCs, aU, aU.LensOks, Value.oneCell', ↓reduceIte, ite_true, ite_false, if_true, if_false, Nat.reduceAdd, Nat.reduceSub, Nat.reduceMul, Nat.reduceEqDiff, Nat.reduceLT, Nat.reduceLeDiff, reduceCtorEq, Int.reduceToNat, forall_const, implies_true, br, Ent.mk3, bl, bB, a5, be, bC, a0, bj, bp, bH, bk, bE, bK, bt, cQ, rn, cm, cm.renCs, az, aL, aR, aR.viewOks, aH, bf, bf.flatBs, aP, ah, aX, ag, aV, bw, bw.keysBs, aN, ar, a6, bY, bq, cc, ae, ae.passKs, ay, aK, af, af.lendKs, cH, cD, cq, a7, setInn, ai, cM, cO, aC, a9, bM, bU, aJ, av, Glob.gl, ax, cn, bJ, ca, bv, au, bS, cL, cb, cS, co, an, an.ptrOnlys, am, aQ, cB, aW, bg, bm, bO, aF, bh, cg, Nat.reduceBEq, undef]
          and_intros <;> first | omega | rfl | trivial
    · have : i = m.length := by omega
      subst this
      have hi2 : ¬ (m.length : Int) < (m.length : Int) := by omega
      delta c84l2
      simp (maxSteps := 4000000) -implicitDefEqProofs only [hi2, rv84, List.take_length, Ent.of0, Ent.of1, Ent.of2, Ent.of3, V, bX, bo, bF, cG, cW, cP, gt, lk, cu, bQ, cr, cz, ce, cj, cj.subCs, cT, bG, a3, b0, aY, aZ, bA, aw, a8, bD, aO, bu, aB, bP, cV, cR, aj, aA, bZ, bR, bN, cU, cK, aE, ap, cp, bz, zC, argS, bI, cd, cN, cJ, ak, aM, aT, aD, bL, leC, bV, cC, bW, cI, cF, aI, aG, cY, aq, bT, a4, a4.viewCs, bn, bn.flatCs, aU, aU.LensOks, Value.oneCell', ↓reduceIte, ite_true, ite_false, if_true, if_false, Nat.reduceAdd, Nat.reduceSub, Nat.reduceMul, Nat.reduceEqDiff, Nat.reduceLT, Nat.reduceLeDiff, reduceCtorEq, Int.reduceToNat, forall_const, implies_true, br, Ent.mk3, bl, bB, a5, be, bC, a0, bj, bp, bH, bk, bE, bK, bt, cQ, rn, cm, cm.renCs, az, aL, aR, aR.viewOks, aH, bf, bf.flatBs, aP, ah, aX, ag, aV, bw, bw.keysBs, aN, ar, a6, bY, bq, cc, ae, ae.passKs, ay, aK, af, af.lendKs, cH, cD, cq, a7, setInn, ai, cM, cO, aC, a9, bM, bU, aJ, av, Glob.gl, ax, cn, bJ, ca, bv, au, bS, cL, cb, cS, co, an, an.ptrOnlys, am, aQ, cB, aW, bg, bm, bO, aF, bh, cg, Nat.reduceBEq, undef]
def e84 : Ent Try.prog := .of1 84 (fun m => m.length ≤ 1000 ∧ ∀ r ∈ m, r.length ≤ 1000000) (fun m : List (List Gs) => enc (gridS m)) (fun _ => trivial) (fun m h => gridOf_c m h.1 h.2)
end Go.Proofs.Ytfgpbmjmoobcnaa
end
section
open Go Go.Am
open Go.Am.Dat (cells)
namespace Go.Proofs.Ytfgpbmjmoobcnaa
set_option maxHeartbeats 4000000
set_option maxRecDepth 20000
set_option linter.unusedSimpArgs false
def dotW (row : List Fz) (o : List (List Fz)) (i : Nat) : Nat → Fz
  | 0 => ⟨0, 0⟩
  | k + 1 => addW (dotW row o i k) (mulW (row.getD k ⟨0, 0⟩) ((o.getD k []).getD i ⟨0, 0⟩))
def rowW (o : List (List Fz)) (row : List Fz) : List Fz := (List.range (o.getD 0 []).length).map fun i => dotW row o i o.length
def timesW (a o : List (List Fz)) : List (List Fz) := a.map (rowW o)
def sumW (row : List Fz) (o : List (List Fz)) (n k j : Nat) : List Fz := (List.range n).map fun i => if i < j then dotW row o i (k + 1) else dotW row o i k
theorem sumW_get {row : List Fz} {o : List (List Fz)} {n k j : Nat} (h : j < n) : (sumW row o n k j).getD j ⟨0, 0⟩ = dotW row o j k := by
  simp [sumW, h]
theorem sumW_set {row : List Fz} {o : List (List Fz)} {n k j : Nat} (h : j < n) : ((sumW row o n k j).map cells).set j [C.s (.complex .f64 (dotW row o j (k + 1)).x (dotW row o j (k + 1)).y)] = (sumW row o n k (j + 1)).map cells := by
  have e : [C.s (.complex .f64 (dotW row o j (k + 1)).x (dotW row o j (k + 1)).y)] = cells (dotW row o j (k + 1)) := rfl
  rw [e, ← List.map_set]
  congr 1
  apply List.ext_getElem?
  intro i
  simp only [sumW, List.getElem?_set, List.getElem?_map, List.length_map, List.length_range]
  by_cases hi : j = i
  · subst hi; simp [h]
  · rw [if_neg hi]
    by_cases hin : i < n
    · simp only [List.getElem?_range hin, Option.map_some, Option.some.injEq]
      have : (i < j + 1) = (i < j) := by apply propext; omega
      simp only [this]
    · rw [List.getElem?_eq_none (by simpa using hin)]; rfl
theorem sumW_next (row : List Fz) (o : List (List Fz)) (n k : Nat) : sumW row o n k n = sumW row o n (k + 1) 0 := by
  unfold sumW
  refine List.map_congr_left fun i hi => ?_
  have : i < n := by simpa using hi
  simp [this]
theorem rng_getD {α : Type} {n i : Nat} (f : Nat → α) (d : α) (h : i < n) : ((List.range n).map f).getD i d = f i := by
  rw [List.getD_eq_getElem?_getD, List.getElem?_map, List.getElem?_range h]; rfl
theorem sumW_zero (row : List Fz) (o : List (List Fz)) (n : Nat) : (sumW row o n 0 0).map cells = List.replicate n [C.s (.complex .f64 0 0)] := by
  unfold sumW
  rw [List.map_map, List.eq_replicate_iff]
  refine ⟨by simp, fun b hb => ?_⟩
  obtain ⟨i, _, rfl⟩ := List.mem_map.1 hb
  simp [dotW, cells_fz]
theorem dot_c {a o : List (List Fz)} {m ls : List (List Gs)} {A B : Nat} (hf : Fits m ls A B) (hs : 8 * (A * B) ≤ 9007199254740991) (ha : RepM a m) (ho : RepM o ls) {r i : Nat} (hr : r < m.length) (hi : i < (ls.getD 0 []).length) : ∀ k, k ≤ ls.length → IsC (dotW (a.getD r []) o i k) (dotS (m.getD r []) ls i k) ∧
    (k < ls.length → aA .mul ((a.getD r []).getD k ⟨0, 0⟩).x ((a.getD r []).getD k ⟨0, 0⟩).y ((o.getD k []).getD i ⟨0, 0⟩).x ((o.getD k []).getD i ⟨0, 0⟩).y = some ((mulW ((a.getD r []).getD k ⟨0, 0⟩) ((o.getD k []).getD i ⟨0, 0⟩)).x, (mulW ((a.getD r []).getD k ⟨0, 0⟩) ((o.getD k []).getD i ⟨0, 0⟩)).y) ∧
      aA .add (dotW (a.getD r []) o i k).x (dotW (a.getD r []) o i k).y (mulW ((a.getD r []).getD k ⟨0, 0⟩) ((o.getD k []).getD i ⟨0, 0⟩)).x (mulW ((a.getD r []).getD k ⟨0, 0⟩) ((o.getD k []).getD i ⟨0, 0⟩)).y = some ((dotW (a.getD r []) o i (k + 1)).x, (dotW (a.getD r []) o i (k + 1)).y) ∧
      IsC (dotW (a.getD r []) o i (k + 1)) (dotS (m.getD r []) ls i (k + 1))) := by
  have hrm : m.getD r [] ∈ m := getD_mem [] hr
  have hcol := hf.cols _ hrm
  have step : ∀ k, k < ls.length → IsC (dotW (a.getD r []) o i k) (dotS (m.getD r []) ls i k) → (aA .mul ((a.getD r []).getD k ⟨0, 0⟩).x ((a.getD r []).getD k ⟨0, 0⟩).y ((o.getD k []).getD i ⟨0, 0⟩).x ((o.getD k []).getD i ⟨0, 0⟩).y = some ((mulW ((a.getD r []).getD k ⟨0, 0⟩) ((o.getD k []).getD i ⟨0, 0⟩)).x, (mulW ((a.getD r []).getD k ⟨0, 0⟩) ((o.getD k []).getD i ⟨0, 0⟩)).y) ∧
      aA .add (dotW (a.getD r []) o i k).x (dotW (a.getD r []) o i k).y (mulW ((a.getD r []).getD k ⟨0, 0⟩) ((o.getD k []).getD i ⟨0, 0⟩)).x (mulW ((a.getD r []).getD k ⟨0, 0⟩) ((o.getD k []).getD i ⟨0, 0⟩)).y = some ((dotW (a.getD r []) o i (k + 1)).x, (dotW (a.getD r []) o i (k + 1)).y) ∧
      IsC (dotW (a.getD r []) o i (k + 1)) (dotS (m.getD r []) ls i (k + 1))) := fun k hk hd => by
    have hik : i < (ls.getD k []).length := by rw [hf.len _ (getD_mem [] hk)]; exact hi
    have b1 := hf.ma _ hrm _ (getD_mem ⟨0, 0⟩ (by omega : k < (m.getD r []).length))
    have b2 := hf.mb _ (getD_mem [] hk) _ (getD_mem ⟨0, 0⟩ hik)
    have b3 := bd_dot hf hrm hi k (by omega)
    have hle := hf.le
    obtain ⟨m1, m2⟩ := mulW_c ((ha.2 r hr).2 k (by omega)) ((ho.2 k hk).2 i hik) b1 b2 (by omega)
    have b4 := bd_gmul b1 b2
    obtain ⟨a1, a2⟩ := addW_c hd m2 b3 b4 (by
      have : k * (2 * (A * B)) ≤ 3 * (2 * (A * B)) := Nat.mul_le_mul_right _ (by omega)
      omega)
    exact ⟨m1, a1, a2⟩
  intro k
  induction k with
  | zero => intro _; exact ⟨isC_zero, fun h => step 0 h isC_zero⟩
  | succ k ih =>
    intro hk
    have := ((ih (by omega)).2 (by omega)).2.2
    exact ⟨this, fun h => step (k + 1) h this⟩
theorem times_rep {a o : List (List Fz)} {m ls : List (List Gs)} {A B : Nat} (hf : Fits m ls A B) (hs : 8 * (A * B) ≤ 9007199254740991) (ha : RepM a m) (ho : RepM o ls) : RepM (timesW a o) (applS m ls) := by
  have hp := hf.pos
  refine ⟨by simp [timesW, applS, ha.1], fun r hr => ?_⟩
  have hr' : r < m.length := by simpa [applS] using hr
  rw [timesW, applS, getD_map' _ a r [] [] (by rw [ha.1]; exact hr'), getD_map' _ m r [] [] hr']
  have hl : (o.getD 0 []).length = (ls.getD 0 []).length := (ho.2 0 hp).1
  refine ⟨by simp only [rowW, rowS', List.length_map, List.length_range, hl], fun i hi => ?_⟩
  have hi' : i < (ls.getD 0 []).length := by simpa [rowS'] using hi
  have := (dot_c hf hs ha ho hr' hi' ls.length (Nat.le_refl _)).1
  have e1 : (rowW o (a.getD r [])).getD i ⟨0, 0⟩ = dotW (a.getD r []) o i ls.length := by rw [rowW, hl, ho.1, rng_getD _ _ hi']
  have e2 : (rowS' ls (m.getD r [])).getD i ⟨0, 0⟩ = dotS (m.getD r []) ls i ls.length := by rw [rowS', rng_getD _ _ hi']
  rw [e1, e2]; exact this
theorem gridTimes_c (a o : List (List Fz)) (m ls : List (List Gs)) (A B : Nat) (hf : Fits m ls A B) (hs : 8 * (A * B) ≤ 9007199254740991) (ha : RepM a m) (ho : RepM o ls) : FC Try.prog 86 [enc a, enc o] [] (enc (timesW a o)) [] := by
  refine fc_intro' is86 (by simp) (fun cx hl => S_run [] 800 ?_)
  have hp := hf.pos
  have hle := hf.le
  have hmle := hf.mle
  have hsh := hf.short
  have hoL := ho.1
  have haL := ha.1
  have hn0 : (o.getD 0 []).length = (ls.getD 0 []).length := (ho.2 0 hp).1
  generalize hn : (ls.getD 0 []).length = n at *
  have ho0 : 0 < o.length := by omega
  delta c86
  simp (maxSteps := 4000000) -implicitDefEqProofs only [rv86, Ent.of0, Ent.of1, Ent.of2, Ent.of3, V, bX, bo, bF, cG, cW, cP, gt, lk, cu, bQ, cr, cz, ce, cj, cj.subCs, cT, bG, a3, b0, aY, aZ, bA, aw, a8, bD, aO, bu, aB, bP, cV, cR, aj, aA, bZ, bR, bN, cU, cK, aE, ap, cp, bz, zC, argS, bI, cd, cN, cJ, ak, aM, aT, aD, bL, leC, bV, cC, bW, cI, cF, aI, aG, cY, aq, bT, a4, a4.viewCs, bn, bn.flatCs, aU, aU.LensOks, Value.oneCell', ↓reduceIte, ite_true, ite_false, if_true, if_false, Nat.reduceAdd, Nat.reduceSub, Nat.reduceMul, Nat.reduceEqDiff, Nat.reduceLT, Nat.reduceLeDiff, reduceCtorEq, Int.reduceToNat, forall_const, implies_true, br, Ent.mk3, bl, bB, a5, be, bC, a0, bj, bp, bH, bk, bE, bK, bt, cQ, rn, cm, cm.renCs, az, aL, aR, aR.viewOks, aH, bf, bf.flatBs, aP, ah, aX, ag, aV, bw, bw.keysBs, aN, ar, a6, bY, bq, cc, ae, ae.passKs, ay, aK, af, af.lendKs, cH, cD, cq, a7, setInn, ai, cM, cO, aC, a9, bM, bU, aJ, av, Glob.gl, ax, cn, bJ, ca, bv, au, bS, cL, cb, cS, co, an, an.ptrOnlys, am, aQ, cB, aW, bg, bm, bO, aF, bh, cg, Nat.reduceBEq, undef]
  refine S_forU a.length (fun i => [(15, .s (.int .i64 i))]) (fun i => [(5, .row 1 152 ((timesW (a.take i) o).map cells))]) (fun _ => True) trivial ?_ (fun i hi _ => S_run [] 800 ?_)
  · simp (maxSteps := 4000000) -implicitDefEqProofs only [timesW, Ent.of0, Ent.of1, Ent.of2, Ent.of3, V, bX, bo, bF, cG, cW, cP, gt, lk, cu, bQ, cr, cz, ce, cj, cj.subCs, cT, bG, a3, b0, aY, aZ, bA, aw, a8, bD, aO, bu, aB, bP, cV, cR, aj, aA, bZ, bR, bN, cU, cK, aE, ap, cp, bz, zC, argS, bI, cd, cN, cJ, ak, aM, aT, aD, bL, leC, bV, cC, bW, cI, cF, aI, aG, cY, aq, bT, a4, a4.viewCs, bn, bn.flatCs, aU, aU.LensOks, Value.oneCell', ↓reduceIte, ite_true, ite_false, if_true, if_false, Nat.reduceAdd, Nat.reduceSub, Nat.reduceMul, Nat.reduceEqDiff, Nat.reduceLT, Nat.reduceLeDiff, reduceCtorEq, Int.reduceToNat, forall_const, implies_true, br, Ent.mk3, bl, bB, a5, be, bC, a0, bj, bp, bH, bk, bE, bK, bt, cQ, rn, cm, cm.renCs, az, aL, aR, aR.viewOks, aH, bf, bf.flatBs, aP, ah, aX, ag, aV, bw, bw.keysBs, aN, ar, a6, bY, bq, cc, ae, ae.passKs, ay, aK, af, af.lendKs, cH, cD, cq, a7, setInn, ai, cM, cO, aC, a9, bM, bU, aJ, av, Glob.gl, ax, cn, bJ, ca, bv, au, bS, cL, cb, cS, co, an, an.ptrOnlys, am, aQ, cB, aW, bg, bm, bO, aF, bh, cg, Nat.reduceBEq, undef]; simp
  · by_cases h : i < a.length
    · have hi2 : (i : Int) < (a.length : Int) := by omega
      have him : i < m.length := by omega
      have hcol : (a.getD i []).length = ls.length := by rw [(ha.2 i him).1]; exact hf.cols _ (getD_mem [] him)
      delta c86l3
      simp (maxSteps := 4000000) -implicitDefEqProofs only [sz_fz, hi2, getD_list, h, ho0, hn0, Int.toNat_natCast, InR, Ent.of0, Ent.of1, Ent.of2, Ent.of3, V, bX, bo, bF, cG, cW, cP, gt, lk, cu, bQ, cr, cz, ce, cj, cj.subCs, cT, bG, a3, b0, aY, aZ, bA, aw, a8, bD, aO, bu, aB, bP, cV, cR, aj, aA, bZ, bR, bN, cU, cK, aE, ap, cp, bz, zC, argS, bI, cd, cN, cJ, ak, aM, aT, aD, bL, leC, bV, cC, bW, cI, cF, aI, aG, cY, aq, bT, a4, a4.viewCs, bn, bn.flatCs, aU, aU.LensOks, Value.oneCell', ↓reduceIte, ite_true, ite_false, if_true, if_false, Nat.reduceAdd, Nat.reduceSub, Nat.reduceMul, Nat.reduceEqDiff, Nat.reduceLT, Nat.reduceLeDiff, reduceCtorEq, Int.reduceToNat, forall_const, implies_true, br, Ent.mk3, bl, bB, a5, be, bC, a0, bj, bp, bH, bk, bE, bK, bt, cQ, rn, cm, cm.renCs, az, aL, aR, aR.viewOks, aH, bf, bf.flatBs, aP, ah, aX, ag, aV, bw, bw.keysBs, aN, ar, a6, bY, bq, cc, ae, ae.passKs, ay, aK, af, af.lendKs, cH, cD, cq, a7, setInn, ai, cM, cO, aC, a9, bM, bU, aJ, av, Glob.gl, ax, cn, bJ, ca, bv, au, bS, cL, cb, cS, co, an, an.ptrOnlys, am, aQ, cB, aW, bg, bm, bO, aF, bh, cg, Nat.reduceBEq, undef]
      refine ⟨by omega, by omega, by omega, ?_⟩
      generalize hR : a.getD i [] = R at *
      refine S_forU R.length (fun k => [(26, .s (.int .i64 k))]) (fun k => [(23, .row 1 153 ((sumW R o n k 0).map cells))]) (fun _ => True) trivial ?_ (fun k hk _ => S_run [] 800 ?_)
      · simp (maxSteps := 4000000) -implicitDefEqProofs only [sumW_zero, Ent.of0, Ent.of1, Ent.of2, Ent.of3, V, bX, bo, bF, cG, cW, cP, gt, lk, cu, bQ, cr, cz, ce, cj, cj.subCs, cT, bG, a3, b0, aY, aZ, bA, aw, a8, bD, aO, bu, aB, bP, cV, cR, aj, aA, bZ, bR, bN, cU, cK, aE, ap, cp, bz, zC, argS, bI, cd, cN, cJ, ak, aM, aT, aD, bL, leC, bV, cC, bW, cI, cF, aI, aG, cY, aq, bT, a4, a4.viewCs, bn, bn.flatCs, aU, aU.LensOks, Value.oneCell', ↓reduceIte, ite_true, ite_false, if_true, if_false, Nat.reduceAdd, Nat.reduceSub, Nat.reduceMul, Nat.reduceEqDiff, Nat.reduceLT, Nat.reduceLeDiff, reduceCtorEq, Int.reduceToNat, forall_const, implies_true, br, Ent.mk3, bl, bB, a5, be, bC, a0, bj, bp, bH, bk, bE, bK, bt, cQ, rn, cm, cm.renCs, az, aL, aR, aR.viewOks, aH, bf, bf.flatBs, aP, ah, aX, ag, aV, bw, bw.keysBs, aN, ar, a6, bY, bq, cc, ae, ae.passKs, ay, aK, af, af.lendKs, cH, cD, cq, a7, setInn, ai, cM, cO, aC, a9, bM, bU, aJ, av, Glob.gl, ax, cn, bJ, ca, bv, au, bS, cL, cb, cS, co, an, an.ptrOnlys, am, aQ, cB, aW, bg, bm, bO, aF, bh, cg, Nat.reduceBEq, undef]; simp
      · by_cases hkl : k < R.length
        · have hk2 : (k : Int) < (R.length : Int) := by omega
          have hko : k < o.length := by omega
          have hkn : (o.getD k []).length = n := by rw [(ho.2 k (by omega)).1, ← hn]; exact hf.len _ (getD_mem [] (by omega))
          delta c86l2
          simp (maxSteps := 4000000) -implicitDefEqProofs only [hk2, hkl, hko, getD_list, getD_fz, sz_fz, Ent.of0, Ent.of1, Ent.of2, Ent.of3, V, bX, bo, bF, cG, cW, cP, gt, lk, cu, bQ, cr, cz, ce, cj, cj.subCs, cT, bG, a3, b0, aY, aZ, bA, aw, a8, bD, aO, bu, aB, bP, cV, cR, aj, aA, bZ, bR, bN, cU, cK, aE, ap, cp, bz, zC, argS, bI, cd, cN, cJ, ak, aM, aT, aD, bL, leC, bV, cC, bW, cI, cF, aI, aG, cY, aq, bT, a4, a4.viewCs, bn, bn.flatCs, aU, aU.LensOks, Value.oneCell', ↓reduceIte, ite_true, ite_false, if_true, if_false, Nat.reduceAdd, Nat.reduceSub, Nat.reduceMul, Nat.reduceEqDiff, Nat.reduceLT, Nat.reduceLeDiff, reduceCtorEq, Int.reduceToNat, forall_const, implies_true, br, Ent.mk3, bl, bB, a5, be, bC, a0, bj, bp, bH, bk, bE, bK, bt, cQ, rn, cm, cm.renCs, az, aL, aR, aR.viewOks, aH, bf, bf.flatBs, aP, ah, aX, ag, aV, bw, bw.keysBs, aN, ar, a6, bY, bq, cc, ae, ae.passKs, ay, aK, af, af.lendKs, cH, cD, cq, a7, setInn, ai, cM, cO, aC, a9, bM, bU, aJ, av, Glob.gl, ax, cn, bJ, ca, bv, au, bS, cL, cb, cS, co, an, an.ptrOnlys, am, aQ, cB, aW, bg, bm, bO, aF, bh, cg, Nat.reduceBEq, undef]
          refine ⟨by omega, by omega, ?_⟩
          refine S_forU n (fun j => [(36, .s (.int .i64 j))]) (fun j => [(23, .row 1 153 ((sumW R o n k j).map cells))]) (fun _ => True) trivial ?_ (fun j hj _ => S_run [] 800 ?_)
          · simp (maxSteps := 4000000) -implicitDefEqProofs only [Ent.of0, Ent.of1, Ent.of2, Ent.of3, V, bX, bo, bF, cG, cW, cP, gt, lk, cu, bQ, cr, cz, ce, cj, cj.subCs, cT, bG, a3, b0, aY, aZ, bA, aw, a8, bD, aO, bu, aB, bP, cV, cR, aj, aA, bZ, bR, bN, cU, cK, aE, ap, cp, bz, zC, argS, bI, cd, cN, cJ, ak, aM, aT, aD, bL, leC, bV, cC, bW, cI, cF, aI, aG, cY, aq, bT, a4, a4.viewCs, bn, bn.flatCs, aU, aU.LensOks, Value.oneCell', ↓reduceIte, ite_true, ite_false, if_true, if_false, Nat.reduceAdd, Nat.reduceSub, Nat.reduceMul, Nat.reduceEqDiff, Nat.reduceLT, Nat.reduceLeDiff, reduceCtorEq, Int.reduceToNat, forall_const, implies_true, br, Ent.mk3, bl, bB, a5, be, bC, a0, bj, bp, bH, bk, bE, bK, bt, cQ, rn, cm, cm.renCs, az, aL, aR, aR.viewOks, aH, bf, bf.flatBs, aP, ah, aX, ag, aV, bw, bw.keysBs, aN, ar, a6, bY, bq, cc, ae, ae.passKs, ay, aK, af, af.lendKs, cH, cD, cq, a7, setInn, ai, cM, cO, aC, a9, bM, bU, aJ, av, Glob.gl, ax, cn, bJ, ca, bv, au, bS, cL, cb, cS, co, an, an.ptrOnlys, am, aQ, cB, aW, bg, bm, bO, aF, bh, cg, Nat.reduceBEq, undef]; simp
          · by_cases hjl : j < n
            · have hj2 : (j : Int) < (n : Int) := by omega
              have hjk : j < (o.getD k []).length := by omega
              obtain ⟨d1, d2⟩ := dot_c hf hs ha ho him (by omega : j < (ls.getD 0 []).length) k (by omega)
              rw [hR] at d1 d2
              obtain ⟨d3, d4, d5⟩ := d2 (by omega)
              have hsl : (sumW R o n k j).length = n := by simp [sumW]
              have hsg := sumW_get (row := R) (o := o) (k := k) hjl
              have hsg' : ((sumW R o n k j).map cells).getD j [] = [C.s (.complex .f64 (dotW R o j k).x (dotW R o j k).y)] := by rw [getD_map' cells _ j ⟨0, 0⟩ _ (by omega), hsg]; rfl
              have hss := sumW_set (row := R) (o := o) (k := k) hjl
              simp only [aA] at d3 d4
              delta c86l1
              simp (maxSteps := 4000000) -implicitDefEqProofs only [sz_fz, hj2, hjl, hjk, hkn, bP, getD_fz, hsg, d3, d4, hsl, hsg', hss, aw, InR, Ent.of0, Ent.of1, Ent.of2, Ent.of3, V, bX, bo, bF, cG, cW, cP, gt, lk, cu, bQ, cr, cz, ce, cj, cj.subCs, cT, bG, a3, b0, aY, aZ, bA, aw, a8, bD, aO, bu, aB, bP, cV, cR, aj, aA, bZ, bR, bN, cU, cK, aE, ap, cp, bz, zC, argS, bI, cd, cN, cJ, ak, aM, aT, aD, bL, leC, bV, cC, bW, cI, cF, aI, aG, cY, aq, bT, a4, a4.viewCs, bn, bn.flatCs, aU, aU.LensOks, Value.oneCell', ↓reduceIte, ite_true, ite_false, if_true, if_false, Nat.reduceAdd, Nat.reduceSub, Nat.reduceMul, Nat.reduceEqDiff, Nat.reduceLT, Nat.reduceLeDiff, reduceCtorEq, Int.reduceToNat, forall_const, implies_true, br, Ent.mk3, bl, bB, a5, be, bC, a0, bj, bp, bH, bk, bE, bK, bt, cQ, rn, cm, cm.renCs, az, aL, aR, aR.viewOks, aH, bf, bf.flatBs, aP, ah, aX, ag, aV, bw, bw.keysBs, aN, ar, a6, bY, bq, cc, ae, ae.passKs, ay, aK, af, af.lendKs, cH, cD, cq, a7, setInn, ai, cM, cO, aC, a9, bM, bU, aJ, av, Glob.gl, ax, cn, bJ, ca, bv, au, bS, cL, cb, cS, co, an, an.ptrOnlys, am, aQ, cB, aW, bg, bm, bO, aF, bh, cg, Nat.reduceBEq, undef]
              and_intros <;> first | omega | rfl | trivial
            · have : j = n := by omega
              subst this
              have hj2 : ¬ (j : Int) < (j : Int) := by omega
              have hsn := sumW_next R o j k
              delta c86l1
              simp (maxSteps := 4000000) -implicitDefEqProofs only [hj2, hkn, hsn, InR, Ent.of0, Ent.of1, Ent.of2, Ent.of3, V, bX, bo, bF, cG, cW, cP, gt, lk, cu, bQ, cr, cz, ce, cj, cj.subCs, cT, bG, a3, b0, aY, aZ, bA, aw, a8, bD, aO, bu, aB, bP, cV, cR, aj, aA, bZ, bR, bN, cU, cK, aE, ap, cp, bz, zC, argS, bI, cd, cN, cJ, ak, aM, aT, aD, bL, leC, bV, cC, bW, cI, cF, aI, aG, cY, aq, bT, a4, a4.viewCs, bn, bn.flatCs, aU, aU.LensOks, Value.oneCell', ↓reduceIte, ite_true, ite_false, if_true, if_false, Nat.reduceAdd, Nat.reduceSub, Nat.reduceMul, Nat.reduceEqDiff, Nat.reduceLT, Nat.reduceLeDiff, reduceCtorEq, Int.reduceToNat, forall_const, implies_true, br, Ent.mk3, bl, bB, a5, be, bC, a0, bj, bp, bH, bk, bE, bK, bt, cQ, rn, cm, cm.renCs, az, aL, aR, aR.viewOks, aH, bf, bf.flatBs, aP, ah, aX, ag, aV, bw, bw.keysBs, aN, ar, a6, bY, bq, cc, ae, ae.passKs, ay, aK, af, af.lendKs, cH, cD, cq, a7, setInn, ai, cM, cO, aC, a9, bM, bU, aJ, av, Glob.gl, ax, cn, bJ, ca, bv, au, bS, cL, cb, cS, co, an, an.ptrOnlys, am, aQ, cB, aW, bg, bm, bO, aF, bh, cg, Nat.reduceBEq, undef]
              and_intros <;> first | omega | rfl | trivial
        · have : k = R.length := by omega
          subst this
          have hk2 : ¬ (R.length : Int) < (R.length : Int) := by omega
          have hrow : rowW o R = sumW R o n R.length 0 := by
            rw [rowW, hn0, hcol, ← hoL, sumW]
            refine List.map_congr_left fun i _ => ?_
            simp
          have htk : (timesW (a.take i) o).map cells ++ [[C.sl 1 ((sumW R o n R.length 0).map cells)]] = (timesW (a.take (i + 1)) o).map cells := by
            rw [take_getD [] h, hR, timesW, timesW, List.map_append, List.map_append, ← hrow]; rfl
          have htl : (timesW (a.take i) o).length = i := by rw [timesW, List.length_map, List.length_take]; omega
          delta c86l2
          simp (maxSteps := 4000000) -implicitDefEqProofs only [hk2, htk, htl, InR, Ent.of0, Ent.of1, Ent.of2, Ent.of3, V, bX, bo, bF, cG, cW, cP, gt, lk, cu, bQ, cr, cz, ce, cj, cj.subCs, cT, bG, a3, b0, aY, aZ, bA, aw, a8, bD, aO, bu, aB, bP, cV, cR, aj, aA, bZ, bR, bN, cU, cK, aE, ap, cp, bz, zC, argS, bI, cd, cN, cJ, ak, aM, aT, aD, bL, leC, bV, cC, bW, cI, cF, aI, aG, cY, aq, bT, a4, a4.viewCs, bn, bn.flatCs, aU, aU.LensOks, Value.oneCell', ↓reduceIte, ite_true, ite_false, if_true, if_false, Nat.reduceAdd, Nat.reduceSub, Nat.reduceMul, Nat.reduceEqDiff, Nat.reduceLT, Nat.reduceLeDiff, reduceCtorEq, Int.reduceToNat, forall_const, implies_true, br, Ent.mk3, bl, bB, a5, be, bC, a0, bj, bp, bH, bk, bE, bK, bt, cQ, rn, cm, cm.renCs, az, aL, aR, aR.viewOks, aH, bf, bf.flatBs, aP, ah, aX, ag, aV, bw, bw.keysBs, aN, ar, a6, bY, bq, cc, ae, ae.passKs, ay, aK, af, af.lendKs, cH, cD, cq, a7, setInn, ai, cM, cO, aC, a9, bM, bU, aJ, av, Glob.gl, ax, cn, bJ, ca, bv, au, bS, cL, cb, cS, co, an, an.ptrOnlys, am, aQ, cB, aW, bg, bm, bO, aF, bh, cg, Nat.reduceBEq, undef]
          and_intros <;> first | omega | rfl | trivial
    · have : i = a.length := by omega
      subst this
      have hi2 : ¬ (a.length : Int) < (a.length : Int) := by omega
      delta c86l3
      simp (maxSteps := 4000000) -implicitDefEqProofs only [hi2, rv86, List.take_length, Ent.of0, Ent.of1, Ent.of2, Ent.of3, V, bX, bo, bF, cG, cW, cP, gt, lk, cu, bQ, cr, cz, ce, cj, cj.subCs, cT, bG, a3, b0, aY, aZ, bA, aw, a8, bD, aO, bu, aB, bP, cV, cR, aj, aA, bZ, bR, bN, cU, cK, aE, ap, cp, bz, zC, argS, bI, cd, cN, cJ, ak, aM, aT, aD, bL, leC, bV, cC, bW, cI, cF, aI, aG, cY, aq, bT, a4, a4.viewCs, bn, bn.flatCs, aU, aU.LensOks, Value.oneCell', ↓reduceIte, ite_true, ite_false, if_true, if_false, Nat.reduceAdd, Nat.reduceSub, Nat.reduceMul, Nat.reduceEqDiff, Nat.reduceLT, Nat.reduceLeDiff, reduceCtorEq, Int.reduceToNat, forall_const, implies_true, br, Ent.mk3, bl, bB, a5, be, bC, a0, bj, bp, bH, bk, bE, bK, bt, cQ, rn, cm, cm.renCs, az, aL, aR, aR.viewOks, aH, bf, bf.flatBs, aP, ah, aX, ag, aV, bw, bw.keysBs, aN, ar, a6, bY, bq, cc, ae, ae.passKs, ay, aK, af, af.lendKs, cH, cD, cq, a7, setInn, ai, cM, cO, aC, a9, bM, bU, aJ, av, Glob.gl, ax, cn, bJ, ca, bv, au, bS, cL, cb, cS, co, an, an.ptrOnlys, am, aQ, cB, aW, bg, bm, bO, aF, bh, cg, Nat.reduceBEq, undef]
end Go.Proofs.Ytfgpbmjmoobcnaa
end
section
open Go Go.Am
open Go.Am.Dat (cells)
namespace Go.Proofs.Ytfgpbmjmoobcnaa
set_option maxHeartbeats 4000000
set_option maxRecDepth 20000
set_option linter.unusedSimpArgs false
def ofM (w : List (List Fz)) : List (List Gs) := w.map fun r => r.map ofW
theorem ofW_c {z : Fz} {g : Gs} (h : IsC z g) : ofW z = g := by
  unfold ofW
  rw [(ofF_c h.1).2, (ofF_c h.2).2]
theorem ofM_c {w : List (List Fz)} {m : List (List Gs)} (h : RepM w m) : ofM w = m := by
  apply List.ext_getElem
  · simpa [ofM] using h.1
  · intro i h1 h2
    have h3 := h.2 i h2
    have hw : i < w.length := by rw [h.1]; exact h2
    have e1 : (ofM w)[i] = (w.getD i []).map ofW := by simp [ofM, List.getD_eq_getElem?_getD, List.getElem?_eq_getElem hw]
    have e2 : m[i] = m.getD i [] := by rw [List.getD_eq_getElem?_getD, List.getElem?_eq_getElem h2]; rfl
    rw [e1, e2]
    apply List.ext_getElem
    · simpa using h3.1
    · intro j j1 j2
      have h4 := h3.2 j j2
      have hwj : j < (w.getD i []).length := by rw [h3.1]; exact j2
      have e3 : ((w.getD i []).map ofW)[j] = ofW ((w.getD i []).getD j ⟨0, 0⟩) := by
        rw [List.getElem_map]; congr 1
        rw [List.getD_eq_getElem?_getD (l := w.getD i []), List.getElem?_eq_getElem hwj]; rfl
      have e4 : (m.getD i [])[j] = (m.getD i []).getD j ⟨0, 0⟩ := by rw [List.getD_eq_getElem?_getD (l := m.getD i []), List.getElem?_eq_getElem j2]; rfl
      rw [e3, e4]; exact ofW_c h4
structure RowsOk (w : List (List Fz)) (m : List (List Gs)) : Prop where
  rep : RepM w m
  short : m.length ≤ 1000
  shorts : ∀ r ∈ m, r.length ≤ 1000000
  small : ∀ r ∈ m, ∀ g ∈ r, bd g 9007199254740991
end Go.Proofs.Ytfgpbmjmoobcnaa
end
section
open Go Go.Am
open Go.Am.Dat (cells)
namespace Go.Proofs.Ytfgpbmjmoobcnaa
set_option maxHeartbeats 4000000
set_option maxRecDepth 100000
set_option linter.unusedSimpArgs false
def turnsS (c : Nat) (a b : List Int) : List Int := (List.range c).flatMap fun i => [a.getD i 0, b.getD i 0]
theorem turnsS_succ (c : Nat) (a b : List Int) : turnsS (c + 1) a b = turnsS c a b ++ [a.getD c 0, b.getD c 0] := by simp [turnsS, List.range_succ]
theorem turnsS_length (a b : List Int) : ∀ c, (turnsS c a b).length = 2 * c
  | 0 => rfl
  | c + 1 => by rw [turnsS_succ, List.length_append, turnsS_length a b c]; simp; omega
def judgedS (c : Nat) (T : List Int → List Int) (gain : Int) (l : List Gs) : List Int := l.flatMap fun g => turnsS c (T (sqS c gain g.re)) (T (sqS c gain g.im))
def e136 (f : FuncId) (T : List Int → List Int) (c : Nat) (hc : c = 1 ∨ c = 2 ∨ c = 3) (hf : ∀ sq : List Int, sq.length = 2 ^ c → (∀ s ∈ sq, 0 ≤ s ∧ s ≤ 4611686018427387903) → FC Try.prog f [enc (lvls c), enc sq] [] (enc (T sq)) []) : Ent Try.prog where
  id := 136
  sp := fun _ _ => none
  ok := by intro _ _ _ _ _ _ h; cases h
  kp := fun args chs => match args, chs with
    | [.s (.int .i64 n), .ptr k1 o1, .ptr k2 o2, .ptr k3 o3], [(k1', .box [.sl 1 L]), (k2', .box [.s (.int .i64 o), .s (.int .i64 g), .sl 2 l]), (k3', .box [.fn (.func f') [] []])] =>
      some ((k1 = 100000 ∧ o1 = 0 ∧ k2 = 100001 ∧ o2 = 0 ∧ k3 = 100002 ∧ o3 = 0 ∧ k1' = 100000 ∧ k2' = 100001 ∧ k3' = 100002 ∧ f' = f ∧ L = (lvls c).map cells ∧ ∃ l' : List Gs, l = l'.map cells) ∧ (1 ≤ g ∧ g ≤ 10000000) ∧ -100000000 ≤ n ∧ n ≤ 100000000, enc (T (sqS c g n)))
    | _, _ => none
  kpok := by
    intro args chs p r hs hp
    split at hs
    · rename_i n k1 o1 k2 o2 k3 o3 k1' L k2' o g l k3' f'
      simp only [Option.some.injEq, Prod.mk.injEq] at hs
      obtain ⟨rfl, rfl⟩ := hs
      obtain ⟨⟨rfl, rfl, rfl, rfl, rfl, rfl, rfl, rfl, rfl, hff, rfl, l', rfl⟩, hg, hn⟩ := hp
      subst hff
      exact ⟨part_c f' T c hc hf ⟨o, g, l'⟩ n hg hn, rfl, trivial⟩
    · cases hs
theorem judged_c (f : FuncId) (T : List Int → List Int) (c : Nat) (hc : c = 1 ∨ c = 2 ∨ c = 3) (hf : ∀ sq : List Int, sq.length = 2 ^ c → (∀ s ∈ sq, 0 ≤ s ∧ s ≤ 4611686018427387903) → FC Try.prog f [enc (lvls c), enc sq] [] (enc (T sq)) [])
    (hT : ∀ sq : List Int, sq.length = 2 ^ c → (T sq).length = c) (g : Int) (l : List Gs) (hg : 1 ≤ g ∧ g ≤ 10000000) (hn : ∀ s ∈ l, (-100000000 ≤ s.re ∧ s.re ≤ 100000000) ∧ -100000000 ≤ s.im ∧ s.im ≤ 100000000) (hll : l.length ≤ 1000) :
    FC Try.prog 115 [enc (⟨2 * (c : Int), g, l⟩ : Recv), .fn (.func f) [] []] [] (enc (judgedS c T g l)) [] := by
  have hlc := lvls_length c
  have hq : (2 * (c : Int)).tdiv 2 = (c : Int) := by rw [Int.mul_comm]; exact Int.mul_tdiv_cancel _ (by decide)
  have hmin : min c IntKind.i64.bits = c := by rcases hc with rfl | rfl | rfl <;> decide
  have hP : (2 : Int) ^ c = ((2 ^ c : Nat) : Int) := by push_cast; rfl
  have hPb : 2 ≤ 2 ^ c ∧ 2 ^ c ≤ 8 := by rcases hc with rfl | rfl | rfl <;> decide
  have hget : ∀ i, i < 2 ^ c → (lvls c).getD i 0 = 2 * (i : Int) - ((2 ^ c : Nat) - 1) := fun i hi => by
    have hi' : i < (lvls c).length := by omega
    rw [List.getD_eq_getElem?_getD, List.getElem?_eq_getElem hi']
    simp [lvls]
  refine fc_introC [] is115 (by simp) trivial trivial trivial trivial (fun cx hcx hl _ => S_run [] 800 ?_)
  delta c115
  simp (maxSteps := 4000000) -implicitDefEqProofs only [rv115, enc_recv, hq, hmin, hP, Int.one_mul, InR, Ent.of0, Ent.of1, Ent.of2, Ent.of3, V, bX, bo, bF, cG, cW, cP, gt, lk, cu, bQ, cr, cz, ce, cj, cj.subCs, cT, bG, a3, b0, aY, aZ, bA, aw, a8, bD, aO, bu, aB, bP, cV, cR, aj, aA, bZ, bR, bN, cU, cK, aE, ap, cp, bz, zC, argS, bI, cd, cN, cJ, ak, aM, aT, aD, bL, leC, bV, cC, bW, cI, cF, aI, aG, cY, aq, bT, a4, a4.viewCs, bn, bn.flatCs, aU, aU.LensOks, Value.oneCell', ↓reduceIte, ite_true, ite_false, if_true, if_false, Nat.reduceAdd, Nat.reduceSub, Nat.reduceMul, Nat.reduceEqDiff, Nat.reduceLT, Nat.reduceLeDiff, reduceCtorEq, Int.reduceToNat, forall_const, implies_true, br, Ent.mk3, bl, bB, a5, be, bC, a0, bj, bp, bH, bk, bE, bK, bt, cQ, rn, cm, cm.renCs, az, aL, aR, aR.viewOks, aH, bf, bf.flatBs, aP, ah, aX, ag, aV, bw, bw.keysBs, aN, ar, a6, bY, bq, cc, ae, ae.passKs, ay, aK, af, af.lendKs, cH, cD, cq, a7, setInn, ai, cM, cO, aC, a9, bM, bU, aJ, av, Glob.gl, ax, cn, bJ, ca, bv, au, bS, cL, cb, cS, co, an, an.ptrOnlys, am, aQ, cB, aW, bg, bm, bO, aF, bh, cg, Nat.reduceBEq, undef]
  refine ⟨by omega, by omega, by omega, ?_⟩
  refine S_forU (2 ^ c) (fun i => [(7, .s (.int .i64 (2 * (i : Int) - ((2 ^ c : Nat) - 1))))]) (fun i => [(6, .box [if i = 0 then .s (.slice none 0 0) else .isl 1 3 (((lvls c).take i).map cells)])]) (fun _ => True) trivial ?_ (fun i hi _ => ?_)
  · simp (maxSteps := 4000000) -implicitDefEqProofs only [Ent.of0, Ent.of1, Ent.of2, Ent.of3, V, bX, bo, bF, cG, cW, cP, gt, lk, cu, bQ, cr, cz, ce, cj, cj.subCs, cT, bG, a3, b0, aY, aZ, bA, aw, a8, bD, aO, bu, aB, bP, cV, cR, aj, aA, bZ, bR, bN, cU, cK, aE, ap, cp, bz, zC, argS, bI, cd, cN, cJ, ak, aM, aT, aD, bL, leC, bV, cC, bW, cI, cF, aI, aG, cY, aq, bT, a4, a4.viewCs, bn, bn.flatCs, aU, aU.LensOks, Value.oneCell', ↓reduceIte, ite_true, ite_false, if_true, if_false, Nat.reduceAdd, Nat.reduceSub, Nat.reduceMul, Nat.reduceEqDiff, Nat.reduceLT, Nat.reduceLeDiff, reduceCtorEq, Int.reduceToNat, forall_const, implies_true, br, Ent.mk3, bl, bB, a5, be, bC, a0, bj, bp, bH, bk, bE, bK, bt, cQ, rn, cm, cm.renCs, az, aL, aR, aR.viewOks, aH, bf, bf.flatBs, aP, ah, aX, ag, aV, bw, bw.keysBs, aN, ar, a6, bY, bq, cc, ae, ae.passKs, ay, aK, af, af.lendKs, cH, cD, cq, a7, setInn, ai, cM, cO, aC, a9, bM, bU, aJ, av, Glob.gl, ax, cn, bJ, ca, bv, au, bS, cL, cb, cS, co, an, an.ptrOnlys, am, aQ, cB, aW, bg, bm, bO, aF, bh, cg, Nat.reduceBEq, undef]; omega
  · by_cases h : i < 2 ^ c
    · have htk : ((lvls c).take i).map cells ++ [[C.s (.int .i64 (2 * (i : Int) - ((2 ^ c : Nat) - 1)))]] = ((lvls c).take (i + 1)).map cells := by
        rw [take_getD 0 (by omega : i < (lvls c).length), List.map_append, hget i h]; rfl
      have hlt : ((lvls c).take i).length = i := by rw [List.length_take]; omega
      have hlt2 : 2 * (i : Int) - (((2 ^ c : Nat) : Int) - 1) < ((2 ^ c : Nat) : Int) := by omega
      refine S_run [] 800 ?_
      cases i with
      | zero =>
        delta c115l1
        simp (maxSteps := 4000000) -implicitDefEqProofs only [hq, hmin, hP, Int.one_mul, hlt2, h, InR, Ent.of0, Ent.of1, Ent.of2, Ent.of3, V, bX, bo, bF, cG, cW, cP, gt, lk, cu, bQ, cr, cz, ce, cj, cj.subCs, cT, bG, a3, b0, aY, aZ, bA, aw, a8, bD, aO, bu, aB, bP, cV, cR, aj, aA, bZ, bR, bN, cU, cK, aE, ap, cp, bz, zC, argS, bI, cd, cN, cJ, ak, aM, aT, aD, bL, leC, bV, cC, bW, cI, cF, aI, aG, cY, aq, bT, a4, a4.viewCs, bn, bn.flatCs, aU, aU.LensOks, Value.oneCell', ↓reduceIte, ite_true, ite_false, if_true, if_false, Nat.reduceAdd, Nat.reduceSub, Nat.reduceMul, Nat.reduceEqDiff, Nat.reduceLT, Nat.reduceLeDiff, reduceCtorEq, Int.reduceToNat, forall_const, implies_true, br, Ent.mk3, bl, bB, a5, be, bC, a0, bj, bp, bH, bk, bE, bK, bt, cQ, rn, cm, cm.renCs, az, aL, aR, aR.viewOks, aH, bf, bf.flatBs, aP, ah, aX, ag, aV, bw, bw.keysBs, aN, ar, a6, bY, bq, cc, ae, ae.passKs, ay, aK, af, af.lendKs, cH, cD, cq, a7, setInn, ai, cM, cO, aC, a9, bM, bU, aJ, av, Glob.gl, ax, cn, bJ, ca, bv, au, bS, cL, cb, cS, co, an, an.ptrOnlys, am, aQ, cB, aW, bg, bm, bO, aF, bh, cg, Nat.reduceBEq, undef]
        refine ⟨by omega, by omega, by omega, by push_cast; omega, ?_⟩
        rw [← htk]; rfl
      | succ i =>
        delta c115l1
        simp (maxSteps := 4000000) -implicitDefEqProofs only [hq, hmin, hP, Int.one_mul, hlt, hlt2, h, htk, Nat.succ_ne_zero, InR, Ent.of0, Ent.of1, Ent.of2, Ent.of3, V, bX, bo, bF, cG, cW, cP, gt, lk, cu, bQ, cr, cz, ce, cj, cj.subCs, cT, bG, a3, b0, aY, aZ, bA, aw, a8, bD, aO, bu, aB, bP, cV, cR, aj, aA, bZ, bR, bN, cU, cK, aE, ap, cp, bz, zC, argS, bI, cd, cN, cJ, ak, aM, aT, aD, bL, leC, bV, cC, bW, cI, cF, aI, aG, cY, aq, bT, a4, a4.viewCs, bn, bn.flatCs, aU, aU.LensOks, Value.oneCell', ↓reduceIte, ite_true, ite_false, if_true, if_false, Nat.reduceAdd, Nat.reduceSub, Nat.reduceMul, Nat.reduceEqDiff, Nat.reduceLT, Nat.reduceLeDiff, reduceCtorEq, Int.reduceToNat, forall_const, implies_true, br, Ent.mk3, bl, bB, a5, be, bC, a0, bj, bp, bH, bk, bE, bK, bt, cQ, rn, cm, cm.renCs, az, aL, aR, aR.viewOks, aH, bf, bf.flatBs, aP, ah, aX, ag, aV, bw, bw.keysBs, aN, ar, a6, bY, bq, cc, ae, ae.passKs, ay, aK, af, af.lendKs, cH, cD, cq, a7, setInn, ai, cM, cO, aC, a9, bM, bU, aJ, av, Glob.gl, ax, cn, bJ, ca, bv, au, bS, cL, cb, cS, co, an, an.ptrOnlys, am, aQ, cB, aW, bg, bm, bO, aF, bh, cg, Nat.reduceBEq, undef]
        exact ⟨by omega, by omega, by omega, by omega, by push_cast; omega⟩
    · have hlt2 : ¬ 2 * (i : Int) - (((2 ^ c : Nat) : Int) - 1) < ((2 ^ c : Nat) : Int) := by omega
      have hie : i = 2 ^ c := by omega
      subst hie
      have hi0 : 2 ^ c ≠ 0 := by omega
      have htk : (lvls c).take (2 ^ c) = lvls c := by rw [← hlc]; exact List.take_length
      refine S_run [] 800 ?_
      delta c115l1
      simp (maxSteps := 4000000) -implicitDefEqProofs only [hq, hmin, hP, Int.one_mul, hlt2, hi0, htk, InR, Ent.of0, Ent.of1, Ent.of2, Ent.of3, V, bX, bo, bF, cG, cW, cP, gt, lk, cu, bQ, cr, cz, ce, cj, cj.subCs, cT, bG, a3, b0, aY, aZ, bA, aw, a8, bD, aO, bu, aB, bP, cV, cR, aj, aA, bZ, bR, bN, cU, cK, aE, ap, cp, bz, zC, argS, bI, cd, cN, cJ, ak, aM, aT, aD, bL, leC, bV, cC, bW, cI, cF, aI, aG, cY, aq, bT, a4, a4.viewCs, bn, bn.flatCs, aU, aU.LensOks, Value.oneCell', ↓reduceIte, ite_true, ite_false, if_true, if_false, Nat.reduceAdd, Nat.reduceSub, Nat.reduceMul, Nat.reduceEqDiff, Nat.reduceLT, Nat.reduceLeDiff, reduceCtorEq, Int.reduceToNat, forall_const, implies_true, br, Ent.mk3, bl, bB, a5, be, bC, a0, bj, bp, bH, bk, bE, bK, bt, cQ, rn, cm, cm.renCs, az, aL, aR, aR.viewOks, aH, bf, bf.flatBs, aP, ah, aX, ag, aV, bw, bw.keysBs, aN, ar, a6, bY, bq, cc, ae, ae.passKs, ay, aK, af, af.lendKs, cH, cD, cq, a7, setInn, ai, cM, cO, aC, a9, bM, bU, aJ, av, Glob.gl, ax, cn, bJ, ca, bv, au, bS, cL, cb, cS, co, an, an.ptrOnlys, am, aQ, cB, aW, bg, bm, bO, aF, bh, cg, Nat.reduceBEq, undef]
      refine ⟨by omega, S_fzb 6 rfl ?_⟩
      simp (maxSteps := 4000000) -implicitDefEqProofs only [Ent.of0, Ent.of1, Ent.of2, Ent.of3, V, bX, bo, bF, cG, cW, cP, gt, lk, cu, bQ, cr, cz, ce, cj, cj.subCs, cT, bG, a3, b0, aY, aZ, bA, aw, a8, bD, aO, bu, aB, bP, cV, cR, aj, aA, bZ, bR, bN, cU, cK, aE, ap, cp, bz, zC, argS, bI, cd, cN, cJ, ak, aM, aT, aD, bL, leC, bV, cC, bW, cI, cF, aI, aG, cY, aq, bT, a4, a4.viewCs, bn, bn.flatCs, aU, aU.LensOks, Value.oneCell', ↓reduceIte, ite_true, ite_false, if_true, if_false, Nat.reduceAdd, Nat.reduceSub, Nat.reduceMul, Nat.reduceEqDiff, Nat.reduceLT, Nat.reduceLeDiff, reduceCtorEq, Int.reduceToNat, forall_const, implies_true, br, Ent.mk3, bl, bB, a5, be, bC, a0, bj, bp, bH, bk, bE, bK, bt, cQ, rn, cm, cm.renCs, az, aL, aR, aR.viewOks, aH, bf, bf.flatBs, aP, ah, aX, ag, aV, bw, bw.keysBs, aN, ar, a6, bY, bq, cc, ae, ae.passKs, ay, aK, af, af.lendKs, cH, cD, cq, a7, setInn, ai, cM, cO, aC, a9, bM, bU, aJ, av, Glob.gl, ax, cn, bJ, ca, bv, au, bS, cL, cb, cS, co, an, an.ptrOnlys, am, aQ, cB, aW, bg, bm, bO, aF, bh, cg, Nat.reduceBEq, undef]
      refine S_forU l.length (fun i => [(35, .s (.int .i64 (i : Int)))]) (fun i => [(9, .row 1 3 ((judgedS c T g (l.take i)).map cells))]) (fun _ => True) trivial ?_ (fun i hi _ => S_run [e136 f T c hc hf] 800 ?_)
      · simp (maxSteps := 4000000) -implicitDefEqProofs only [judgedS, Ent.of0, Ent.of1, Ent.of2, Ent.of3, V, bX, bo, bF, cG, cW, cP, gt, lk, cu, bQ, cr, cz, ce, cj, cj.subCs, cT, bG, a3, b0, aY, aZ, bA, aw, a8, bD, aO, bu, aB, bP, cV, cR, aj, aA, bZ, bR, bN, cU, cK, aE, ap, cp, bz, zC, argS, bI, cd, cN, cJ, ak, aM, aT, aD, bL, leC, bV, cC, bW, cI, cF, aI, aG, cY, aq, bT, a4, a4.viewCs, bn, bn.flatCs, aU, aU.LensOks, Value.oneCell', ↓reduceIte, ite_true, ite_false, if_true, if_false, Nat.reduceAdd, Nat.reduceSub, Nat.reduceMul, Nat.reduceEqDiff, Nat.reduceLT, Nat.reduceLeDiff, reduceCtorEq, Int.reduceToNat, forall_const, implies_true, br, Ent.mk3, bl, bB, a5, be, bC, a0, bj, bp, bH, bk, bE, bK, bt, cQ, rn, cm, cm.renCs, az, aL, aR, aR.viewOks, aH, bf, bf.flatBs, aP, ah, aX, ag, aV, bw, bw.keysBs, aN, ar, a6, bY, bq, cc, ae, ae.passKs, ay, aK, af, af.lendKs, cH, cD, cq, a7, setInn, ai, cM, cO, aC, a9, bM, bU, aJ, av, Glob.gl, ax, cn, bJ, ca, bv, au, bS, cL, cb, cS, co, an, an.ptrOnlys, am, aQ, cB, aW, bg, bm, bO, aF, bh, cg, Nat.reduceBEq, undef]
        exact ⟨rfl, rfl⟩
      · by_cases h : i < l.length
        · have hi2 : (i : Int) < (l.length : Int) := by omega
          have hgm : l.getD i ⟨0, 0⟩ ∈ l := getD_mem _ h
          have hn1 := hn _ hgm
          have hsql : ∀ n, (sqS c g n).length = 2 ^ c := fun n => by rw [sqS, List.length_map, hlc]
          have hT1 := hT _ (hsql (l.getD i ⟨0, 0⟩).re)
          have hT2 := hT _ (hsql (l.getD i ⟨0, 0⟩).im)
          delta c115l3
          simp (maxSteps := 4000000) -implicitDefEqProofs only [hi2, h, e136, hT1, InR, Ent.of0, Ent.of1, Ent.of2, Ent.of3, V, bX, bo, bF, cG, cW, cP, gt, lk, cu, bQ, cr, cz, ce, cj, cj.subCs, cT, bG, a3, b0, aY, aZ, bA, aw, a8, bD, aO, bu, aB, bP, cV, cR, aj, aA, bZ, bR, bN, cU, cK, aE, ap, cp, bz, zC, argS, bI, cd, cN, cJ, ak, aM, aT, aD, bL, leC, bV, cC, bW, cI, cF, aI, aG, cY, aq, bT, a4, a4.viewCs, bn, bn.flatCs, aU, aU.LensOks, Value.oneCell', ↓reduceIte, ite_true, ite_false, if_true, if_false, Nat.reduceAdd, Nat.reduceSub, Nat.reduceMul, Nat.reduceEqDiff, Nat.reduceLT, Nat.reduceLeDiff, reduceCtorEq, Int.reduceToNat, forall_const, implies_true, br, Ent.mk3, bl, bB, a5, be, bC, a0, bj, bp, bH, bk, bE, bK, bt, cQ, rn, cm, cm.renCs, az, aL, aR, aR.viewOks, aH, bf, bf.flatBs, aP, ah, aX, ag, aV, bw, bw.keysBs, aN, ar, a6, bY, bq, cc, ae, ae.passKs, ay, aK, af, af.lendKs, cH, cD, cq, a7, setInn, ai, cM, cO, aC, a9, bM, bU, aJ, av, Glob.gl, ax, cn, bJ, ca, bv, au, bS, cL, cb, cS, co, an, an.ptrOnlys, am, aQ, cB, aW, bg, bm, bO, aF, bh, cg, Nat.reduceBEq, undef]
          refine ⟨by omega, ⟨⟨l, rfl⟩, hg, hn1.1⟩, ⟨⟨l, rfl⟩, hg, hn1.2⟩, ?_⟩
          have hjs : judgedS c T g (l.take (i + 1)) = judgedS c T g (l.take i) ++ turnsS c (T (sqS c g (l.getD i ⟨0, 0⟩).re)) (T (sqS c g (l.getD i ⟨0, 0⟩).im)) := by
            rw [take_getD ⟨0, 0⟩ h, judgedS, judgedS, List.flatMap_append]; simp
          have hjl : (judgedS c T g (l.take i)).length ≤ 6000 := by
            have e : ∀ (m : List Gs), (judgedS c T g m).length ≤ 6 * m.length := fun m => by
              induction m with
              | nil => simp [judgedS]
              | cons x m ih =>
                have : judgedS c T g (x :: m) = turnsS c (T (sqS c g x.re)) (T (sqS c g x.im)) ++ judgedS c T g m := by simp [judgedS]
                rw [this, List.length_append, List.length_cons]
                have h2 : (turnsS c (T (sqS c g x.re)) (T (sqS c g x.im))).length ≤ 6 := by
                  rcases hc with rfl | rfl | rfl <;> simp [turnsS, List.range_succ]
                omega
            have := e (l.take i)
            rw [List.length_take] at this
            omega
          generalize T (sqS c g (l.getD i ⟨0, 0⟩).re) = X at *
          generalize T (sqS c g (l.getD i ⟨0, 0⟩).im) = Y at *
          generalize judgedS c T g (l.take i) = J at *
          refine S_forU c (fun j => [(49, .s (.int .i64 (j : Int)))]) (fun j => [(9, .row 1 3 ((J ++ turnsS j X Y).map cells))]) (fun _ => True) trivial ?_ (fun j hj _ => S_run [] 800 ?_)
          · simp (maxSteps := 4000000) -implicitDefEqProofs only [Ent.of0, Ent.of1, Ent.of2, Ent.of3, V, bX, bo, bF, cG, cW, cP, gt, lk, cu, bQ, cr, cz, ce, cj, cj.subCs, cT, bG, a3, b0, aY, aZ, bA, aw, a8, bD, aO, bu, aB, bP, cV, cR, aj, aA, bZ, bR, bN, cU, cK, aE, ap, cp, bz, zC, argS, bI, cd, cN, cJ, ak, aM, aT, aD, bL, leC, bV, cC, bW, cI, cF, aI, aG, cY, aq, bT, a4, a4.viewCs, bn, bn.flatCs, aU, aU.LensOks, Value.oneCell', ↓reduceIte, ite_true, ite_false, if_true, if_false, Nat.reduceAdd, Nat.reduceSub, Nat.reduceMul, Nat.reduceEqDiff, Nat.reduceLT, Nat.reduceLeDiff, reduceCtorEq, Int.reduceToNat, forall_const, implies_true, br, Ent.mk3, bl, bB, a5, be, bC, a0, bj, bp, bH, bk, bE, bK, bt, cQ, rn, cm, cm.renCs, az, aL, aR, aR.viewOks, aH, bf, bf.flatBs, aP, ah, aX, ag, aV, bw, bw.keysBs, aN, ar, a6, bY, bq, cc, ae, ae.passKs, ay, aK, af, af.lendKs, cH, cD, cq, a7, setInn, ai, cM, cO, aC, a9, bM, bU, aJ, av, Glob.gl, ax, cn, bJ, ca, bv, au, bS, cL, cb, cS, co, an, an.ptrOnlys, am, aQ, cB, aW, bg, bm, bO, aF, bh, cg, Nat.reduceBEq, undef]
            exact ⟨rfl, by simp [turnsS]⟩
          · have htl := turnsS_length X Y j
            by_cases hjc : j < c
            · have hj2 : (j : Int) < (c : Int) := by omega
              have hj3 : j < X.length := by omega
              have hj4 : j < Y.length := by omega
              have htk : (J ++ turnsS j X Y).map cells ++ [[C.s (.int .i64 (X.getD j 0))], [C.s (.int .i64 (Y.getD j 0))]] = (J ++ turnsS (j + 1) X Y).map cells := by
                rw [turnsS_succ, ← List.append_assoc, List.map_append (l₁ := J ++ turnsS j X Y)]; rfl
              have hll : (J ++ turnsS j X Y).length ≤ 6012 := by rw [List.length_append]; omega
              delta c115l2
              simp (maxSteps := 4000000) -implicitDefEqProofs only [hj2, hj3, hj4, htk, InR, Ent.of0, Ent.of1, Ent.of2, Ent.of3, V, bX, bo, bF, cG, cW, cP, gt, lk, cu, bQ, cr, cz, ce, cj, cj.subCs, cT, bG, a3, b0, aY, aZ, bA, aw, a8, bD, aO, bu, aB, bP, cV, cR, aj, aA, bZ, bR, bN, cU, cK, aE, ap, cp, bz, zC, argS, bI, cd, cN, cJ, ak, aM, aT, aD, bL, leC, bV, cC, bW, cI, cF, aI, aG, cY, aq, bT, a4, a4.viewCs, bn, bn.flatCs, aU, aU.LensOks, Value.oneCell', ↓reduceIte, ite_true, ite_false, if_true, if_false, Nat.reduceAdd, Nat.reduceSub, Nat.reduceMul, Nat.reduceEqDiff, Nat.reduceLT, Nat.reduceLeDiff, reduceCtorEq, Int.reduceToNat, forall_const, implies_true, br, Ent.mk3, bl, bB, a5, be, bC, a0, bj, bp, bH, bk, bE, bK, bt, cQ, rn, cm, cm.renCs, az, aL, aR, aR.viewOks, aH, bf, bf.flatBs, aP, ah, aX, ag, aV, bw, bw.keysBs, aN, ar, a6, bY, bq, cc, ae, ae.passKs, ay, aK, af, af.lendKs, cH, cD, cq, a7, setInn, ai, cM, cO, aC, a9, bM, bU, aJ, av, Glob.gl, ax, cn, bJ, ca, bv, au, bS, cL, cb, cS, co, an, an.ptrOnlys, am, aQ, cB, aW, bg, bm, bO, aF, bh, cg, Nat.reduceBEq, undef]
              and_intros <;> first | omega | rfl | trivial
            · have hj2 : ¬ (j : Int) < (c : Int) := by omega
              have hjc : j = c := by omega
              subst hjc
              delta c115l2
              simp (maxSteps := 4000000) -implicitDefEqProofs only [hj2, hjs, InR, Ent.of0, Ent.of1, Ent.of2, Ent.of3, V, bX, bo, bF, cG, cW, cP, gt, lk, cu, bQ, cr, cz, ce, cj, cj.subCs, cT, bG, a3, b0, aY, aZ, bA, aw, a8, bD, aO, bu, aB, bP, cV, cR, aj, aA, bZ, bR, bN, cU, cK, aE, ap, cp, bz, zC, argS, bI, cd, cN, cJ, ak, aM, aT, aD, bL, leC, bV, cC, bW, cI, cF, aI, aG, cY, aq, bT, a4, a4.viewCs, bn, bn.flatCs, aU, aU.LensOks, Value.oneCell', ↓reduceIte, ite_true, ite_false, if_true, if_false, Nat.reduceAdd, Nat.reduceSub, Nat.reduceMul, Nat.reduceEqDiff, Nat.reduceLT, Nat.reduceLeDiff, reduceCtorEq, Int.reduceToNat, forall_const, implies_true, br, Ent.mk3, bl, bB, a5, be, bC, a0, bj, bp, bH, bk, bE, bK, bt, cQ, rn, cm, cm.renCs, az, aL, aR, aR.viewOks, aH, bf, bf.flatBs, aP, ah, aX, ag, aV, bw, bw.keysBs, aN, ar, a6, bY, bq, cc, ae, ae.passKs, ay, aK, af, af.lendKs, cH, cD, cq, a7, setInn, ai, cM, cO, aC, a9, bM, bU, aJ, av, Glob.gl, ax, cn, bJ, ca, bv, au, bS, cL, cb, cS, co, an, an.ptrOnlys, am, aQ, cB, aW, bg, bm, bO, aF, bh, cg, Nat.reduceBEq, undef]
              and_intros <;> first | omega | rfl | trivial
        · have hi2 : ¬ (i : Int) < (l.length : Int) := by omega
          have hie : i = l.length := by omega
          subst hie
          delta c115l3
          simp (maxSteps := 4000000) -implicitDefEqProofs only [hi2, rv115, List.take_length, InR, Ent.of0, Ent.of1, Ent.of2, Ent.of3, V, bX, bo, bF, cG, cW, cP, gt, lk, cu, bQ, cr, cz, ce, cj, cj.subCs, cT, bG, a3, b0, aY, aZ, bA, aw, a8, bD, aO, bu, aB, bP, cV, cR, aj, aA, bZ, bR, bN, cU, cK, aE, ap, cp, bz, zC, argS, bI, cd, cN, cJ, ak, aM, aT, aD, bL, leC, bV, cC, bW, cI, cF, aI, aG, cY, aq, bT, a4, a4.viewCs, bn, bn.flatCs, aU, aU.LensOks, Value.oneCell', ↓reduceIte, ite_true, ite_false, if_true, if_false, Nat.reduceAdd, Nat.reduceSub, Nat.reduceMul, Nat.reduceEqDiff, Nat.reduceLT, Nat.reduceLeDiff, reduceCtorEq, Int.reduceToNat, forall_const, implies_true, br, Ent.mk3, bl, bB, a5, be, bC, a0, bj, bp, bH, bk, bE, bK, bt, cQ, rn, cm, cm.renCs, az, aL, aR, aR.viewOks, aH, bf, bf.flatBs, aP, ah, aX, ag, aV, bw, bw.keysBs, aN, ar, a6, bY, bq, cc, ae, ae.passKs, ay, aK, af, af.lendKs, cH, cD, cq, a7, setInn, ai, cM, cO, aC, a9, bM, bU, aJ, av, Glob.gl, ax, cn, bJ, ca, bv, au, bS, cL, cb, cS, co, an, an.ptrOnlys, am, aQ, cB, aW, bg, bm, bO, aF, bh, cg, Nat.reduceBEq, undef]
end Go.Proofs.Ytfgpbmjmoobcnaa
end
section
open Go Go.Am
open Go.Am.Dat (cells)
namespace Go.Proofs.Ytfgpbmjmoobcnaa
set_option maxHeartbeats 4000000
set_option maxRecDepth 100000
set_option linter.unusedSimpArgs false
theorem softS_length (c : Nat) (sq : List Int) : (softS c sq).length = c := by simp [softS]
def e115 (f : FuncId) (T : Nat → List Int → List Int) (hj : ∀ (c : Nat) (g : Int) (l : List Gs), (c = 1 ∨ c = 2 ∨ c = 3) → 1 ≤ g ∧ g ≤ 10000000 → (∀ s ∈ l, (-100000000 ≤ s.re ∧ s.re ≤ 100000000) ∧ -100000000 ≤ s.im ∧ s.im ≤ 100000000) → l.length ≤ 1000 →
    FC Try.prog 115 [enc (⟨2 * (c : Int), g, l⟩ : Recv), .fn (.func f) [] []] [] (enc (judgedS c (T c) g l)) []) : Ent Try.prog := .mk3 115 (fun args chs => match args, chs with
    | [.agg [.s (.int .i64 o), .s (.int .i64 g), .sl 2 t], .fn (.func f') [] []], [] => (decL t : Option (List Gs)).bind fun l => some (f' = f ∧ recvErr ⟨o, g, l⟩ = 0, enc (judgedS (o.toNat / 2) (T (o.toNat / 2)) g l), [], [])
    | _, _ => none) (by
  intro args chs p r chs' nk hs hp
  split at hs
  · rename_i o g t f'
    simp only [Option.bind_eq_some_iff, Option.some.injEq, Prod.mk.injEq] at hs
    obtain ⟨l, hl, rfl, rfl, rfl, rfl⟩ := hs
    obtain ⟨hff, hr⟩ := hp
    have := decL_ok hl
    subst this
    have hz := firstS_zero hr
    have z1 : orderErrS o = 0 := hz _ (by simp [recvErr])
    have z2 : (if 1 ≤ g ∧ g ≤ 10000000 then (0 : Int) else 2) = 0 := hz _ (by simp)
    have z3 : symErr l = 0 := hz _ (by simp)
    have ho : o = 2 ∨ o = 4 ∨ o = 6 := by
      unfold orderErrS at z1
      split at z1
      · assumption
      · cases z1
    have hg : 1 ≤ g ∧ g ≤ 10000000 := by
      split at z2
      · assumption
      · cases z2
    have hl2 : l.length ≤ 1000 := by
      unfold symErr at z3
      grind
    have hn : ∀ s ∈ l, (-100000000 ≤ s.re ∧ s.re ≤ 100000000) ∧ -100000000 ≤ s.im ∧ s.im ≤ 100000000 := by
      have : l.all (smallG · 100000000) = true := by
        unfold symErr at z3
        grind
      intro s hs
      have := List.all_eq_true.1 this s hs
      simpa [smallG] using this
    have e : o = 2 * ((o.toNat / 2 : Nat) : Int) := by rcases ho with rfl | rfl | rfl <;> rfl
    have := hj (o.toNat / 2) g l (by rcases ho with rfl | rfl | rfl <;> simp) hg hn hl2
    rw [← e] at this
    subst hff
    exact ⟨this, .plain trivial⟩
  · cases hs)
def judgeAll (T : Nat → List Int → List Int) (x : Recv) : List Int := judgedS (x.order.toNat / 2) (T (x.order.toNat / 2)) x.gain x.symbols
theorem Soft_c (x : Recv) : FC Try.prog 58 [enc x] [] (.tup [enc (if recvErr x = 0 then judgeAll softS x else []), enc (recvErr x)]) [] := by
  refine fc_intro' is58 (by simp) (fun cx hl => S_run [e114, e115 117 softS (fun c g l hc hg hn hl => judged_c 117 (softS c) c hc (fun sq h1 h2 => soft_c c hc sq h1 h2) (fun sq _ => softS_length c sq) g l hg hn hl)] 800 ?_)
  obtain ⟨o, g, l⟩ := x
  delta c58
  simp (maxSteps := 4000000) -implicitDefEqProofs only [rv58, e114, e115, enc_recv, decV_recv, Ent.of0, Ent.of1, Ent.of2, Ent.of3, V, bX, bo, bF, cG, cW, cP, gt, lk, cu, bQ, cr, cz, ce, cj, cj.subCs, cT, bG, a3, b0, aY, aZ, bA, aw, a8, bD, aO, bu, aB, bP, cV, cR, aj, aA, bZ, bR, bN, cU, cK, aE, ap, cp, bz, zC, argS, bI, cd, cN, cJ, ak, aM, aT, aD, bL, leC, bV, cC, bW, cI, cF, aI, aG, cY, aq, bT, a4, a4.viewCs, bn, bn.flatCs, aU, aU.LensOks, Value.oneCell', ↓reduceIte, ite_true, ite_false, if_true, if_false, Nat.reduceAdd, Nat.reduceSub, Nat.reduceMul, Nat.reduceEqDiff, Nat.reduceLT, Nat.reduceLeDiff, reduceCtorEq, Int.reduceToNat, forall_const, implies_true, br, Ent.mk3, bl, bB, a5, be, bC, a0, bj, bp, bH, bk, bE, bK, bt, cQ, rn, cm, cm.renCs, az, aL, aR, aR.viewOks, aH, bf, bf.flatBs, aP, ah, aX, ag, aV, bw, bw.keysBs, aN, ar, a6, bY, bq, cc, ae, ae.passKs, ay, aK, af, af.lendKs, cH, cD, cq, a7, setInn, ai, cM, cO, aC, a9, bM, bU, aJ, av, Glob.gl, ax, cn, bJ, ca, bv, au, bS, cL, cb, cS, co, an, an.ptrOnlys, am, aQ, cB, aW, bg, bm, bO, aF, bh, cg, Nat.reduceBEq, undef]
  by_cases h : recvErr ⟨o, g, l⟩ = 0
  · simp only [h, if_true, decide_true, judgeAll, Bool.false_eq_true, if_false, not_true_eq_false, decide_false, true_and]
  · rw [if_pos h, if_neg h]; trivial
def e58 : Ent Try.prog := .of1 58 (fun _ => True) (fun x : Recv => .tup [enc (if recvErr x = 0 then judgeAll softS x else []), enc (recvErr x)]) (fun _ => ⟨trivial, trivial, trivial⟩) (fun x _ => Soft_c x)
end Go.Proofs.Ytfgpbmjmoobcnaa
end
section
open Go Go.Am
open Go.Am.Dat (cells)
namespace Go.Proofs.Ytfgpbmjmoobcnaa
set_option maxHeartbeats 4000000
set_option maxRecDepth 20000
set_option linter.unusedSimpArgs false
theorem rowsD_c (w : List (List Fz)) (m : List (List Gs)) (h : RowsOk w m) : FC Try.prog 87 [enc w] [] (.own 3) [(3, .deep 2 48 35 none (m.map fun r => r.map cells))] := by
  refine fc_introC [3] D.is87 (by simp) trivial trivial (by simp [aI, aG, b0]) trivial (fun cx _ hl _ => S_run [] 800 ?_)
  obtain ⟨hrep, hm, hr, hb⟩ := h
  have hwm := hrep.1
  delta D.c87
  simp (maxSteps := 4000000) -implicitDefEqProofs only [D.rv87, Ent.of0, Ent.of1, Ent.of2, Ent.of3, V, bX, bo, bF, cG, cW, cP, gt, lk, cu, bQ, cr, cz, ce, cj, cj.subCs, cT, bG, a3, b0, aY, aZ, bA, aw, a8, bD, aO, bu, aB, bP, cV, cR, aj, aA, bZ, bR, bN, cU, cK, aE, ap, cp, bz, zC, argS, bI, cd, cN, cJ, ak, aM, aT, aD, bL, leC, bV, cC, bW, cI, cF, aI, aG, cY, aq, bT, a4, a4.viewCs, bn, bn.flatCs, aU, aU.LensOks, Value.oneCell', ↓reduceIte, ite_true, ite_false, if_true, if_false, Nat.reduceAdd, Nat.reduceSub, Nat.reduceMul, Nat.reduceEqDiff, Nat.reduceLT, Nat.reduceLeDiff, reduceCtorEq, Int.reduceToNat, forall_const, implies_true, br, Ent.mk3, bl, bB, a5, be, bC, a0, bj, bp, bH, bk, bE, bK, bt, cQ, rn, cm, cm.renCs, az, aL, aR, aR.viewOks, aH, bf, bf.flatBs, aP, ah, aX, ag, aV, bw, bw.keysBs, aN, ar, a6, bY, bq, cc, ae, ae.passKs, ay, aK, af, af.lendKs, cH, cD, cq, a7, setInn, ai, cM, cO, aC, a9, bM, bU, aJ, av, Glob.gl, ax, cn, bJ, ca, bv, au, bS, cL, cb, cS, co, an, an.ptrOnlys, am, aQ, cB, aW, bg, bm, bO, aF, bh, cg, Nat.reduceBEq, undef]
  refine ⟨by simp, ?_⟩
  refine S_forU w.length (fun i => [(11, .s (.int .i64 i))]) (fun i => [(3, .deep 2 48 35 none ((m.take i).map fun r => r.map cells))]) (fun _ => True) trivial ?_ (fun i hi _ => S_run [] 800 ?_)
  · simp (maxSteps := 4000000) -implicitDefEqProofs only [Ent.of0, Ent.of1, Ent.of2, Ent.of3, V, bX, bo, bF, cG, cW, cP, gt, lk, cu, bQ, cr, cz, ce, cj, cj.subCs, cT, bG, a3, b0, aY, aZ, bA, aw, a8, bD, aO, bu, aB, bP, cV, cR, aj, aA, bZ, bR, bN, cU, cK, aE, ap, cp, bz, zC, argS, bI, cd, cN, cJ, ak, aM, aT, aD, bL, leC, bV, cC, bW, cI, cF, aI, aG, cY, aq, bT, a4, a4.viewCs, bn, bn.flatCs, aU, aU.LensOks, Value.oneCell', ↓reduceIte, ite_true, ite_false, if_true, if_false, Nat.reduceAdd, Nat.reduceSub, Nat.reduceMul, Nat.reduceEqDiff, Nat.reduceLT, Nat.reduceLeDiff, reduceCtorEq, Int.reduceToNat, forall_const, implies_true, br, Ent.mk3, bl, bB, a5, be, bC, a0, bj, bp, bH, bk, bE, bK, bt, cQ, rn, cm, cm.renCs, az, aL, aR, aR.viewOks, aH, bf, bf.flatBs, aP, ah, aX, ag, aV, bw, bw.keysBs, aN, ar, a6, bY, bq, cc, ae, ae.passKs, ay, aK, af, af.lendKs, cH, cD, cq, a7, setInn, ai, cM, cO, aC, a9, bM, bU, aJ, av, Glob.gl, ax, cn, bJ, ca, bv, au, bS, cL, cb, cS, co, an, an.ptrOnlys, am, aQ, cB, aW, bg, bm, bO, aF, bh, cg, Nat.reduceBEq, undef]; simp
  · delta D.c87l2
    by_cases h : i < w.length
    · have hi2 : (i : Int) < (w.length : Int) := by omega
      have him : i < m.length := by omega
      have hrl := hr _ (getD_mem [] him)
      have hbl := hb _ (getD_mem [] him)
      obtain ⟨q1, q2⟩ := hrep.2 i him
      have htkm : ((m.take i).map fun r => r.map cells) ++ [(m.getD i []).map cells] = (m.take (i + 1)).map fun r => r.map cells := by
        rw [take_getD [] him, List.map_append]; rfl
      have htlm : (m.take i).length = i := by rw [List.length_take]; omega
      simp (maxSteps := 4000000) -implicitDefEqProofs only [sz_fz, hi2, getD_list, h, Ent.of0, Ent.of1, Ent.of2, Ent.of3, V, bX, bo, bF, cG, cW, cP, gt, lk, cu, bQ, cr, cz, ce, cj, cj.subCs, cT, bG, a3, b0, aY, aZ, bA, aw, a8, bD, aO, bu, aB, bP, cV, cR, aj, aA, bZ, bR, bN, cU, cK, aE, ap, cp, bz, zC, argS, bI, cd, cN, cJ, ak, aM, aT, aD, bL, leC, bV, cC, bW, cI, cF, aI, aG, cY, aq, bT, a4, a4.viewCs, bn, bn.flatCs, aU, aU.LensOks, Value.oneCell', ↓reduceIte, ite_true, ite_false, if_true, if_false, Nat.reduceAdd, Nat.reduceSub, Nat.reduceMul, Nat.reduceEqDiff, Nat.reduceLT, Nat.reduceLeDiff, reduceCtorEq, Int.reduceToNat, forall_const, implies_true, br, Ent.mk3, bl, bB, a5, be, bC, a0, bj, bp, bH, bk, bE, bK, bt, cQ, rn, cm, cm.renCs, az, aL, aR, aR.viewOks, aH, bf, bf.flatBs, aP, ah, aX, ag, aV, bw, bw.keysBs, aN, ar, a6, bY, bq, cc, ae, ae.passKs, ay, aK, af, af.lendKs, cH, cD, cq, a7, setInn, ai, cM, cO, aC, a9, bM, bU, aJ, av, Glob.gl, ax, cn, bJ, ca, bv, au, bS, cL, cb, cS, co, an, an.ptrOnlys, am, aQ, cB, aW, bg, bm, bO, aF, bh, cg, Nat.reduceBEq, undef]
      refine ⟨by omega, ?_⟩
      generalize hR : w.getD i [] = R at *
      generalize hG : m.getD i [] = G at *
      refine S_forU R.length (fun j => [(17, .s (.int .i64 j))]) (fun j => [(6, .row 2 48 ((G.take j).map cells))]) (fun _ => True) trivial ?_ (fun j hj _ => S_run [] 800 ?_)
      · simp (maxSteps := 4000000) -implicitDefEqProofs only [Ent.of0, Ent.of1, Ent.of2, Ent.of3, V, bX, bo, bF, cG, cW, cP, gt, lk, cu, bQ, cr, cz, ce, cj, cj.subCs, cT, bG, a3, b0, aY, aZ, bA, aw, a8, bD, aO, bu, aB, bP, cV, cR, aj, aA, bZ, bR, bN, cU, cK, aE, ap, cp, bz, zC, argS, bI, cd, cN, cJ, ak, aM, aT, aD, bL, leC, bV, cC, bW, cI, cF, aI, aG, cY, aq, bT, a4, a4.viewCs, bn, bn.flatCs, aU, aU.LensOks, Value.oneCell', ↓reduceIte, ite_true, ite_false, if_true, if_false, Nat.reduceAdd, Nat.reduceSub, Nat.reduceMul, Nat.reduceEqDiff, Nat.reduceLT, Nat.reduceLeDiff, reduceCtorEq, Int.reduceToNat, forall_const, implies_true, br, Ent.mk3, bl, bB, a5, be, bC, a0, bj, bp, bH, bk, bE, bK, bt, cQ, rn, cm, cm.renCs, az, aL, aR, aR.viewOks, aH, bf, bf.flatBs, aP, ah, aX, ag, aV, bw, bw.keysBs, aN, ar, a6, bY, bq, cc, ae, ae.passKs, ay, aK, af, af.lendKs, cH, cD, cq, a7, setInn, ai, cM, cO, aC, a9, bM, bU, aJ, av, Glob.gl, ax, cn, bJ, ca, bv, au, bS, cL, cb, cS, co, an, an.ptrOnlys, am, aQ, cB, aW, bg, bm, bO, aF, bh, cg, Nat.reduceBEq, undef]; simp
      · delta D.c87l1
        by_cases hjl : j < R.length
        · have hj2 : (j : Int) < (R.length : Int) := by omega
          have hjG : j < G.length := by omega
          have htk : (G.take j).map cells ++ [[C.s (.int .i64 (G.getD j ⟨0, 0⟩).re), C.s (.int .i64 (G.getD j ⟨0, 0⟩).im)]] = (G.take (j + 1)).map cells := by
            rw [take_getD ⟨0, 0⟩ hjG, List.map_append]; rfl
          have htl : (G.take j).length = j := by rw [List.length_take]; omega
          obtain ⟨z1, z2⟩ := q2 j hjG
          have t1 := toInt_F z1
          have t2 := toInt_F z2
          obtain ⟨b1, b2⟩ := hbl _ (getD_mem ⟨0, 0⟩ hjG)
          simp (maxSteps := 4000000) -implicitDefEqProofs only [hj2, hjl, bP, getD_fz, t1, t2, htk, htl, IntKind.min, IntKind.max, IntKind.signed, IntKind.bits, InR, Ent.of0, Ent.of1, Ent.of2, Ent.of3, V, bX, bo, bF, cG, cW, cP, gt, lk, cu, bQ, cr, cz, ce, cj, cj.subCs, cT, bG, a3, b0, aY, aZ, bA, aw, a8, bD, aO, bu, aB, bP, cV, cR, aj, aA, bZ, bR, bN, cU, cK, aE, ap, cp, bz, zC, argS, bI, cd, cN, cJ, ak, aM, aT, aD, bL, leC, bV, cC, bW, cI, cF, aI, aG, cY, aq, bT, a4, a4.viewCs, bn, bn.flatCs, aU, aU.LensOks, Value.oneCell', ↓reduceIte, ite_true, ite_false, if_true, if_false, Nat.reduceAdd, Nat.reduceSub, Nat.reduceMul, Nat.reduceEqDiff, Nat.reduceLT, Nat.reduceLeDiff, reduceCtorEq, Int.reduceToNat, forall_const, implies_true, br, Ent.mk3, bl, bB, a5, be, bC, a0, bj, bp, bH, bk, bE, bK, bt, cQ, rn, cm, cm.renCs, az, aL, aR, aR.viewOks, aH, bf, bf.flatBs, aP, ah, aX, ag, aV, bw, bw.keysBs, aN, ar, a6, bY, bq, cc, ae, ae.passKs, ay, aK, af, af.lendKs, cH, cD, cq, a7, setInn, ai, cM, cO, aC, a9, bM, bU, aJ, av, Glob.gl, ax, cn, bJ, ca, bv, au, bS, cL, cb, cS, co, an, an.ptrOnlys, am, aQ, cB, aW, bg, bm, bO, aF, bh, cg, Nat.reduceBEq, undef]
          simp only [Int.reducePow] at *
          and_intros <;> first | omega | rfl | trivial
        · have : j = R.length := by omega
          subst this
          have hj2 : ¬ (R.length : Int) < (R.length : Int) := by omega
          have hG2 : G.take R.length = G := by rw [q1]; exact List.take_length
          simp (maxSteps := 4000000) -implicitDefEqProofs only [hj2, hG2, htkm, htlm, InR, Ent.of0, Ent.of1, Ent.of2, Ent.of3, V, bX, bo, bF, cG, cW, cP, gt, lk, cu, bQ, cr, cz, ce, cj, cj.subCs, cT, bG, a3, b0, aY, aZ, bA, aw, a8, bD, aO, bu, aB, bP, cV, cR, aj, aA, bZ, bR, bN, cU, cK, aE, ap, cp, bz, zC, argS, bI, cd, cN, cJ, ak, aM, aT, aD, bL, leC, bV, cC, bW, cI, cF, aI, aG, cY, aq, bT, a4, a4.viewCs, bn, bn.flatCs, aU, aU.LensOks, Value.oneCell', ↓reduceIte, ite_true, ite_false, if_true, if_false, Nat.reduceAdd, Nat.reduceSub, Nat.reduceMul, Nat.reduceEqDiff, Nat.reduceLT, Nat.reduceLeDiff, reduceCtorEq, Int.reduceToNat, forall_const, implies_true, br, Ent.mk3, bl, bB, a5, be, bC, a0, bj, bp, bH, bk, bE, bK, bt, cQ, rn, cm, cm.renCs, az, aL, aR, aR.viewOks, aH, bf, bf.flatBs, aP, ah, aX, ag, aV, bw, bw.keysBs, aN, ar, a6, bY, bq, cc, ae, ae.passKs, ay, aK, af, af.lendKs, cH, cD, cq, a7, setInn, ai, cM, cO, aC, a9, bM, bU, aJ, av, Glob.gl, ax, cn, bJ, ca, bv, au, bS, cL, cb, cS, co, an, an.ptrOnlys, am, aQ, cB, aW, bg, bm, bO, aF, bh, cg, Nat.reduceBEq, undef]
          and_intros <;> first | omega | rfl | trivial
    · have : i = w.length := by omega
      subst this
      have hi2 : ¬ (w.length : Int) < (w.length : Int) := by omega
      have hm2 : m.take w.length = m := by rw [hwm]; exact List.take_length
      simp (maxSteps := 4000000) -implicitDefEqProofs only [hi2, D.rv87, hm2, Ent.of0, Ent.of1, Ent.of2, Ent.of3, V, bX, bo, bF, cG, cW, cP, gt, lk, cu, bQ, cr, cz, ce, cj, cj.subCs, cT, bG, a3, b0, aY, aZ, bA, aw, a8, bD, aO, bu, aB, bP, cV, cR, aj, aA, bZ, bR, bN, cU, cK, aE, ap, cp, bz, zC, argS, bI, cd, cN, cJ, ak, aM, aT, aD, bL, leC, bV, cC, bW, cI, cF, aI, aG, cY, aq, bT, a4, a4.viewCs, bn, bn.flatCs, aU, aU.LensOks, Value.oneCell', ↓reduceIte, ite_true, ite_false, if_true, if_false, Nat.reduceAdd, Nat.reduceSub, Nat.reduceMul, Nat.reduceEqDiff, Nat.reduceLT, Nat.reduceLeDiff, reduceCtorEq, Int.reduceToNat, forall_const, implies_true, br, Ent.mk3, bl, bB, a5, be, bC, a0, bj, bp, bH, bk, bE, bK, bt, cQ, rn, cm, cm.renCs, az, aL, aR, aR.viewOks, aH, bf, bf.flatBs, aP, ah, aX, ag, aV, bw, bw.keysBs, aN, ar, a6, bY, bq, cc, ae, ae.passKs, ay, aK, af, af.lendKs, cH, cD, cq, a7, setInn, ai, cM, cO, aC, a9, bM, bU, aJ, av, Glob.gl, ax, cn, bJ, ca, bv, au, bS, cL, cb, cS, co, an, an.ptrOnlys, am, aQ, cB, aW, bg, bm, bO, aF, bh, cg, Nat.reduceBEq, undef]
def adjS (m : List (List Gs)) : List (List Gs) :=
  match m with
  | [[_]] => [[⟨1, 0⟩]]
  | [[a, b], [c, d]] => [[d, gsub ⟨0, 0⟩ b], [gsub ⟨0, 0⟩ c, a]]
  | _ => []
theorem zadd {b : Gs} (hb : bd b 1000) : addOk ⟨0, 0⟩ b := ⟨0, 1000, ⟨by simp, by simp⟩, hb, by omega⟩
theorem adj1_c (a : Gs) : FC Try.prog 85 [enc [[a]]] [] (enc (adjS [[a]])) [] := by
  refine fc_intro' is85 (by simp) (fun cx hl => S_run [e113] 800 ?_)
  delta c85
  simp (maxSteps := 4000000) -implicitDefEqProofs only [rv85, e113, adjS, Int.cast_ofNat_Int, Int.natCast_one, Int.natCast_zero, Int.reduceAdd, Int.reduceSub, Int.reduceMul, Int.reduceLT, Int.reduceLE, Int.reduceTMod, Int.reduceTDiv, Int.reduceNeg, Int.reduceEq, Nat.reducePow, Int.reducePow, ne_eq, not_false_eq_true, Ent.of0, Ent.of1, Ent.of2, Ent.of3, V, bX, bo, bF, cG, cW, cP, gt, lk, cu, bQ, cr, cz, ce, cj, cj.subCs, cT, bG, a3, b0, aY, aZ, bA, aw, a8, bD, aO, bu, aB, bP, cV, cR, aj, aA, bZ, bR, bN, cU, cK, aE, ap, cp, bz, zC, argS, bI, cd, cN, cJ, ak, aM, aT, aD, bL, leC, bV, cC, bW, cI, cF, aI, aG, cY, aq, bT, a4, a4.viewCs, bn, bn.flatCs, aU, aU.LensOks, Value.oneCell', ↓reduceIte, ite_true, ite_false, if_true, if_false, Nat.reduceAdd, Nat.reduceSub, Nat.reduceMul, Nat.reduceEqDiff, Nat.reduceLT, Nat.reduceLeDiff, reduceCtorEq, Int.reduceToNat, forall_const, implies_true, br, Ent.mk3, bl, bB, a5, be, bC, a0, bj, bp, bH, bk, bE, bK, bt, cQ, rn, cm, cm.renCs, az, aL, aR, aR.viewOks, aH, bf, bf.flatBs, aP, ah, aX, ag, aV, bw, bw.keysBs, aN, ar, a6, bY, bq, cc, ae, ae.passKs, ay, aK, af, af.lendKs, cH, cD, cq, a7, setInn, ai, cM, cO, aC, a9, bM, bU, aJ, av, Glob.gl, ax, cn, bJ, ca, bv, au, bS, cL, cb, cS, co, an, an.ptrOnlys, am, aQ, cB, aW, bg, bm, bO, aF, bh, cg, Nat.reduceBEq, undef]
theorem adj2_c (a b c d : Gs) (h1 : bd b 1000) (h2 : bd c 1000) : FC Try.prog 85 [enc [[a, b], [c, d]]] [] (enc (adjS [[a, b], [c, d]])) [] := by
  have m1 := zadd h1
  have m2 := zadd h2
  refine fc_intro' is85 (by simp) (fun cx hl => S_run [e113] 800 ?_)
  delta c85
  simp (maxSteps := 4000000) -implicitDefEqProofs only [rv85, e113, adjS, m1, m2, gs_eta, Int.cast_ofNat_Int, Int.natCast_one, Int.natCast_zero, Int.reduceAdd, Int.reduceSub, Int.reduceMul, Int.reduceLT, Int.reduceLE, Int.reduceTMod, Int.reduceTDiv, Int.reduceNeg, Int.reduceEq, Nat.reducePow, Int.reducePow, ne_eq, not_false_eq_true, Ent.of0, Ent.of1, Ent.of2, Ent.of3, V, bX, bo, bF, cG, cW, cP, gt, lk, cu, bQ, cr, cz, ce, cj, cj.subCs, cT, bG, a3, b0, aY, aZ, bA, aw, a8, bD, aO, bu, aB, bP, cV, cR, aj, aA, bZ, bR, bN, cU, cK, aE, ap, cp, bz, zC, argS, bI, cd, cN, cJ, ak, aM, aT, aD, bL, leC, bV, cC, bW, cI, cF, aI, aG, cY, aq, bT, a4, a4.viewCs, bn, bn.flatCs, aU, aU.LensOks, Value.oneCell', ↓reduceIte, ite_true, ite_false, if_true, if_false, Nat.reduceAdd, Nat.reduceSub, Nat.reduceMul, Nat.reduceEqDiff, Nat.reduceLT, Nat.reduceLeDiff, reduceCtorEq, Int.reduceToNat, forall_const, implies_true, br, Ent.mk3, bl, bB, a5, be, bC, a0, bj, bp, bH, bk, bE, bK, bt, cQ, rn, cm, cm.renCs, az, aL, aR, aR.viewOks, aH, bf, bf.flatBs, aP, ah, aX, ag, aV, bw, bw.keysBs, aN, ar, a6, bY, bq, cc, ae, ae.passKs, ay, aK, af, af.lendKs, cH, cD, cq, a7, setInn, ai, cM, cO, aC, a9, bM, bU, aJ, av, Glob.gl, ax, cn, bJ, ca, bv, au, bS, cL, cb, cS, co, an, an.ptrOnlys, am, aQ, cB, aW, bg, bm, bO, aF, bh, cg, Nat.reduceBEq, undef]
end Go.Proofs.Ytfgpbmjmoobcnaa
end
section
open Go Go.Am
open Go.Am.Dat (cells)
namespace Go.Proofs.Ytfgpbmjmoobcnaa
set_option maxHeartbeats 4000000
set_option maxRecDepth 20000
set_option linter.unusedSimpArgs false
def xjC (F : Gs → Gs) (x : List Gs) (j : Nat) : List (List C) := ((x.take j).map F ++ x.drop j).map cells
def riC (F : Gs → Gs) (O : List (List Gs)) (i : Nat) : List (List (List C)) := ((O.take i).map (fun x => x.map F) ++ O.drop i).map fun r => r.map cells
def rjC (F : Gs → Gs) (O : List (List Gs)) (i j : Nat) : List (List (List C)) := ((O.take i).map fun x => (x.map F).map cells) ++ xjC F (O.getD i []) j :: (O.drop (i + 1)).map fun r => r.map cells
variable {F : Gs → Gs} {O : List (List Gs)} {x : List Gs} {i j : Nat}
theorem xjC_length (h : j ≤ x.length) : (xjC F x j).length = x.length := by
  simp [xjC]; omega
theorem xjC_get (h : j < x.length) (d : List C) : (xjC F x j).getD j d = cells (x.getD j ⟨0, 0⟩) := by
  have e : x.drop j = x.getD j ⟨0, 0⟩ :: x.drop (j + 1) := drop_getD _ h
  have hl : ((x.take j).map F).length = j := by simp; omega
  rw [xjC, e, List.map_append, List.getD_eq_getElem?_getD, List.getElem?_append_right (by simp; omega)]
  simp [Nat.min_eq_left (Nat.le_of_lt h)]
theorem xjC_set (h : j < x.length) : (xjC F x j).set j (cells (F (x.getD j ⟨0, 0⟩))) = xjC F x (j + 1) := by
  have e : x.drop j = x.getD j ⟨0, 0⟩ :: x.drop (j + 1) := drop_getD _ h
  have hl : ((x.take j).map F).length = j := by simp; omega
  rw [xjC, xjC, e, take_getD ⟨0, 0⟩ h]
  simp only [List.map_append, List.map_cons, List.map_nil, List.append_assoc, List.cons_append, List.nil_append]
  rw [List.set_append_right _ _ (by simp; omega)]
  simp [Nat.min_eq_left (Nat.le_of_lt h)]
theorem xjC_get' (h : j < x.length) (d : List C) : (xjC F x (j + 1)).getD j d = cells (F (x.getD j ⟨0, 0⟩)) := by
  rw [← xjC_set h, List.getD_eq_getElem?_getD, List.getElem?_set_self (by rw [xjC_length (by omega)]; exact h)]; rfl
theorem rjC_length (h : i < O.length) : (rjC F O i j).length = O.length := by
  simp [rjC]; omega
theorem rjC_get (h : i < O.length) (d : List (List C)) : (rjC F O i j).getD i d = xjC F (O.getD i []) j := by
  rw [rjC, List.getD_eq_getElem?_getD, List.getElem?_append_right (by simp; omega)]
  simp [Nat.min_eq_left (Nat.le_of_lt h)]
theorem rjC_set (h : i < O.length) : (rjC F O i j).set i (xjC F (O.getD i []) (j + 1)) = rjC F O i (j + 1) := by
  rw [rjC, rjC, List.set_append_right _ _ (by simp; omega)]
  simp [Nat.min_eq_left (Nat.le_of_lt h)]
theorem riC_rj (h : i < O.length) : riC F O i = rjC F O i 0 := by
  have e : O.drop i = O.getD i [] :: O.drop (i + 1) := drop_getD _ h
  rw [riC, rjC, e, List.map_append, List.map_map]
  simp [xjC, Function.comp_def]
theorem rjC_ri (h : i < O.length) : rjC F O i (O.getD i []).length = riC F O (i + 1) := by
  rw [riC, rjC, take_getD [] h]
  simp [xjC, Function.comp_def]
theorem riC_zero : riC F O 0 = O.map fun r => r.map cells := by simp [riC]
theorem riC_all : riC F O O.length = (O.map fun x => x.map F).map fun r => r.map cells := by simp [riC]
end Go.Proofs.Ytfgpbmjmoobcnaa
end
section
open Go Go.Am
open Go.Am.Dat (cells)
namespace Go.Proofs.Ytfgpbmjmoobcnaa
set_option maxHeartbeats 4000000
set_option maxRecDepth 20000
set_option linter.unusedSimpArgs false
def adjOk (m : List (List Gs)) : Prop := (∃ a, m = [[a]]) ∨ ∃ a b c d, m = [[a, b], [c, d]] ∧ bd b 1000 ∧ bd c 1000
def e85 : Ent Try.prog := .of1 85 adjOk (fun m : List (List Gs) => enc (adjS m)) (fun _ => trivial) (fun m h => by
  rcases h with ⟨a, rfl⟩ | ⟨a, b, c, d, rfl, h1, h2⟩
  · exact adj1_c a
  · exact adj2_c a b c d h1 h2)
def timesOk (a o : List (List Fz)) : Prop := ∃ m ls A B, Fits m ls A B ∧ 8 * (A * B) ≤ 9007199254740991 ∧ RepM a m ∧ RepM o ls
def e86 : Ent Try.prog := .of2 86 timesOk (fun a o : List (List Fz) => enc (timesW a o)) (fun _ _ => trivial) (fun a o h => by
  obtain ⟨m, ls, A, B, h1, h2, h3, h4⟩ := h
  exact gridTimes_c a o m ls A B h1 h2 h3 h4)
def e87D : Ent Try.prog := .mk3 87 (fun args chs => match args, chs with
    | [.sl 1 t], [] => (decL t : Option (List (List Fz))).bind fun w => some (RowsOk w (ofM w), .own 3, [(3, .deep 2 48 35 none ((ofM w).map fun r => r.map cells))], [3])
    | _, _ => none) (by
  intro args chs p r chs' nk hs hp
  split at hs
  · simp only [Option.bind_eq_some_iff, Option.some.injEq, Prod.mk.injEq] at hs
    obtain ⟨w, hw, rfl, rfl, rfl, rfl⟩ := hs
    have := decL_ok hw
    subst this
    refine ⟨rowsD_c w _ hp, ⟨fun k c h => .inl ?_, fun k cs h => by simp at h, by simp [keysIn], fun k c h => ?_⟩⟩
    · simp only [List.mem_singleton, Prod.mk.injEq] at h; rw [h.1]; exact List.mem_singleton.2 rfl
    · simp only [List.mem_singleton, Prod.mk.injEq] at h; rw [h.2]; trivial
  · cases hs)
theorem sym_of {l : List Gs} (h : symErr l = 0) : 0 < l.length ∧ l.length ≤ 200 ∧ ∀ g ∈ l, bd g 100000000 := by
  unfold symErr at h
  split at h
  · cases h
  · split at h
    · cases h
    · split at h
      · rename_i h1 h2 h3
        exact ⟨by omega, by omega, fun g hg => smallG_bd (by simpa using List.all_eq_true.1 h3 g hg)⟩
      · cases h
theorem lay_of {r : List (List Gs)} (h : layErr r = 0) : 0 < r.length ∧ r.length ≤ 4 ∧ ∀ x ∈ r, x.length = (r.getD 0 []).length ∧ 0 < x.length ∧ x.length ≤ 200 ∧ ∀ g ∈ x, bd g 100000000 := by
  unfold layErr at h
  split at h
  · cases h
  · split at h
    · cases h
    · refine ⟨by omega, by omega, fun x hx => ?_⟩
      have := firstS_zero h _ (List.mem_map.2 ⟨x, hx, rfl⟩)
      by_cases h1 : symErr x = 0
      · rw [if_neg (by simpa using h1)] at this
        obtain ⟨q1, q2, q3⟩ := sym_of h1
        refine ⟨?_, q1, q2, q3⟩
        split at this
        · cases this
        · omega
      · rw [if_pos h1] at this; exact absurd this h1
theorem det_of {m : List (List Gs)} (h : symDetE m = 0) : adjOk m ∧ (∀ x ∈ m, x.length = m.length ∧ ∀ g ∈ x, bd g 1000) ∧ 0 < m.length ∧ m.length ≤ 2 := by
  unfold symDetE at h
  by_cases h1 : matErr m = 0
  · rw [if_neg (by simpa using h1)] at h
    have hr := right_of h1
    unfold detE at h
    split at h
    · cases h
    · split at h
      · cases h
      · rename_i h2 h3
        have hb : ∀ x ∈ m, x.length = m.length ∧ ∀ g ∈ x, bd g 1000 := fun x hx => ⟨by have := (hr.row x hx).1; omega, fun g hg => smallG_bd ((hr.row x hx).2.2.2 g hg)⟩
        refine ⟨?_, hb, hr.pos, by omega⟩
        match m, hb, hr.pos, h3 with
        | [x], hb, _, _ =>
          obtain ⟨q1, q2⟩ := hb x (by simp)
          match x, q1 with
          | [a], _ => exact .inl ⟨a, rfl⟩
        | [x, y], hb, _, _ =>
          obtain ⟨q1, q2⟩ := hb x (by simp)
          obtain ⟨q3, q4⟩ := hb y (by simp)
          match x, y, q1, q3, q2, q4 with
          | [a, b], [c, d], _, _, q2, q4 => exact .inr ⟨a, b, c, d, rfl, q2 b (by simp), q4 c (by simp)⟩
        | _ :: _ :: _ :: _, _, _, h3 => simp at h3
  · rw [if_pos h1] at h; exact absurd h h1
theorem adjS_length {m : List (List Gs)} (ha : adjOk m) : (adjS m).length = m.length ∧ ∀ x ∈ adjS m, x.length = m.length := by
  rcases ha with ⟨a, rfl⟩ | ⟨a, b, c, d, rfl, _, _⟩ <;> simp [adjS]
theorem adj_fits {m r : List (List Gs)} (ha : adjOk m) (hm : ∀ x ∈ m, x.length = m.length ∧ ∀ g ∈ x, bd g 1000) (hl : layErr r = 0) (hrm : r.length = m.length) : Fits (adjS m) r 1000 100000000 := by
  obtain ⟨h1, h2, h3⟩ := lay_of hl
  obtain ⟨g1, g2⟩ := adjS_length ha
  refine ⟨h1, h2, by omega, fun x hx => (h3 x hx).1, ?_, fun x hx => by rw [g2 x hx, hrm], ?_, fun x hx g hg => (h3 x hx).2.2.2 g hg, by omega⟩
  · have := (h3 _ (getD_mem [] h1)).2.2.1; omega
  · rcases ha with ⟨a, rfl⟩ | ⟨a, b, c, d, rfl, h1, h2⟩
    · intro x hx g hg
      simp [adjS] at hx; subst hx; simp at hg; subst hg
      constructor <;> simp
    · have ha := (hm [a, b] (by simp)).2 a (by simp)
      have hd := (hm [c, d] (by simp)).2 d (by simp)
      intro x hx g hg
      simp only [bd] at *
      simp only [adjS, List.mem_cons, List.not_mem_nil, or_false] at hx
      rcases hx with rfl | rfl <;> simp only [List.mem_cons, List.not_mem_nil, or_false] at hg <;> rcases hg with rfl | rfl <;> (try simp only [gsub]) <;> omega
def eqErr (m r : List (List Gs)) : Int := firstS [symDetE m, layErr r, if r.length = m.length then 0 else 13, if symDetS m = ⟨0, 0⟩ then 27 else 0]
def gainS (m : List (List Gs)) : Int := (gmul (symDetS m) (gconj (symDetS m))).re
def eqOut (m r : List (List Gs)) : List (List Gs) := (applS (adjS m) r).map fun x => x.map (gmul (gconj (symDetS m)))
def eqE (m r : List (List Gs)) : Int := if eqErr m r ≠ 0 then eqErr m r else if gainS m > 10000000 then 8 else if (eqOut m r).all fun x => x.all (smallG · 100000000) then 0 else 8
theorem Equalized_c (m r : List (List Gs)) : FC Try.prog 17 [enc m, enc r] [] (.tup [enc (if eqE m r = 0 then eqOut m r else []), enc (if eqE m r = 0 then gainS m else 0), enc (eqE m r)]) [] := by
  refine fc_introC [] D.is17 (by simp) trivial trivial trivial trivial (fun cx _ hl _ => S_run [e49, e81, e82, e80, e83, e84, e85, e86, e87D] 800 ?_)
  have hEq : firstS [symDetE m, layErr r, if (r.length : Int) = (m.length : Int) then 0 else 13, if (decide ((symDetS m).re = 0) && decide ((symDetS m).im = 0)) = false then 0 else 27] = eqErr m r := by
    have e1 : (if (r.length : Int) = (m.length : Int) then (0 : Int) else 13) = if r.length = m.length then 0 else 13 := by
      by_cases h : r.length = m.length
      · simp [h]
      · rw [if_neg h, if_neg (by omega)]
    have e2 : (if (decide ((symDetS m).re = 0) && decide ((symDetS m).im = 0)) = false then (0 : Int) else 27) = if symDetS m = ⟨0, 0⟩ then 27 else 0 := by
      by_cases h : symDetS m = ⟨0, 0⟩
      · rw [h]; simp
      · rw [if_neg h, if_pos]
        rw [Bool.and_eq_false_iff]
        by_cases h1 : (symDetS m).re = 0
        · right
          simp only [decide_eq_false_iff_not]
          intro h2
          apply h
          cases hq : symDetS m
          rw [hq] at h1 h2
          simp only at h1 h2
          rw [h1, h2]
        · left; simpa using h1
    rw [e1, e2]; rfl
  by_cases he : eqErr m r = 0
  · have hz := firstS_zero he
    have z1 : symDetE m = 0 := hz _ (by simp)
    have z2 : layErr r = 0 := hz _ (by simp)
    have z3 : r.length = m.length := by
      have : (if r.length = m.length then (0 : Int) else 13) = 0 := hz _ (by simp)
      split at this
      · assumption
      · cases this
    obtain ⟨d1, d2, d3, d4⟩ := det_of z1
    have hf := adj_fits d1 d2 z2 z3
    obtain ⟨l1, l2, l3⟩ := lay_of z2
    have hga : RepM (gridS (adjS m)) (adjS m) := grid_rep fun x hx g hg => by
      have := hf.ma x hx g hg
      simp only [bd] at *; omega
    have hgr : RepM (gridS r) r := grid_rep fun x hx g hg => by
      have := hf.mb x hx g hg
      simp only [bd] at *; omega
    have hrep := times_rep hf (by omega) hga hgr
    have hO := ofM_c hrep
    have hOl : (applS (adjS m) r).length = m.length := by simp [applS, (adjS_length d1).1]
    rw [he] at hEq
    delta D.c17
    simp (maxSteps := 4000000) -implicitDefEqProofs only [D.rv17, e49, e81, e82, e80, e83, e84, e85, e86, e87D, hEq, hO, Ent.of0, Ent.of1, Ent.of2, Ent.of3, V, bX, bo, bF, cG, cW, cP, gt, lk, cu, bQ, cr, cz, ce, cj, cj.subCs, cT, bG, a3, b0, aY, aZ, bA, aw, a8, bD, aO, bu, aB, bP, cV, cR, aj, aA, bZ, bR, bN, cU, cK, aE, ap, cp, bz, zC, argS, bI, cd, cN, cJ, ak, aM, aT, aD, bL, leC, bV, cC, bW, cI, cF, aI, aG, cY, aq, bT, a4, a4.viewCs, bn, bn.flatCs, aU, aU.LensOks, Value.oneCell', ↓reduceIte, ite_true, ite_false, if_true, if_false, Nat.reduceAdd, Nat.reduceSub, Nat.reduceMul, Nat.reduceEqDiff, Nat.reduceLT, Nat.reduceLeDiff, reduceCtorEq, Int.reduceToNat, forall_const, implies_true, br, Ent.mk3, bl, bB, a5, be, bC, a0, bj, bp, bH, bk, bE, bK, bt, cQ, rn, cm, cm.renCs, az, aL, aR, aR.viewOks, aH, bf, bf.flatBs, aP, ah, aX, ag, aV, bw, bw.keysBs, aN, ar, a6, bY, bq, cc, ae, ae.passKs, ay, aK, af, af.lendKs, cH, cD, cq, a7, setInn, ai, cM, cO, aC, a9, bM, bU, aJ, av, Glob.gl, ax, cn, bJ, ca, bv, au, bS, cL, cb, cS, co, an, an.ptrOnlys, am, aQ, cB, aW, bg, bm, bO, aF, bh, cg, Nat.reduceBEq, undef]
    have hbd : bd (symDetS m) 4000000 := by
      have e : symDetS m = detS m := by unfold symDetS symDetE at *; split at z1 <;> simp_all
      rw [e]
      rcases d1 with ⟨a, rfl⟩ | ⟨a, b, c, d, rfl, _, _⟩
      · have := (d2 [a] (by simp)).2 a (by simp)
        simp only [detS, bd] at *; omega
      · have ha := (d2 [a, b] (by simp)).2 a (by simp)
        have hb := (d2 [a, b] (by simp)).2 b (by simp)
        have hc := (d2 [c, d] (by simp)).2 c (by simp)
        have hd := (d2 [c, d] (by simp)).2 d (by simp)
        have q1 := bd_gmul ha hd
        have q2 := bd_gmul hb hc
        simp only [detS, bd, gsub] at *
        omega
    have hgc : gconj (symDetS m) = ⟨(symDetS m).re, -(symDetS m).im⟩ := rfl
    have hgain : gainS m = (gmul (symDetS m) ⟨(symDetS m).re, -(symDetS m).im⟩).re := rfl
    have hgain2 : gainS m = (symDetS m).re * (symDetS m).re + (symDetS m).im * (symDetS m).im := by
      rw [hgain]; simp only [gmul]; rw [Int.mul_neg]; omega
    have heE : eqE m r = if gainS m > 10000000 then 8 else if (eqOut m r).all fun x => x.all (smallG · 100000000) then 0 else 8 := by unfold eqE; rw [if_neg (by simpa using he)]
    have hout : eqOut m r = (applS (adjS m) r).map fun x => x.map (gmul (gconj (symDetS m))) := rfl
    refine ⟨by simp only [bd, InR] at *; omega, ⟨4000000, 4000000, hbd, by simp only [bd] at *; omega, by omega⟩, ?_⟩
    rw [← hgain]
    by_cases hG : gainS m > 10000000
    · rw [if_pos hG, heE, if_pos hG]
      exact ⟨trivial, rfl, rfl⟩
    · rw [if_neg hG]
      rw [if_neg hG] at heE
      have hal := adjS_length d1
      have hrows : ∀ x ∈ applS (adjS m) r, x.length ≤ 1000000 ∧ ∀ g ∈ x, bd g 800000000000 := fun x hx => by
        obtain ⟨row, hrow, rfl⟩ := List.mem_map.1 hx
        refine ⟨by simp only [rowS', List.length_map, List.length_range]; exact hf.short, fun g hg => ?_⟩
        obtain ⟨k, hk, rfl⟩ := List.mem_map.1 hg
        have := bd_dot hf hrow (by simpa using hk) r.length (Nat.le_refl _)
        have h4 : r.length * (2 * (1000 * 100000000)) ≤ 4 * (2 * (1000 * 100000000)) := Nat.mul_le_mul_right _ l2
        simp only [bd] at *; omega
      refine ⟨d1, ⟨by omega, fun x hx => by rw [hal.2 x hx]; omega⟩, ⟨by omega, fun x hx => by have := (l3 x hx).2.2.1; omega⟩, ⟨_, _, _, _, hf, by omega, hga, hgr⟩, ⟨hrep, by omega, fun x hx => (hrows x hx).1, fun x hx g hg => by have := (hrows x hx).2 g hg; simp only [bd] at *; omega⟩, ?_⟩
      have hback : bd (gconj (symDetS m)) 4000 := by
        have sq : ∀ a b : Int, a * a + b * b ≤ 10000000 → a.natAbs ≤ 4000 := fun a b h => by
          rcases Nat.lt_or_ge 4000 a.natAbs with h1 | h1
          · have h2 : 4001 * 4001 ≤ a.natAbs * a.natAbs := Nat.mul_le_mul h1 h1
            have h3 : ((a.natAbs * a.natAbs : Nat) : Int) = a * a := by rw [← Int.natAbs_mul_self]
            have h4 : (0 : Int) ≤ b * b := by rw [← Int.natAbs_mul_self]; omega
            omega
          · exact h1
        have q1 := sq (symDetS m).re (symDetS m).im (by omega)
        have q2 := sq (symDetS m).im (symDetS m).re (by omega)
        simp only [bd, gconj] at *; omega
      generalize hF : gmul (gconj (symDetS m)) = F at *
      generalize hOO : applS (adjS m) r = O at *
      rw [hgc] at hF hback
      have hFg : ∀ g, gmul ⟨(symDetS m).re, -(symDetS m).im⟩ g = F g := fun g => by rw [← hF]
      generalize hB : (⟨(symDetS m).re, -(symDetS m).im⟩ : Gs) = B at *
      generalize (symDetS m).re = Dr at *
      generalize (symDetS m).im = Di at *
      generalize eqE m r = E at *
      generalize eqOut m r = Out at *
      generalize gainS m = n at *
      clear hF hgain hgain2 hgc hbd hEq he hz z1 z2 z3 d1 d2 hf l3 hga hgr hrep hO hal hOO hG
      subst hB
      refine S_forU O.length (fun i => [(60, .s (.int .i64 (i : Int)))]) (fun i => [(57, .deep 2 48 35 none (riC F O i))]) (fun i => ((O.take i).all fun x => x.all fun g => smallG (F g) 100000000) = true) (by simp) ?_ (fun i hi hv => S_run [e83, e88] 800 ?_)
      · simp (maxSteps := 4000000) -implicitDefEqProofs only [riC_zero, Ent.of0, Ent.of1, Ent.of2, Ent.of3, V, bX, bo, bF, cG, cW, cP, gt, lk, cu, bQ, cr, cz, ce, cj, cj.subCs, cT, bG, a3, b0, aY, aZ, bA, aw, a8, bD, aO, bu, aB, bP, cV, cR, aj, aA, bZ, bR, bN, cU, cK, aE, ap, cp, bz, zC, argS, bI, cd, cN, cJ, ak, aM, aT, aD, bL, leC, bV, cC, bW, cI, cF, aI, aG, cY, aq, bT, a4, a4.viewCs, bn, bn.flatCs, aU, aU.LensOks, Value.oneCell', ↓reduceIte, ite_true, ite_false, if_true, if_false, Nat.reduceAdd, Nat.reduceSub, Nat.reduceMul, Nat.reduceEqDiff, Nat.reduceLT, Nat.reduceLeDiff, reduceCtorEq, Int.reduceToNat, forall_const, implies_true, br, Ent.mk3, bl, bB, a5, be, bC, a0, bj, bp, bH, bk, bE, bK, bt, cQ, rn, cm, cm.renCs, az, aL, aR, aR.viewOks, aH, bf, bf.flatBs, aP, ah, aX, ag, aV, bw, bw.keysBs, aN, ar, a6, bY, bq, cc, ae, ae.passKs, ay, aK, af, af.lendKs, cH, cD, cq, a7, setInn, ai, cM, cO, aC, a9, bM, bU, aJ, av, Glob.gl, ax, cn, bJ, ca, bv, au, bS, cL, cb, cS, co, an, an.ptrOnlys, am, aQ, cB, aW, bg, bm, bO, aF, bh, cg, Nat.reduceBEq, undef]
        rfl
      · delta D.c17l2
        by_cases h : i < O.length
        · have hi2 : (i : Int) < (O.length : Int) := by omega
          have r1 : (rjC F O i 0).length = O.length := rjC_length h
          have r2 : (rjC F O i 0).getD i [] = xjC F (O.getD i []) 0 := rjC_get h []
          have r3 : (xjC F (O.getD i []) 0).length = (O.getD i []).length := xjC_length (by omega)
          rw [riC_rj h]
          simp (maxSteps := 4000000) -implicitDefEqProofs only [hi2, r1, r2, r3, h, InR, Ent.of0, Ent.of1, Ent.of2, Ent.of3, V, bX, bo, bF, cG, cW, cP, gt, lk, cu, bQ, cr, cz, ce, cj, cj.subCs, cT, bG, a3, b0, aY, aZ, bA, aw, a8, bD, aO, bu, aB, bP, cV, cR, aj, aA, bZ, bR, bN, cU, cK, aE, ap, cp, bz, zC, argS, bI, cd, cN, cJ, ak, aM, aT, aD, bL, leC, bV, cC, bW, cI, cF, aI, aG, cY, aq, bT, a4, a4.viewCs, bn, bn.flatCs, aU, aU.LensOks, Value.oneCell', ↓reduceIte, ite_true, ite_false, if_true, if_false, Nat.reduceAdd, Nat.reduceSub, Nat.reduceMul, Nat.reduceEqDiff, Nat.reduceLT, Nat.reduceLeDiff, reduceCtorEq, Int.reduceToNat, forall_const, implies_true, br, Ent.mk3, bl, bB, a5, be, bC, a0, bj, bp, bH, bk, bE, bK, bt, cQ, rn, cm, cm.renCs, az, aL, aR, aR.viewOks, aH, bf, bf.flatBs, aP, ah, aX, ag, aV, bw, bw.keysBs, aN, ar, a6, bY, bq, cc, ae, ae.passKs, ay, aK, af, af.lendKs, cH, cD, cq, a7, setInn, ai, cM, cO, aC, a9, bM, bU, aJ, av, Glob.gl, ax, cn, bJ, ca, bv, au, bS, cL, cb, cS, co, an, an.ptrOnlys, am, aQ, cB, aW, bg, bm, bO, aF, bh, cg, Nat.reduceBEq, undef]
          refine ⟨by omega, by simp, by simp, ?_⟩
          have hXm := hrows _ (getD_mem [] h)
          have htk : O.take (i + 1) = O.take i ++ [O.getD i []] := take_getD [] h
          have hXmem : O.getD i [] ∈ O := getD_mem [] h
          have rn := rjC_ri (F := F) h
          have g1 : ∀ j, (rjC F O i j).length = O.length := fun j => rjC_length h
          have g2 : ∀ j, (rjC F O i j).getD i [] = xjC F (O.getD i []) j := fun j => rjC_get h []
          have g3 : ∀ j, (rjC F O i j).set i (xjC F (O.getD i []) (j + 1)) = rjC F O i (j + 1) := fun j => rjC_set h
          generalize hX : O.getD i [] = X at *
          refine S_forU X.length (fun j => [(66, .s (.int .i64 (j : Int)))]) (fun j => [(57, .deep 2 48 35 none (rjC F O i j))]) (fun j => ((X.take j).all fun g => smallG (F g) 100000000) = true) (by simp) ?_ (fun j hj hw => S_run [e83, e88] 800 ?_)
          · simp (maxSteps := 4000000) -implicitDefEqProofs only [Ent.of0, Ent.of1, Ent.of2, Ent.of3, V, bX, bo, bF, cG, cW, cP, gt, lk, cu, bQ, cr, cz, ce, cj, cj.subCs, cT, bG, a3, b0, aY, aZ, bA, aw, a8, bD, aO, bu, aB, bP, cV, cR, aj, aA, bZ, bR, bN, cU, cK, aE, ap, cp, bz, zC, argS, bI, cd, cN, cJ, ak, aM, aT, aD, bL, leC, bV, cC, bW, cI, cF, aI, aG, cY, aq, bT, a4, a4.viewCs, bn, bn.flatCs, aU, aU.LensOks, Value.oneCell', ↓reduceIte, ite_true, ite_false, if_true, if_false, Nat.reduceAdd, Nat.reduceSub, Nat.reduceMul, Nat.reduceEqDiff, Nat.reduceLT, Nat.reduceLeDiff, reduceCtorEq, Int.reduceToNat, forall_const, implies_true, br, Ent.mk3, bl, bB, a5, be, bC, a0, bj, bp, bH, bk, bE, bK, bt, cQ, rn, cm, cm.renCs, az, aL, aR, aR.viewOks, aH, bf, bf.flatBs, aP, ah, aX, ag, aV, bw, bw.keysBs, aN, ar, a6, bY, bq, cc, ae, ae.passKs, ay, aK, af, af.lendKs, cH, cD, cq, a7, setInn, ai, cM, cO, aC, a9, bM, bU, aJ, av, Glob.gl, ax, cn, bJ, ca, bv, au, bS, cL, cb, cS, co, an, an.ptrOnlys, am, aQ, cB, aW, bg, bm, bO, aF, bh, cg, Nat.reduceBEq, undef]; rfl
          · delta D.c17l1
            by_cases hjl : j < X.length
            · have hj2 : (j : Int) < (X.length : Int) := by omega
              have g4 : (xjC F X j).length = X.length := xjC_length (by omega)
              have g4' : (xjC F X (j + 1)).length = X.length := xjC_length (by omega)
              have g5 : (xjC F X j).getD j [] = [.s (.int .i64 (X.getD j ⟨0, 0⟩).re), .s (.int .i64 (X.getD j ⟨0, 0⟩).im)] := xjC_get hjl []
              have g6 : (xjC F X (j + 1)).getD j [] = [.s (.int .i64 (F (X.getD j ⟨0, 0⟩)).re), .s (.int .i64 (F (X.getD j ⟨0, 0⟩)).im)] := xjC_get' hjl []
              have g7 : (xjC F X j).set j [.s (.int .i64 (F (X.getD j ⟨0, 0⟩)).re), .s (.int .i64 (F (X.getD j ⟨0, 0⟩)).im)] = xjC F X (j + 1) := xjC_set hjl
              have hgm := getD_mem ⟨0, 0⟩ hjl
              have hm1 : mulOk ⟨Dr, -Di⟩ (X.getD j ⟨0, 0⟩) := ⟨4000, 800000000000, hback, hXm.2 _ hgm, by omega⟩
              have htk2 : X.take (j + 1) = X.take j ++ [X.getD j ⟨0, 0⟩] := take_getD _ hjl
              simp (maxSteps := 4000000) -implicitDefEqProofs only [hj2, g1, g2, g3, g4, g4', g5, g6, g7, h, hjl, gs_eta, hFg, hm1, e83, e88, aw, D.rv17, InR, Ent.of0, Ent.of1, Ent.of2, Ent.of3, V, bX, bo, bF, cG, cW, cP, gt, lk, cu, bQ, cr, cz, ce, cj, cj.subCs, cT, bG, a3, b0, aY, aZ, bA, aw, a8, bD, aO, bu, aB, bP, cV, cR, aj, aA, bZ, bR, bN, cU, cK, aE, ap, cp, bz, zC, argS, bI, cd, cN, cJ, ak, aM, aT, aD, bL, leC, bV, cC, bW, cI, cF, aI, aG, cY, aq, bT, a4, a4.viewCs, bn, bn.flatCs, aU, aU.LensOks, Value.oneCell', ↓reduceIte, ite_true, ite_false, if_true, if_false, Nat.reduceAdd, Nat.reduceSub, Nat.reduceMul, Nat.reduceEqDiff, Nat.reduceLT, Nat.reduceLeDiff, reduceCtorEq, Int.reduceToNat, forall_const, implies_true, br, Ent.mk3, bl, bB, a5, be, bC, a0, bj, bp, bH, bk, bE, bK, bt, cQ, rn, cm, cm.renCs, az, aL, aR, aR.viewOks, aH, bf, bf.flatBs, aP, ah, aX, ag, aV, bw, bw.keysBs, aN, ar, a6, bY, bq, cc, ae, ae.passKs, ay, aK, af, af.lendKs, cH, cD, cq, a7, setInn, ai, cM, cO, aC, a9, bM, bU, aJ, av, Glob.gl, ax, cn, bJ, ca, bv, au, bS, cL, cb, cS, co, an, an.ptrOnlys, am, aQ, cB, aW, bg, bm, bO, aF, bh, cg, Nat.reduceBEq, undef]
              have hne : (none : Option Nat) ≠ some i := by simp
              have hj0 : (0 : Int) ≤ (j : Int) := by omega
              refine ⟨⟨hne, hj0⟩, hne, ⟨hne, hj0⟩, hne, ⟨hne, hj0⟩, hne, by omega, ?_⟩
              by_cases hs : smallG (F (X.getD j ⟨0, 0⟩)) 100000000 = false
              · rw [if_pos hs]
                have hE8 : E = 8 := by
                  rw [heE, if_neg]
                  rw [hout]
                  intro ha
                  have h1 := List.all_eq_true.1 ha _ (List.mem_map.2 ⟨X, hXmem, rfl⟩)
                  have h2 := List.all_eq_true.1 h1 _ (List.mem_map.2 ⟨_, hgm, rfl⟩)
                  rw [hs] at h2; cases h2
                rw [hE8]
                exact ⟨trivial, rfl, rfl⟩
              · rw [if_neg hs]
                refine ⟨by omega, ?_, by omega⟩
                rw [htk2, List.all_append, hw]
                simpa using hs
            · have hje : j = X.length := by omega
              subst hje
              have hj2 : ¬ (X.length : Int) < (X.length : Int) := by omega
              simp (maxSteps := 4000000) -implicitDefEqProofs only [hj2, rn, h, htk, InR, Ent.of0, Ent.of1, Ent.of2, Ent.of3, V, bX, bo, bF, cG, cW, cP, gt, lk, cu, bQ, cr, cz, ce, cj, cj.subCs, cT, bG, a3, b0, aY, aZ, bA, aw, a8, bD, aO, bu, aB, bP, cV, cR, aj, aA, bZ, bR, bN, cU, cK, aE, ap, cp, bz, zC, argS, bI, cd, cN, cJ, ak, aM, aT, aD, bL, leC, bV, cC, bW, cI, cF, aI, aG, cY, aq, bT, a4, a4.viewCs, bn, bn.flatCs, aU, aU.LensOks, Value.oneCell', ↓reduceIte, ite_true, ite_false, if_true, if_false, Nat.reduceAdd, Nat.reduceSub, Nat.reduceMul, Nat.reduceEqDiff, Nat.reduceLT, Nat.reduceLeDiff, reduceCtorEq, Int.reduceToNat, forall_const, implies_true, br, Ent.mk3, bl, bB, a5, be, bC, a0, bj, bp, bH, bk, bE, bK, bt, cQ, rn, cm, cm.renCs, az, aL, aR, aR.viewOks, aH, bf, bf.flatBs, aP, ah, aX, ag, aV, bw, bw.keysBs, aN, ar, a6, bY, bq, cc, ae, ae.passKs, ay, aK, af, af.lendKs, cH, cD, cq, a7, setInn, ai, cM, cO, aC, a9, bM, bU, aJ, av, Glob.gl, ax, cn, bJ, ca, bv, au, bS, cL, cb, cS, co, an, an.ptrOnlys, am, aQ, cB, aW, bg, bm, bO, aF, bh, cg, Nat.reduceBEq, undef]
              rw [List.take_length] at hw
              refine ⟨by omega, ?_, by omega⟩
              rw [List.all_append, hv]
              simp only [List.all_cons, List.all_nil, Bool.and_true, Bool.true_and]
              exact hw
        · have hie : i = O.length := by omega
          subst hie
          have hi2 : ¬ (O.length : Int) < (O.length : Int) := by omega
          rw [riC_all]
          simp (maxSteps := 4000000) -implicitDefEqProofs only [hi2, D.rv17, InR, Ent.of0, Ent.of1, Ent.of2, Ent.of3, V, bX, bo, bF, cG, cW, cP, gt, lk, cu, bQ, cr, cz, ce, cj, cj.subCs, cT, bG, a3, b0, aY, aZ, bA, aw, a8, bD, aO, bu, aB, bP, cV, cR, aj, aA, bZ, bR, bN, cU, cK, aE, ap, cp, bz, zC, argS, bI, cd, cN, cJ, ak, aM, aT, aD, bL, leC, bV, cC, bW, cI, cF, aI, aG, cY, aq, bT, a4, a4.viewCs, bn, bn.flatCs, aU, aU.LensOks, Value.oneCell', ↓reduceIte, ite_true, ite_false, if_true, if_false, Nat.reduceAdd, Nat.reduceSub, Nat.reduceMul, Nat.reduceEqDiff, Nat.reduceLT, Nat.reduceLeDiff, reduceCtorEq, Int.reduceToNat, forall_const, implies_true, br, Ent.mk3, bl, bB, a5, be, bC, a0, bj, bp, bH, bk, bE, bK, bt, cQ, rn, cm, cm.renCs, az, aL, aR, aR.viewOks, aH, bf, bf.flatBs, aP, ah, aX, ag, aV, bw, bw.keysBs, aN, ar, a6, bY, bq, cc, ae, ae.passKs, ay, aK, af, af.lendKs, cH, cD, cq, a7, setInn, ai, cM, cO, aC, a9, bM, bU, aJ, av, Glob.gl, ax, cn, bJ, ca, bv, au, bS, cL, cb, cS, co, an, an.ptrOnlys, am, aQ, cB, aW, bg, bm, bO, aF, bh, cg, Nat.reduceBEq, undef]
          rw [List.take_length] at hv
          have hE0 : E = 0 := by
            rw [heE, if_pos]
            rw [hout, List.all_map]
            simpa [Function.comp_def, List.all_map] using hv
          rw [hE0, if_pos rfl, if_pos rfl, hout]
          refine ⟨?_, rfl, rfl⟩
          simp only [List.map_map]
          rfl
  · have hE : eqE m r = eqErr m r := by unfold eqE; rw [if_pos he]
    delta D.c17
    simp (maxSteps := 4000000) -implicitDefEqProofs only [D.rv17, e49, e81, e82, e80, e83, Ent.of0, Ent.of1, Ent.of2, Ent.of3, V, bX, bo, bF, cG, cW, cP, gt, lk, cu, bQ, cr, cz, ce, cj, cj.subCs, cT, bG, a3, b0, aY, aZ, bA, aw, a8, bD, aO, bu, aB, bP, cV, cR, aj, aA, bZ, bR, bN, cU, cK, aE, ap, cp, bz, zC, argS, bI, cd, cN, cJ, ak, aM, aT, aD, bL, leC, bV, cC, bW, cI, cF, aI, aG, cY, aq, bT, a4, a4.viewCs, bn, bn.flatCs, aU, aU.LensOks, Value.oneCell', ↓reduceIte, ite_true, ite_false, if_true, if_false, Nat.reduceAdd, Nat.reduceSub, Nat.reduceMul, Nat.reduceEqDiff, Nat.reduceLT, Nat.reduceLeDiff, reduceCtorEq, Int.reduceToNat, forall_const, implies_true, br, Ent.mk3, bl, bB, a5, be, bC, a0, bj, bp, bH, bk, bE, bK, bt, cQ, rn, cm, cm.renCs, az, aL, aR, aR.viewOks, aH, bf, bf.flatBs, aP, ah, aX, ag, aV, bw, bw.keysBs, aN, ar, a6, bY, bq, cc, ae, ae.passKs, ay, aK, af, af.lendKs, cH, cD, cq, a7, setInn, ai, cM, cO, aC, a9, bM, bU, aJ, av, Glob.gl, ax, cn, bJ, ca, bv, au, bS, cL, cb, cS, co, an, an.ptrOnlys, am, aQ, cB, aW, bg, bm, bO, aF, bh, cg, Nat.reduceBEq, undef]
    rw [hEq, if_pos he, hE, if_neg he, if_neg he]
    exact ⟨trivial, rfl, rfl⟩
end Go.Proofs.Ytfgpbmjmoobcnaa
end
section
open Go Go.Am
open Go.Am.Dat (cells)
namespace Go.Proofs.Ytfgpbmjmoobcnaa
set_option maxHeartbeats 4000000
set_option maxRecDepth 100000
set_option linter.unusedSimpArgs false
def regX : Reg := ⟨3, [0, 1], [1, 0, 0]⟩
theorem Register_c : FC Try.prog 79 [] [] (enc regX) [] := by
  refine fc_intro' is79 (by simp) (fun cx hl => S_run [] 800 ?_)
  delta c79
  simp (maxSteps := 4000000) -implicitDefEqProofs only [rv79, regX, enc_reg, aw, Ent.of0, Ent.of1, Ent.of2, Ent.of3, V, bX, bo, bF, cG, cW, cP, gt, lk, cu, bQ, cr, cz, ce, cj, cj.subCs, cT, bG, a3, b0, aY, aZ, bA, aw, a8, bD, aO, bu, aB, bP, cV, cR, aj, aA, bZ, bR, bN, cU, cK, aE, ap, cp, bz, zC, argS, bI, cd, cN, cJ, ak, aM, aT, aD, bL, leC, bV, cC, bW, cI, cF, aI, aG, cY, aq, bT, a4, a4.viewCs, bn, bn.flatCs, aU, aU.LensOks, Value.oneCell', ↓reduceIte, ite_true, ite_false, if_true, if_false, Nat.reduceAdd, Nat.reduceSub, Nat.reduceMul, Nat.reduceEqDiff, Nat.reduceLT, Nat.reduceLeDiff, reduceCtorEq, Int.reduceToNat, forall_const, implies_true, br, Ent.mk3, bl, bB, a5, be, bC, a0, bj, bp, bH, bk, bE, bK, bt, cQ, rn, cm, cm.renCs, az, aL, aR, aR.viewOks, aH, bf, bf.flatBs, aP, ah, aX, ag, aV, bw, bw.keysBs, aN, ar, a6, bY, bq, cc, ae, ae.passKs, ay, aK, af, af.lendKs, cH, cD, cq, a7, setInn, ai, cM, cO, aC, a9, bM, bU, aJ, av, Glob.gl, ax, cn, bJ, ca, bv, au, bS, cL, cb, cS, co, an, an.ptrOnlys, am, aQ, cB, aW, bg, bm, bO, aF, bh, cg, Nat.reduceBEq, undef]
def e79 : Ent Try.prog := .of0 79 (enc regX) (by simp [enc_reg, regX, keysIn, keysIn.keysIns]) Register_c
def mX : List (List Gs) := [[⟨1, 0⟩, ⟨0, 1⟩], [⟨0, 0⟩, ⟨2, 0⟩]]
def rX : List (List Gs) := [[⟨2, 1⟩], [⟨2, 2⟩]]
theorem eqX : FC Try.prog 17 [enc mX, enc rX] [] (.tup [enc [[(⟨12, 0⟩ : Gs)], [⟨4, 4⟩]], enc (4 : Int), enc (0 : Int)]) [] := by
  have s7 : eqE mX rX = 0 := by decide +kernel
  have s8 : eqOut mX rX = [[⟨12, 0⟩], [⟨4, 4⟩]] := by decide +kernel
  have s9 : gainS mX = 4 := by decide +kernel
  have := Equalized_c mX rX
  rwa [s7, if_pos rfl, if_pos rfl, s8, s9] at this
def e17X : Ent Try.prog := .mk3 17 (fun args chs => match chs with | [] => some (args = [enc mX, enc rX], .tup [enc [[(⟨12, 0⟩ : Gs)], [⟨4, 4⟩]], enc (4 : Int), enc (0 : Int)], [], []) | _ => none) (by
  intro args chs p r chs' nk hs hp
  split at hs
  · simp only [Option.some.injEq, Prod.mk.injEq] at hs
    obtain ⟨rfl, rfl, rfl, rfl⟩ := hs
    subst hp
    exact ⟨eqX, .plain (by simp [enc_list, enc_int, keysIn, keysIn.keysIns])⟩
  · cases hs)
theorem awake_c : FC Try.prog 15 [] [] (enc true) [] := by
  have s1 : sequenceErr ⟨3, [0, 1], [1, 0, 0]⟩ 7 = 0 := by decide +kernel
  have s2 : seqS (wireW ⟨3, [0, 1], [1, 0, 0]⟩) 7 = [1, 0, 0, 1, 0, 1, 1] := by decide +kernel
  have s3 : modErr 4 [0, 1, 1, 0] = 0 := by decide +kernel
  have s4 : modS 4 [0, 1, 1, 0] 1 = [⟨3, -1⟩] := by decide +kernel
  have s5 : recvErr ⟨4, 2, [⟨5, 1⟩]⟩ = 0 := by decide +kernel
  have s6 : judgeAll softS ⟨4, 2, [⟨5, 1⟩]⟩ = [48, 8, -8, 24] := by decide +kernel
  have t7 : Int.toNat 7 = 7 := rfl
  have t4 : Int.toNat 4 = 4 := rfl
  have d1 : (4 : Nat) / 4 = 1 := rfl
  refine fc_intro' is15 (by simp) (fun cx hl => S_run [e79, e72, e24] 800 ?_)
  delta c15
  simp (maxSteps := 4000000) -implicitDefEqProofs only [rv15, e79, regX, e72, e24, enc_reg, decV_reg, s1, s2, s3, s4, t7, t4, d1, Int.cast_ofNat_Int, Int.natCast_one, Int.natCast_zero, Int.reduceAdd, Int.reduceSub, Int.reduceMul, Int.reduceLT, Int.reduceLE, Int.reduceTMod, Int.reduceTDiv, Int.reduceNeg, Int.reduceEq, Nat.reducePow, Int.reducePow, ne_eq, not_false_eq_true, Ent.of0, Ent.of1, Ent.of2, Ent.of3, V, bX, bo, bF, cG, cW, cP, gt, lk, cu, bQ, cr, cz, ce, cj, cj.subCs, cT, bG, a3, b0, aY, aZ, bA, aw, a8, bD, aO, bu, aB, bP, cV, cR, aj, aA, bZ, bR, bN, cU, cK, aE, ap, cp, bz, zC, argS, bI, cd, cN, cJ, ak, aM, aT, aD, bL, leC, bV, cC, bW, cI, cF, aI, aG, cY, aq, bT, a4, a4.viewCs, bn, bn.flatCs, aU, aU.LensOks, Value.oneCell', ↓reduceIte, ite_true, ite_false, if_true, if_false, Nat.reduceAdd, Nat.reduceSub, Nat.reduceMul, Nat.reduceEqDiff, Nat.reduceLT, Nat.reduceLeDiff, reduceCtorEq, Int.reduceToNat, forall_const, implies_true, br, Ent.mk3, bl, bB, a5, be, bC, a0, bj, bp, bH, bk, bE, bK, bt, cQ, rn, cm, cm.renCs, az, aL, aR, aR.viewOks, aH, bf, bf.flatBs, aP, ah, aX, ag, aV, bw, bw.keysBs, aN, ar, a6, bY, bq, cc, ae, ae.passKs, ay, aK, af, af.lendKs, cH, cD, cq, a7, setInn, ai, cM, cO, aC, a9, bM, bU, aJ, av, Glob.gl, ax, cn, bJ, ca, bv, au, bS, cL, cb, cS, co, an, an.ptrOnlys, am, aQ, cB, aW, bg, bm, bO, aF, bh, cg, Nat.reduceBEq, undef]
  refine D_run [e58] 800 ?_
  simp (maxSteps := 4000000) -implicitDefEqProofs only [e58, enc_recv, decV_recv, s5, s6, Int.cast_ofNat_Int, Int.natCast_one, Int.natCast_zero, Int.reduceAdd, Int.reduceSub, Int.reduceMul, Int.reduceLT, Int.reduceLE, Int.reduceTMod, Int.reduceTDiv, Int.reduceNeg, Int.reduceEq, Nat.reducePow, Int.reducePow, ne_eq, not_false_eq_true, Ent.of0, Ent.of1, Ent.of2, Ent.of3, V, bX, bo, bF, cG, cW, cP, gt, lk, cu, bQ, cr, cz, ce, cj, cj.subCs, cT, bG, a3, b0, aY, aZ, bA, aw, a8, bD, aO, bu, aB, bP, cV, cR, aj, aA, bZ, bR, bN, cU, cK, aE, ap, cp, bz, zC, argS, bI, cd, cN, cJ, ak, aM, aT, aD, bL, leC, bV, cC, bW, cI, cF, aI, aG, cY, aq, bT, a4, a4.viewCs, bn, bn.flatCs, aU, aU.LensOks, Value.oneCell', ↓reduceIte, ite_true, ite_false, if_true, if_false, Nat.reduceAdd, Nat.reduceSub, Nat.reduceMul, Nat.reduceEqDiff, Nat.reduceLT, Nat.reduceLeDiff, reduceCtorEq, Int.reduceToNat, forall_const, implies_true, br, Ent.mk3, bl, bB, a5, be, bC, a0, bj, bp, bH, bk, bE, bK, bt, cQ, rn, cm, cm.renCs, az, aL, aR, aR.viewOks, aH, bf, bf.flatBs, aP, ah, aX, ag, aV, bw, bw.keysBs, aN, ar, a6, bY, bq, cc, ae, ae.passKs, ay, aK, af, af.lendKs, cH, cD, cq, a7, setInn, ai, cM, cO, aC, a9, bM, bU, aJ, av, Glob.gl, ax, cn, bJ, ca, bv, au, bS, cL, cb, cS, co, an, an.ptrOnlys, am, aQ, cB, aW, bg, bm, bO, aF, bh, cg, Nat.reduceBEq, undef]
  refine D_run [e17X] 800 ?_
  simp (maxSteps := 4000000) -implicitDefEqProofs only [e17X, mX, rX, Int.cast_ofNat_Int, Int.natCast_one, Int.natCast_zero, Int.reduceAdd, Int.reduceSub, Int.reduceMul, Int.reduceLT, Int.reduceLE, Int.reduceTMod, Int.reduceTDiv, Int.reduceNeg, Int.reduceEq, Nat.reducePow, Int.reducePow, ne_eq, not_false_eq_true, Ent.of0, Ent.of1, Ent.of2, Ent.of3, V, bX, bo, bF, cG, cW, cP, gt, lk, cu, bQ, cr, cz, ce, cj, cj.subCs, cT, bG, a3, b0, aY, aZ, bA, aw, a8, bD, aO, bu, aB, bP, cV, cR, aj, aA, bZ, bR, bN, cU, cK, aE, ap, cp, bz, zC, argS, bI, cd, cN, cJ, ak, aM, aT, aD, bL, leC, bV, cC, bW, cI, cF, aI, aG, cY, aq, bT, a4, a4.viewCs, bn, bn.flatCs, aU, aU.LensOks, Value.oneCell', ↓reduceIte, ite_true, ite_false, if_true, if_false, Nat.reduceAdd, Nat.reduceSub, Nat.reduceMul, Nat.reduceEqDiff, Nat.reduceLT, Nat.reduceLeDiff, reduceCtorEq, Int.reduceToNat, forall_const, implies_true, br, Ent.mk3, bl, bB, a5, be, bC, a0, bj, bp, bH, bk, bE, bK, bt, cQ, rn, cm, cm.renCs, az, aL, aR, aR.viewOks, aH, bf, bf.flatBs, aP, ah, aX, ag, aV, bw, bw.keysBs, aN, ar, a6, bY, bq, cc, ae, ae.passKs, ay, aK, af, af.lendKs, cH, cD, cq, a7, setInn, ai, cM, cO, aC, a9, bM, bU, aJ, av, Glob.gl, ax, cn, bJ, ca, bv, au, bS, cL, cb, cS, co, an, an.ptrOnlys, am, aQ, cB, aW, bg, bm, bO, aF, bh, cg, Nat.reduceBEq, undef]
  refine D_run [e37, e27, e21] 800 ?_
  simp (maxSteps := 4000000) -implicitDefEqProofs only [e37, e27, e21, rv15, Int.cast_ofNat_Int, Int.natCast_one, Int.natCast_zero, Int.reduceAdd, Int.reduceSub, Int.reduceMul, Int.reduceLT, Int.reduceLE, Int.reduceTMod, Int.reduceTDiv, Int.reduceNeg, Int.reduceEq, Nat.reducePow, Int.reducePow, ne_eq, not_false_eq_true, Ent.of0, Ent.of1, Ent.of2, Ent.of3, V, bX, bo, bF, cG, cW, cP, gt, lk, cu, bQ, cr, cz, ce, cj, cj.subCs, cT, bG, a3, b0, aY, aZ, bA, aw, a8, bD, aO, bu, aB, bP, cV, cR, aj, aA, bZ, bR, bN, cU, cK, aE, ap, cp, bz, zC, argS, bI, cd, cN, cJ, ak, aM, aT, aD, bL, leC, bV, cC, bW, cI, cF, aI, aG, cY, aq, bT, a4, a4.viewCs, bn, bn.flatCs, aU, aU.LensOks, Value.oneCell', ↓reduceIte, ite_true, ite_false, if_true, if_false, Nat.reduceAdd, Nat.reduceSub, Nat.reduceMul, Nat.reduceEqDiff, Nat.reduceLT, Nat.reduceLeDiff, reduceCtorEq, Int.reduceToNat, forall_const, implies_true, br, Ent.mk3, bl, bB, a5, be, bC, a0, bj, bp, bH, bk, bE, bK, bt, cQ, rn, cm, cm.renCs, az, aL, aR, aR.viewOks, aH, bf, bf.flatBs, aP, ah, aX, ag, aV, bw, bw.keysBs, aN, ar, a6, bY, bq, cc, ae, ae.passKs, ay, aK, af, af.lendKs, cH, cD, cq, a7, setInn, ai, cM, cO, aC, a9, bM, bU, aJ, av, Glob.gl, ax, cn, bJ, ca, bv, au, bS, cL, cb, cS, co, an, an.ptrOnlys, am, aQ, cB, aW, bg, bm, bO, aF, bh, cg, Nat.reduceBEq, undef]
def e15 : Ent Try.prog := .of0 15 (enc true) trivial awake_c
end Go.Proofs.Ytfgpbmjmoobcnaa
end
section
open Go Go.Am
open Go.Am.Dat (cells)
namespace Go.Proofs.Ytfgpbmjmoobcnaa
set_option maxHeartbeats 4000000
set_option maxRecDepth 100000
set_option linter.unusedSimpArgs false
theorem tmod2 (n : Nat) : ((n : Int)).tmod 2 = ((n % 2 : Nat) : Int) := by
  rw [Int.tmod_eq_emod_of_nonneg (by omega)]; push_cast; rfl
theorem tdiv2 (n : Nat) : ((n : Int)).tdiv 2 = ((n / 2 : Nat) : Int) := by
  rw [Int.tdiv_eq_ediv_of_nonneg (by omega)]; push_cast; rfl
theorem div22 (n : Nat) : n / 2 / 2 = n / 4 ∧ n / 4 / 2 = n / 8 ∧ n / 8 / 2 = n / 16 ∧ n / 16 / 2 = n / 32 := by omega
theorem rbitsOf_c (n c : Nat) (hn : n < 4096) (hc : c ≤ 6) : FC Try.prog 34 [enc (n : Int), enc (c : Int)] [] (enc (bitsOfS n c c)) [] := by
  obtain ⟨d4, d8, d16, d32⟩ := div22 n
  have d64 : n / 32 / 2 = n / 64 := by omega
  have : c = 0 ∨ c = 1 ∨ c = 2 ∨ c = 3 ∨ c = 4 ∨ c = 5 ∨ c = 6 := by omega
  rcases this with rfl | rfl | rfl | rfl | rfl | rfl | rfl
  all_goals
    refine fc_intro' is34 (by simp) (fun cx _ => S_runU [] 1000 ?_)
    delta c34 c34l1
    simp (maxSteps := 4000000) -implicitDefEqProofs only [rv34, InR, tmod2, tdiv2, aw, bitsOfS, d4, d8, d16, d32, d64, Nat.div_one, Nat.reduceDiv, Nat.reducePow, Int.cast_ofNat_Int, Int.natCast_one, Int.natCast_zero, Int.reduceAdd, Int.reduceSub, Int.reduceMul, Int.reduceLT, Int.reduceLE, Int.reduceTMod, Int.reduceTDiv, Int.reduceNeg, Int.reduceEq, Nat.reducePow, Int.reducePow, ne_eq, not_false_eq_true, Ent.of0, Ent.of1, Ent.of2, Ent.of3, V, bX, bo, bF, cG, cW, cP, gt, lk, cu, bQ, cr, cz, ce, cj, cj.subCs, cT, bG, a3, b0, aY, aZ, bA, aw, a8, bD, aO, bu, aB, bP, cV, cR, aj, aA, bZ, bR, bN, cU, cK, aE, ap, cp, bz, zC, argS, bI, cd, cN, cJ, ak, aM, aT, aD, bL, leC, bV, cC, bW, cI, cF, aI, aG, cY, aq, bT, a4, a4.viewCs, bn, bn.flatCs, aU, aU.LensOks, Value.oneCell', ↓reduceIte, ite_true, ite_false, if_true, if_false, Nat.reduceAdd, Nat.reduceSub, Nat.reduceMul, Nat.reduceEqDiff, Nat.reduceLT, Nat.reduceLeDiff, reduceCtorEq, Int.reduceToNat, forall_const, implies_true, br, Ent.mk3, bl, bB, a5, be, bC, a0, bj, bp, bH, bk, bE, bK, bt, cQ, rn, cm, cm.renCs, az, aL, aR, aR.viewOks, aH, bf, bf.flatBs, aP, ah, aX, ag, aV, bw, bw.keysBs, aN, ar, a6, bY, bq, cc, ae, ae.passKs, ay, aK, af, af.lendKs, cH, cD, cq, a7, setInn, ai, cM, cO, aC, a9, bM, bU, aJ, av, Glob.gl, ax, cn, bJ, ca, bv, au, bS, cL, cb, cS, co, an, an.ptrOnlys, am, aQ, cB, aW, bg, bm, bO, aF, bh, cg, Nat.reduceBEq, undef]
    try omega
def e34 : Ent Try.prog := .mk3 34 (fun args chs => match args, chs with
    | [.s (.int .i64 n), .s (.int .i64 c)], [] => some (0 ≤ n ∧ n < 4096 ∧ 0 ≤ c ∧ c ≤ 6, enc (bitsOfS n.toNat c.toNat c.toNat), [], [])
    | _, _ => none) (by
    intro args chs p r chs' nk hs hp
    split at hs
    · simp only [Option.some.injEq, Prod.mk.injEq] at hs
      obtain ⟨rfl, rfl, rfl, rfl⟩ := hs
      obtain ⟨h1, h2, h3, h4⟩ := hp
      rename_i n c
      have := rbitsOf_c n.toNat c.toNat (by omega) (by omega)
      rw [Int.toNat_of_nonneg h1, Int.toNat_of_nonneg h3] at this
      exact ⟨this, .plain trivial⟩
    · cases hs)
end Go.Proofs.Ytfgpbmjmoobcnaa
end
section
open Go Go.Am
open Go.Am.Dat (cells)
namespace Go.Proofs.Ytfgpbmjmoobcnaa
set_option maxHeartbeats 4000000
set_option maxRecDepth 100000
set_option linter.unusedSimpArgs false
def e100 (c : Nat) (h : c ≤ 6) : Ent Try.prog := .of1 100 (fun n : Int => n = (c : Int)) (fun _ : Int => enc (2 ^ c : Int)) (fun _ => trivial) (fun n e => by subst e; exact power_c c h)
end Go.Proofs.Ytfgpbmjmoobcnaa
end
section
open Go Go.Am
open Go.Am.Dat (cells)
namespace Go.Proofs.Ytfgpbmjmoobcnaa
set_option maxHeartbeats 4000000
set_option maxRecDepth 100000
set_option linter.unusedSimpArgs false
def halfS (p : Int) (l : List Int) : List Int := if p = 0 then evens l else odds l
theorem half2_c (a b p : Int) (hp : p = 0 ∨ p = 1) : FC Try.prog 131 [enc [a, b], enc p] [] (enc (halfS p [a, b])) [] := by
  rcases hp with rfl | rfl
  all_goals
    refine fc_intro' is131 (by simp) (fun cx _ => S_runU [] 600 ?_)
    delta c131 c131l1
    simp (maxSteps := 4000000) -implicitDefEqProofs only [rv131, InR, halfS, evens, odds, Int.cast_ofNat_Int, Int.natCast_one, Int.natCast_zero, Int.reduceAdd, Int.reduceSub, Int.reduceMul, Int.reduceLT, Int.reduceLE, Int.reduceTMod, Int.reduceTDiv, Int.reduceNeg, Int.reduceEq, Nat.reducePow, Int.reducePow, ne_eq, not_false_eq_true, Ent.of0, Ent.of1, Ent.of2, Ent.of3, V, bX, bo, bF, cG, cW, cP, gt, lk, cu, bQ, cr, cz, ce, cj, cj.subCs, cT, bG, a3, b0, aY, aZ, bA, aw, a8, bD, aO, bu, aB, bP, cV, cR, aj, aA, bZ, bR, bN, cU, cK, aE, ap, cp, bz, zC, argS, bI, cd, cN, cJ, ak, aM, aT, aD, bL, leC, bV, cC, bW, cI, cF, aI, aG, cY, aq, bT, a4, a4.viewCs, bn, bn.flatCs, aU, aU.LensOks, Value.oneCell', ↓reduceIte, ite_true, ite_false, if_true, if_false, Nat.reduceAdd, Nat.reduceSub, Nat.reduceMul, Nat.reduceEqDiff, Nat.reduceLT, Nat.reduceLeDiff, reduceCtorEq, Int.reduceToNat, forall_const, implies_true, br, Ent.mk3, bl, bB, a5, be, bC, a0, bj, bp, bH, bk, bE, bK, bt, cQ, rn, cm, cm.renCs, az, aL, aR, aR.viewOks, aH, bf, bf.flatBs, aP, ah, aX, ag, aV, bw, bw.keysBs, aN, ar, a6, bY, bq, cc, ae, ae.passKs, ay, aK, af, af.lendKs, cH, cD, cq, a7, setInn, ai, cM, cO, aC, a9, bM, bU, aJ, av, Glob.gl, ax, cn, bJ, ca, bv, au, bS, cL, cb, cS, co, an, an.ptrOnlys, am, aQ, cB, aW, bg, bm, bO, aF, bh, cg, Nat.reduceBEq, undef]
theorem half4_c (a b c d p : Int) (hp : p = 0 ∨ p = 1) : FC Try.prog 131 [enc [a, b, c, d], enc p] [] (enc (halfS p [a, b, c, d])) [] := by
  rcases hp with rfl | rfl
  all_goals
    refine fc_intro' is131 (by simp) (fun cx _ => S_runU [] 600 ?_)
    delta c131 c131l1
    simp (maxSteps := 4000000) -implicitDefEqProofs only [rv131, InR, halfS, evens, odds, Int.cast_ofNat_Int, Int.natCast_one, Int.natCast_zero, Int.reduceAdd, Int.reduceSub, Int.reduceMul, Int.reduceLT, Int.reduceLE, Int.reduceTMod, Int.reduceTDiv, Int.reduceNeg, Int.reduceEq, Nat.reducePow, Int.reducePow, ne_eq, not_false_eq_true, Ent.of0, Ent.of1, Ent.of2, Ent.of3, V, bX, bo, bF, cG, cW, cP, gt, lk, cu, bQ, cr, cz, ce, cj, cj.subCs, cT, bG, a3, b0, aY, aZ, bA, aw, a8, bD, aO, bu, aB, bP, cV, cR, aj, aA, bZ, bR, bN, cU, cK, aE, ap, cp, bz, zC, argS, bI, cd, cN, cJ, ak, aM, aT, aD, bL, leC, bV, cC, bW, cI, cF, aI, aG, cY, aq, bT, a4, a4.viewCs, bn, bn.flatCs, aU, aU.LensOks, Value.oneCell', ↓reduceIte, ite_true, ite_false, if_true, if_false, Nat.reduceAdd, Nat.reduceSub, Nat.reduceMul, Nat.reduceEqDiff, Nat.reduceLT, Nat.reduceLeDiff, reduceCtorEq, Int.reduceToNat, forall_const, implies_true, br, Ent.mk3, bl, bB, a5, be, bC, a0, bj, bp, bH, bk, bE, bK, bt, cQ, rn, cm, cm.renCs, az, aL, aR, aR.viewOks, aH, bf, bf.flatBs, aP, ah, aX, ag, aV, bw, bw.keysBs, aN, ar, a6, bY, bq, cc, ae, ae.passKs, ay, aK, af, af.lendKs, cH, cD, cq, a7, setInn, ai, cM, cO, aC, a9, bM, bU, aJ, av, Glob.gl, ax, cn, bJ, ca, bv, au, bS, cL, cb, cS, co, an, an.ptrOnlys, am, aQ, cB, aW, bg, bm, bO, aF, bh, cg, Nat.reduceBEq, undef]
theorem half6_c (a b c d e f p : Int) (hp : p = 0 ∨ p = 1) : FC Try.prog 131 [enc [a, b, c, d, e, f], enc p] [] (enc (halfS p [a, b, c, d, e, f])) [] := by
  rcases hp with rfl | rfl
  all_goals
    refine fc_intro' is131 (by simp) (fun cx _ => S_runU [] 800 ?_)
    delta c131 c131l1
    simp (maxSteps := 4000000) -implicitDefEqProofs only [rv131, InR, halfS, evens, odds, Int.cast_ofNat_Int, Int.natCast_one, Int.natCast_zero, Int.reduceAdd, Int.reduceSub, Int.reduceMul, Int.reduceLT, Int.reduceLE, Int.reduceTMod, Int.reduceTDiv, Int.reduceNeg, Int.reduceEq, Nat.reducePow, Int.reducePow, ne_eq, not_false_eq_true, Ent.of0, Ent.of1, Ent.of2, Ent.of3, V, bX, bo, bF, cG, cW, cP, gt, lk, cu, bQ, cr, cz, ce, cj, cj.subCs, cT, bG, a3, b0, aY, aZ, bA, aw, a8, bD, aO, bu, aB, bP, cV, cR, aj, aA, bZ, bR, bN, cU, cK, aE, ap, cp, bz, zC, argS, bI, cd, cN, cJ, ak, aM, aT, aD, bL, leC, bV, cC, bW, cI, cF, aI, aG, cY, aq, bT, a4, a4.viewCs, bn, bn.flatCs, aU, aU.LensOks, Value.oneCell', ↓reduceIte, ite_true, ite_false, if_true, if_false, Nat.reduceAdd, Nat.reduceSub, Nat.reduceMul, Nat.reduceEqDiff, Nat.reduceLT, Nat.reduceLeDiff, reduceCtorEq, Int.reduceToNat, forall_const, implies_true, br, Ent.mk3, bl, bB, a5, be, bC, a0, bj, bp, bH, bk, bE, bK, bt, cQ, rn, cm, cm.renCs, az, aL, aR, aR.viewOks, aH, bf, bf.flatBs, aP, ah, aX, ag, aV, bw, bw.keysBs, aN, ar, a6, bY, bq, cc, ae, ae.passKs, ay, aK, af, af.lendKs, cH, cD, cq, a7, setInn, ai, cM, cO, aC, a9, bM, bU, aJ, av, Glob.gl, ax, cn, bJ, ca, bv, au, bS, cL, cb, cS, co, an, an.ptrOnlys, am, aQ, cB, aW, bg, bm, bO, aF, bh, cg, Nat.reduceBEq, undef]
def len246 (l : List Int) : Prop := l.length = 2 ∨ l.length = 4 ∨ l.length = 6
theorem half_c (l : List Int) (p : Int) (hl : len246 l) (hp : p = 0 ∨ p = 1) : FC Try.prog 131 [enc l, enc p] [] (enc (halfS p l)) [] := by
  match l, hl with
  | [a, b], _ => exact half2_c a b p hp
  | [a, b, c, d], _ => exact half4_c a b c d p hp
  | [a, b, c, d, e, f], _ => exact half6_c a b c d e f p hp
  | [], hl => simp [len246] at hl
  | [_], hl => simp [len246] at hl
  | [_, _, _], hl => simp [len246] at hl
  | [_, _, _, _, _], hl => simp [len246] at hl
  | _ :: _ :: _ :: _ :: _ :: _ :: _ :: _, hl => simp [len246] at hl
def e131 : Ent Try.prog := .of2 131 (fun l p => len246 l ∧ (p = 0 ∨ p = 1)) (fun (l : List Int) (p : Int) => enc (halfS p l)) (fun _ _ => trivial) (fun l p h => half_c l p h.1 h.2)
theorem halfS_ok (l : List Int) (hl : len246 l) (hb : bitsOk l) (p : Int) : 0 < (halfS p l).length ∧ (halfS p l).length ≤ 3 ∧ bitsOk (halfS p l) := by
  unfold halfS bitsOk at *
  match l, hl with
  | [a, b], _ => split <;> simp [evens, odds] at * <;> simp_all
  | [a, b, c, d], _ => split <;> simp [evens, odds] at * <;> simp_all
  | [a, b, c, d, e, f], _ => split <;> simp [evens, odds] at * <;> simp_all
  | [], hl => simp [len246] at hl
  | [_], hl => simp [len246] at hl
  | [_, _, _], hl => simp [len246] at hl
  | [_, _, _, _, _], hl => simp [len246] at hl
  | _ :: _ :: _ :: _ :: _ :: _ :: _ :: _, hl => simp [len246] at hl
theorem RPoint_c (l : List Int) (hl : len246 l) (hb : bitsOk l) : FC Try.prog 101 [enc l] [] (enc (pointS l)) [] := by
  have h0 := halfS_ok l hl hb 0
  have h1 := halfS_ok l hl hb 1
  have hp : pointS l = ⟨levelS (halfS 0 l), levelS (halfS 1 l)⟩ := rfl
  rw [hp]
  refine fc_intro' is101 (by simp) (fun cx _ => S_run [e131, e40] 800 ?_)
  delta c101
  simp (maxSteps := 4000000) -implicitDefEqProofs only [rv101, e131, e40, hl, h0, h1, Int.cast_ofNat_Int, Int.natCast_one, Int.natCast_zero, Int.reduceAdd, Int.reduceSub, Int.reduceMul, Int.reduceLT, Int.reduceLE, Int.reduceTMod, Int.reduceTDiv, Int.reduceNeg, Int.reduceEq, Nat.reducePow, Int.reducePow, ne_eq, not_false_eq_true, Ent.of0, Ent.of1, Ent.of2, Ent.of3, V, bX, bo, bF, cG, cW, cP, gt, lk, cu, bQ, cr, cz, ce, cj, cj.subCs, cT, bG, a3, b0, aY, aZ, bA, aw, a8, bD, aO, bu, aB, bP, cV, cR, aj, aA, bZ, bR, bN, cU, cK, aE, ap, cp, bz, zC, argS, bI, cd, cN, cJ, ak, aM, aT, aD, bL, leC, bV, cC, bW, cI, cF, aI, aG, cY, aq, bT, a4, a4.viewCs, bn, bn.flatCs, aU, aU.LensOks, Value.oneCell', ↓reduceIte, ite_true, ite_false, if_true, if_false, Nat.reduceAdd, Nat.reduceSub, Nat.reduceMul, Nat.reduceEqDiff, Nat.reduceLT, Nat.reduceLeDiff, reduceCtorEq, Int.reduceToNat, forall_const, implies_true, br, Ent.mk3, bl, bB, a5, be, bC, a0, bj, bp, bH, bk, bE, bK, bt, cQ, rn, cm, cm.renCs, az, aL, aR, aR.viewOks, aH, bf, bf.flatBs, aP, ah, aX, ag, aV, bw, bw.keysBs, aN, ar, a6, bY, bq, cc, ae, ae.passKs, ay, aK, af, af.lendKs, cH, cD, cq, a7, setInn, ai, cM, cO, aC, a9, bM, bU, aJ, av, Glob.gl, ax, cn, bJ, ca, bv, au, bS, cL, cb, cS, co, an, an.ptrOnlys, am, aQ, cB, aW, bg, bm, bO, aF, bh, cg, Nat.reduceBEq, undef]
  simp
def e101 : Ent Try.prog := .of1 101 (fun l => len246 l ∧ bitsOk l) (fun l : List Int => enc (pointS l)) (fun l => ⟨trivial, trivial, trivial⟩) (fun l h => RPoint_c l h.1 h.2)
def pts (n k : Nat) : List Gs := (List.range k).map fun i => pointS (bitsOfS i n n)
theorem pts_succ (n k : Nat) : pts n (k + 1) = pts n k ++ [pointS (bitsOfS k n n)] := by simp [pts, List.range_succ]
theorem pts_length (n k : Nat) : (pts n k).length = k := by simp [pts]
theorem RPoints_c (n : Nat) (hn : n = 2 ∨ n = 4 ∨ n = 6) : FC Try.prog 28 [enc (n : Int)] [] (enc (pts n (2 ^ n))) [] := by
  have hn6 : n ≤ 6 := by omega
  have hp : 2 ^ n ≤ 2 ^ 6 := Nat.pow_le_pow_right (by decide) hn6
  have hpc : (2 : Int) ^ n = ((2 ^ n : Nat) : Int) := by push_cast; rfl
  refine fc_intro' is28 (by simp) (fun cx hl => S_run [] 800 ?_)
  delta c28
  simp (maxSteps := 4000000) -implicitDefEqProofs only [rv28, InR, Ent.of0, Ent.of1, Ent.of2, Ent.of3, V, bX, bo, bF, cG, cW, cP, gt, lk, cu, bQ, cr, cz, ce, cj, cj.subCs, cT, bG, a3, b0, aY, aZ, bA, aw, a8, bD, aO, bu, aB, bP, cV, cR, aj, aA, bZ, bR, bN, cU, cK, aE, ap, cp, bz, zC, argS, bI, cd, cN, cJ, ak, aM, aT, aD, bL, leC, bV, cC, bW, cI, cF, aI, aG, cY, aq, bT, a4, a4.viewCs, bn, bn.flatCs, aU, aU.LensOks, Value.oneCell', ↓reduceIte, ite_true, ite_false, if_true, if_false, Nat.reduceAdd, Nat.reduceSub, Nat.reduceMul, Nat.reduceEqDiff, Nat.reduceLT, Nat.reduceLeDiff, reduceCtorEq, Int.reduceToNat, forall_const, implies_true, br, Ent.mk3, bl, bB, a5, be, bC, a0, bj, bp, bH, bk, bE, bK, bt, cQ, rn, cm, cm.renCs, az, aL, aR, aR.viewOks, aH, bf, bf.flatBs, aP, ah, aX, ag, aV, bw, bw.keysBs, aN, ar, a6, bY, bq, cc, ae, ae.passKs, ay, aK, af, af.lendKs, cH, cD, cq, a7, setInn, ai, cM, cO, aC, a9, bM, bU, aJ, av, Glob.gl, ax, cn, bJ, ca, bv, au, bS, cL, cb, cS, co, an, an.ptrOnlys, am, aQ, cB, aW, bg, bm, bO, aF, bh, cg, Nat.reduceBEq, undef]
  refine S_forU (2 ^ n) (fun i => [(4, .s (.int .i64 (i : Int)))]) (fun i => [(3, .row 2 48 ((pts n i).map cells))]) (fun _ => True) trivial ?_ (fun i hi _ => S_run [e100 n hn6, e34, e101] 800 ?_)
  · simp (maxSteps := 4000000) -implicitDefEqProofs only [pts, Ent.of0, Ent.of1, Ent.of2, Ent.of3, V, bX, bo, bF, cG, cW, cP, gt, lk, cu, bQ, cr, cz, ce, cj, cj.subCs, cT, bG, a3, b0, aY, aZ, bA, aw, a8, bD, aO, bu, aB, bP, cV, cR, aj, aA, bZ, bR, bN, cU, cK, aE, ap, cp, bz, zC, argS, bI, cd, cN, cJ, ak, aM, aT, aD, bL, leC, bV, cC, bW, cI, cF, aI, aG, cY, aq, bT, a4, a4.viewCs, bn, bn.flatCs, aU, aU.LensOks, Value.oneCell', ↓reduceIte, ite_true, ite_false, if_true, if_false, Nat.reduceAdd, Nat.reduceSub, Nat.reduceMul, Nat.reduceEqDiff, Nat.reduceLT, Nat.reduceLeDiff, reduceCtorEq, Int.reduceToNat, forall_const, implies_true, br, Ent.mk3, bl, bB, a5, be, bC, a0, bj, bp, bH, bk, bE, bK, bt, cQ, rn, cm, cm.renCs, az, aL, aR, aR.viewOks, aH, bf, bf.flatBs, aP, ah, aX, ag, aV, bw, bw.keysBs, aN, ar, a6, bY, bq, cc, ae, ae.passKs, ay, aK, af, af.lendKs, cH, cD, cq, a7, setInn, ai, cM, cO, aC, a9, bM, bU, aJ, av, Glob.gl, ax, cn, bJ, ca, bv, au, bS, cL, cb, cS, co, an, an.ptrOnlys, am, aQ, cB, aW, bg, bm, bO, aF, bh, cg, Nat.reduceBEq, undef]; simp
  · by_cases h : i < 2 ^ n
    · have hi2 : (i : Int) < ((2 ^ n : Nat) : Int) := by omega
      have hlen := bitsOfS_length i n n
      have hok := bitsOfS_ok i n n
      have h246 : len246 (bitsOfS i n n) := by unfold len246; rw [hlen]; exact hn
      have hpl := pts_length n i
      have hsucc : (pts n i).map cells ++ [cells (pointS (bitsOfS i n n))] = (pts n (i + 1)).map cells := by rw [pts_succ, List.map_append]; rfl
      simp only [cells_gs] at hsucc
      delta c28l1
      simp (maxSteps := 4000000) -implicitDefEqProofs only [rv28, e100, hpc, hi2, h, e34, e101, Int.toNat_natCast, hlen, hok, h246, hpl, hsucc, InR, Ent.of0, Ent.of1, Ent.of2, Ent.of3, V, bX, bo, bF, cG, cW, cP, gt, lk, cu, bQ, cr, cz, ce, cj, cj.subCs, cT, bG, a3, b0, aY, aZ, bA, aw, a8, bD, aO, bu, aB, bP, cV, cR, aj, aA, bZ, bR, bN, cU, cK, aE, ap, cp, bz, zC, argS, bI, cd, cN, cJ, ak, aM, aT, aD, bL, leC, bV, cC, bW, cI, cF, aI, aG, cY, aq, bT, a4, a4.viewCs, bn, bn.flatCs, aU, aU.LensOks, Value.oneCell', ↓reduceIte, ite_true, ite_false, if_true, if_false, Nat.reduceAdd, Nat.reduceSub, Nat.reduceMul, Nat.reduceEqDiff, Nat.reduceLT, Nat.reduceLeDiff, reduceCtorEq, Int.reduceToNat, forall_const, implies_true, br, Ent.mk3, bl, bB, a5, be, bC, a0, bj, bp, bH, bk, bE, bK, bt, cQ, rn, cm, cm.renCs, az, aL, aR, aR.viewOks, aH, bf, bf.flatBs, aP, ah, aX, ag, aV, bw, bw.keysBs, aN, ar, a6, bY, bq, cc, ae, ae.passKs, ay, aK, af, af.lendKs, cH, cD, cq, a7, setInn, ai, cM, cO, aC, a9, bM, bU, aJ, av, Glob.gl, ax, cn, bJ, ca, bv, au, bS, cL, cb, cS, co, an, an.ptrOnlys, am, aQ, cB, aW, bg, bm, bO, aF, bh, cg, Nat.reduceBEq, undef]
      omega
    · have hi2 : ¬ (i : Int) < ((2 ^ n : Nat) : Int) := by omega
      have hi3 : i = 2 ^ n := by omega
      delta c28l1
      simp (maxSteps := 4000000) -implicitDefEqProofs only [rv28, e100, hpc, hi2, InR, Ent.of0, Ent.of1, Ent.of2, Ent.of3, V, bX, bo, bF, cG, cW, cP, gt, lk, cu, bQ, cr, cz, ce, cj, cj.subCs, cT, bG, a3, b0, aY, aZ, bA, aw, a8, bD, aO, bu, aB, bP, cV, cR, aj, aA, bZ, bR, bN, cU, cK, aE, ap, cp, bz, zC, argS, bI, cd, cN, cJ, ak, aM, aT, aD, bL, leC, bV, cC, bW, cI, cF, aI, aG, cY, aq, bT, a4, a4.viewCs, bn, bn.flatCs, aU, aU.LensOks, Value.oneCell', ↓reduceIte, ite_true, ite_false, if_true, if_false, Nat.reduceAdd, Nat.reduceSub, Nat.reduceMul, Nat.reduceEqDiff, Nat.reduceLT, Nat.reduceLeDiff, reduceCtorEq, Int.reduceToNat, forall_const, implies_true, br, Ent.mk3, bl, bB, a5, be, bC, a0, bj, bp, bH, bk, bE, bK, bt, cQ, rn, cm, cm.renCs, az, aL, aR, aR.viewOks, aH, bf, bf.flatBs, aP, ah, aX, ag, aV, bw, bw.keysBs, aN, ar, a6, bY, bq, cc, ae, ae.passKs, ay, aK, af, af.lendKs, cH, cD, cq, a7, setInn, ai, cM, cO, aC, a9, bM, bU, aJ, av, Glob.gl, ax, cn, bJ, ca, bv, au, bS, cL, cb, cS, co, an, an.ptrOnlys, am, aQ, cB, aW, bg, bm, bO, aF, bh, cg, Nat.reduceBEq, undef]
      rw [hi3]
def e28 : Ent Try.prog := .mk3 28 (fun args chs => match args, chs with
    | [.s (.int .i64 n)], [] => some (n = 2 ∨ n = 4 ∨ n = 6, enc (pts n.toNat (2 ^ n.toNat)), [], [])
    | _, _ => none) (by
    intro args chs p r chs' nk hs hp
    split at hs
    · simp only [Option.some.injEq, Prod.mk.injEq] at hs
      obtain ⟨rfl, rfl, rfl, rfl⟩ := hs
      rename_i n
      have := RPoints_c n.toNat (by omega)
      rw [Int.toNat_of_nonneg (by omega)] at this
      exact ⟨this, .plain trivial⟩
    · cases hs)
theorem Points_c (n : Int) : FC Try.prog 23 [enc n] [] (.tup [enc (if orderErrS n = 0 then pts n.toNat (2 ^ n.toNat) else []), enc (orderErrS n)]) [] := by
  by_cases h246 : n = 2 ∨ n = 4 ∨ n = 6
  · obtain ⟨c, rfl⟩ : ∃ c : Nat, n = (c : Int) := ⟨n.toNat, by omega⟩
    have hn6 : c ≤ 6 := by omega
    have he : orderErrS (c : Int) = 0 := by unfold orderErrS; rw [if_pos h246]
    have hp : 2 ^ c ≤ 2 ^ 6 := Nat.pow_le_pow_right (by decide) hn6
    have hm : min c IntKind.i64.bits = c := Nat.min_eq_left (by show c ≤ 64; omega)
    have hpc : (1 : Int) * 2 ^ c = ((2 ^ c : Nat) : Int) := by push_cast; rw [Int.one_mul]
    have hq1 : (0 : Int) < 2 ^ c := Int.pow_pos (by decide)
    have hq2 : (2 : Int) ^ c ≤ 64 := by exact_mod_cast hp
    rw [he, if_pos rfl, Int.toNat_natCast]
    refine fc_intro' is23 (by simp) (fun cx hl => S_run [e95] 800 ?_)
    delta c23
    simp (maxSteps := 4000000) -implicitDefEqProofs only [rv23, e95, he, hm, hpc, InR, Ent.of0, Ent.of1, Ent.of2, Ent.of3, V, bX, bo, bF, cG, cW, cP, gt, lk, cu, bQ, cr, cz, ce, cj, cj.subCs, cT, bG, a3, b0, aY, aZ, bA, aw, a8, bD, aO, bu, aB, bP, cV, cR, aj, aA, bZ, bR, bN, cU, cK, aE, ap, cp, bz, zC, argS, bI, cd, cN, cJ, ak, aM, aT, aD, bL, leC, bV, cC, bW, cI, cF, aI, aG, cY, aq, bT, a4, a4.viewCs, bn, bn.flatCs, aU, aU.LensOks, Value.oneCell', ↓reduceIte, ite_true, ite_false, if_true, if_false, Nat.reduceAdd, Nat.reduceSub, Nat.reduceMul, Nat.reduceEqDiff, Nat.reduceLT, Nat.reduceLeDiff, reduceCtorEq, Int.reduceToNat, forall_const, implies_true, br, Ent.mk3, bl, bB, a5, be, bC, a0, bj, bp, bH, bk, bE, bK, bt, cQ, rn, cm, cm.renCs, az, aL, aR, aR.viewOks, aH, bf, bf.flatBs, aP, ah, aX, ag, aV, bw, bw.keysBs, aN, ar, a6, bY, bq, cc, ae, ae.passKs, ay, aK, af, af.lendKs, cH, cD, cq, a7, setInn, ai, cM, cO, aC, a9, bM, bU, aJ, av, Glob.gl, ax, cn, bJ, ca, bv, au, bS, cL, cb, cS, co, an, an.ptrOnlys, am, aQ, cB, aW, bg, bm, bO, aF, bh, cg, Nat.reduceBEq, undef]
    refine ⟨by omega, ?_⟩
    refine S_forU (2 ^ c) (fun i => [(14, .s (.int .i64 (i : Int)))]) (fun i => [(5, .row 2 48 ((pts c i).map cells))]) (fun _ => True) trivial ?_ (fun i hi _ => S_run [e97, e96] 800 ?_)
    · simp (maxSteps := 4000000) -implicitDefEqProofs only [pts, Ent.of0, Ent.of1, Ent.of2, Ent.of3, V, bX, bo, bF, cG, cW, cP, gt, lk, cu, bQ, cr, cz, ce, cj, cj.subCs, cT, bG, a3, b0, aY, aZ, bA, aw, a8, bD, aO, bu, aB, bP, cV, cR, aj, aA, bZ, bR, bN, cU, cK, aE, ap, cp, bz, zC, argS, bI, cd, cN, cJ, ak, aM, aT, aD, bL, leC, bV, cC, bW, cI, cF, aI, aG, cY, aq, bT, a4, a4.viewCs, bn, bn.flatCs, aU, aU.LensOks, Value.oneCell', ↓reduceIte, ite_true, ite_false, if_true, if_false, Nat.reduceAdd, Nat.reduceSub, Nat.reduceMul, Nat.reduceEqDiff, Nat.reduceLT, Nat.reduceLeDiff, reduceCtorEq, Int.reduceToNat, forall_const, implies_true, br, Ent.mk3, bl, bB, a5, be, bC, a0, bj, bp, bH, bk, bE, bK, bt, cQ, rn, cm, cm.renCs, az, aL, aR, aR.viewOks, aH, bf, bf.flatBs, aP, ah, aX, ag, aV, bw, bw.keysBs, aN, ar, a6, bY, bq, cc, ae, ae.passKs, ay, aK, af, af.lendKs, cH, cD, cq, a7, setInn, ai, cM, cO, aC, a9, bM, bU, aJ, av, Glob.gl, ax, cn, bJ, ca, bv, au, bS, cL, cb, cS, co, an, an.ptrOnlys, am, aQ, cB, aW, bg, bm, bO, aF, bh, cg, Nat.reduceBEq, undef]; simp
    · by_cases h : i < 2 ^ c
      · have hi2 : (i : Int) < ((2 ^ c : Nat) : Int) := by omega
        have hlen := bitsOfS_length i c c
        have hok := bitsOfS_ok i c c
        have h246' : c = 2 ∨ c = 4 ∨ c = 6 := by omega
        have hpl := pts_length c i
        have hsucc : (pts c i).map cells ++ [cells (pointS (bitsOfS i c c))] = (pts c (i + 1)).map cells := by rw [pts_succ, List.map_append]; rfl
        simp only [cells_gs] at hsucc
        delta c23l1
        simp (maxSteps := 4000000) -implicitDefEqProofs only [rv23, hi2, h, e97, e96, Int.toNat_natCast, hlen, hok, h246', hpl, hsucc, InR, Ent.of0, Ent.of1, Ent.of2, Ent.of3, V, bX, bo, bF, cG, cW, cP, gt, lk, cu, bQ, cr, cz, ce, cj, cj.subCs, cT, bG, a3, b0, aY, aZ, bA, aw, a8, bD, aO, bu, aB, bP, cV, cR, aj, aA, bZ, bR, bN, cU, cK, aE, ap, cp, bz, zC, argS, bI, cd, cN, cJ, ak, aM, aT, aD, bL, leC, bV, cC, bW, cI, cF, aI, aG, cY, aq, bT, a4, a4.viewCs, bn, bn.flatCs, aU, aU.LensOks, Value.oneCell', ↓reduceIte, ite_true, ite_false, if_true, if_false, Nat.reduceAdd, Nat.reduceSub, Nat.reduceMul, Nat.reduceEqDiff, Nat.reduceLT, Nat.reduceLeDiff, reduceCtorEq, Int.reduceToNat, forall_const, implies_true, br, Ent.mk3, bl, bB, a5, be, bC, a0, bj, bp, bH, bk, bE, bK, bt, cQ, rn, cm, cm.renCs, az, aL, aR, aR.viewOks, aH, bf, bf.flatBs, aP, ah, aX, ag, aV, bw, bw.keysBs, aN, ar, a6, bY, bq, cc, ae, ae.passKs, ay, aK, af, af.lendKs, cH, cD, cq, a7, setInn, ai, cM, cO, aC, a9, bM, bU, aJ, av, Glob.gl, ax, cn, bJ, ca, bv, au, bS, cL, cb, cS, co, an, an.ptrOnlys, am, aQ, cB, aW, bg, bm, bO, aF, bh, cg, Nat.reduceBEq, undef]
        omega
      · have hi2 : ¬ (i : Int) < ((2 ^ c : Nat) : Int) := by omega
        have hi3 : i = 2 ^ c := by omega
        delta c23l1
        simp (maxSteps := 4000000) -implicitDefEqProofs only [rv23, hi2, InR, Ent.of0, Ent.of1, Ent.of2, Ent.of3, V, bX, bo, bF, cG, cW, cP, gt, lk, cu, bQ, cr, cz, ce, cj, cj.subCs, cT, bG, a3, b0, aY, aZ, bA, aw, a8, bD, aO, bu, aB, bP, cV, cR, aj, aA, bZ, bR, bN, cU, cK, aE, ap, cp, bz, zC, argS, bI, cd, cN, cJ, ak, aM, aT, aD, bL, leC, bV, cC, bW, cI, cF, aI, aG, cY, aq, bT, a4, a4.viewCs, bn, bn.flatCs, aU, aU.LensOks, Value.oneCell', ↓reduceIte, ite_true, ite_false, if_true, if_false, Nat.reduceAdd, Nat.reduceSub, Nat.reduceMul, Nat.reduceEqDiff, Nat.reduceLT, Nat.reduceLeDiff, reduceCtorEq, Int.reduceToNat, forall_const, implies_true, br, Ent.mk3, bl, bB, a5, be, bC, a0, bj, bp, bH, bk, bE, bK, bt, cQ, rn, cm, cm.renCs, az, aL, aR, aR.viewOks, aH, bf, bf.flatBs, aP, ah, aX, ag, aV, bw, bw.keysBs, aN, ar, a6, bY, bq, cc, ae, ae.passKs, ay, aK, af, af.lendKs, cH, cD, cq, a7, setInn, ai, cM, cO, aC, a9, bM, bU, aJ, av, Glob.gl, ax, cn, bJ, ca, bv, au, bS, cL, cb, cS, co, an, an.ptrOnlys, am, aQ, cB, aW, bg, bm, bO, aF, bh, cg, Nat.reduceBEq, undef]
        rw [hi3]
  · have he : orderErrS n = 15 := by unfold orderErrS; rw [if_neg h246]
    rw [he]
    refine fc_intro' is23 (by simp) (fun cx hl => S_run [e95] 800 ?_)
    delta c23
    simp (maxSteps := 4000000) -implicitDefEqProofs only [rv23, e95, he, if_false, List.map_nil, Int.cast_ofNat_Int, Int.natCast_one, Int.natCast_zero, Int.reduceAdd, Int.reduceSub, Int.reduceMul, Int.reduceLT, Int.reduceLE, Int.reduceTMod, Int.reduceTDiv, Int.reduceNeg, Int.reduceEq, Nat.reducePow, Int.reducePow, ne_eq, not_false_eq_true, Ent.of0, Ent.of1, Ent.of2, Ent.of3, V, bX, bo, bF, cG, cW, cP, gt, lk, cu, bQ, cr, cz, ce, cj, cj.subCs, cT, bG, a3, b0, aY, aZ, bA, aw, a8, bD, aO, bu, aB, bP, cV, cR, aj, aA, bZ, bR, bN, cU, cK, aE, ap, cp, bz, zC, argS, bI, cd, cN, cJ, ak, aM, aT, aD, bL, leC, bV, cC, bW, cI, cF, aI, aG, cY, aq, bT, a4, a4.viewCs, bn, bn.flatCs, aU, aU.LensOks, Value.oneCell', ↓reduceIte, ite_true, ite_false, if_true, if_false, Nat.reduceAdd, Nat.reduceSub, Nat.reduceMul, Nat.reduceEqDiff, Nat.reduceLT, Nat.reduceLeDiff, reduceCtorEq, Int.reduceToNat, forall_const, implies_true, br, Ent.mk3, bl, bB, a5, be, bC, a0, bj, bp, bH, bk, bE, bK, bt, cQ, rn, cm, cm.renCs, az, aL, aR, aR.viewOks, aH, bf, bf.flatBs, aP, ah, aX, ag, aV, bw, bw.keysBs, aN, ar, a6, bY, bq, cc, ae, ae.passKs, ay, aK, af, af.lendKs, cH, cD, cq, a7, setInn, ai, cM, cO, aC, a9, bM, bU, aJ, av, Glob.gl, ax, cn, bJ, ca, bv, au, bS, cL, cb, cS, co, an, an.ptrOnlys, am, aQ, cB, aW, bg, bm, bO, aF, bh, cg, Nat.reduceBEq, undef]
def e23 : Ent Try.prog := .of1 23 (fun _ => True) (fun n : Int => .tup [enc (if orderErrS n = 0 then pts n.toNat (2 ^ n.toNat) else []), enc (orderErrS n)]) (fun _ => ⟨trivial, trivial, trivial⟩) (fun n _ => Points_c n)
end Go.Proofs.Ytfgpbmjmoobcnaa
end
section
open Go Go.Am
open Go.Am.Dat (cells)
namespace Go.Proofs.Ytfgpbmjmoobcnaa
set_option maxHeartbeats 4000000
set_option maxRecDepth 100000
set_option linter.unusedSimpArgs false
theorem ordErr_eq (n : Int) : ordErr n = orderErrS n := by unfold ordErr orderErrS; split <;> split <;> first | rfl | omega
end Go.Proofs.Ytfgpbmjmoobcnaa
end
section
open Go Go.Am
open Go.Am.Dat (cells)
namespace Go.Proofs.Ytfgpbmjmoobcnaa
set_option maxHeartbeats 4000000
set_option maxRecDepth 100000
set_option linter.unusedSimpArgs false
def sizeI (n : Int) : Int := if -n > n then -n else n
def dS (x y : List Int) : Nat → Int
  | 0 => 0
  | n + 1 => dS x y n + sizeI (x.getD n 0 - y.getD n 0)
def oneP (p : Gs) : Bool := decide (p.re % 2 = 1) && decide (p.im % 2 = 1) && decide (-7 ≤ p.re ∧ p.re ≤ 7) && decide (-7 ≤ p.im ∧ p.im ≤ 7)
def pairP (c : Nat) (p q : Gs) (x y : List Int) (i k : Nat) : Bool :=
  bif Nat.beq i k then true else bif Nat.beq ((p.re - q.re).natAbs + (p.im - q.im).natAbs) 0 then false else
  bif Nat.beq ((p.re - q.re).natAbs + (p.im - q.im).natAbs) 2 then bif Nat.beq (p.re - q.re).natAbs 1 then true else decide (dS x y c = 1) else true
def tab (c : Nat) : List (Gs × List Int) := (List.range (2 ^ c)).map fun i => (pointS (bitsOfS i c c), bitsOfS i c c)
def grayT (c : Nat) (T : List (Gs × List Int)) (j : Nat) : Bool := ((T.zipIdx.drop (8 * j)).take 8).all fun a => oneP a.1.1 && T.zipIdx.all fun b => pairP c a.1.1 b.1.1 a.1.2 b.1.2 a.2 b.2
theorem tab2 : tab 2 = [(⟨1, 1⟩, [0, 0]), (⟨1, -1⟩, [0, 1]), (⟨-1, 1⟩, [1, 0]), (⟨-1, -1⟩, [1, 1])] := by decide +kernel
theorem tab4 : tab 4 = [(⟨1, 1⟩, [0, 0, 0, 0]), (⟨1, 3⟩, [0, 0, 0, 1]), (⟨3, 1⟩, [0, 0, 1, 0]), (⟨3, 3⟩, [0, 0, 1, 1]), (⟨1, -1⟩, [0, 1, 0, 0]), (⟨1, -3⟩, [0, 1, 0, 1]), (⟨3, -1⟩, [0, 1, 1, 0]), (⟨3, -3⟩, [0, 1, 1, 1]), (⟨-1, 1⟩, [1, 0, 0, 0]), (⟨-1, 3⟩, [1, 0, 0, 1]), (⟨-3, 1⟩, [1, 0, 1, 0]), (⟨-3, 3⟩, [1, 0, 1, 1]), (⟨-1, -1⟩, [1, 1, 0, 0]), (⟨-1, -3⟩, [1, 1, 0, 1]), (⟨-3, -1⟩, [1, 1, 1, 0]), (⟨-3, -3⟩, [1, 1, 1, 1])] := by decide +kernel
theorem tab6 : tab 6 = [(⟨3, 3⟩, [0, 0, 0, 0, 0, 0]), (⟨3, 1⟩, [0, 0, 0, 0, 0, 1]), (⟨1, 3⟩, [0, 0, 0, 0, 1, 0]), (⟨1, 1⟩, [0, 0, 0, 0, 1, 1]), (⟨3, 5⟩, [0, 0, 0, 1, 0, 0]), (⟨3, 7⟩, [0, 0, 0, 1, 0, 1]), (⟨1, 5⟩, [0, 0, 0, 1, 1, 0]), (⟨1, 7⟩, [0, 0, 0, 1, 1, 1]), (⟨5, 3⟩, [0, 0, 1, 0, 0, 0]), (⟨5, 1⟩, [0, 0, 1, 0, 0, 1]), (⟨7, 3⟩, [0, 0, 1, 0, 1, 0]), (⟨7, 1⟩, [0, 0, 1, 0, 1, 1]), (⟨5, 5⟩, [0, 0, 1, 1, 0, 0]), (⟨5, 7⟩, [0, 0, 1, 1, 0, 1]), (⟨7, 5⟩, [0, 0, 1, 1, 1, 0]), (⟨7, 7⟩, [0, 0, 1, 1, 1, 1]), (⟨3, -3⟩, [0, 1, 0, 0, 0, 0]), (⟨3, -1⟩, [0, 1, 0, 0, 0, 1]), (⟨1, -3⟩, [0, 1, 0, 0, 1, 0]), (⟨1, -1⟩, [0, 1, 0, 0, 1, 1]), (⟨3, -5⟩, [0, 1, 0, 1, 0, 0]), (⟨3, -7⟩, [0, 1, 0, 1, 0, 1]), (⟨1, -5⟩, [0, 1, 0, 1, 1, 0]), (⟨1, -7⟩, [0, 1, 0, 1, 1, 1]), (⟨5, -3⟩, [0, 1, 1, 0, 0, 0]), (⟨5, -1⟩, [0, 1, 1, 0, 0, 1]), (⟨7, -3⟩, [0, 1, 1, 0, 1, 0]), (⟨7, -1⟩, [0, 1, 1, 0, 1, 1]), (⟨5, -5⟩, [0, 1, 1, 1, 0, 0]), (⟨5, -7⟩, [0, 1, 1, 1, 0, 1]), (⟨7, -5⟩, [0, 1, 1, 1, 1, 0]), (⟨7, -7⟩, [0, 1, 1, 1, 1, 1]), (⟨-3, 3⟩, [1, 0, 0, 0, 0, 0]), (⟨-3, 1⟩, [1, 0, 0, 0, 0, 1]), (⟨-1, 3⟩, [1, 0, 0, 0, 1, 0]), (⟨-1, 1⟩, [1, 0, 0, 0, 1, 1]), (⟨-3, 5⟩, [1, 0, 0, 1, 0, 0]), (⟨-3, 7⟩, [1, 0, 0, 1, 0, 1]), (⟨-1, 5⟩, [1, 0, 0, 1, 1, 0]), (⟨-1, 7⟩, [1, 0, 0, 1, 1, 1]), (⟨-5, 3⟩, [1, 0, 1, 0, 0, 0]), (⟨-5, 1⟩, [1, 0, 1, 0, 0, 1]), (⟨-7, 3⟩, [1, 0, 1, 0, 1, 0]), (⟨-7, 1⟩, [1, 0, 1, 0, 1, 1]), (⟨-5, 5⟩, [1, 0, 1, 1, 0, 0]), (⟨-5, 7⟩, [1, 0, 1, 1, 0, 1]), (⟨-7, 5⟩, [1, 0, 1, 1, 1, 0]), (⟨-7, 7⟩, [1, 0, 1, 1, 1, 1]), (⟨-3, -3⟩, [1, 1, 0, 0, 0, 0]), (⟨-3, -1⟩, [1, 1, 0, 0, 0, 1]), (⟨-1, -3⟩, [1, 1, 0, 0, 1, 0]), (⟨-1, -1⟩, [1, 1, 0, 0, 1, 1]), (⟨-3, -5⟩, [1, 1, 0, 1, 0, 0]), (⟨-3, -7⟩, [1, 1, 0, 1, 0, 1]), (⟨-1, -5⟩, [1, 1, 0, 1, 1, 0]), (⟨-1, -7⟩, [1, 1, 0, 1, 1, 1]), (⟨-5, -3⟩, [1, 1, 1, 0, 0, 0]), (⟨-5, -1⟩, [1, 1, 1, 0, 0, 1]), (⟨-7, -3⟩, [1, 1, 1, 0, 1, 0]), (⟨-7, -1⟩, [1, 1, 1, 0, 1, 1]), (⟨-5, -5⟩, [1, 1, 1, 1, 0, 0]), (⟨-5, -7⟩, [1, 1, 1, 1, 0, 1]), (⟨-7, -5⟩, [1, 1, 1, 1, 1, 0]), (⟨-7, -7⟩, [1, 1, 1, 1, 1, 1])] := by decide +kernel
theorem gray2_0 : grayT 2 (tab 2) 0 = true := by rw [tab2]; decide +kernel
theorem gray4_0 : grayT 4 (tab 4) 0 = true := by rw [tab4]; decide +kernel
theorem gray4_1 : grayT 4 (tab 4) 1 = true := by rw [tab4]; decide +kernel
theorem gray6_0 : grayT 6 (tab 6) 0 = true := by rw [tab6]; decide +kernel
theorem gray6_1 : grayT 6 (tab 6) 1 = true := by rw [tab6]; decide +kernel
theorem gray6_2 : grayT 6 (tab 6) 2 = true := by rw [tab6]; decide +kernel
theorem gray6_3 : grayT 6 (tab 6) 3 = true := by rw [tab6]; decide +kernel
theorem gray6_4 : grayT 6 (tab 6) 4 = true := by rw [tab6]; decide +kernel
theorem gray6_5 : grayT 6 (tab 6) 5 = true := by rw [tab6]; decide +kernel
theorem gray6_6 : grayT 6 (tab 6) 6 = true := by rw [tab6]; decide +kernel
theorem gray6_7 : grayT 6 (tab 6) 7 = true := by rw [tab6]; decide +kernel
theorem gray_row (c : Nat) (hc : c = 2 ∨ c = 4 ∨ c = 6) (j : Nat) (hj : 8 * j < 2 ^ c) : grayT c (tab c) j = true := by
  rcases hc with rfl | rfl | rfl
  · have : j = 0 := by omega
    subst this; exact gray2_0
  · have : j = 0 ∨ j = 1 := by omega
    rcases this with rfl | rfl
    · exact gray4_0
    · exact gray4_1
  · have : j = 0 ∨ j = 1 ∨ j = 2 ∨ j = 3 ∨ j = 4 ∨ j = 5 ∨ j = 6 ∨ j = 7 := by omega
    rcases this with rfl | rfl | rfl | rfl | rfl | rfl | rfl | rfl
    · exact gray6_0
    · exact gray6_1
    · exact gray6_2
    · exact gray6_3
    · exact gray6_4
    · exact gray6_5
    · exact gray6_6
    · exact gray6_7
theorem sizeI_abs (n : Int) : sizeI n = (n.natAbs : Int) := by unfold sizeI; split <;> omega
structure GrayF (c : Nat) (p q : Gs) (x y : List Int) (i k : Nat) : Prop where
  o1 : p.re % 2 = 1
  o2 : p.im % 2 = 1
  b1 : -7 ≤ p.re ∧ p.re ≤ 7
  b2 : -7 ≤ p.im ∧ p.im ≤ 7
  ne : i ≠ k → ¬ (p.re = q.re ∧ p.im = q.im)
  df : i ≠ k → sizeI (p.re - q.re) + sizeI (p.im - q.im) = 2 → (sizeI (p.re - q.re) = 0 ∨ sizeI (p.im - q.im) = 0) → dS x y c = 1
theorem gray_all (c : Nat) (hc : c = 2 ∨ c = 4 ∨ c = 6) (i k : Nat) (hi : i < 2 ^ c) (hk : k < 2 ^ c) : GrayF c (pointS (bitsOfS i c c)) (pointS (bitsOfS k c c)) (bitsOfS i c c) (bitsOfS k c c) i k := by
  have h := gray_row c hc (i / 8) (by omega)
  have hg : ∀ j, j < 2 ^ c → (tab c).zipIdx[j]? = some ((pointS (bitsOfS j c c), bitsOfS j c c), j) := fun j hj => by
    simp [tab, hj]
  have hm1 : ((pointS (bitsOfS i c c), bitsOfS i c c), i) ∈ ((tab c).zipIdx.drop (8 * (i / 8))).take 8 := by
    rw [List.mem_iff_getElem?]
    refine ⟨i % 8, ?_⟩
    rw [List.getElem?_take_of_lt (by omega), List.getElem?_drop, Nat.div_add_mod]
    exact hg i hi
  have hm2 : ((pointS (bitsOfS k c c), bitsOfS k c c), k) ∈ (tab c).zipIdx := List.mem_of_getElem? (hg k hk)
  unfold grayT at h
  rw [List.all_eq_true] at h
  have h1 := h _ hm1
  rw [Bool.and_eq_true, List.all_eq_true] at h1
  obtain ⟨h1, h2⟩ := h1
  have h2 := h2 _ hm2
  simp only [oneP, Bool.and_eq_true, decide_eq_true_eq] at h1
  obtain ⟨⟨⟨q1, q2⟩, q3⟩, q4⟩ := h1
  unfold pairP at h2
  refine ⟨q1, q2, q3, q4, fun e he => ?_, fun e h2' h0 => ?_⟩
  · have e1 : Nat.beq i k = false := by
      cases hb : Nat.beq i k with
      | false => rfl
      | true => exact absurd (Nat.eq_of_beq_eq_true hb) e
    have e2 : ((pointS (bitsOfS i c c)).re - (pointS (bitsOfS k c c)).re).natAbs + ((pointS (bitsOfS i c c)).im - (pointS (bitsOfS k c c)).im).natAbs = 0 := by omega
    rw [e1, e2] at h2
    simp at h2
  · have e1 : Nat.beq i k = false := by
      cases hb : Nat.beq i k with
      | false => rfl
      | true => exact absurd (Nat.eq_of_beq_eq_true hb) e
    rw [sizeI_abs, sizeI_abs] at h2' h0
    have e2 : ((pointS (bitsOfS i c c)).re - (pointS (bitsOfS k c c)).re).natAbs + ((pointS (bitsOfS i c c)).im - (pointS (bitsOfS k c c)).im).natAbs = 2 := by omega
    have e3 : ((pointS (bitsOfS i c c)).re - (pointS (bitsOfS k c c)).re).natAbs ≠ 1 := by omega
    have e4 : Nat.beq ((pointS (bitsOfS i c c)).re - (pointS (bitsOfS k c c)).re).natAbs 1 = false := by
      cases hb : Nat.beq ((pointS (bitsOfS i c c)).re - (pointS (bitsOfS k c c)).re).natAbs 1 with
      | false => rfl
      | true => exact absurd (Nat.eq_of_beq_eq_true hb) e3
    rw [e1, e2, e4] at h2
    have h2 := h2; simp at h2; exact h2.2
theorem dS_bd (x y : List Int) (hx : bitsOk x) (hy : bitsOk y) : ∀ n, 0 ≤ dS x y n ∧ dS x y n ≤ n
  | 0 => by simp [dS]
  | n + 1 => by
    have h := dS_bd x y hx hy n
    have h1 := bits_getD hx n
    have h2 := bits_getD hy n
    simp only [dS, sizeI]
    split <;> omega
end Go.Proofs.Ytfgpbmjmoobcnaa
end
section
open Go Go.Am
open Go.Am.Dat (cells)
namespace Go.Proofs.Ytfgpbmjmoobcnaa
set_option maxHeartbeats 4000000
set_option maxRecDepth 100000
set_option linter.unusedSimpArgs false
set_option linter.unusedVariables false
def z2 : List C := [.s (.int .i64 0), .s (.int .i64 0)]
def grayCh (p q : List C) (S : Nat → Bool) : Chs :=
  (if S 8 = true then [(11, .box (if S 10 = true then p else z2))] else []) ++ (if S 9 = true then [(12, .box (if S 11 = true then q else z2))] else [])
theorem grayCh_nd (p q : List C) (S : Nat → Bool) : ((grayCh p q S).map (·.1)).Nodup := by
  unfold grayCh
  cases S 8 <;> cases S 9 <;> simp
def grayOs : List AO := [⟨some 59, none, .mv (.tmp 7), false⟩, ⟨some 60, none, .mvs (.tmp 9), false⟩, ⟨some 61, none, .iaddr 2 [.int .i64 0, .int .i64 0] (.tmp 59) (.tmp 60), false⟩, ⟨some 62, none, .load true 2 (.tmp 61), false⟩,
  ⟨some 63, none, .mv (.tmp 7), false⟩, ⟨some 64, none, .mvs (.tmp 10), false⟩, ⟨some 65, none, .iaddr 2 [.int .i64 0, .int .i64 0] (.tmp 63) (.tmp 64), false⟩, ⟨some 66, none, .load true 2 (.tmp 65), false⟩,
  ⟨some 11, none, .alloc [.int .i64 0, .int .i64 0], false⟩, ⟨some 12, none, .alloc [.int .i64 0, .int .i64 0], false⟩, ⟨none, none, .store false 2 (.tmp 11) (.tmp 62), false⟩, ⟨none, none, .store false 2 (.tmp 12) (.tmp 66), true⟩]
def grayRb : List Nat := [2, 3, 10, 11, 102, 103, 110, 111, 203, 210, 211, 310, 311, 406, 407, 411, 506, 507, 511, 607, 611, 711, 810, 811, 910, 911, 1011]
def grayWr (R : List (List C)) (p q : List C) (i k : Nat) : List (Nat × Nat × C) :=
  [(0, 59, .sl 2 R), (1, 60, .s (.int .i64 i)), (2, 61, .ref p), (3, 62, .agg p), (4, 63, .sl 2 R), (5, 64, .s (.int .i64 k)), (6, 65, .ref q), (7, 66, .agg q), (8, 11, .ptr 11 0), (9, 12, .ptr 12 0)]
theorem gray_draw {cx : Cx} {Q : ASt → Prop} {K : List It} {vn : Value} {R : List (List C)} {i k : Nat} {a b a' b' : Int} (hi : i < R.length) (hk : k < R.length)
    (hP : R.getD i z2 = [.s (.int .i64 a), .s (.int .i64 b)]) (hQ : R.getD k z2 = [.s (.int .i64 a'), .s (.int .i64 b')])
    (hend : SG Try.prog cx Q K ⟨famT (fun _ => true) [(0, .s vn), (7, .sl 2 R), (9, .s (.int .i64 i)), (10, .s (.int .i64 k))] (grayWr R [.s (.int .i64 a), .s (.int .i64 b)] [.s (.int .i64 a'), .s (.int .i64 b')] i k), [(11, .box [.s (.int .i64 a), .s (.int .i64 b)]), (12, .box [.s (.int .i64 a'), .s (.int .i64 b')])]⟩) :
    SG Try.prog cx Q (.c (.draw 999 grayRb grayOs) :: K) ⟨[(0, .s vn), (7, .sl 2 R), (9, .s (.int .i64 i)), (10, .s (.int .i64 k))], []⟩ := by
  refine S_fam (grayWr R [.s (.int .i64 a), .s (.int .i64 b)] [.s (.int .i64 a'), .s (.int .i64 b')] i k) (grayCh [.s (.int .i64 a), .s (.int .i64 b)] [.s (.int .i64 a'), .s (.int .i64 b')]) (by simp [dstsNd, grayWr]) rfl (by simp) (fun S j ao hj hSj hp hs => ?_) (fun S hS => ?_)
  · have hs' : ∀ c ∈ grayRb, S (c % 100) = true → S (c / 100) = true := hs
    have hi0 : ((i : Int) < (R.length : Int)) := by omega
    have hk0 : ((k : Int) < (R.length : Int)) := by omega
    have hP2 : R[i]?.getD [.s (.int .i64 0), .s (.int .i64 0)] = [.s (.int .i64 a), .s (.int .i64 b)] := by simpa [z2] using hP
    have hQ2 : R[k]?.getD [.s (.int .i64 0), .s (.int .i64 0)] = [.s (.int .i64 a'), .s (.int .i64 b')] := by simpa [z2] using hQ
    rcases j with _|_|_|_|_|_|_|_|_|_|_|_|j <;> simp only [grayOs, List.getElem?_cons_zero, List.getElem?_cons_succ, Nat.reduceAdd, List.getElem?_nil, reduceCtorEq, Option.some.injEq, Nat.zero_add] at hj
    · subst hj
      simp [grayRb] at hp hs'
      refine ⟨⟨True, .sl 2 R, grayCh [.s (.int .i64 a), .s (.int .i64 b)] [.s (.int .i64 a'), .s (.int .i64 b')] S, []⟩, .yes _ rfl (.f (rfl) (trivial)), ⟨by simp [grayWr], by simp [grayWr]⟩, fun w _ _ => subC_nil _, fun x => subC_nil _, grayCh_nd _ _ _, ?_⟩
      have e : grayCh [.s (.int .i64 a), .s (.int .i64 b)] [.s (.int .i64 a'), .s (.int .i64 b')] (fun i => i == 0 || S i) = grayCh [.s (.int .i64 a), .s (.int .i64 b)] [.s (.int .i64 a'), .s (.int .i64 b')] S := rfl
      rw [e]
      exact fun p hp => lk_of_mem (grayCh_nd _ _ _) hp
    · subst hj
      simp [grayRb] at hp hs'
      refine ⟨⟨True, .s (.int .i64 i), grayCh [.s (.int .i64 a), .s (.int .i64 b)] [.s (.int .i64 a'), .s (.int .i64 b')] S, []⟩, .yes _ rfl (.f (rfl) (trivial)), ⟨by simp [grayWr], by simp [grayWr]⟩, fun w _ _ => subC_nil _, fun x => subC_nil _, grayCh_nd _ _ _, ?_⟩
      have e : grayCh [.s (.int .i64 a), .s (.int .i64 b)] [.s (.int .i64 a'), .s (.int .i64 b')] (fun i => i == 1 || S i) = grayCh [.s (.int .i64 a), .s (.int .i64 b)] [.s (.int .i64 a'), .s (.int .i64 b')] S := rfl
      rw [e]
      exact fun p hp => lk_of_mem (grayCh_nd _ _ _) hp
    · subst hj
      simp [grayRb] at hp hs'
      refine ⟨⟨0 ≤ (i : Int) ∧ (i : Int) < R.length, .ref [.s (.int .i64 a), .s (.int .i64 b)], grayCh [.s (.int .i64 a), .s (.int .i64 b)] [.s (.int .i64 a'), .s (.int .i64 b')] S, []⟩, .yes _ rfl (.f (by simp [cW, cP, famT, grayWr, gt_cons, cU, hp, zC, hP2]) (⟨by omega, by omega⟩)), ⟨by simp [grayWr], by simp [grayWr]⟩, fun w _ _ => subC_nil _, fun x => subC_nil _, grayCh_nd _ _ _, ?_⟩
      have e : grayCh [.s (.int .i64 a), .s (.int .i64 b)] [.s (.int .i64 a'), .s (.int .i64 b')] (fun i => i == 2 || S i) = grayCh [.s (.int .i64 a), .s (.int .i64 b)] [.s (.int .i64 a'), .s (.int .i64 b')] S := rfl
      rw [e]
      exact fun p hp => lk_of_mem (grayCh_nd _ _ _) hp
    · subst hj
      simp [grayRb] at hp hs'
      refine ⟨⟨2 ≤ ([.s (.int .i64 a), .s (.int .i64 b)] : List C).length ∧ (true = false → 2 = 1), .agg [.s (.int .i64 a), .s (.int .i64 b)], grayCh [.s (.int .i64 a), .s (.int .i64 b)] [.s (.int .i64 a'), .s (.int .i64 b')] S, []⟩, .yes _ rfl (.f (by simp [cW, cP, famT, grayWr, gt_cons, cU, hp, aE]) (⟨by simp, by simp⟩)), ⟨by simp [grayWr], by simp [grayWr]⟩, fun w _ _ => subC_nil _, fun x => subC_nil _, grayCh_nd _ _ _, ?_⟩
      have e : grayCh [.s (.int .i64 a), .s (.int .i64 b)] [.s (.int .i64 a'), .s (.int .i64 b')] (fun i => i == 3 || S i) = grayCh [.s (.int .i64 a), .s (.int .i64 b)] [.s (.int .i64 a'), .s (.int .i64 b')] S := rfl
      rw [e]
      exact fun p hp => lk_of_mem (grayCh_nd _ _ _) hp
    · subst hj
      simp [grayRb] at hp hs'
      refine ⟨⟨True, .sl 2 R, grayCh [.s (.int .i64 a), .s (.int .i64 b)] [.s (.int .i64 a'), .s (.int .i64 b')] S, []⟩, .yes _ rfl (.f (rfl) (trivial)), ⟨by simp [grayWr], by simp [grayWr]⟩, fun w _ _ => subC_nil _, fun x => subC_nil _, grayCh_nd _ _ _, ?_⟩
      have e : grayCh [.s (.int .i64 a), .s (.int .i64 b)] [.s (.int .i64 a'), .s (.int .i64 b')] (fun i => i == 4 || S i) = grayCh [.s (.int .i64 a), .s (.int .i64 b)] [.s (.int .i64 a'), .s (.int .i64 b')] S := rfl
      rw [e]
      exact fun p hp => lk_of_mem (grayCh_nd _ _ _) hp
    · subst hj
      simp [grayRb] at hp hs'
      refine ⟨⟨True, .s (.int .i64 k), grayCh [.s (.int .i64 a), .s (.int .i64 b)] [.s (.int .i64 a'), .s (.int .i64 b')] S, []⟩, .yes _ rfl (.f (rfl) (trivial)), ⟨by simp [grayWr], by simp [grayWr]⟩, fun w _ _ => subC_nil _, fun x => subC_nil _, grayCh_nd _ _ _, ?_⟩
      have e : grayCh [.s (.int .i64 a), .s (.int .i64 b)] [.s (.int .i64 a'), .s (.int .i64 b')] (fun i => i == 5 || S i) = grayCh [.s (.int .i64 a), .s (.int .i64 b)] [.s (.int .i64 a'), .s (.int .i64 b')] S := rfl
      rw [e]
      exact fun p hp => lk_of_mem (grayCh_nd _ _ _) hp
    · subst hj
      simp [grayRb] at hp hs'
      refine ⟨⟨0 ≤ (k : Int) ∧ (k : Int) < R.length, .ref [.s (.int .i64 a'), .s (.int .i64 b')], grayCh [.s (.int .i64 a), .s (.int .i64 b)] [.s (.int .i64 a'), .s (.int .i64 b')] S, []⟩, .yes _ rfl (.f (by simp [cW, cP, famT, grayWr, gt_cons, cU, hp, zC, hQ2]) (⟨by omega, by omega⟩)), ⟨by simp [grayWr], by simp [grayWr]⟩, fun w _ _ => subC_nil _, fun x => subC_nil _, grayCh_nd _ _ _, ?_⟩
      have e : grayCh [.s (.int .i64 a), .s (.int .i64 b)] [.s (.int .i64 a'), .s (.int .i64 b')] (fun i => i == 6 || S i) = grayCh [.s (.int .i64 a), .s (.int .i64 b)] [.s (.int .i64 a'), .s (.int .i64 b')] S := rfl
      rw [e]
      exact fun p hp => lk_of_mem (grayCh_nd _ _ _) hp
    · subst hj
      simp [grayRb] at hp hs'
      refine ⟨⟨2 ≤ ([.s (.int .i64 a'), .s (.int .i64 b')] : List C).length ∧ (true = false → 2 = 1), .agg [.s (.int .i64 a'), .s (.int .i64 b')], grayCh [.s (.int .i64 a), .s (.int .i64 b)] [.s (.int .i64 a'), .s (.int .i64 b')] S, []⟩, .yes _ rfl (.f (by simp [cW, cP, famT, grayWr, gt_cons, cU, hp, aE]) (⟨by simp, by simp⟩)), ⟨by simp [grayWr], by simp [grayWr]⟩, fun w _ _ => subC_nil _, fun x => subC_nil _, grayCh_nd _ _ _, ?_⟩
      have e : grayCh [.s (.int .i64 a), .s (.int .i64 b)] [.s (.int .i64 a'), .s (.int .i64 b')] (fun i => i == 7 || S i) = grayCh [.s (.int .i64 a), .s (.int .i64 b)] [.s (.int .i64 a'), .s (.int .i64 b')] S := rfl
      rw [e]
      exact fun p hp => lk_of_mem (grayCh_nd _ _ _) hp
    · subst hj
      simp [grayRb] at hp hs'
      refine ⟨⟨([.int .i64 0, .int .i64 0] : List Value).all (·.oneCell') = true, .ptr 11 0, (11, .box z2) :: bu [(11, .c .any)] (bQ (grayCh [.s (.int .i64 a), .s (.int .i64 b)] [.s (.int .i64 a'), .s (.int .i64 b')] S) 11), [(11, .c .any)]⟩, .yes _ rfl (.f rfl (by simp [Value.oneCell'])), ⟨by simp [grayWr], by simp [grayWr]⟩, by simp [grayWr, cj, cj.subCs, List.lookup], fun x => ?_, grayCh_nd _ _ _, ?_⟩
      · simp only [gt_cons]
        repeat' split
        all_goals simp [cj, gt, lk]
      · have hSj : S 8 = false := hSj
        have hx := hs'
        simp [hSj] at hx
        cases h1 : S 9 <;> cases h2 : S 10 <;> cases h3 : S 11 <;> simp_all [grayCh, bQ, bu, lk, cj, z2]
    · subst hj
      simp [grayRb] at hp hs'
      refine ⟨⟨([.int .i64 0, .int .i64 0] : List Value).all (·.oneCell') = true, .ptr 12 0, (12, .box z2) :: bu [(12, .c .any)] (bQ (grayCh [.s (.int .i64 a), .s (.int .i64 b)] [.s (.int .i64 a'), .s (.int .i64 b')] S) 12), [(12, .c .any)]⟩, .yes _ rfl (.f rfl (by simp [Value.oneCell'])), ⟨by simp [grayWr], by simp [grayWr]⟩, by simp [grayWr, cj, cj.subCs, List.lookup], fun x => ?_, grayCh_nd _ _ _, ?_⟩
      · simp only [gt_cons]
        repeat' split
        all_goals simp [cj, gt, lk]
      · have hSj : S 9 = false := hSj
        have hx := hs'
        simp [hSj] at hx
        cases h1 : S 8 <;> cases h2 : S 11 <;> cases h3 : S 10 <;> simp_all [grayCh, bQ, bu, lk, cj, z2]
    · subst hj
      simp [grayRb] at hp hs'
      refine ⟨⟨2 = 2 ∧ 0 + 2 ≤ z2.length ∧ ([.s (.int .i64 a), .s (.int .i64 b)] : List C).all aZ = true ∧ ((z2.drop 0).take 2).all aC = true, .s undef, cu (grayCh [.s (.int .i64 a), .s (.int .i64 b)] [.s (.int .i64 a'), .s (.int .i64 b')] S) 11 (.box (aw z2 0 [.s (.int .i64 a), .s (.int .i64 b)])), []⟩, .yes _ rfl (.f ?_ ?_), by simp [grayWr], fun w _ _ => subC_nil _, fun x => subC_nil _, grayCh_nd _ _ _, ?_⟩
      · simp [cW, cP, famT, grayWr, gt_cons, hp, hSj, grayCh, lk, aY]
      · simp [z2, aZ, Value.oneCell', aC]
      · cases h1 : S 9 <;> cases h2 : S 11 <;> simp [grayCh, hp, hSj, h1, h2, cu, lk, aw, z2]
    · subst hj
      simp [grayRb] at hp hs'
      refine ⟨⟨2 = 2 ∧ 0 + 2 ≤ z2.length ∧ ([.s (.int .i64 a'), .s (.int .i64 b')] : List C).all aZ = true ∧ ((z2.drop 0).take 2).all aC = true, .s undef, cu (grayCh [.s (.int .i64 a), .s (.int .i64 b)] [.s (.int .i64 a'), .s (.int .i64 b')] S) 12 (.box (aw z2 0 [.s (.int .i64 a'), .s (.int .i64 b')])), []⟩, .yes _ rfl (.f ?_ ?_), by simp [grayWr], fun w _ _ => subC_nil _, fun x => subC_nil _, grayCh_nd _ _ _, ?_⟩
      · simp [cW, cP, famT, grayWr, gt_cons, hp, hSj, grayCh, lk, aY]
      · simp [z2, aZ, Value.oneCell', aC]
      · cases h1 : S 8 <;> cases h2 : S 10 <;> simp [grayCh, hp, hSj, h1, h2, cu, lk, aw, z2]
  · have e : famT S [(0, .s vn), (7, .sl 2 R), (9, .s (.int .i64 i)), (10, .s (.int .i64 k))] (grayWr R [.s (.int .i64 a), .s (.int .i64 b)] [.s (.int .i64 a'), .s (.int .i64 b')] i k) = famT (fun _ => true) [(0, .s vn), (7, .sl 2 R), (9, .s (.int .i64 i)), (10, .s (.int .i64 k))] (grayWr R [.s (.int .i64 a), .s (.int .i64 b)] [.s (.int .i64 a'), .s (.int .i64 b')] i k) := by
      simp [famT, grayWr, hS, grayOs]
    have e2 : grayCh [.s (.int .i64 a), .s (.int .i64 b)] [.s (.int .i64 a'), .s (.int .i64 b')] S = [(11, .box [.s (.int .i64 a), .s (.int .i64 b)]), (12, .box [.s (.int .i64 a'), .s (.int .i64 b')])] := by
      simp [grayCh, hS, grayOs]
    rw [e2]
    exact e ▸ hend
end Go.Proofs.Ytfgpbmjmoobcnaa
end
section
open Go Go.Am
open Go.Am.Dat (cells)
namespace Go.Proofs.Ytfgpbmjmoobcnaa
set_option maxHeartbeats 4000000
set_option maxRecDepth 100000
set_option linter.unusedSimpArgs false
theorem sameReg_eq (a b : Reg) : (decide (a.length = b.length) && decide (a.taps = b.taps) && decide (a.state = b.state)) = true ↔ a = b := by
  cases a; cases b; simp [and_assoc]
instance : DecidableEq Reg := fun a b => decidable_of_iff _ (sameReg_eq a b)
end Go.Proofs.Ytfgpbmjmoobcnaa
end
section
open Go Go.Am
open Go.Am.Dat (cells)
namespace Go.Proofs.Ytfgpbmjmoobcnaa
set_option maxHeartbeats 4000000
set_option maxRecDepth 100000
set_option linter.unusedSimpArgs false
theorem gray_loop {cx : Cx} (X Y : List Int) (c : Nat) (hc6 : c ≤ 6) (hl1 : X.length = c) (hl2 : Y.length = c) (hok1 : bitsOk X) (hok2 : bitsOk Y) (h8 : dS X Y c = 1) {q1 q2 q3 q4 : Int} :
    SG Try.prog cx (bI [RV.tmp 6] [] (C.s (Value.bool true)) []) [It.c D.c5l1.loop, It.blk 0, It.c (AC.keep [17] ((AC.region false [{ dst := some 158, guard := none, op := AOp.mv (Operand.tmp 17), tot := false }, { dst := some 159, guard := none, op := AOp.bin BinOp.eql 3 (Operand.tmp 158) (Operand.const (Value.int IntKind.i64 1)), tot := false }, { dst := some 6, guard := none, op := AOp.mv (Operand.tmp 159), tot := false }]).seq (AC.keep [6] AC.ret)))]
      { t := [(0, C.s (Value.int IntKind.i64 ↑c)), (15, C.sl 1 (List.map cells X)), (16, C.sl 1 (List.map cells Y)), (17, C.s (Value.int IntKind.i64 0)), (18, C.s (Value.int IntKind.i64 0))],
        ch := [(11, Ch.box [C.s (Value.int IntKind.i64 q1), C.s (Value.int IntKind.i64 q2)]), (12, Ch.box [C.s (Value.int IntKind.i64 q3), C.s (Value.int IntKind.i64 q4)])] } := by
  refine S_forU c (fun j => [(17, .s (.int .i64 (dS X Y j))), (18, .s (.int .i64 (j : Int)))]) (fun _ => []) (fun _ => True) trivial ?_ (fun j hj _ => S_run [e33] 1000 ?_)
  · simp (maxSteps := 4000000) -implicitDefEqProofs only [dS, Ent.of0, Ent.of1, Ent.of2, Ent.of3, V, bX, bo, bF, cG, cW, cP, gt, lk, cu, bQ, cr, cz, ce, cj, cj.subCs, cT, bG, a3, b0, aY, aZ, bA, aw, a8, bD, aO, bu, aB, bP, cV, cR, aj, aA, bZ, bR, bN, cU, cK, aE, ap, cp, bz, zC, argS, bI, cd, cN, cJ, ak, aM, aT, aD, bL, leC, bV, cC, bW, cI, cF, aI, aG, cY, aq, bT, a4, a4.viewCs, bn, bn.flatCs, aU, aU.LensOks, Value.oneCell', ↓reduceIte, ite_true, ite_false, if_true, if_false, Nat.reduceAdd, Nat.reduceSub, Nat.reduceMul, Nat.reduceEqDiff, Nat.reduceLT, Nat.reduceLeDiff, reduceCtorEq, Int.reduceToNat, forall_const, implies_true, br, Ent.mk3, bl, bB, a5, be, bC, a0, bj, bp, bH, bk, bE, bK, bt, cQ, rn, cm, cm.renCs, az, aL, aR, aR.viewOks, aH, bf, bf.flatBs, aP, ah, aX, ag, aV, bw, bw.keysBs, aN, ar, a6, bY, bq, cc, ae, ae.passKs, ay, aK, af, af.lendKs, cH, cD, cq, a7, setInn, ai, cM, cO, aC, a9, bM, bU, aJ, av, Glob.gl, ax, cn, bJ, ca, bv, au, bS, cL, cb, cS, co, an, an.ptrOnlys, am, aQ, cB, aW, bg, bm, bO, aF, bh, cg, Nat.reduceBEq, undef]; simp
  · have hd := dS_bd X Y hok1 hok2 j
    have x1 := bits_getD hok1 j
    have x2 := bits_getD hok2 j
    by_cases h : j < c
    · have hi2 : (j : Int) < (c : Int) := by omega
      have hs1 : (if -(X.getD j 0 - Y.getD j 0) > X.getD j 0 - Y.getD j 0 then -(X.getD j 0 - Y.getD j 0) else X.getD j 0 - Y.getD j 0) = sizeI (X.getD j 0 - Y.getD j 0) := rfl
      have hsz : 0 ≤ sizeI (X.getD j 0 - Y.getD j 0) ∧ sizeI (X.getD j 0 - Y.getD j 0) ≤ 1 := by unfold sizeI; split <;> omega
      delta D.c5l1
      simp (maxSteps := 4000000) -implicitDefEqProofs only [D.rv5, hi2, h, hl1, hl2, e33, hs1, dS, InR, Ent.of0, Ent.of1, Ent.of2, Ent.of3, V, bX, bo, bF, cG, cW, cP, gt, lk, cu, bQ, cr, cz, ce, cj, cj.subCs, cT, bG, a3, b0, aY, aZ, bA, aw, a8, bD, aO, bu, aB, bP, cV, cR, aj, aA, bZ, bR, bN, cU, cK, aE, ap, cp, bz, zC, argS, bI, cd, cN, cJ, ak, aM, aT, aD, bL, leC, bV, cC, bW, cI, cF, aI, aG, cY, aq, bT, a4, a4.viewCs, bn, bn.flatCs, aU, aU.LensOks, Value.oneCell', ↓reduceIte, ite_true, ite_false, if_true, if_false, Nat.reduceAdd, Nat.reduceSub, Nat.reduceMul, Nat.reduceEqDiff, Nat.reduceLT, Nat.reduceLeDiff, reduceCtorEq, Int.reduceToNat, forall_const, implies_true, br, Ent.mk3, bl, bB, a5, be, bC, a0, bj, bp, bH, bk, bE, bK, bt, cQ, rn, cm, cm.renCs, az, aL, aR, aR.viewOks, aH, bf, bf.flatBs, aP, ah, aX, ag, aV, bw, bw.keysBs, aN, ar, a6, bY, bq, cc, ae, ae.passKs, ay, aK, af, af.lendKs, cH, cD, cq, a7, setInn, ai, cM, cO, aC, a9, bM, bU, aJ, av, Glob.gl, ax, cn, bJ, ca, bv, au, bS, cL, cb, cS, co, an, an.ptrOnlys, am, aQ, cB, aW, bg, bm, bO, aF, bh, cg, Nat.reduceBEq, undef]
      omega
    · have hi2 : ¬ (j : Int) < (c : Int) := by omega
      have hi3 : j = c := by omega
      subst hi3
      delta D.c5l1
      simp (maxSteps := 4000000) -implicitDefEqProofs only [D.rv5, hi2, h8, InR, Ent.of0, Ent.of1, Ent.of2, Ent.of3, V, bX, bo, bF, cG, cW, cP, gt, lk, cu, bQ, cr, cz, ce, cj, cj.subCs, cT, bG, a3, b0, aY, aZ, bA, aw, a8, bD, aO, bu, aB, bP, cV, cR, aj, aA, bZ, bR, bN, cU, cK, aE, ap, cp, bz, zC, argS, bI, cd, cN, cJ, ak, aM, aT, aD, bL, leC, bV, cC, bW, cI, cF, aI, aG, cY, aq, bT, a4, a4.viewCs, bn, bn.flatCs, aU, aU.LensOks, Value.oneCell', ↓reduceIte, ite_true, ite_false, if_true, if_false, Nat.reduceAdd, Nat.reduceSub, Nat.reduceMul, Nat.reduceEqDiff, Nat.reduceLT, Nat.reduceLeDiff, reduceCtorEq, Int.reduceToNat, forall_const, implies_true, br, Ent.mk3, bl, bB, a5, be, bC, a0, bj, bp, bH, bk, bE, bK, bt, cQ, rn, cm, cm.renCs, az, aL, aR, aR.viewOks, aH, bf, bf.flatBs, aP, ah, aX, ag, aV, bw, bw.keysBs, aN, ar, a6, bY, bq, cc, ae, ae.passKs, ay, aK, af, af.lendKs, cH, cD, cq, a7, setInn, ai, cM, cO, aC, a9, bM, bU, aJ, av, Glob.gl, ax, cn, bJ, ca, bv, au, bS, cL, cb, cS, co, an, an.ptrOnlys, am, aQ, cB, aW, bg, bm, bO, aF, bh, cg, Nat.reduceBEq, undef]
theorem SymbolGray_c (n a b : Int) : FC Try.prog 5 [enc n, enc a, enc b] [] (enc true) [] := by
  refine fc_intro' D.is5 (by simp) (fun cx hl => S_run [e15, e23, e26, e28, e31, e32, e33, e34] 1000 ?_)
  by_cases ho : orderErrS n = 0
  rotate_left
  · have h15 : orderErrS n = 15 := by unfold orderErrS at ho ⊢; split <;> simp_all
    delta D.c5
    simp (maxSteps := 4000000) -implicitDefEqProofs only [D.rv5, e15, e23, e26, e28, e31, e32, e33, e34, ho, h15, ordErr_eq, List.map_nil, Int.cast_ofNat_Int, Int.natCast_one, Int.natCast_zero, Int.reduceAdd, Int.reduceSub, Int.reduceMul, Int.reduceLT, Int.reduceLE, Int.reduceTMod, Int.reduceTDiv, Int.reduceNeg, Int.reduceEq, Nat.reducePow, Int.reducePow, ne_eq, not_false_eq_true, Ent.of0, Ent.of1, Ent.of2, Ent.of3, V, bX, bo, bF, cG, cW, cP, gt, lk, cu, bQ, cr, cz, ce, cj, cj.subCs, cT, bG, a3, b0, aY, aZ, bA, aw, a8, bD, aO, bu, aB, bP, cV, cR, aj, aA, bZ, bR, bN, cU, cK, aE, ap, cp, bz, zC, argS, bI, cd, cN, cJ, ak, aM, aT, aD, bL, leC, bV, cC, bW, cI, cF, aI, aG, cY, aq, bT, a4, a4.viewCs, bn, bn.flatCs, aU, aU.LensOks, Value.oneCell', ↓reduceIte, ite_true, ite_false, if_true, if_false, Nat.reduceAdd, Nat.reduceSub, Nat.reduceMul, Nat.reduceEqDiff, Nat.reduceLT, Nat.reduceLeDiff, reduceCtorEq, Int.reduceToNat, forall_const, implies_true, br, Ent.mk3, bl, bB, a5, be, bC, a0, bj, bp, bH, bk, bE, bK, bt, cQ, rn, cm, cm.renCs, az, aL, aR, aR.viewOks, aH, bf, bf.flatBs, aP, ah, aX, ag, aV, bw, bw.keysBs, aN, ar, a6, bY, bq, cc, ae, ae.passKs, ay, aK, af, af.lendKs, cH, cD, cq, a7, setInn, ai, cM, cO, aC, a9, bM, bU, aJ, av, Glob.gl, ax, cn, bJ, ca, bv, au, bS, cL, cb, cS, co, an, an.ptrOnlys, am, aQ, cB, aW, bg, bm, bO, aF, bh, cg, Nat.reduceBEq, undef]
  have hn : n = 2 ∨ n = 4 ∨ n = 6 := by unfold orderErrS at ho; grind
  obtain ⟨c, rfl⟩ : ∃ c : Nat, n = (c : Int) := ⟨n.toNat, by omega⟩
  have hc : c = 2 ∨ c = 4 ∨ c = 6 := by omega
  have hc6 : c ≤ 6 := by omega
  have hp : 2 ^ c ≤ 2 ^ 6 := Nat.pow_le_pow_right (by decide) hc6
  have hp0 : 0 < 2 ^ c := Nat.two_pow_pos c
  have hpl := pts_length c (2 ^ c)
  have hw : (0 : Int) < ((2 ^ c : Nat) : Int) ∧ ((2 ^ c : Nat) : Int) ≤ 4611686018427387903 := by omega
  obtain ⟨i, hi, hia⟩ : ∃ i : Nat, i < 2 ^ c ∧ a % ((2 ^ c : Nat) : Int) = (i : Int) := by
    have h1 := Int.emod_nonneg a (show ((2 ^ c : Nat) : Int) ≠ 0 by omega)
    have h2 := Int.emod_lt_of_pos a hw.1
    exact ⟨(a % ((2 ^ c : Nat) : Int)).toNat, by omega, by omega⟩
  obtain ⟨k, hk, hkb⟩ : ∃ k : Nat, k < 2 ^ c ∧ b % ((2 ^ c : Nat) : Int) = (k : Int) := by
    have h1 := Int.emod_nonneg b (show ((2 ^ c : Nat) : Int) ≠ 0 by omega)
    have h2 := Int.emod_lt_of_pos b hw.1
    exact ⟨(b % ((2 ^ c : Nat) : Int)).toNat, by omega, by omega⟩
  have hi2 : (i : Int) < ((2 ^ c : Nat) : Int) := by omega
  have hk2 : (k : Int) < ((2 ^ c : Nat) : Int) := by omega
  have hg := gray_all c hc i k hi hk
  have hg2 := gray_all c hc k i hk hi
  have hP : (pts c (2 ^ c)).getD i ⟨0, 0⟩ = pointS (bitsOfS i c c) := rng_getD _ _ hi
  have hQ : (pts c (2 ^ c)).getD k ⟨0, 0⟩ = pointS (bitsOfS k c c) := rng_getD _ _ hk
  generalize pointS (bitsOfS i c c) = PP at hg hP hg2
  generalize pointS (bitsOfS k c c) = QQ at hg hQ hg2
  obtain ⟨g2, g3, g4, g5, g1, g8⟩ := hg
  obtain ⟨-, -, g6, g7, -, -⟩ := hg2
  have hok1 := bitsOfS_ok i c c
  have hok2 := bitsOfS_ok k c c
  have hl1 := bitsOfS_length i c c
  have hl2 := bitsOfS_length k c c
  delta D.c5
  simp (maxSteps := 4000000) -implicitDefEqProofs only [D.rv5, e15, e23, e26, e28, e31, e32, e33, e34, ho, hn, hc, hpl, hw, hia, hkb, ordErr_eq, Int.toNat_natCast, Int.cast_ofNat_Int, Int.natCast_one, Int.natCast_zero, Int.reduceAdd, Int.reduceSub, Int.reduceMul, Int.reduceLT, Int.reduceLE, Int.reduceTMod, Int.reduceTDiv, Int.reduceNeg, Int.reduceEq, Nat.reducePow, Int.reducePow, ne_eq, not_false_eq_true, Ent.of0, Ent.of1, Ent.of2, Ent.of3, V, bX, bo, bF, cG, cW, cP, gt, lk, cu, bQ, cr, cz, ce, cj, cj.subCs, cT, bG, a3, b0, aY, aZ, bA, aw, a8, bD, aO, bu, aB, bP, cV, cR, aj, aA, bZ, bR, bN, cU, cK, aE, ap, cp, bz, zC, argS, bI, cd, cN, cJ, ak, aM, aT, aD, bL, leC, bV, cC, bW, cI, cF, aI, aG, cY, aq, bT, a4, a4.viewCs, bn, bn.flatCs, aU, aU.LensOks, Value.oneCell', ↓reduceIte, ite_true, ite_false, if_true, if_false, Nat.reduceAdd, Nat.reduceSub, Nat.reduceMul, Nat.reduceEqDiff, Nat.reduceLT, Nat.reduceLeDiff, reduceCtorEq, Int.reduceToNat, forall_const, implies_true, br, Ent.mk3, bl, bB, a5, be, bC, a0, bj, bp, bH, bk, bE, bK, bt, cQ, rn, cm, cm.renCs, az, aL, aR, aR.viewOks, aH, bf, bf.flatBs, aP, ah, aX, ag, aV, bw, bw.keysBs, aN, ar, a6, bY, bq, cc, ae, ae.passKs, ay, aK, af, af.lendKs, cH, cD, cq, a7, setInn, ai, cM, cO, aC, a9, bM, bU, aJ, av, Glob.gl, ax, cn, bJ, ca, bv, au, bS, cL, cb, cS, co, an, an.ptrOnlys, am, aQ, cB, aW, bg, bm, bO, aF, bh, cg, Nat.reduceBEq, undef]
  refine gray_draw (R := (pts c (2 ^ c)).map cells) (i := i) (k := k) (a := PP.re) (b := PP.im) (a' := QQ.re) (b' := QQ.im) (by rw [List.length_map, hpl]; exact hi) (by rw [List.length_map, hpl]; exact hk) ?_ ?_ ?_
  · exact (getD_gs (pts c (2 ^ c)) i).trans (by rw [hP])
  · exact (getD_gs (pts c (2 ^ c)) k).trans (by rw [hQ])
  simp only [famT, grayWr, if_true]
  refine S_run [e15, e23, e26, e28, e31, e32, e33, e34] 1000 ?_
  simp (maxSteps := 4000000) -implicitDefEqProofs only [sizeI, e15, e23, e26, e28, e31, e32, e33, e34, ho, hn, hc, hpl, hw, hia, hkb, g2, g3, g4, g5, g6, g7, Int.toNat_natCast, Int.cast_ofNat_Int, Int.natCast_one, Int.natCast_zero, Int.reduceAdd, Int.reduceSub, Int.reduceMul, Int.reduceLT, Int.reduceLE, Int.reduceTMod, Int.reduceTDiv, Int.reduceNeg, Int.reduceEq, Nat.reducePow, Int.reducePow, ne_eq, not_false_eq_true, Ent.of0, Ent.of1, Ent.of2, Ent.of3, V, bX, bo, bF, cG, cW, cP, gt, lk, cu, bQ, cr, cz, ce, cj, cj.subCs, cT, bG, a3, b0, aY, aZ, bA, aw, a8, bD, aO, bu, aB, bP, cV, cR, aj, aA, bZ, bR, bN, cU, cK, aE, ap, cp, bz, zC, argS, bI, cd, cN, cJ, ak, aM, aT, aD, bL, leC, bV, cC, bW, cI, cF, aI, aG, cY, aq, bT, a4, a4.viewCs, bn, bn.flatCs, aU, aU.LensOks, Value.oneCell', ↓reduceIte, ite_true, ite_false, if_true, if_false, Nat.reduceAdd, Nat.reduceSub, Nat.reduceMul, Nat.reduceEqDiff, Nat.reduceLT, Nat.reduceLeDiff, reduceCtorEq, Int.reduceToNat, forall_const, implies_true, br, Ent.mk3, bl, bB, a5, be, bC, a0, bj, bp, bH, bk, bE, bK, bt, cQ, rn, cm, cm.renCs, az, aL, aR, aR.viewOks, aH, bf, bf.flatBs, aP, ah, aX, ag, aV, bw, bw.keysBs, aN, ar, a6, bY, bq, cc, ae, ae.passKs, ay, aK, af, af.lendKs, cH, cD, cq, a7, setInn, ai, cM, cO, aC, a9, bM, bU, aJ, av, Glob.gl, ax, cn, bJ, ca, bv, au, bS, cL, cb, cS, co, an, an.ptrOnlys, am, aQ, cB, aW, bg, bm, bO, aF, bh, cg, Nat.reduceBEq, undef]
  have hs1 : (if -(PP.re - QQ.re) > PP.re - QQ.re then -(PP.re - QQ.re) else PP.re - QQ.re) = sizeI (PP.re - QQ.re) := rfl
  have hs2 : (if -(PP.im - QQ.im) > PP.im - QQ.im then -(PP.im - QQ.im) else PP.im - QQ.im) = sizeI (PP.im - QQ.im) := rfl
  rw [hs1, hs2]
  have b1 : 0 ≤ sizeI (PP.re - QQ.re) ∧ sizeI (PP.re - QQ.re) ≤ 14 := by unfold sizeI; split <;> omega
  have b2 : 0 ≤ sizeI (PP.im - QQ.im) ∧ sizeI (PP.im - QQ.im) ≤ 14 := by unfold sizeI; split <;> omega
  have r1 : InR .i64 (PP.re - QQ.re) ∧ InR .i64 (-(PP.re - QQ.re)) ∧ InR .i64 (PP.im - QQ.im) ∧ InR .i64 (-(PP.im - QQ.im)) ∧ InR .i64 (sizeI (PP.re - QQ.re) + sizeI (PP.im - QQ.im)) := by simp only [InR]; omega
  obtain ⟨r1, r2, r3, r4, r5⟩ := r1
  by_cases hik : i = k
  · have hpq : PP = QQ := by rw [← hP, ← hQ, hik]
    have z1 : sizeI (PP.re - QQ.re) = 0 := by rw [hpq, Int.sub_self]; rfl
    have z2 : sizeI (PP.im - QQ.im) = 0 := by rw [hpq, Int.sub_self]; rfl
    simp [hik, r1, r2, r3, r4, z1, z2, InR]; omega
  have hne := g1 hik
  have hik' : ¬ ((i : Int) = (k : Int)) := by omega
  have hne' : (decide (PP.re = QQ.re) && decide (PP.im = QQ.im)) = false := by
    rw [← Bool.not_eq_true]
    simpa using hne
  rw [if_pos hik', if_pos hne']
  refine ⟨r1, r2, r3, r4, r5, ?_⟩
  by_cases h2 : sizeI (PP.re - QQ.re) + sizeI (PP.im - QQ.im) = 2
  rotate_left
  · rw [if_neg (by simpa using h2)]; trivial
  rw [if_pos (by simpa using h2)]
  have h8 : (sizeI (PP.re - QQ.re) = 0 ∨ sizeI (PP.im - QQ.im) = 0) → dS (bitsOfS i c c) (bitsOfS k c c) c = 1 := g8 hik h2
  have hfin : ((0 : Int) ≤ i ∧ (i : Int) < 4096 ∧ (0 : Int) ≤ c ∧ (c : Int) ≤ 6) ∧ ((0 : Int) ≤ k ∧ (k : Int) < 4096 ∧ (0 : Int) ≤ c ∧ (c : Int) ≤ 6) := by omega
  generalize bitsOfS i c c = X at *
  generalize bitsOfS k c c = Y at *
  clear r1 r2 r3 r4 r5 hs1 hs2
  have hd := dS_bd X Y hok1 hok2
  split
  · split
    · trivial
    · rename_i q1 q2
      replace h8 := h8 (.inr (by simpa using q2))
      refine ⟨hfin.1, hfin.2, gray_loop X Y c hc6 hl1 hl2 hok1 hok2 h8⟩
  · rename_i q1
    replace h8 := h8 (.inl (by simpa using q1))
    exact ⟨hfin.1, hfin.2, gray_loop X Y c hc6 hl1 hl2 hok1 hok2 h8⟩
end Go.Proofs.Ytfgpbmjmoobcnaa
end
section
open Go Go.Am
open Go.Am.Dat (cells)
namespace Go.Proofs.Ytfgpbmjmoobcnaa
open Go.ChangeShapes Go.WideShapes Go.ChangeAt Go.RowKit
set_option linter.unusedVariables false
theorem own : ownKnob Try.prog.godebug = none := by kernel_rfl
theorem glob0 : Glob.gl Try.prog = [] := rfl
set_option maxRecDepth 100000 in
theorem lifted5 (os : Os) (started : os.Started) (H : Type) (en : TypeId × Value → H) :
    ReturnsInHanded {} Try.checked os 5 .any (Rows.symbolGraySpec.pre6 en Try.prog Try.f5 Rows.symbolGrayRow.domain false) (Rows.symbolGraySpec.post en Try.prog Try.f5 false true false false) := by
  refine returnsInHanded_of_change (C := Try.checked) own started (by kernel_rfl) Try.func5
    (ChangeSpec.witness6 (enc := en) (C := Try.checked) false ⟨#[], #[.int .i64 0, .int .i64 0, .int .i64 0], []⟩ 8 (by kernel_rfl) (by kernel_rfl) (by kernel_rfl) (by kernel_rfl)) ?_
  intro W base args ds gs before hval0 hW hcnd _
  have hval : ∀ (j : Nat) t v, Try.f5.params[j]? = some t → args[j]? = some v → Value.okWide Try.prog W .any base t v := hval0
  have hW' := hW
  obtain ⟨p, q, hA0, hV, rfl, hfz, hnd⟩ := hW
  have hA : DataW.TrodAll en Try.prog W 0 (fun _ => true) true Try.f5.params.toList args.toList ds p := hA0
  rw [Try.params5] at hA hval
  obtain ⟨v0, vs0, d0, ds0, p0, q0, hargs, rfl, rfl, h0, r0⟩ := trodAll_cons hA
  obtain ⟨v1, vs1, d1, ds1, p1, q1, rfl, rfl, rfl, h1, r1⟩ := trodAll_cons r0
  obtain ⟨v2, vs2, d2, ds2, p2, q2, rfl, rfl, rfl, h2, r2⟩ := trodAll_cons r1
  obtain ⟨rfl, rfl, rfl⟩ := trodAll_nil r2
  obtain rfl : args = #[v0, v1, v2] := by cases args; simp_all
  obtain ⟨rfl, rfl⟩ := trodVars_none hV
  obtain ⟨x0, rfl, rfl, rfl, w0⟩ := open_int Try.underlying3 (hval 0 3 v0 rfl rfl) h0
  obtain ⟨x1, rfl, rfl, rfl, w1⟩ := open_int Try.underlying3 (hval 1 3 v1 rfl rfl) h1
  obtain ⟨x2, rfl, rfl, rfl, w2⟩ := open_int Try.underlying3 (hval 2 3 v2 rfl rfl) h2
  clear hA0 hval0
  refine (law_walk glob0 (SymbolGray_c x0 x1 x2) (W := W) (vs := #[.int .i64 x0, .int .i64 x1, .int .i64 x2]) rfl (fun j c hj E => ?_)).mono fun e W' ⟨he, bel⟩ => ?_
  · match j, hj with
    | 0, hj => cases hj; exact .d (.s _)
    | 1, hj => cases hj; exact .d (.s _)
    | 2, hj => cases hj; exact .d (.s _)
  · subst he
    exact ⟨_, rfl, _, _, _, [], _, [], hW', trodAll_mk1 (shut_bool Try.underlying4 _), (trodAll_cons_mk (shut_int Try.underlying3 w0) (trodAll_cons_mk (shut_int Try.underlying3 w1) (trodAll_cons_mk (shut_int Try.underlying3 w2) trodAll_mk0))), rfl, bel.frame _, fun h => by cases h⟩
theorem over5 : Rows.symbolGrayRow.holds Try.pinned (OpenSpec.ofChange Rows.symbolGraySpec) :=
  OpenClaim.holds_of_wide 5 Try.f5 rfl rfl rfl rfl rfl rfl rfl ⟨rfl, rfl, rfl, rfl, rfl⟩ rfl rfl rfl rfl rfl (by kernel_rfl) Try.func5 (by kernel_rfl)
    (of_decide_eq_true (by kernel_rfl)) (by unfold Func.isWrapper; first | (rw [if_pos (by decide +kernel)]; kernel_rfl) | (rw [if_neg (by decide +kernel)]; exact ⟨rfl, rfl⟩))
    (fun os started H en _ => lifted5 os started H en)
theorem SymbolGray_holds : Rows.SymbolGraySaid := over5
#print axioms SymbolGray_holds
end Go.Proofs.Ytfgpbmjmoobcnaa
end
