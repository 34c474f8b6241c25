/- Part 5 of the proof of: SymbolReceives returns true for every input and never panics: hard and soft bits of received symbols, and the greatest error, or the errors, are as the reference says; hard and soft bits agree; conditions: none beyond the given statement. -/
import Derived.Test.YtfgpbmjmoobcnaaAm4
set_option linter.all false
section
open Go Go.Am
open Go.Am.Dat (cells)
namespace Go.Proofs.Ytfgpbmjmoobcnaa
set_option maxHeartbeats 4000000
set_option maxRecDepth 100000
set_option linter.unusedSimpArgs false
theorem rlevel3_c (l : List Int) (h : l.length = 3) (hb : bitsOk l) : FC Try.prog 40 [enc l] [] (enc (levelS l)) [] := by
  match l, h with
  | [a, b, c], _ =>
    have ha := hb a (by simp)
    have hok : bitsOk [b, c] := fun x hx => hb x (by simp at hx; grind)
    have hll := levelS_le [b, c] hok
    have hq : levelS [a, b, c] = (1 - 2 * a) * (4 - levelS [b, c]) := by simp [levelS]
    refine fc_intro' is40 (by simp) (fun cx hl => S_runU [.of1 40 (fun l => l = [b, c]) (fun a => enc (levelS a)) (fun _ => trivial) (fun l h => by subst h; exact rlevel2_c [b, c] rfl hok)] 300 ?_)
    delta c40 c40l1
    simp (maxSteps := 4000000) -implicitDefEqProofs only [rv40, InR, Int.cast_ofNat_Int, Int.natCast_one, Int.natCast_zero, Int.reduceAdd, Int.reduceSub, Int.reduceMul, Int.reduceLT, Int.reduceLE, Int.reduceTMod, Int.reduceTDiv, Int.reduceNeg, Int.reduceEq, Nat.reducePow, Int.reducePow, ne_eq, not_false_eq_true, Ent.of0, Ent.of1, Ent.of2, Ent.of3, V, bV, bl, bu, bW, cM, cT, gt, lk, cb, cG, ce, bX, cg, cn, cn.subCs, cV, a3, bh, bO, ax, bH, bJ, aC, bK, bw, aV, bv, av, cC, cO, cQ, ag, aK, bQ, bS, b0, cU, cR, aD, au, bY, bo, zC, argS, bE, cI, cY, cN, ai, aw, aI, aU, co, leC, cm, bZ, cd, c7, bN, aM, aX, cW, an, cr, a7, a7.viewCs, a9, a9.flatCs, aG, aG.LensOks, Value.oneCell', ↓reduceIte, ite_true, ite_false, if_true, if_false, Nat.reduceAdd, Nat.reduceSub, Nat.reduceMul, Nat.reduceEqDiff, Nat.reduceLT, Nat.reduceLeDiff, reduceCtorEq, Int.reduceToNat, forall_const, implies_true, a5, Ent.mk3, bF, bp, bA, a8, br, bj, bL, bC, a6, a4, bm, bP, bz, cP, rn, cz, cz.renCs, aE, aF, aQ, aQ.viewOks, az, bq, bq.flatBs, ay, ar, aA, ah, aW, bM, bM.keysBs, aT, am, aZ, bR, be, cq, ae, ae.passKs, aN, aY, af, af.lendKs, cJ, cp, cu, bD, setInn, ap, cL, cS, aR, bn, cj, bT, aJ, aO, Glob.gl, aP, cF, bG, cc, bg, ak, cH, cZ, cB, c6, cK, aj, aj.ptrOnlys, aq, aB, cD, aH, bf, bI, ca, aL, bB, bU, Nat.reduceBEq, undef]
    rw [hq]
    generalize levelS [b, c] = q at *
    simp at hll
    rcases ha with rfl | rfl <;> omega
theorem rlevel_c (l : List Int) (h0 : 0 < l.length) (h3 : l.length ≤ 3) (hb : bitsOk l) : FC Try.prog 40 [enc l] [] (enc (levelS l)) [] := by
  have : l.length = 1 ∨ l.length = 2 ∨ l.length = 3 := by omega
  rcases this with h | h | h
  · exact rlevel1_c l h hb
  · exact rlevel2_c l h hb
  · exact rlevel3_c l h hb
def e40 : Ent Try.prog := .of1 40 (fun l => 0 < l.length ∧ l.length ≤ 3 ∧ bitsOk l) (fun l : List Int => enc (levelS l)) (fun _ => trivial) (fun l h => rlevel_c l h.1 h.2.1 h.2.2)
end Go.Proofs.Ytfgpbmjmoobcnaa
end
section
open Go Go.Am
open Go.Am.Dat (cells)
namespace Go.Proofs.Ytfgpbmjmoobcnaa
set_option maxHeartbeats 4000000
set_option maxRecDepth 100000
set_option linter.unusedSimpArgs false
theorem soft1_c (s0 s1 : Int) (h : ∀ s ∈ [s0, s1], 0 ≤ s ∧ s ≤ 4611686018427387903) : FC Try.prog 117 [enc (lvls 1), enc [s0, s1]] [] (enc (softS 1 [s0, s1])) [] := by
  have l0 : ofLevelC 1 (-1) = .sl 1 [[.s (.int .i64 1)]] := by rfl
  have l1 : ofLevelC 1 1 = .sl 1 [[.s (.int .i64 0)]] := by rfl
  have hl : lvls 1 = [-1, 1] := by decide
  have ht : Int.toNat 1 = 1 := rfl
  have hs : softS 1 [s0, s1] = [minS [s0] - minS [s1]] := by rfl
  have q00 := minS_bd (l := [s1]) (by simp) (fun x hx => h x (by simp at hx ⊢; grind))
  have q01 := minS_bd (l := [s0]) (by simp) (fun x hx => h x (by simp at hx ⊢; grind))
  rw [hl, hs]
  refine fc_intro' is117 (by simp) (fun cx _ => S_runU [ctE 1 (by decide), e104, e139] 4000 ?_)
  delta c117 c117l1 c117l2
  simp (maxSteps := 4000000) -implicitDefEqProofs only [rv117, ctE, e104, e139, ht, l0, l1, InR, Int.cast_ofNat_Int, Int.natCast_one, Int.natCast_zero, Int.reduceAdd, Int.reduceSub, Int.reduceMul, Int.reduceLT, Int.reduceLE, Int.reduceTMod, Int.reduceTDiv, Int.reduceNeg, Int.reduceEq, Nat.reducePow, Int.reducePow, ne_eq, not_false_eq_true, Ent.of0, Ent.of1, Ent.of2, Ent.of3, V, bV, bl, bu, bW, cM, cT, gt, lk, cb, cG, ce, bX, cg, cn, cn.subCs, cV, a3, bh, bO, ax, bH, bJ, aC, bK, bw, aV, bv, av, cC, cO, cQ, ag, aK, bQ, bS, b0, cU, cR, aD, au, bY, bo, zC, argS, bE, cI, cY, cN, ai, aw, aI, aU, co, leC, cm, bZ, cd, c7, bN, aM, aX, cW, an, cr, a7, a7.viewCs, a9, a9.flatCs, aG, aG.LensOks, Value.oneCell', ↓reduceIte, ite_true, ite_false, if_true, if_false, Nat.reduceAdd, Nat.reduceSub, Nat.reduceMul, Nat.reduceEqDiff, Nat.reduceLT, Nat.reduceLeDiff, reduceCtorEq, Int.reduceToNat, forall_const, implies_true, a5, Ent.mk3, bF, bp, bA, a8, br, bj, bL, bC, a6, a4, bm, bP, bz, cP, rn, cz, cz.renCs, aE, aF, aQ, aQ.viewOks, az, bq, bq.flatBs, ay, ar, aA, ah, aW, bM, bM.keysBs, aT, am, aZ, bR, be, cq, ae, ae.passKs, aN, aY, af, af.lendKs, cJ, cp, cu, bD, setInn, ap, cL, cS, aR, bn, cj, bT, aJ, aO, Glob.gl, aP, cF, bG, cc, bg, ak, cH, cZ, cB, c6, cK, aj, aj.ptrOnlys, aq, aB, cD, aH, bf, bI, ca, aL, bB, bU, Nat.reduceBEq, undef]
  omega
theorem soft2_c (s0 s1 s2 s3 : Int) (h : ∀ s ∈ [s0, s1, s2, s3], 0 ≤ s ∧ s ≤ 4611686018427387903) : FC Try.prog 117 [enc (lvls 2), enc [s0, s1, s2, s3]] [] (enc (softS 2 [s0, s1, s2, s3])) [] := by
  have l0 : ofLevelC 2 (-3) = .sl 1 [[.s (.int .i64 1)], [.s (.int .i64 1)]] := by rfl
  have l1 : ofLevelC 2 (-1) = .sl 1 [[.s (.int .i64 1)], [.s (.int .i64 0)]] := by rfl
  have l2 : ofLevelC 2 1 = .sl 1 [[.s (.int .i64 0)], [.s (.int .i64 0)]] := by rfl
  have l3 : ofLevelC 2 3 = .sl 1 [[.s (.int .i64 0)], [.s (.int .i64 1)]] := by rfl
  have hl : lvls 2 = [-3, -1, 1, 3] := by decide
  have ht : Int.toNat 2 = 2 := rfl
  have hs : softS 2 [s0, s1, s2, s3] = [minS [s0, s1] - minS [s2, s3], minS [s0, s3] - minS [s1, s2]] := by rfl
  have q00 := minS_bd (l := [s2, s3]) (by simp) (fun x hx => h x (by simp at hx ⊢; grind))
  have q01 := minS_bd (l := [s0, s1]) (by simp) (fun x hx => h x (by simp at hx ⊢; grind))
  have q10 := minS_bd (l := [s1, s2]) (by simp) (fun x hx => h x (by simp at hx ⊢; grind))
  have q11 := minS_bd (l := [s0, s3]) (by simp) (fun x hx => h x (by simp at hx ⊢; grind))
  rw [hl, hs]
  refine fc_intro' is117 (by simp) (fun cx _ => S_runU [ctE 2 (by decide), e104, e139] 4000 ?_)
  delta c117 c117l1 c117l2
  simp (maxSteps := 4000000) -implicitDefEqProofs only [rv117, ctE, e104, e139, ht, l0, l1, l2, l3, InR, Int.cast_ofNat_Int, Int.natCast_one, Int.natCast_zero, Int.reduceAdd, Int.reduceSub, Int.reduceMul, Int.reduceLT, Int.reduceLE, Int.reduceTMod, Int.reduceTDiv, Int.reduceNeg, Int.reduceEq, Nat.reducePow, Int.reducePow, ne_eq, not_false_eq_true, Ent.of0, Ent.of1, Ent.of2, Ent.of3, V, bV, bl, bu, bW, cM, cT, gt, lk, cb, cG, ce, bX, cg, cn, cn.subCs, cV, a3, bh, bO, ax, bH, bJ, aC, bK, bw, aV, bv, av, cC, cO, cQ, ag, aK, bQ, bS, b0, cU, cR, aD, au, bY, bo, zC, argS, bE, cI, cY, cN, ai, aw, aI, aU, co, leC, cm, bZ, cd, c7, bN, aM, aX, cW, an, cr, a7, a7.viewCs, a9, a9.flatCs, aG, aG.LensOks, Value.oneCell', ↓reduceIte, ite_true, ite_false, if_true, if_false, Nat.reduceAdd, Nat.reduceSub, Nat.reduceMul, Nat.reduceEqDiff, Nat.reduceLT, Nat.reduceLeDiff, reduceCtorEq, Int.reduceToNat, forall_const, implies_true, a5, Ent.mk3, bF, bp, bA, a8, br, bj, bL, bC, a6, a4, bm, bP, bz, cP, rn, cz, cz.renCs, aE, aF, aQ, aQ.viewOks, az, bq, bq.flatBs, ay, ar, aA, ah, aW, bM, bM.keysBs, aT, am, aZ, bR, be, cq, ae, ae.passKs, aN, aY, af, af.lendKs, cJ, cp, cu, bD, setInn, ap, cL, cS, aR, bn, cj, bT, aJ, aO, Glob.gl, aP, cF, bG, cc, bg, ak, cH, cZ, cB, c6, cK, aj, aj.ptrOnlys, aq, aB, cD, aH, bf, bI, ca, aL, bB, bU, Nat.reduceBEq, undef]
  omega
theorem soft3_c (s0 s1 s2 s3 s4 s5 s6 s7 : Int) (h : ∀ s ∈ [s0, s1, s2, s3, s4, s5, s6, s7], 0 ≤ s ∧ s ≤ 4611686018427387903) : FC Try.prog 117 [enc (lvls 3), enc [s0, s1, s2, s3, s4, s5, s6, s7]] [] (enc (softS 3 [s0, s1, s2, s3, s4, s5, s6, s7])) [] := by
  have l0 : ofLevelC 3 (-7) = .sl 1 [[.s (.int .i64 1)], [.s (.int .i64 1)], [.s (.int .i64 1)]] := by rfl
  have l1 : ofLevelC 3 (-5) = .sl 1 [[.s (.int .i64 1)], [.s (.int .i64 1)], [.s (.int .i64 0)]] := by rfl
  have l2 : ofLevelC 3 (-3) = .sl 1 [[.s (.int .i64 1)], [.s (.int .i64 0)], [.s (.int .i64 0)]] := by rfl
  have l3 : ofLevelC 3 (-1) = .sl 1 [[.s (.int .i64 1)], [.s (.int .i64 0)], [.s (.int .i64 1)]] := by rfl
  have l4 : ofLevelC 3 1 = .sl 1 [[.s (.int .i64 0)], [.s (.int .i64 0)], [.s (.int .i64 1)]] := by rfl
  have l5 : ofLevelC 3 3 = .sl 1 [[.s (.int .i64 0)], [.s (.int .i64 0)], [.s (.int .i64 0)]] := by rfl
  have l6 : ofLevelC 3 5 = .sl 1 [[.s (.int .i64 0)], [.s (.int .i64 1)], [.s (.int .i64 0)]] := by rfl
  have l7 : ofLevelC 3 7 = .sl 1 [[.s (.int .i64 0)], [.s (.int .i64 1)], [.s (.int .i64 1)]] := by rfl
  have hl : lvls 3 = [-7, -5, -3, -1, 1, 3, 5, 7] := by decide
  have ht : Int.toNat 3 = 3 := rfl
  have hs : softS 3 [s0, s1, s2, s3, s4, s5, s6, s7] = [minS [s0, s1, s2, s3] - minS [s4, s5, s6, s7], minS [s0, s1, s6, s7] - minS [s2, s3, s4, s5], minS [s0, s3, s4, s7] - minS [s1, s2, s5, s6]] := by rfl
  have q00 := minS_bd (l := [s4, s5, s6, s7]) (by simp) (fun x hx => h x (by simp at hx ⊢; grind))
  have q01 := minS_bd (l := [s0, s1, s2, s3]) (by simp) (fun x hx => h x (by simp at hx ⊢; grind))
  have q10 := minS_bd (l := [s2, s3, s4, s5]) (by simp) (fun x hx => h x (by simp at hx ⊢; grind))
  have q11 := minS_bd (l := [s0, s1, s6, s7]) (by simp) (fun x hx => h x (by simp at hx ⊢; grind))
  have q20 := minS_bd (l := [s1, s2, s5, s6]) (by simp) (fun x hx => h x (by simp at hx ⊢; grind))
  have q21 := minS_bd (l := [s0, s3, s4, s7]) (by simp) (fun x hx => h x (by simp at hx ⊢; grind))
  rw [hl, hs]
  refine fc_intro' is117 (by simp) (fun cx _ => S_runU [ctE 3 (by decide), e104, e139] 4000 ?_)
  delta c117 c117l1 c117l2
  simp (maxSteps := 4000000) -implicitDefEqProofs only [rv117, ctE, e104, e139, ht, l0, l1, l2, l3, l4, l5, l6, l7, InR, Int.cast_ofNat_Int, Int.natCast_one, Int.natCast_zero, Int.reduceAdd, Int.reduceSub, Int.reduceMul, Int.reduceLT, Int.reduceLE, Int.reduceTMod, Int.reduceTDiv, Int.reduceNeg, Int.reduceEq, Nat.reducePow, Int.reducePow, ne_eq, not_false_eq_true, Ent.of0, Ent.of1, Ent.of2, Ent.of3, V, bV, bl, bu, bW, cM, cT, gt, lk, cb, cG, ce, bX, cg, cn, cn.subCs, cV, a3, bh, bO, ax, bH, bJ, aC, bK, bw, aV, bv, av, cC, cO, cQ, ag, aK, bQ, bS, b0, cU, cR, aD, au, bY, bo, zC, argS, bE, cI, cY, cN, ai, aw, aI, aU, co, leC, cm, bZ, cd, c7, bN, aM, aX, cW, an, cr, a7, a7.viewCs, a9, a9.flatCs, aG, aG.LensOks, Value.oneCell', ↓reduceIte, ite_true, ite_false, if_true, if_false, Nat.reduceAdd, Nat.reduceSub, Nat.reduceMul, Nat.reduceEqDiff, Nat.reduceLT, Nat.reduceLeDiff, reduceCtorEq, Int.reduceToNat, forall_const, implies_true, a5, Ent.mk3, bF, bp, bA, a8, br, bj, bL, bC, a6, a4, bm, bP, bz, cP, rn, cz, cz.renCs, aE, aF, aQ, aQ.viewOks, az, bq, bq.flatBs, ay, ar, aA, ah, aW, bM, bM.keysBs, aT, am, aZ, bR, be, cq, ae, ae.passKs, aN, aY, af, af.lendKs, cJ, cp, cu, bD, setInn, ap, cL, cS, aR, bn, cj, bT, aJ, aO, Glob.gl, aP, cF, bG, cc, bg, ak, cH, cZ, cB, c6, cK, aj, aj.ptrOnlys, aq, aB, cD, aH, bf, bI, ca, aL, bB, bU, Nat.reduceBEq, undef]
  omega
theorem soft_c (c : Nat) (hc : c = 1 ∨ c = 2 ∨ c = 3) (sq : List Int) (hl : sq.length = 2 ^ c) (hb : ∀ s ∈ sq, 0 ≤ s ∧ s ≤ 4611686018427387903) : FC Try.prog 117 [enc (lvls c), enc sq] [] (enc (softS c sq)) [] := by
  rcases hc with rfl | rfl | rfl
  · match sq, hl with
    | [a, b], _ => exact soft1_c a b hb
  · match sq, hl with
    | [a, b, c, d], _ => exact soft2_c a b c d hb
  · match sq, hl with
    | [a, b, c, d, e, f, g, h], _ => exact soft3_c a b c d e f g h hb
end Go.Proofs.Ytfgpbmjmoobcnaa
end
section
open Go Go.Am
open Go.Am.Dat (cells)
namespace Go.Proofs.Ytfgpbmjmoobcnaa
set_option maxHeartbeats 4000000
set_option maxRecDepth 100000
set_option linter.unusedSimpArgs false
structure Recv where
  order : Int
  gain : Int
  symbols : List Gs
instance : DatL Recv where
  sz := 3
  agg := true
  cells g := [.s (.int .i64 g.order), .s (.int .i64 g.gain), .sl 2 (g.symbols.map cells)]
  dec | [.s (.int .i64 a), .s (.int .i64 b), .sl 2 t] => (decL t).map fun t' => ⟨a, b, t'⟩ | _ => none
  ok := by
    intro l a h
    split at h
    · simp only [Option.map_eq_some_iff] at h
      obtain ⟨t', h1, rfl⟩ := h
      rw [decL_ok h1]
    · cases h
  data := fun a => rfl
  one := fun h => by cases h
  dec_cells := fun a => by simp [decL_map]
theorem enc_recv (g : Recv) : enc g = .agg [.s (.int .i64 g.order), .s (.int .i64 g.gain), .sl 2 (g.symbols.map cells)] := rfl
theorem decV_recv (a b : Int) (t : List (List C)) : decV (.agg [C.s (.int .i64 a), .s (.int .i64 b), .sl 2 t]) = (decL t).map fun t' => (⟨a, b, t'⟩ : Recv) := rfl
def recvErr (x : Recv) : Int := firstS [orderErrS x.order, if 1 ≤ x.gain ∧ x.gain ≤ 10000000 then 0 else 2, symErr x.symbols]
theorem receivedErr_c (x : Recv) : FC Try.prog 114 [enc x] [] (enc (recvErr x)) [] := by
  obtain ⟨o, g, l⟩ := x
  refine fc_intro' is114 (by simp) (fun cx hl => S_run [e95, e103, e82, e118, e80] 800 ?_)
  delta c114
  simp (maxSteps := 4000000) -implicitDefEqProofs only [rv114, e95, e103, e82, e118, e80, enc_recv, Ent.of0, Ent.of1, Ent.of2, Ent.of3, V, bV, bl, bu, bW, cM, cT, gt, lk, cb, cG, ce, bX, cg, cn, cn.subCs, cV, a3, bh, bO, ax, bH, bJ, aC, bK, bw, aV, bv, av, cC, cO, cQ, ag, aK, bQ, bS, b0, cU, cR, aD, au, bY, bo, zC, argS, bE, cI, cY, cN, ai, aw, aI, aU, co, leC, cm, bZ, cd, c7, bN, aM, aX, cW, an, cr, a7, a7.viewCs, a9, a9.flatCs, aG, aG.LensOks, Value.oneCell', ↓reduceIte, ite_true, ite_false, if_true, if_false, Nat.reduceAdd, Nat.reduceSub, Nat.reduceMul, Nat.reduceEqDiff, Nat.reduceLT, Nat.reduceLeDiff, reduceCtorEq, Int.reduceToNat, forall_const, implies_true, a5, Ent.mk3, bF, bp, bA, a8, br, bj, bL, bC, a6, a4, bm, bP, bz, cP, rn, cz, cz.renCs, aE, aF, aQ, aQ.viewOks, az, bq, bq.flatBs, ay, ar, aA, ah, aW, bM, bM.keysBs, aT, am, aZ, bR, be, cq, ae, ae.passKs, aN, aY, af, af.lendKs, cJ, cp, cu, bD, setInn, ap, cL, cS, aR, bn, cj, bT, aJ, aO, Glob.gl, aP, cF, bG, cc, bg, ak, cH, cZ, cB, c6, cK, aj, aj.ptrOnlys, aq, aB, cD, aH, bf, bI, ca, aL, bB, bU, Nat.reduceBEq, undef]
  rfl
def e114 : Ent Try.prog := .of1 114 (fun _ => True) (fun x : Recv => enc (recvErr x)) (fun _ => trivial) (fun x _ => receivedErr_c x)
def sqS (c : Nat) (gain n : Int) : List Int := (lvls c).map fun l => (n - l * gain) * (n - l * gain)
end Go.Proofs.Ytfgpbmjmoobcnaa
end
section
open Go Go.Am
open Go.Am.Dat (cells)
namespace Go.Proofs.Ytfgpbmjmoobcnaa
set_option maxHeartbeats 4000000
set_option maxRecDepth 100000
set_option linter.unusedSimpArgs false
theorem lvls_bd {c : Nat} (hc : c = 1 ∨ c = 2 ∨ c = 3) : ∀ l ∈ lvls c, -7 ≤ l ∧ l ≤ 7 := by
  rcases hc with rfl | rfl | rfl <;> decide
theorem lvls_length (c : Nat) : (lvls c).length = 2 ^ c := by simp [lvls]
theorem sq_bd {d B : Int} (h : -B ≤ d ∧ d ≤ B) : 0 ≤ d * d ∧ d * d ≤ B * B := by
  have h1 := Int.mul_nonneg (show 0 ≤ B - d by omega) (show 0 ≤ B + d by omega)
  rw [Int.sub_mul, Int.mul_add, Int.mul_add, Int.mul_comm d B] at h1
  refine ⟨?_, by omega⟩
  rcases Int.le_total 0 d with h0 | h0
  · exact Int.mul_nonneg h0 h0
  · exact Int.mul_nonneg_of_nonpos_of_nonpos h0 h0
theorem lg_bd {t g : Int} (ht : -7 ≤ t ∧ t ≤ 7) (hg : 1 ≤ g ∧ g ≤ 10000000) : -70000000 ≤ t * g ∧ t * g ≤ 70000000 := by
  have : t = -7 ∨ t = -6 ∨ t = -5 ∨ t = -4 ∨ t = -3 ∨ t = -2 ∨ t = -1 ∨ t = 0 ∨ t = 1 ∨ t = 2 ∨ t = 3 ∨ t = 4 ∨ t = 5 ∨ t = 6 ∨ t = 7 := by omega
  rcases this with rfl | rfl | rfl | rfl | rfl | rfl | rfl | rfl | rfl | rfl | rfl | rfl | rfl | rfl | rfl <;> omega
theorem part_c (f : FuncId) (T : List Int → List Int) (c : Nat) (hc : c = 1 ∨ c = 2 ∨ c = 3) (hf : ∀ sq : List Int, sq.length = 2 ^ c → (∀ s ∈ sq, 0 ≤ s ∧ s ≤ 4611686018427387903) → FC Try.prog f [enc (lvls c), enc sq] [] (enc (T sq)) [])
    (x : Recv) (n : Int) (hg : 1 ≤ x.gain ∧ x.gain ≤ 10000000) (hn : -100000000 ≤ n ∧ n ≤ 100000000) :
    FC Try.prog 136 [enc n, .ptr 100000 0, .ptr 100001 0, .ptr 100002 0] [(100000, .box [enc (lvls c)]), (100001, .box (cells x)), (100002, .box [.fn (.func f) [] []])] (enc (T (sqS c x.gain n))) [(100000, .box [enc (lvls c)]), (100001, .box (cells x)), (100002, .box [.fn (.func f) [] []])] := by
  obtain ⟨o, g, l⟩ := x
  simp only at hg
  have hcl : cells (⟨o, g, l⟩ : Recv) = [.s (.int .i64 o), .s (.int .i64 g), .sl 2 (l.map cells)] := rfl
  rw [hcl]
  have hll := lvls_length c
  have hlb := lvls_bd hc
  have hp : 2 ^ c ≤ 8 := by rcases hc with rfl | rfl | rfl <;> decide
  have hsq : sqS c g n = (lvls c).map fun l => (n - l * g) * (n - l * g) := rfl
  generalize lvls c = L at *
  refine fc_introC [] is136 (by simp) (by simp [cH]) (by simp [aM, aX, bO]) (by simp [aM, aX, bO]) (by simp [ak, lk]) (fun cx _ _ _ => S_run [] 800 ?_)
  delta c136
  simp (maxSteps := 4000000) -implicitDefEqProofs only [rv136, InR, Ent.of0, Ent.of1, Ent.of2, Ent.of3, V, bV, bl, bu, bW, cM, cT, gt, lk, cb, cG, ce, bX, cg, cn, cn.subCs, cV, a3, bh, bO, ax, bH, bJ, aC, bK, bw, aV, bv, av, cC, cO, cQ, ag, aK, bQ, bS, b0, cU, cR, aD, au, bY, bo, zC, argS, bE, cI, cY, cN, ai, aw, aI, aU, co, leC, cm, bZ, cd, c7, bN, aM, aX, cW, an, cr, a7, a7.viewCs, a9, a9.flatCs, aG, aG.LensOks, Value.oneCell', ↓reduceIte, ite_true, ite_false, if_true, if_false, Nat.reduceAdd, Nat.reduceSub, Nat.reduceMul, Nat.reduceEqDiff, Nat.reduceLT, Nat.reduceLeDiff, reduceCtorEq, Int.reduceToNat, forall_const, implies_true, a5, Ent.mk3, bF, bp, bA, a8, br, bj, bL, bC, a6, a4, bm, bP, bz, cP, rn, cz, cz.renCs, aE, aF, aQ, aQ.viewOks, az, bq, bq.flatBs, ay, ar, aA, ah, aW, bM, bM.keysBs, aT, am, aZ, bR, be, cq, ae, ae.passKs, aN, aY, af, af.lendKs, cJ, cp, cu, bD, setInn, ap, cL, cS, aR, bn, cj, bT, aJ, aO, Glob.gl, aP, cF, bG, cc, bg, ak, cH, cZ, cB, c6, cK, aj, aj.ptrOnlys, aq, aB, cD, aH, bf, bI, ca, aL, bB, bU, Nat.reduceBEq, undef]
  refine S_forU L.length (fun i => [(11, .s (.int .i64 (i : Int)))]) (fun i => [(6, .row 1 3 (((L.take i).map fun l => (n - l * g) * (n - l * g)).map cells))]) (fun _ => True) trivial ?_ (fun i hi _ => S_run [.of2 f (fun a b => a = L ∧ b.length = 2 ^ c ∧ ∀ s ∈ b, 0 ≤ s ∧ s ≤ 4611686018427387903) (fun _ b => enc (T b)) (fun _ _ => trivial) (fun a b h => by obtain ⟨rfl, h1, h2⟩ := h; exact hf b h1 h2)] 800 ?_)
  · simp (maxSteps := 4000000) -implicitDefEqProofs only [Ent.of0, Ent.of1, Ent.of2, Ent.of3, V, bV, bl, bu, bW, cM, cT, gt, lk, cb, cG, ce, bX, cg, cn, cn.subCs, cV, a3, bh, bO, ax, bH, bJ, aC, bK, bw, aV, bv, av, cC, cO, cQ, ag, aK, bQ, bS, b0, cU, cR, aD, au, bY, bo, zC, argS, bE, cI, cY, cN, ai, aw, aI, aU, co, leC, cm, bZ, cd, c7, bN, aM, aX, cW, an, cr, a7, a7.viewCs, a9, a9.flatCs, aG, aG.LensOks, Value.oneCell', ↓reduceIte, ite_true, ite_false, if_true, if_false, Nat.reduceAdd, Nat.reduceSub, Nat.reduceMul, Nat.reduceEqDiff, Nat.reduceLT, Nat.reduceLeDiff, reduceCtorEq, Int.reduceToNat, forall_const, implies_true, a5, Ent.mk3, bF, bp, bA, a8, br, bj, bL, bC, a6, a4, bm, bP, bz, cP, rn, cz, cz.renCs, aE, aF, aQ, aQ.viewOks, az, bq, bq.flatBs, ay, ar, aA, ah, aW, bM, bM.keysBs, aT, am, aZ, bR, be, cq, ae, ae.passKs, aN, aY, af, af.lendKs, cJ, cp, cu, bD, setInn, ap, cL, cS, aR, bn, cj, bT, aJ, aO, Glob.gl, aP, cF, bG, cc, bg, ak, cH, cZ, cB, c6, cK, aj, aj.ptrOnlys, aq, aB, cD, aH, bf, bI, ca, aL, bB, bU, Nat.reduceBEq, undef]; simp
  · by_cases h : i < L.length
    · have hi2 : (i : Int) < (L.length : Int) := by omega
      have hm : L.getD i 0 ∈ L := by rw [List.getD_eq_getElem?_getD, List.getElem?_eq_getElem h]; exact List.getElem_mem _
      have b1 := lg_bd (hlb _ hm) hg
      have b2 := sq_bd (d := n - L.getD i 0 * g) (B := 170000000) (by omega)
      have htk : ((L.take i).map fun l => (n - l * g) * (n - l * g)).map cells ++ [[C.s (.int .i64 ((n - L.getD i 0 * g) * (n - L.getD i 0 * g)))]] = ((L.take (i + 1)).map fun l => (n - l * g) * (n - l * g)).map cells := by
        rw [take_getD 0 h, List.map_append, List.map_append]; rfl
      have htl : (L.take i).length = i := by rw [List.length_take]; omega
      delta c136l1
      simp (maxSteps := 4000000) -implicitDefEqProofs only [hi2, h, htk, InR, Ent.of0, Ent.of1, Ent.of2, Ent.of3, V, bV, bl, bu, bW, cM, cT, gt, lk, cb, cG, ce, bX, cg, cn, cn.subCs, cV, a3, bh, bO, ax, bH, bJ, aC, bK, bw, aV, bv, av, cC, cO, cQ, ag, aK, bQ, bS, b0, cU, cR, aD, au, bY, bo, zC, argS, bE, cI, cY, cN, ai, aw, aI, aU, co, leC, cm, bZ, cd, c7, bN, aM, aX, cW, an, cr, a7, a7.viewCs, a9, a9.flatCs, aG, aG.LensOks, Value.oneCell', ↓reduceIte, ite_true, ite_false, if_true, if_false, Nat.reduceAdd, Nat.reduceSub, Nat.reduceMul, Nat.reduceEqDiff, Nat.reduceLT, Nat.reduceLeDiff, reduceCtorEq, Int.reduceToNat, forall_const, implies_true, a5, Ent.mk3, bF, bp, bA, a8, br, bj, bL, bC, a6, a4, bm, bP, bz, cP, rn, cz, cz.renCs, aE, aF, aQ, aQ.viewOks, az, bq, bq.flatBs, ay, ar, aA, ah, aW, bM, bM.keysBs, aT, am, aZ, bR, be, cq, ae, ae.passKs, aN, aY, af, af.lendKs, cJ, cp, cu, bD, setInn, ap, cL, cS, aR, bn, cj, bT, aJ, aO, Glob.gl, aP, cF, bG, cc, bg, ak, cH, cZ, cB, c6, cK, aj, aj.ptrOnlys, aq, aB, cD, aH, bf, bI, ca, aL, bB, bU, Nat.reduceBEq, undef]
      exact ⟨by omega, by omega, by omega, by omega, by omega, by omega, by omega, by omega, by push_cast; rfl⟩
    · have hi2 : ¬ (i : Int) < (L.length : Int) := by omega
      have hie : i = L.length := by omega
      subst hie
      have htk : L.take L.length = L := List.take_length
      delta c136l1
      simp (maxSteps := 4000000) -implicitDefEqProofs only [hi2, rv136, htk, hsq, InR, Ent.of0, Ent.of1, Ent.of2, Ent.of3, V, bV, bl, bu, bW, cM, cT, gt, lk, cb, cG, ce, bX, cg, cn, cn.subCs, cV, a3, bh, bO, ax, bH, bJ, aC, bK, bw, aV, bv, av, cC, cO, cQ, ag, aK, bQ, bS, b0, cU, cR, aD, au, bY, bo, zC, argS, bE, cI, cY, cN, ai, aw, aI, aU, co, leC, cm, bZ, cd, c7, bN, aM, aX, cW, an, cr, a7, a7.viewCs, a9, a9.flatCs, aG, aG.LensOks, Value.oneCell', ↓reduceIte, ite_true, ite_false, if_true, if_false, Nat.reduceAdd, Nat.reduceSub, Nat.reduceMul, Nat.reduceEqDiff, Nat.reduceLT, Nat.reduceLeDiff, reduceCtorEq, Int.reduceToNat, forall_const, implies_true, a5, Ent.mk3, bF, bp, bA, a8, br, bj, bL, bC, a6, a4, bm, bP, bz, cP, rn, cz, cz.renCs, aE, aF, aQ, aQ.viewOks, az, bq, bq.flatBs, ay, ar, aA, ah, aW, bM, bM.keysBs, aT, am, aZ, bR, be, cq, ae, ae.passKs, aN, aY, af, af.lendKs, cJ, cp, cu, bD, setInn, ap, cL, cS, aR, bn, cj, bT, aJ, aO, Glob.gl, aP, cF, bG, cc, bg, ak, cH, cZ, cB, c6, cK, aj, aj.ptrOnlys, aq, aB, cD, aH, bf, bI, ca, aL, bB, bU, Nat.reduceBEq, undef]
      refine ⟨hll, fun s hs => ?_⟩
      obtain ⟨t, ht, rfl⟩ := List.mem_map.1 hs
      have b1 := lg_bd (hlb _ ht) hg
      have b2 := sq_bd (d := n - t * g) (B := 170000000) (by omega)
      omega
end Go.Proofs.Ytfgpbmjmoobcnaa
end
section
open Go Go.Am
open Go.Am.Dat (cells)
namespace Go.Proofs.Ytfgpbmjmoobcnaa
set_option maxHeartbeats 4000000
set_option maxRecDepth 20000
set_option linter.unusedSimpArgs false
def RepR (a : List Fz) (r : List Gs) : Prop := a.length = r.length ∧ ∀ i, i < r.length → IsC (a.getD i ⟨0, 0⟩) (r.getD i ⟨0, 0⟩)
def RepM (a : List (List Fz)) (m : List (List Gs)) : Prop := a.length = m.length ∧ ∀ i, i < m.length → RepR (a.getD i []) (m.getD i [])
def gridS (m : List (List Gs)) : List (List Fz) := m.map fun r => r.map toW
theorem getD_map' {α β : Type} (f : α → β) (l : List α) (i : Nat) (d : α) (e : β) (h : i < l.length) : (l.map f).getD i e = f (l.getD i d) := by
  rw [List.getD_eq_getElem?_getD, List.getD_eq_getElem?_getD, List.getElem?_map, List.getElem?_eq_getElem h]; rfl
theorem grid_rep {m : List (List Gs)} (h : ∀ r ∈ m, ∀ g ∈ r, bd g 9007199254740991) : RepM (gridS m) m := by
  refine ⟨by simp [gridS], fun i hi => ?_⟩
  rw [gridS, getD_map' _ m i [] [] hi]
  refine ⟨by simp, fun j hj => ?_⟩
  rw [getD_map' _ _ j ⟨0, 0⟩ _ hj]
  exact isC_toW (h _ (getD_mem [] hi) _ (getD_mem _ hj))
theorem gridOf_c (m : List (List Gs)) (hm : m.length ≤ 1000) (hr : ∀ r ∈ m, r.length ≤ 1000000) : FC Try.prog 84 [enc m] [] (enc (gridS m)) [] := by
  refine fc_intro' is84 (by simp) (fun cx hl => S_run [] 800 ?_)
  delta c84
  simp (maxSteps := 4000000) -implicitDefEqProofs only [rv84, Ent.of0, Ent.of1, Ent.of2, Ent.of3, V, bV, bl, bu, bW, cM, cT, gt, lk, cb, cG, ce, bX, cg, cn, cn.subCs, cV, a3, bh, bO, ax, bH, bJ, aC, bK, bw, aV, bv, av, cC, cO, cQ, ag, aK, bQ, bS, b0, cU, cR, aD, au, bY, bo, zC, argS, bE, cI, cY, cN, ai, aw, aI, aU, co, leC, cm, bZ, cd, c7, bN, aM, aX, cW, an, cr, a7, a7.viewCs, a9, a9.flatCs, aG, aG.LensOks, Value.oneCell', ↓reduceIte, ite_true, ite_false, if_true, if_false, Nat.reduceAdd, Nat.reduceSub, Nat.reduceMul, Nat.reduceEqDiff, Nat.reduceLT, Nat.reduceLeDiff, reduceCtorEq, Int.reduceToNat, forall_const, implies_true, a5, Ent.mk3, bF, bp, bA, a8, br, bj, bL, bC, a6, a4, bm, bP, bz, cP, rn, cz, cz.renCs, aE, aF, aQ, aQ.viewOks, az, bq, bq.flatBs, ay, ar, aA, ah, aW, bM, bM.keysBs, aT, am, aZ, bR, be, cq, ae, ae.passKs, aN, aY, af, af.lendKs, cJ, cp, cu, bD, setInn, ap, cL, cS, aR, bn, cj, bT, aJ, aO, Glob.gl, aP, cF, bG, cc, bg, ak, cH, cZ, cB, c6, cK, aj, aj.ptrOnlys, aq, aB, cD, aH, bf, bI, ca, aL, bB, bU, Nat.reduceBEq, undef]
  refine S_forU m.length (fun i => [(11, .s (.int .i64 i))]) (fun i => [(3, .row 1 152 ((gridS (m.take i)).map cells))]) (fun _ => True) trivial ?_ (fun i hi _ => S_run [] 800 ?_)
  · simp (maxSteps := 4000000) -implicitDefEqProofs only [gridS, Ent.of0, Ent.of1, Ent.of2, Ent.of3, V, bV, bl, bu, bW, cM, cT, gt, lk, cb, cG, ce, bX, cg, cn, cn.subCs, cV, a3, bh, bO, ax, bH, bJ, aC, bK, bw, aV, bv, av, cC, cO, cQ, ag, aK, bQ, bS, b0, cU, cR, aD, au, bY, bo, zC, argS, bE, cI, cY, cN, ai, aw, aI, aU, co, leC, cm, bZ, cd, c7, bN, aM, aX, cW, an, cr, a7, a7.viewCs, a9, a9.flatCs, aG, aG.LensOks, Value.oneCell', ↓reduceIte, ite_true, ite_false, if_true, if_false, Nat.reduceAdd, Nat.reduceSub, Nat.reduceMul, Nat.reduceEqDiff, Nat.reduceLT, Nat.reduceLeDiff, reduceCtorEq, Int.reduceToNat, forall_const, implies_true, a5, Ent.mk3, bF, bp, bA, a8, br, bj, bL, bC, a6, a4, bm, bP, bz, cP, rn, cz, cz.renCs, aE, aF, aQ, aQ.viewOks, az, bq, bq.flatBs, ay, ar, aA, ah, aW, bM, bM.keysBs, aT, am, aZ, bR, be, cq, ae, ae.passKs, aN, aY, af, af.lendKs, cJ, cp, cu, bD, setInn, ap, cL, cS, aR, bn, cj, bT, aJ, aO, Glob.gl, aP, cF, bG, cc, bg, ak, cH, cZ, cB, c6, cK, aj, aj.ptrOnlys, aq, aB, cD, aH, bf, bI, ca, aL, bB, bU, Nat.reduceBEq, undef]; simp
  · by_cases h : i < m.length
    · have hi2 : (i : Int) < (m.length : Int) := by omega
      have hrl := hr _ (getD_mem [] h)
      delta c84l2
      simp (maxSteps := 4000000) -implicitDefEqProofs only [hi2, getD_list, h, Ent.of0, Ent.of1, Ent.of2, Ent.of3, V, bV, bl, bu, bW, cM, cT, gt, lk, cb, cG, ce, bX, cg, cn, cn.subCs, cV, a3, bh, bO, ax, bH, bJ, aC, bK, bw, aV, bv, av, cC, cO, cQ, ag, aK, bQ, bS, b0, cU, cR, aD, au, bY, bo, zC, argS, bE, cI, cY, cN, ai, aw, aI, aU, co, leC, cm, bZ, cd, c7, bN, aM, aX, cW, an, cr, a7, a7.viewCs, a9, a9.flatCs, aG, aG.LensOks, Value.oneCell', ↓reduceIte, ite_true, ite_false, if_true, if_false, Nat.reduceAdd, Nat.reduceSub, Nat.reduceMul, Nat.reduceEqDiff, Nat.reduceLT, Nat.reduceLeDiff, reduceCtorEq, Int.reduceToNat, forall_const, implies_true, a5, Ent.mk3, bF, bp, bA, a8, br, bj, bL, bC, a6, a4, bm, bP, bz, cP, rn, cz, cz.renCs, aE, aF, aQ, aQ.viewOks, az, bq, bq.flatBs, ay, ar, aA, ah, aW, bM, bM.keysBs, aT, am, aZ, bR, be, cq, ae, ae.passKs, aN, aY, af, af.lendKs, cJ, cp, cu, bD, setInn, ap, cL, cS, aR, bn, cj, bT, aJ, aO, Glob.gl, aP, cF, bG, cc, bg, ak, cH, cZ, cB, c6, cK, aj, aj.ptrOnlys, aq, aB, cD, aH, bf, bI, ca, aL, bB, bU, Nat.reduceBEq, undef]
      refine ⟨by omega, ?_⟩
      generalize hR : m.getD i [] = R at *
      refine S_forU R.length (fun j => [(17, .s (.int .i64 j))]) (fun j => [(6, .row 1 153 (((R.take j).map toW).map cells))]) (fun _ => True) trivial ?_ (fun j hj _ => S_run [] 800 ?_)
      · simp (maxSteps := 4000000) -implicitDefEqProofs only [Ent.of0, Ent.of1, Ent.of2, Ent.of3, V, bV, bl, bu, bW, cM, cT, gt, lk, cb, cG, ce, bX, cg, cn, cn.subCs, cV, a3, bh, bO, ax, bH, bJ, aC, bK, bw, aV, bv, av, cC, cO, cQ, ag, aK, bQ, bS, b0, cU, cR, aD, au, bY, bo, zC, argS, bE, cI, cY, cN, ai, aw, aI, aU, co, leC, cm, bZ, cd, c7, bN, aM, aX, cW, an, cr, a7, a7.viewCs, a9, a9.flatCs, aG, aG.LensOks, Value.oneCell', ↓reduceIte, ite_true, ite_false, if_true, if_false, Nat.reduceAdd, Nat.reduceSub, Nat.reduceMul, Nat.reduceEqDiff, Nat.reduceLT, Nat.reduceLeDiff, reduceCtorEq, Int.reduceToNat, forall_const, implies_true, a5, Ent.mk3, bF, bp, bA, a8, br, bj, bL, bC, a6, a4, bm, bP, bz, cP, rn, cz, cz.renCs, aE, aF, aQ, aQ.viewOks, az, bq, bq.flatBs, ay, ar, aA, ah, aW, bM, bM.keysBs, aT, am, aZ, bR, be, cq, ae, ae.passKs, aN, aY, af, af.lendKs, cJ, cp, cu, bD, setInn, ap, cL, cS, aR, bn, cj, bT, aJ, aO, Glob.gl, aP, cF, bG, cc, bg, ak, cH, cZ, cB, c6, cK, aj, aj.ptrOnlys, aq, aB, cD, aH, bf, bI, ca, aL, bB, bU, Nat.reduceBEq, undef]; simp
      · by_cases hjl : j < R.length
        · have hj2 : (j : Int) < (R.length : Int) := by omega
          have htk : ((R.take j).map toW).map cells ++ [[C.s (.complex .f64 (FloatKind.f64.nearest (R.getD j ⟨0, 0⟩).re) (FloatKind.f64.nearest (R.getD j ⟨0, 0⟩).im))]] = ((R.take (j + 1)).map toW).map cells := by
            rw [take_getD ⟨0, 0⟩ hjl, List.map_append, List.map_append]; rfl
          have htl : (R.take j).length = j := by rw [List.length_take]; omega
          delta c84l1
          simp (maxSteps := 4000000) -implicitDefEqProofs only [hj2, hjl, cC, htk, htl, InR, Ent.of0, Ent.of1, Ent.of2, Ent.of3, V, bV, bl, bu, bW, cM, cT, gt, lk, cb, cG, ce, bX, cg, cn, cn.subCs, cV, a3, bh, bO, ax, bH, bJ, aC, bK, bw, aV, bv, av, cC, cO, cQ, ag, aK, bQ, bS, b0, cU, cR, aD, au, bY, bo, zC, argS, bE, cI, cY, cN, ai, aw, aI, aU, co, leC, cm, bZ, cd, c7, bN, aM, aX, cW, an, cr, a7, a7.viewCs, a9, a9.flatCs, aG, aG.LensOks, Value.oneCell', ↓reduceIte, ite_true, ite_false, if_true, if_false, Nat.reduceAdd, Nat.reduceSub, Nat.reduceMul, Nat.reduceEqDiff, Nat.reduceLT, Nat.reduceLeDiff, reduceCtorEq, Int.reduceToNat, forall_const, implies_true, a5, Ent.mk3, bF, bp, bA, a8, br, bj, bL, bC, a6, a4, bm, bP, bz, cP, rn, cz, cz.renCs, aE, aF, aQ, aQ.viewOks, az, bq, bq.flatBs, ay, ar, aA, ah, aW, bM, bM.keysBs, aT, am, aZ, bR, be, cq, ae, ae.passKs, aN, aY, af, af.lendKs, cJ, cp, cu, bD, setInn, ap, cL, cS, aR, bn, cj, bT, aJ, aO, Glob.gl, aP, cF, bG, cc, bg, ak, cH, cZ, cB, c6, cK, aj, aj.ptrOnlys, aq, aB, cD, aH, bf, bI, ca, aL, bB, bU, Nat.reduceBEq, undef]
          and_intros <;> first | omega | rfl | trivial
        · have : j = R.length := by omega
          subst this
          have hj2 : ¬ (R.length : Int) < (R.length : Int) := by omega
          have htk : (gridS (m.take i)).map cells ++ [[C.sl 1 ((R.map toW).map cells)]] = (gridS (m.take (i + 1))).map cells := by
            rw [take_getD [] h, hR, gridS, gridS, List.map_append, List.map_append]; rfl
          have htl : (gridS (m.take i)).length = i := by rw [gridS, List.length_map, List.length_take]; omega
          delta c84l1
          simp (maxSteps := 4000000) -implicitDefEqProofs only [hj2, List.take_length, htk, htl, InR, Ent.of0, Ent.of1, Ent.of2, Ent.of3, V, bV, bl, bu, bW, cM, cT, gt, lk, cb, cG, ce, bX, cg, cn, cn.subCs, cV, a3, bh, bO, ax, bH, bJ, aC, bK, bw, aV, bv, av, cC, cO, cQ, ag, aK, bQ, bS, b0, cU, cR, aD, au, bY, bo, zC, argS, bE, cI, cY, cN, ai, aw, aI, aU, co, leC, cm, bZ, cd, c7, bN, aM, aX, cW, an, cr, a7, a7.viewCs, a9, a9.flatCs, aG, aG.LensOks, Value.oneCell', ↓reduceIte, ite_true, ite_false, if_true, if_false, Nat.reduceAdd, Nat.reduceSub, Nat.reduceMul, Nat.reduceEqDiff, Nat.reduceLT, Nat.reduceLeDiff, reduceCtorEq, Int.reduceToNat, forall_const, implies_true, a5, Ent.mk3, bF, bp, bA, a8, br, bj, bL, bC, a6, a4, bm, bP, bz, cP, rn, cz, cz.renCs, aE, aF, aQ, aQ.viewOks, az, bq, bq.flatBs, ay, ar, aA, ah, aW, bM, bM.keysBs, aT, am, aZ, bR, be, cq, ae, ae.passKs, aN, aY, af, af.lendKs, cJ, cp, cu, bD, setInn, ap, cL, cS, aR, bn, cj, bT, aJ, aO, Glob.gl, aP, cF, bG, cc, bg, ak, cH, cZ, cB, c6, cK, aj, aj.ptrOnlys, aq, aB, cD, aH, bf, bI, ca, aL, bB, bU, Nat.reduceBEq, undef]
          and_intros <;> first | omega | rfl | trivial
    · have : i = m.length := by omega
      subst this
      have hi2 : ¬ (m.length : Int) < (m.length : Int) := by omega
      delta c84l2
      simp (maxSteps := 4000000) -implicitDefEqProofs only [hi2, rv84, List.take_length, Ent.of0, Ent.of1, Ent.of2, Ent.of3, V, bV, bl, bu, bW, cM, cT, gt, lk, cb, cG, ce, bX, cg, cn, cn.subCs, cV, a3, bh, bO, ax, bH, bJ, aC, bK, bw, aV, bv, av, cC, cO, cQ, ag, aK, bQ, bS, b0, cU, cR, aD, au, bY, bo, zC, argS, bE, cI, cY, cN, ai, aw, aI, aU, co, leC, cm, bZ, cd, c7, bN, aM, aX, cW, an, cr, a7, a7.viewCs, a9, a9.flatCs, aG, aG.LensOks, Value.oneCell', ↓reduceIte, ite_true, ite_false, if_true, if_false, Nat.reduceAdd, Nat.reduceSub, Nat.reduceMul, Nat.reduceEqDiff, Nat.reduceLT, Nat.reduceLeDiff, reduceCtorEq, Int.reduceToNat, forall_const, implies_true, a5, Ent.mk3, bF, bp, bA, a8, br, bj, bL, bC, a6, a4, bm, bP, bz, cP, rn, cz, cz.renCs, aE, aF, aQ, aQ.viewOks, az, bq, bq.flatBs, ay, ar, aA, ah, aW, bM, bM.keysBs, aT, am, aZ, bR, be, cq, ae, ae.passKs, aN, aY, af, af.lendKs, cJ, cp, cu, bD, setInn, ap, cL, cS, aR, bn, cj, bT, aJ, aO, Glob.gl, aP, cF, bG, cc, bg, ak, cH, cZ, cB, c6, cK, aj, aj.ptrOnlys, aq, aB, cD, aH, bf, bI, ca, aL, bB, bU, Nat.reduceBEq, undef]
def e84 : Ent Try.prog := .of1 84 (fun m => m.length ≤ 1000 ∧ ∀ r ∈ m, r.length ≤ 1000000) (fun m : List (List Gs) => enc (gridS m)) (fun _ => trivial) (fun m h => gridOf_c m h.1 h.2)
end Go.Proofs.Ytfgpbmjmoobcnaa
end
section
open Go Go.Am
open Go.Am.Dat (cells)
namespace Go.Proofs.Ytfgpbmjmoobcnaa
set_option maxHeartbeats 4000000
set_option maxRecDepth 20000
set_option linter.unusedSimpArgs false
def dotW (row : List Fz) (o : List (List Fz)) (i : Nat) : Nat → Fz
  | 0 => ⟨0, 0⟩
  | k + 1 => addW (dotW row o i k) (mulW (row.getD k ⟨0, 0⟩) ((o.getD k []).getD i ⟨0, 0⟩))
def rowW (o : List (List Fz)) (row : List Fz) : List Fz := (List.range (o.getD 0 []).length).map fun i => dotW row o i o.length
def timesW (a o : List (List Fz)) : List (List Fz) := a.map (rowW o)
def sumW (row : List Fz) (o : List (List Fz)) (n k j : Nat) : List Fz := (List.range n).map fun i => if i < j then dotW row o i (k + 1) else dotW row o i k
theorem sumW_get {row : List Fz} {o : List (List Fz)} {n k j : Nat} (h : j < n) : (sumW row o n k j).getD j ⟨0, 0⟩ = dotW row o j k := by
  simp [sumW, h]
theorem sumW_set {row : List Fz} {o : List (List Fz)} {n k j : Nat} (h : j < n) : ((sumW row o n k j).map cells).set j [C.s (.complex .f64 (dotW row o j (k + 1)).x (dotW row o j (k + 1)).y)] = (sumW row o n k (j + 1)).map cells := by
  have e : [C.s (.complex .f64 (dotW row o j (k + 1)).x (dotW row o j (k + 1)).y)] = cells (dotW row o j (k + 1)) := rfl
  rw [e, ← List.map_set]
  congr 1
  apply List.ext_getElem?
  intro i
  simp only [sumW, List.getElem?_set, List.getElem?_map, List.length_map, List.length_range]
  by_cases hi : j = i
  · subst hi; simp [h]
  · rw [if_neg hi]
    by_cases hin : i < n
    · simp only [List.getElem?_range hin, Option.map_some, Option.some.injEq]
      have : (i < j + 1) = (i < j) := by apply propext; omega
      simp only [this]
    · rw [List.getElem?_eq_none (by simpa using hin)]; rfl
theorem sumW_next (row : List Fz) (o : List (List Fz)) (n k : Nat) : sumW row o n k n = sumW row o n (k + 1) 0 := by
  unfold sumW
  refine List.map_congr_left fun i hi => ?_
  have : i < n := by simpa using hi
  simp [this]
theorem rng_getD {α : Type} {n i : Nat} (f : Nat → α) (d : α) (h : i < n) : ((List.range n).map f).getD i d = f i := by
  rw [List.getD_eq_getElem?_getD, List.getElem?_map, List.getElem?_range h]; rfl
theorem sumW_zero (row : List Fz) (o : List (List Fz)) (n : Nat) : (sumW row o n 0 0).map cells = List.replicate n [C.s (.complex .f64 0 0)] := by
  unfold sumW
  rw [List.map_map, List.eq_replicate_iff]
  refine ⟨by simp, fun b hb => ?_⟩
  obtain ⟨i, _, rfl⟩ := List.mem_map.1 hb
  simp [dotW, cells_fz]
theorem dot_c {a o : List (List Fz)} {m ls : List (List Gs)} {A B : Nat} (hf : Fits m ls A B) (hs : 8 * (A * B) ≤ 9007199254740991) (ha : RepM a m) (ho : RepM o ls) {r i : Nat} (hr : r < m.length) (hi : i < (ls.getD 0 []).length) : ∀ k, k ≤ ls.length → IsC (dotW (a.getD r []) o i k) (dotS (m.getD r []) ls i k) ∧
    (k < ls.length → aK .mul ((a.getD r []).getD k ⟨0, 0⟩).x ((a.getD r []).getD k ⟨0, 0⟩).y ((o.getD k []).getD i ⟨0, 0⟩).x ((o.getD k []).getD i ⟨0, 0⟩).y = some ((mulW ((a.getD r []).getD k ⟨0, 0⟩) ((o.getD k []).getD i ⟨0, 0⟩)).x, (mulW ((a.getD r []).getD k ⟨0, 0⟩) ((o.getD k []).getD i ⟨0, 0⟩)).y) ∧
      aK .add (dotW (a.getD r []) o i k).x (dotW (a.getD r []) o i k).y (mulW ((a.getD r []).getD k ⟨0, 0⟩) ((o.getD k []).getD i ⟨0, 0⟩)).x (mulW ((a.getD r []).getD k ⟨0, 0⟩) ((o.getD k []).getD i ⟨0, 0⟩)).y = some ((dotW (a.getD r []) o i (k + 1)).x, (dotW (a.getD r []) o i (k + 1)).y) ∧
      IsC (dotW (a.getD r []) o i (k + 1)) (dotS (m.getD r []) ls i (k + 1))) := by
  have hrm : m.getD r [] ∈ m := getD_mem [] hr
  have hcol := hf.cols _ hrm
  have step : ∀ k, k < ls.length → IsC (dotW (a.getD r []) o i k) (dotS (m.getD r []) ls i k) → (aK .mul ((a.getD r []).getD k ⟨0, 0⟩).x ((a.getD r []).getD k ⟨0, 0⟩).y ((o.getD k []).getD i ⟨0, 0⟩).x ((o.getD k []).getD i ⟨0, 0⟩).y = some ((mulW ((a.getD r []).getD k ⟨0, 0⟩) ((o.getD k []).getD i ⟨0, 0⟩)).x, (mulW ((a.getD r []).getD k ⟨0, 0⟩) ((o.getD k []).getD i ⟨0, 0⟩)).y) ∧
      aK .add (dotW (a.getD r []) o i k).x (dotW (a.getD r []) o i k).y (mulW ((a.getD r []).getD k ⟨0, 0⟩) ((o.getD k []).getD i ⟨0, 0⟩)).x (mulW ((a.getD r []).getD k ⟨0, 0⟩) ((o.getD k []).getD i ⟨0, 0⟩)).y = some ((dotW (a.getD r []) o i (k + 1)).x, (dotW (a.getD r []) o i (k + 1)).y) ∧
      IsC (dotW (a.getD r []) o i (k + 1)) (dotS (m.getD r []) ls i (k + 1))) := fun k hk hd => by
    have hik : i < (ls.getD k []).length := by rw [hf.len _ (getD_mem [] hk)]; exact hi
    have b1 := hf.ma _ hrm _ (getD_mem ⟨0, 0⟩ (by omega : k < (m.getD r []).length))
    have b2 := hf.mb _ (getD_mem [] hk) _ (getD_mem ⟨0, 0⟩ hik)
    have b3 := bd_dot hf hrm hi k (by omega)
    have hle := hf.le
    obtain ⟨m1, m2⟩ := mulW_c ((ha.2 r hr).2 k (by omega)) ((ho.2 k hk).2 i hik) b1 b2 (by omega)
    have b4 := bd_gmul b1 b2
    obtain ⟨a1, a2⟩ := addW_c hd m2 b3 b4 (by
      have : k * (2 * (A * B)) ≤ 3 * (2 * (A * B)) := Nat.mul_le_mul_right _ (by omega)
      omega)
    exact ⟨m1, a1, a2⟩
  intro k
  induction k with
  | zero => intro _; exact ⟨isC_zero, fun h => step 0 h isC_zero⟩
  | succ k ih =>
    intro hk
    have := ((ih (by omega)).2 (by omega)).2.2
    exact ⟨this, fun h => step (k + 1) h this⟩
theorem times_rep {a o : List (List Fz)} {m ls : List (List Gs)} {A B : Nat} (hf : Fits m ls A B) (hs : 8 * (A * B) ≤ 9007199254740991) (ha : RepM a m) (ho : RepM o ls) : RepM (timesW a o) (applS m ls) := by
  have hp := hf.pos
  refine ⟨by simp [timesW, applS, ha.1], fun r hr => ?_⟩
  have hr' : r < m.length := by simpa [applS] using hr
  rw [timesW, applS, getD_map' _ a r [] [] (by rw [ha.1]; exact hr'), getD_map' _ m r [] [] hr']
  have hl : (o.getD 0 []).length = (ls.getD 0 []).length := (ho.2 0 hp).1
  refine ⟨by simp only [rowW, rowS', List.length_map, List.length_range, hl], fun i hi => ?_⟩
  have hi' : i < (ls.getD 0 []).length := by simpa [rowS'] using hi
  have := (dot_c hf hs ha ho hr' hi' ls.length (Nat.le_refl _)).1
  have e1 : (rowW o (a.getD r [])).getD i ⟨0, 0⟩ = dotW (a.getD r []) o i ls.length := by rw [rowW, hl, ho.1, rng_getD _ _ hi']
  have e2 : (rowS' ls (m.getD r [])).getD i ⟨0, 0⟩ = dotS (m.getD r []) ls i ls.length := by rw [rowS', rng_getD _ _ hi']
  rw [e1, e2]; exact this
theorem gridTimes_c (a o : List (List Fz)) (m ls : List (List Gs)) (A B : Nat) (hf : Fits m ls A B) (hs : 8 * (A * B) ≤ 9007199254740991) (ha : RepM a m) (ho : RepM o ls) : FC Try.prog 86 [enc a, enc o] [] (enc (timesW a o)) [] := by
  refine fc_intro' is86 (by simp) (fun cx hl => S_run [] 800 ?_)
  have hp := hf.pos
  have hle := hf.le
  have hmle := hf.mle
  have hsh := hf.short
  have hoL := ho.1
  have haL := ha.1
  have hn0 : (o.getD 0 []).length = (ls.getD 0 []).length := (ho.2 0 hp).1
  generalize hn : (ls.getD 0 []).length = n at *
  have ho0 : 0 < o.length := by omega
  delta c86
  simp (maxSteps := 4000000) -implicitDefEqProofs only [rv86, Ent.of0, Ent.of1, Ent.of2, Ent.of3, V, bV, bl, bu, bW, cM, cT, gt, lk, cb, cG, ce, bX, cg, cn, cn.subCs, cV, a3, bh, bO, ax, bH, bJ, aC, bK, bw, aV, bv, av, cC, cO, cQ, ag, aK, bQ, bS, b0, cU, cR, aD, au, bY, bo, zC, argS, bE, cI, cY, cN, ai, aw, aI, aU, co, leC, cm, bZ, cd, c7, bN, aM, aX, cW, an, cr, a7, a7.viewCs, a9, a9.flatCs, aG, aG.LensOks, Value.oneCell', ↓reduceIte, ite_true, ite_false, if_true, if_false, Nat.reduceAdd, Nat.reduceSub, Nat.reduceMul, Nat.reduceEqDiff, Nat.reduceLT, Nat.reduceLeDiff, reduceCtorEq, Int.reduceToNat, forall_const, implies_true, a5, Ent.mk3, bF, bp, bA, a8, br, bj, bL, bC, a6, a4, bm, bP, bz, cP, rn, cz, cz.renCs, aE, aF, aQ, aQ.viewOks, az, bq, bq.flatBs, ay, ar, aA, ah, aW, bM, bM.keysBs, aT, am, aZ, bR, be, cq, ae, ae.passKs, aN, aY, af, af.lendKs, cJ, cp, cu, bD, setInn, ap, cL, cS, aR, bn, cj, bT, aJ, aO, Glob.gl, aP, cF, bG, cc, bg, ak, cH, cZ, cB, c6, cK, aj, aj.ptrOnlys, aq, aB, cD, aH, bf, bI, ca, aL, bB, bU, Nat.reduceBEq, undef]
  refine S_forU a.length (fun i => [(15, .s (.int .i64 i))]) (fun i => [(5, .row 1 152 ((timesW (a.take i) o).map cells))]) (fun _ => True) trivial ?_ (fun i hi _ => S_run [] 800 ?_)
  · simp (maxSteps := 4000000) -implicitDefEqProofs only [timesW, Ent.of0, Ent.of1, Ent.of2, Ent.of3, V, bV, bl, bu, bW, cM, cT, gt, lk, cb, cG, ce, bX, cg, cn, cn.subCs, cV, a3, bh, bO, ax, bH, bJ, aC, bK, bw, aV, bv, av, cC, cO, cQ, ag, aK, bQ, bS, b0, cU, cR, aD, au, bY, bo, zC, argS, bE, cI, cY, cN, ai, aw, aI, aU, co, leC, cm, bZ, cd, c7, bN, aM, aX, cW, an, cr, a7, a7.viewCs, a9, a9.flatCs, aG, aG.LensOks, Value.oneCell', ↓reduceIte, ite_true, ite_false, if_true, if_false, Nat.reduceAdd, Nat.reduceSub, Nat.reduceMul, Nat.reduceEqDiff, Nat.reduceLT, Nat.reduceLeDiff, reduceCtorEq, Int.reduceToNat, forall_const, implies_true, a5, Ent.mk3, bF, bp, bA, a8, br, bj, bL, bC, a6, a4, bm, bP, bz, cP, rn, cz, cz.renCs, aE, aF, aQ, aQ.viewOks, az, bq, bq.flatBs, ay, ar, aA, ah, aW, bM, bM.keysBs, aT, am, aZ, bR, be, cq, ae, ae.passKs, aN, aY, af, af.lendKs, cJ, cp, cu, bD, setInn, ap, cL, cS, aR, bn, cj, bT, aJ, aO, Glob.gl, aP, cF, bG, cc, bg, ak, cH, cZ, cB, c6, cK, aj, aj.ptrOnlys, aq, aB, cD, aH, bf, bI, ca, aL, bB, bU, Nat.reduceBEq, undef]; simp
  · by_cases h : i < a.length
    · have hi2 : (i : Int) < (a.length : Int) := by omega
      have him : i < m.length := by omega
      have hcol : (a.getD i []).length = ls.length := by rw [(ha.2 i him).1]; exact hf.cols _ (getD_mem [] him)
      delta c86l3
      simp (maxSteps := 4000000) -implicitDefEqProofs only [sz_fz, hi2, getD_list, h, ho0, hn0, Int.toNat_natCast, InR, Ent.of0, Ent.of1, Ent.of2, Ent.of3, V, bV, bl, bu, bW, cM, cT, gt, lk, cb, cG, ce, bX, cg, cn, cn.subCs, cV, a3, bh, bO, ax, bH, bJ, aC, bK, bw, aV, bv, av, cC, cO, cQ, ag, aK, bQ, bS, b0, cU, cR, aD, au, bY, bo, zC, argS, bE, cI, cY, cN, ai, aw, aI, aU, co, leC, cm, bZ, cd, c7, bN, aM, aX, cW, an, cr, a7, a7.viewCs, a9, a9.flatCs, aG, aG.LensOks, Value.oneCell', ↓reduceIte, ite_true, ite_false, if_true, if_false, Nat.reduceAdd, Nat.reduceSub, Nat.reduceMul, Nat.reduceEqDiff, Nat.reduceLT, Nat.reduceLeDiff, reduceCtorEq, Int.reduceToNat, forall_const, implies_true, a5, Ent.mk3, bF, bp, bA, a8, br, bj, bL, bC, a6, a4, bm, bP, bz, cP, rn, cz, cz.renCs, aE, aF, aQ, aQ.viewOks, az, bq, bq.flatBs, ay, ar, aA, ah, aW, bM, bM.keysBs, aT, am, aZ, bR, be, cq, ae, ae.passKs, aN, aY, af, af.lendKs, cJ, cp, cu, bD, setInn, ap, cL, cS, aR, bn, cj, bT, aJ, aO, Glob.gl, aP, cF, bG, cc, bg, ak, cH, cZ, cB, c6, cK, aj, aj.ptrOnlys, aq, aB, cD, aH, bf, bI, ca, aL, bB, bU, Nat.reduceBEq, undef]
      refine ⟨by omega, by omega, by omega, ?_⟩
      generalize hR : a.getD i [] = R at *
      refine S_forU R.length (fun k => [(26, .s (.int .i64 k))]) (fun k => [(23, .row 1 153 ((sumW R o n k 0).map cells))]) (fun _ => True) trivial ?_ (fun k hk _ => S_run [] 800 ?_)
      · simp (maxSteps := 4000000) -implicitDefEqProofs only [sumW_zero, Ent.of0, Ent.of1, Ent.of2, Ent.of3, V, bV, bl, bu, bW, cM, cT, gt, lk, cb, cG, ce, bX, cg, cn, cn.subCs, cV, a3, bh, bO, ax, bH, bJ, aC, bK, bw, aV, bv, av, cC, cO, cQ, ag, aK, bQ, bS, b0, cU, cR, aD, au, bY, bo, zC, argS, bE, cI, cY, cN, ai, aw, aI, aU, co, leC, cm, bZ, cd, c7, bN, aM, aX, cW, an, cr, a7, a7.viewCs, a9, a9.flatCs, aG, aG.LensOks, Value.oneCell', ↓reduceIte, ite_true, ite_false, if_true, if_false, Nat.reduceAdd, Nat.reduceSub, Nat.reduceMul, Nat.reduceEqDiff, Nat.reduceLT, Nat.reduceLeDiff, reduceCtorEq, Int.reduceToNat, forall_const, implies_true, a5, Ent.mk3, bF, bp, bA, a8, br, bj, bL, bC, a6, a4, bm, bP, bz, cP, rn, cz, cz.renCs, aE, aF, aQ, aQ.viewOks, az, bq, bq.flatBs, ay, ar, aA, ah, aW, bM, bM.keysBs, aT, am, aZ, bR, be, cq, ae, ae.passKs, aN, aY, af, af.lendKs, cJ, cp, cu, bD, setInn, ap, cL, cS, aR, bn, cj, bT, aJ, aO, Glob.gl, aP, cF, bG, cc, bg, ak, cH, cZ, cB, c6, cK, aj, aj.ptrOnlys, aq, aB, cD, aH, bf, bI, ca, aL, bB, bU, Nat.reduceBEq, undef]; simp
      · by_cases hkl : k < R.length
        · have hk2 : (k : Int) < (R.length : Int) := by omega
          have hko : k < o.length := by omega
          have hkn : (o.getD k []).length = n := by rw [(ho.2 k (by omega)).1, ← hn]; exact hf.len _ (getD_mem [] (by omega))
          delta c86l2
          simp (maxSteps := 4000000) -implicitDefEqProofs only [hk2, hkl, hko, getD_list, getD_fz, sz_fz, Ent.of0, Ent.of1, Ent.of2, Ent.of3, V, bV, bl, bu, bW, cM, cT, gt, lk, cb, cG, ce, bX, cg, cn, cn.subCs, cV, a3, bh, bO, ax, bH, bJ, aC, bK, bw, aV, bv, av, cC, cO, cQ, ag, aK, bQ, bS, b0, cU, cR, aD, au, bY, bo, zC, argS, bE, cI, cY, cN, ai, aw, aI, aU, co, leC, cm, bZ, cd, c7, bN, aM, aX, cW, an, cr, a7, a7.viewCs, a9, a9.flatCs, aG, aG.LensOks, Value.oneCell', ↓reduceIte, ite_true, ite_false, if_true, if_false, Nat.reduceAdd, Nat.reduceSub, Nat.reduceMul, Nat.reduceEqDiff, Nat.reduceLT, Nat.reduceLeDiff, reduceCtorEq, Int.reduceToNat, forall_const, implies_true, a5, Ent.mk3, bF, bp, bA, a8, br, bj, bL, bC, a6, a4, bm, bP, bz, cP, rn, cz, cz.renCs, aE, aF, aQ, aQ.viewOks, az, bq, bq.flatBs, ay, ar, aA, ah, aW, bM, bM.keysBs, aT, am, aZ, bR, be, cq, ae, ae.passKs, aN, aY, af, af.lendKs, cJ, cp, cu, bD, setInn, ap, cL, cS, aR, bn, cj, bT, aJ, aO, Glob.gl, aP, cF, bG, cc, bg, ak, cH, cZ, cB, c6, cK, aj, aj.ptrOnlys, aq, aB, cD, aH, bf, bI, ca, aL, bB, bU, Nat.reduceBEq, undef]
          refine ⟨by omega, by omega, ?_⟩
          refine S_forU n (fun j => [(36, .s (.int .i64 j))]) (fun j => [(23, .row 1 153 ((sumW R o n k j).map cells))]) (fun _ => True) trivial ?_ (fun j hj _ => S_run [] 800 ?_)
          · simp (maxSteps := 4000000) -implicitDefEqProofs only [Ent.of0, Ent.of1, Ent.of2, Ent.of3, V, bV, bl, bu, bW, cM, cT, gt, lk, cb, cG, ce, bX, cg, cn, cn.subCs, cV, a3, bh, bO, ax, bH, bJ, aC, bK, bw, aV, bv, av, cC, cO, cQ, ag, aK, bQ, bS, b0, cU, cR, aD, au, bY, bo, zC, argS, bE, cI, cY, cN, ai, aw, aI, aU, co, leC, cm, bZ, cd, c7, bN, aM, aX, cW, an, cr, a7, a7.viewCs, a9, a9.flatCs, aG, aG.LensOks, Value.oneCell', ↓reduceIte, ite_true, ite_false, if_true, if_false, Nat.reduceAdd, Nat.reduceSub, Nat.reduceMul, Nat.reduceEqDiff, Nat.reduceLT, Nat.reduceLeDiff, reduceCtorEq, Int.reduceToNat, forall_const, implies_true, a5, Ent.mk3, bF, bp, bA, a8, br, bj, bL, bC, a6, a4, bm, bP, bz, cP, rn, cz, cz.renCs, aE, aF, aQ, aQ.viewOks, az, bq, bq.flatBs, ay, ar, aA, ah, aW, bM, bM.keysBs, aT, am, aZ, bR, be, cq, ae, ae.passKs, aN, aY, af, af.lendKs, cJ, cp, cu, bD, setInn, ap, cL, cS, aR, bn, cj, bT, aJ, aO, Glob.gl, aP, cF, bG, cc, bg, ak, cH, cZ, cB, c6, cK, aj, aj.ptrOnlys, aq, aB, cD, aH, bf, bI, ca, aL, bB, bU, Nat.reduceBEq, undef]; simp
          · by_cases hjl : j < n
            · have hj2 : (j : Int) < (n : Int) := by omega
              have hjk : j < (o.getD k []).length := by omega
              obtain ⟨d1, d2⟩ := dot_c hf hs ha ho him (by omega : j < (ls.getD 0 []).length) k (by omega)
              rw [hR] at d1 d2
              obtain ⟨d3, d4, d5⟩ := d2 (by omega)
              have hsl : (sumW R o n k j).length = n := by simp [sumW]
              have hsg := sumW_get (row := R) (o := o) (k := k) hjl
              have hsg' : ((sumW R o n k j).map cells).getD j [] = [C.s (.complex .f64 (dotW R o j k).x (dotW R o j k).y)] := by rw [getD_map' cells _ j ⟨0, 0⟩ _ (by omega), hsg]; rfl
              have hss := sumW_set (row := R) (o := o) (k := k) hjl
              simp only [aK] at d3 d4
              delta c86l1
              simp (maxSteps := 4000000) -implicitDefEqProofs only [sz_fz, hj2, hjl, hjk, hkn, cC, getD_fz, hsg, d3, d4, hsl, hsg', hss, aC, InR, Ent.of0, Ent.of1, Ent.of2, Ent.of3, V, bV, bl, bu, bW, cM, cT, gt, lk, cb, cG, ce, bX, cg, cn, cn.subCs, cV, a3, bh, bO, ax, bH, bJ, aC, bK, bw, aV, bv, av, cC, cO, cQ, ag, aK, bQ, bS, b0, cU, cR, aD, au, bY, bo, zC, argS, bE, cI, cY, cN, ai, aw, aI, aU, co, leC, cm, bZ, cd, c7, bN, aM, aX, cW, an, cr, a7, a7.viewCs, a9, a9.flatCs, aG, aG.LensOks, Value.oneCell', ↓reduceIte, ite_true, ite_false, if_true, if_false, Nat.reduceAdd, Nat.reduceSub, Nat.reduceMul, Nat.reduceEqDiff, Nat.reduceLT, Nat.reduceLeDiff, reduceCtorEq, Int.reduceToNat, forall_const, implies_true, a5, Ent.mk3, bF, bp, bA, a8, br, bj, bL, bC, a6, a4, bm, bP, bz, cP, rn, cz, cz.renCs, aE, aF, aQ, aQ.viewOks, az, bq, bq.flatBs, ay, ar, aA, ah, aW, bM, bM.keysBs, aT, am, aZ, bR, be, cq, ae, ae.passKs, aN, aY, af, af.lendKs, cJ, cp, cu, bD, setInn, ap, cL, cS, aR, bn, cj, bT, aJ, aO, Glob.gl, aP, cF, bG, cc, bg, ak, cH, cZ, cB, c6, cK, aj, aj.ptrOnlys, aq, aB, cD, aH, bf, bI, ca, aL, bB, bU, Nat.reduceBEq, undef]
              and_intros <;> first | omega | rfl | trivial
            · have : j = n := by omega
              subst this
              have hj2 : ¬ (j : Int) < (j : Int) := by omega
              have hsn := sumW_next R o j k
              delta c86l1
              simp (maxSteps := 4000000) -implicitDefEqProofs only [hj2, hkn, hsn, InR, Ent.of0, Ent.of1, Ent.of2, Ent.of3, V, bV, bl, bu, bW, cM, cT, gt, lk, cb, cG, ce, bX, cg, cn, cn.subCs, cV, a3, bh, bO, ax, bH, bJ, aC, bK, bw, aV, bv, av, cC, cO, cQ, ag, aK, bQ, bS, b0, cU, cR, aD, au, bY, bo, zC, argS, bE, cI, cY, cN, ai, aw, aI, aU, co, leC, cm, bZ, cd, c7, bN, aM, aX, cW, an, cr, a7, a7.viewCs, a9, a9.flatCs, aG, aG.LensOks, Value.oneCell', ↓reduceIte, ite_true, ite_false, if_true, if_false, Nat.reduceAdd, Nat.reduceSub, Nat.reduceMul, Nat.reduceEqDiff, Nat.reduceLT, Nat.reduceLeDiff, reduceCtorEq, Int.reduceToNat, forall_const, implies_true, a5, Ent.mk3, bF, bp, bA, a8, br, bj, bL, bC, a6, a4, bm, bP, bz, cP, rn, cz, cz.renCs, aE, aF, aQ, aQ.viewOks, az, bq, bq.flatBs, ay, ar, aA, ah, aW, bM, bM.keysBs, aT, am, aZ, bR, be, cq, ae, ae.passKs, aN, aY, af, af.lendKs, cJ, cp, cu, bD, setInn, ap, cL, cS, aR, bn, cj, bT, aJ, aO, Glob.gl, aP, cF, bG, cc, bg, ak, cH, cZ, cB, c6, cK, aj, aj.ptrOnlys, aq, aB, cD, aH, bf, bI, ca, aL, bB, bU, Nat.reduceBEq, undef]
              and_intros <;> first | omega | rfl | trivial
        · have : k = R.length := by omega
          subst this
          have hk2 : ¬ (R.length : Int) < (R.length : Int) := by omega
          have hrow : rowW o R = sumW R o n R.length 0 := by
            rw [rowW, hn0, hcol, ← hoL, sumW]
            refine List.map_congr_left fun i _ => ?_
            simp
          have htk : (timesW (a.take i) o).map cells ++ [[C.sl 1 ((sumW R o n R.length 0).map cells)]] = (timesW (a.take (i + 1)) o).map cells := by
            rw [take_getD [] h, hR, timesW, timesW, List.map_append, List.map_append, ← hrow]; rfl
          have htl : (timesW (a.take i) o).length = i := by rw [timesW, List.length_map, List.length_take]; omega
          delta c86l2
          simp (maxSteps := 4000000) -implicitDefEqProofs only [hk2, htk, htl, InR, Ent.of0, Ent.of1, Ent.of2, Ent.of3, V, bV, bl, bu, bW, cM, cT, gt, lk, cb, cG, ce, bX, cg, cn, cn.subCs, cV, a3, bh, bO, ax, bH, bJ, aC, bK, bw, aV, bv, av, cC, cO, cQ, ag, aK, bQ, bS, b0, cU, cR, aD, au, bY, bo, zC, argS, bE, cI, cY, cN, ai, aw, aI, aU, co, leC, cm, bZ, cd, c7, bN, aM, aX, cW, an, cr, a7, a7.viewCs, a9, a9.flatCs, aG, aG.LensOks, Value.oneCell', ↓reduceIte, ite_true, ite_false, if_true, if_false, Nat.reduceAdd, Nat.reduceSub, Nat.reduceMul, Nat.reduceEqDiff, Nat.reduceLT, Nat.reduceLeDiff, reduceCtorEq, Int.reduceToNat, forall_const, implies_true, a5, Ent.mk3, bF, bp, bA, a8, br, bj, bL, bC, a6, a4, bm, bP, bz, cP, rn, cz, cz.renCs, aE, aF, aQ, aQ.viewOks, az, bq, bq.flatBs, ay, ar, aA, ah, aW, bM, bM.keysBs, aT, am, aZ, bR, be, cq, ae, ae.passKs, aN, aY, af, af.lendKs, cJ, cp, cu, bD, setInn, ap, cL, cS, aR, bn, cj, bT, aJ, aO, Glob.gl, aP, cF, bG, cc, bg, ak, cH, cZ, cB, c6, cK, aj, aj.ptrOnlys, aq, aB, cD, aH, bf, bI, ca, aL, bB, bU, Nat.reduceBEq, undef]
          and_intros <;> first | omega | rfl | trivial
    · have : i = a.length := by omega
      subst this
      have hi2 : ¬ (a.length : Int) < (a.length : Int) := by omega
      delta c86l3
      simp (maxSteps := 4000000) -implicitDefEqProofs only [hi2, rv86, List.take_length, Ent.of0, Ent.of1, Ent.of2, Ent.of3, V, bV, bl, bu, bW, cM, cT, gt, lk, cb, cG, ce, bX, cg, cn, cn.subCs, cV, a3, bh, bO, ax, bH, bJ, aC, bK, bw, aV, bv, av, cC, cO, cQ, ag, aK, bQ, bS, b0, cU, cR, aD, au, bY, bo, zC, argS, bE, cI, cY, cN, ai, aw, aI, aU, co, leC, cm, bZ, cd, c7, bN, aM, aX, cW, an, cr, a7, a7.viewCs, a9, a9.flatCs, aG, aG.LensOks, Value.oneCell', ↓reduceIte, ite_true, ite_false, if_true, if_false, Nat.reduceAdd, Nat.reduceSub, Nat.reduceMul, Nat.reduceEqDiff, Nat.reduceLT, Nat.reduceLeDiff, reduceCtorEq, Int.reduceToNat, forall_const, implies_true, a5, Ent.mk3, bF, bp, bA, a8, br, bj, bL, bC, a6, a4, bm, bP, bz, cP, rn, cz, cz.renCs, aE, aF, aQ, aQ.viewOks, az, bq, bq.flatBs, ay, ar, aA, ah, aW, bM, bM.keysBs, aT, am, aZ, bR, be, cq, ae, ae.passKs, aN, aY, af, af.lendKs, cJ, cp, cu, bD, setInn, ap, cL, cS, aR, bn, cj, bT, aJ, aO, Glob.gl, aP, cF, bG, cc, bg, ak, cH, cZ, cB, c6, cK, aj, aj.ptrOnlys, aq, aB, cD, aH, bf, bI, ca, aL, bB, bU, Nat.reduceBEq, undef]
theorem RepM.len {a : List (List Fz)} {m : List (List Gs)} (h : RepM a m) : a.length = m.length := h.1
end Go.Proofs.Ytfgpbmjmoobcnaa
end
section
open Go Go.Am
open Go.Am.Dat (cells)
namespace Go.Proofs.Ytfgpbmjmoobcnaa
set_option maxHeartbeats 4000000
set_option maxRecDepth 20000
set_option linter.unusedSimpArgs false
def ofM (w : List (List Fz)) : List (List Gs) := w.map fun r => r.map ofW
theorem ofW_c {z : Fz} {g : Gs} (h : IsC z g) : ofW z = g := by
  unfold ofW
  rw [(ofF_c h.1).2, (ofF_c h.2).2]
theorem ofM_c {w : List (List Fz)} {m : List (List Gs)} (h : RepM w m) : ofM w = m := by
  apply List.ext_getElem
  · simpa [ofM] using h.1
  · intro i h1 h2
    have h3 := h.2 i h2
    have hw : i < w.length := by rw [h.1]; exact h2
    have e1 : (ofM w)[i] = (w.getD i []).map ofW := by simp [ofM, List.getD_eq_getElem?_getD, List.getElem?_eq_getElem hw]
    have e2 : m[i] = m.getD i [] := by rw [List.getD_eq_getElem?_getD, List.getElem?_eq_getElem h2]; rfl
    rw [e1, e2]
    apply List.ext_getElem
    · simpa using h3.1
    · intro j j1 j2
      have h4 := h3.2 j j2
      have hwj : j < (w.getD i []).length := by rw [h3.1]; exact j2
      have e3 : ((w.getD i []).map ofW)[j] = ofW ((w.getD i []).getD j ⟨0, 0⟩) := by
        rw [List.getElem_map]; congr 1
        rw [List.getD_eq_getElem?_getD (l := w.getD i []), List.getElem?_eq_getElem hwj]; rfl
      have e4 : (m.getD i [])[j] = (m.getD i []).getD j ⟨0, 0⟩ := by rw [List.getD_eq_getElem?_getD (l := m.getD i []), List.getElem?_eq_getElem j2]; rfl
      rw [e3, e4]; exact ofW_c h4
structure RowsOk (w : List (List Fz)) (m : List (List Gs)) : Prop where
  rep : RepM w m
  short : m.length ≤ 1000
  shorts : ∀ r ∈ m, r.length ≤ 1000000
  small : ∀ r ∈ m, ∀ g ∈ r, bd g 9007199254740991
end Go.Proofs.Ytfgpbmjmoobcnaa
end
section
open Go Go.Am
open Go.Am.Dat (cells)
namespace Go.Proofs.Ytfgpbmjmoobcnaa
set_option maxHeartbeats 4000000
set_option maxRecDepth 100000
set_option linter.unusedSimpArgs false
def turnsS (c : Nat) (a b : List Int) : List Int := (List.range c).flatMap fun i => [a.getD i 0, b.getD i 0]
theorem turnsS_succ (c : Nat) (a b : List Int) : turnsS (c + 1) a b = turnsS c a b ++ [a.getD c 0, b.getD c 0] := by simp [turnsS, List.range_succ]
theorem turnsS_length (a b : List Int) : ∀ c, (turnsS c a b).length = 2 * c
  | 0 => rfl
  | c + 1 => by rw [turnsS_succ, List.length_append, turnsS_length a b c]; simp; omega
def judgedS (c : Nat) (T : List Int → List Int) (gain : Int) (l : List Gs) : List Int := l.flatMap fun g => turnsS c (T (sqS c gain g.re)) (T (sqS c gain g.im))
def e136 (f : FuncId) (T : List Int → List Int) (c : Nat) (hc : c = 1 ∨ c = 2 ∨ c = 3) (hf : ∀ sq : List Int, sq.length = 2 ^ c → (∀ s ∈ sq, 0 ≤ s ∧ s ≤ 4611686018427387903) → FC Try.prog f [enc (lvls c), enc sq] [] (enc (T sq)) []) : Ent Try.prog where
  id := 136
  sp := fun _ _ => none
  ok := by intro _ _ _ _ _ _ h; cases h
  kp := fun args chs => match args, chs with
    | [.s (.int .i64 n), .ptr k1 o1, .ptr k2 o2, .ptr k3 o3], [(k1', .box [.sl 1 L]), (k2', .box [.s (.int .i64 o), .s (.int .i64 g), .sl 2 l]), (k3', .box [.fn (.func f') [] []])] =>
      some ((k1 = 100000 ∧ o1 = 0 ∧ k2 = 100001 ∧ o2 = 0 ∧ k3 = 100002 ∧ o3 = 0 ∧ k1' = 100000 ∧ k2' = 100001 ∧ k3' = 100002 ∧ f' = f ∧ L = (lvls c).map cells ∧ ∃ l' : List Gs, l = l'.map cells) ∧ (1 ≤ g ∧ g ≤ 10000000) ∧ -100000000 ≤ n ∧ n ≤ 100000000, enc (T (sqS c g n)))
    | _, _ => none
  kpok := by
    intro args chs p r hs hp
    split at hs
    · rename_i n k1 o1 k2 o2 k3 o3 k1' L k2' o g l k3' f'
      simp only [Option.some.injEq, Prod.mk.injEq] at hs
      obtain ⟨rfl, rfl⟩ := hs
      obtain ⟨⟨rfl, rfl, rfl, rfl, rfl, rfl, rfl, rfl, rfl, hff, rfl, l', rfl⟩, hg, hn⟩ := hp
      subst hff
      exact ⟨part_c f' T c hc hf ⟨o, g, l'⟩ n hg hn, rfl, trivial⟩
    · cases hs
theorem judged_c (f : FuncId) (T : List Int → List Int) (c : Nat) (hc : c = 1 ∨ c = 2 ∨ c = 3) (hf : ∀ sq : List Int, sq.length = 2 ^ c → (∀ s ∈ sq, 0 ≤ s ∧ s ≤ 4611686018427387903) → FC Try.prog f [enc (lvls c), enc sq] [] (enc (T sq)) [])
    (hT : ∀ sq : List Int, sq.length = 2 ^ c → (T sq).length = c) (g : Int) (l : List Gs) (hg : 1 ≤ g ∧ g ≤ 10000000) (hn : ∀ s ∈ l, (-100000000 ≤ s.re ∧ s.re ≤ 100000000) ∧ -100000000 ≤ s.im ∧ s.im ≤ 100000000) (hll : l.length ≤ 1000) :
    FC Try.prog 115 [enc (⟨2 * (c : Int), g, l⟩ : Recv), .fn (.func f) [] []] [] (enc (judgedS c T g l)) [] := by
  have hlc := lvls_length c
  have hq : (2 * (c : Int)).tdiv 2 = (c : Int) := by rw [Int.mul_comm]; exact Int.mul_tdiv_cancel _ (by decide)
  have hmin : min c IntKind.i64.bits = c := by rcases hc with rfl | rfl | rfl <;> decide
  have hP : (2 : Int) ^ c = ((2 ^ c : Nat) : Int) := by push_cast; rfl
  have hPb : 2 ≤ 2 ^ c ∧ 2 ^ c ≤ 8 := by rcases hc with rfl | rfl | rfl <;> decide
  have hget : ∀ i, i < 2 ^ c → (lvls c).getD i 0 = 2 * (i : Int) - ((2 ^ c : Nat) - 1) := fun i hi => by
    have hi' : i < (lvls c).length := by omega
    rw [List.getD_eq_getElem?_getD, List.getElem?_eq_getElem hi']
    simp [lvls]
  refine fc_introC [] is115 (by simp) trivial trivial trivial trivial (fun cx hcx hl _ => S_run [] 800 ?_)
  delta c115
  simp (maxSteps := 4000000) -implicitDefEqProofs only [rv115, enc_recv, hq, hmin, hP, Int.one_mul, InR, Ent.of0, Ent.of1, Ent.of2, Ent.of3, V, bV, bl, bu, bW, cM, cT, gt, lk, cb, cG, ce, bX, cg, cn, cn.subCs, cV, a3, bh, bO, ax, bH, bJ, aC, bK, bw, aV, bv, av, cC, cO, cQ, ag, aK, bQ, bS, b0, cU, cR, aD, au, bY, bo, zC, argS, bE, cI, cY, cN, ai, aw, aI, aU, co, leC, cm, bZ, cd, c7, bN, aM, aX, cW, an, cr, a7, a7.viewCs, a9, a9.flatCs, aG, aG.LensOks, Value.oneCell', ↓reduceIte, ite_true, ite_false, if_true, if_false, Nat.reduceAdd, Nat.reduceSub, Nat.reduceMul, Nat.reduceEqDiff, Nat.reduceLT, Nat.reduceLeDiff, reduceCtorEq, Int.reduceToNat, forall_const, implies_true, a5, Ent.mk3, bF, bp, bA, a8, br, bj, bL, bC, a6, a4, bm, bP, bz, cP, rn, cz, cz.renCs, aE, aF, aQ, aQ.viewOks, az, bq, bq.flatBs, ay, ar, aA, ah, aW, bM, bM.keysBs, aT, am, aZ, bR, be, cq, ae, ae.passKs, aN, aY, af, af.lendKs, cJ, cp, cu, bD, setInn, ap, cL, cS, aR, bn, cj, bT, aJ, aO, Glob.gl, aP, cF, bG, cc, bg, ak, cH, cZ, cB, c6, cK, aj, aj.ptrOnlys, aq, aB, cD, aH, bf, bI, ca, aL, bB, bU, Nat.reduceBEq, undef]
  refine ⟨by omega, by omega, by omega, ?_⟩
  refine S_forU (2 ^ c) (fun i => [(7, .s (.int .i64 (2 * (i : Int) - ((2 ^ c : Nat) - 1))))]) (fun i => [(6, .box [if i = 0 then .s (.slice none 0 0) else .isl 1 3 (((lvls c).take i).map cells)])]) (fun _ => True) trivial ?_ (fun i hi _ => ?_)
  · simp (maxSteps := 4000000) -implicitDefEqProofs only [Ent.of0, Ent.of1, Ent.of2, Ent.of3, V, bV, bl, bu, bW, cM, cT, gt, lk, cb, cG, ce, bX, cg, cn, cn.subCs, cV, a3, bh, bO, ax, bH, bJ, aC, bK, bw, aV, bv, av, cC, cO, cQ, ag, aK, bQ, bS, b0, cU, cR, aD, au, bY, bo, zC, argS, bE, cI, cY, cN, ai, aw, aI, aU, co, leC, cm, bZ, cd, c7, bN, aM, aX, cW, an, cr, a7, a7.viewCs, a9, a9.flatCs, aG, aG.LensOks, Value.oneCell', ↓reduceIte, ite_true, ite_false, if_true, if_false, Nat.reduceAdd, Nat.reduceSub, Nat.reduceMul, Nat.reduceEqDiff, Nat.reduceLT, Nat.reduceLeDiff, reduceCtorEq, Int.reduceToNat, forall_const, implies_true, a5, Ent.mk3, bF, bp, bA, a8, br, bj, bL, bC, a6, a4, bm, bP, bz, cP, rn, cz, cz.renCs, aE, aF, aQ, aQ.viewOks, az, bq, bq.flatBs, ay, ar, aA, ah, aW, bM, bM.keysBs, aT, am, aZ, bR, be, cq, ae, ae.passKs, aN, aY, af, af.lendKs, cJ, cp, cu, bD, setInn, ap, cL, cS, aR, bn, cj, bT, aJ, aO, Glob.gl, aP, cF, bG, cc, bg, ak, cH, cZ, cB, c6, cK, aj, aj.ptrOnlys, aq, aB, cD, aH, bf, bI, ca, aL, bB, bU, Nat.reduceBEq, undef]; omega
  · by_cases h : i < 2 ^ c
    · have htk : ((lvls c).take i).map cells ++ [[C.s (.int .i64 (2 * (i : Int) - ((2 ^ c : Nat) - 1)))]] = ((lvls c).take (i + 1)).map cells := by
        rw [take_getD 0 (by omega : i < (lvls c).length), List.map_append, hget i h]; rfl
      have hlt : ((lvls c).take i).length = i := by rw [List.length_take]; omega
      have hlt2 : 2 * (i : Int) - (((2 ^ c : Nat) : Int) - 1) < ((2 ^ c : Nat) : Int) := by omega
      refine S_run [] 800 ?_
      cases i with
      | zero =>
        delta c115l1
        simp (maxSteps := 4000000) -implicitDefEqProofs only [hq, hmin, hP, Int.one_mul, hlt2, h, InR, Ent.of0, Ent.of1, Ent.of2, Ent.of3, V, bV, bl, bu, bW, cM, cT, gt, lk, cb, cG, ce, bX, cg, cn, cn.subCs, cV, a3, bh, bO, ax, bH, bJ, aC, bK, bw, aV, bv, av, cC, cO, cQ, ag, aK, bQ, bS, b0, cU, cR, aD, au, bY, bo, zC, argS, bE, cI, cY, cN, ai, aw, aI, aU, co, leC, cm, bZ, cd, c7, bN, aM, aX, cW, an, cr, a7, a7.viewCs, a9, a9.flatCs, aG, aG.LensOks, Value.oneCell', ↓reduceIte, ite_true, ite_false, if_true, if_false, Nat.reduceAdd, Nat.reduceSub, Nat.reduceMul, Nat.reduceEqDiff, Nat.reduceLT, Nat.reduceLeDiff, reduceCtorEq, Int.reduceToNat, forall_const, implies_true, a5, Ent.mk3, bF, bp, bA, a8, br, bj, bL, bC, a6, a4, bm, bP, bz, cP, rn, cz, cz.renCs, aE, aF, aQ, aQ.viewOks, az, bq, bq.flatBs, ay, ar, aA, ah, aW, bM, bM.keysBs, aT, am, aZ, bR, be, cq, ae, ae.passKs, aN, aY, af, af.lendKs, cJ, cp, cu, bD, setInn, ap, cL, cS, aR, bn, cj, bT, aJ, aO, Glob.gl, aP, cF, bG, cc, bg, ak, cH, cZ, cB, c6, cK, aj, aj.ptrOnlys, aq, aB, cD, aH, bf, bI, ca, aL, bB, bU, Nat.reduceBEq, undef]
        refine ⟨by omega, by omega, by omega, by push_cast; omega, ?_⟩
        rw [← htk]; rfl
      | succ i =>
        delta c115l1
        simp (maxSteps := 4000000) -implicitDefEqProofs only [hq, hmin, hP, Int.one_mul, hlt, hlt2, h, htk, Nat.succ_ne_zero, InR, Ent.of0, Ent.of1, Ent.of2, Ent.of3, V, bV, bl, bu, bW, cM, cT, gt, lk, cb, cG, ce, bX, cg, cn, cn.subCs, cV, a3, bh, bO, ax, bH, bJ, aC, bK, bw, aV, bv, av, cC, cO, cQ, ag, aK, bQ, bS, b0, cU, cR, aD, au, bY, bo, zC, argS, bE, cI, cY, cN, ai, aw, aI, aU, co, leC, cm, bZ, cd, c7, bN, aM, aX, cW, an, cr, a7, a7.viewCs, a9, a9.flatCs, aG, aG.LensOks, Value.oneCell', ↓reduceIte, ite_true, ite_false, if_true, if_false, Nat.reduceAdd, Nat.reduceSub, Nat.reduceMul, Nat.reduceEqDiff, Nat.reduceLT, Nat.reduceLeDiff, reduceCtorEq, Int.reduceToNat, forall_const, implies_true, a5, Ent.mk3, bF, bp, bA, a8, br, bj, bL, bC, a6, a4, bm, bP, bz, cP, rn, cz, cz.renCs, aE, aF, aQ, aQ.viewOks, az, bq, bq.flatBs, ay, ar, aA, ah, aW, bM, bM.keysBs, aT, am, aZ, bR, be, cq, ae, ae.passKs, aN, aY, af, af.lendKs, cJ, cp, cu, bD, setInn, ap, cL, cS, aR, bn, cj, bT, aJ, aO, Glob.gl, aP, cF, bG, cc, bg, ak, cH, cZ, cB, c6, cK, aj, aj.ptrOnlys, aq, aB, cD, aH, bf, bI, ca, aL, bB, bU, Nat.reduceBEq, undef]
        exact ⟨by omega, by omega, by omega, by omega, by push_cast; omega⟩
    · have hlt2 : ¬ 2 * (i : Int) - (((2 ^ c : Nat) : Int) - 1) < ((2 ^ c : Nat) : Int) := by omega
      have hie : i = 2 ^ c := by omega
      subst hie
      have hi0 : 2 ^ c ≠ 0 := by omega
      have htk : (lvls c).take (2 ^ c) = lvls c := by rw [← hlc]; exact List.take_length
      refine S_run [] 800 ?_
      delta c115l1
      simp (maxSteps := 4000000) -implicitDefEqProofs only [hq, hmin, hP, Int.one_mul, hlt2, hi0, htk, InR, Ent.of0, Ent.of1, Ent.of2, Ent.of3, V, bV, bl, bu, bW, cM, cT, gt, lk, cb, cG, ce, bX, cg, cn, cn.subCs, cV, a3, bh, bO, ax, bH, bJ, aC, bK, bw, aV, bv, av, cC, cO, cQ, ag, aK, bQ, bS, b0, cU, cR, aD, au, bY, bo, zC, argS, bE, cI, cY, cN, ai, aw, aI, aU, co, leC, cm, bZ, cd, c7, bN, aM, aX, cW, an, cr, a7, a7.viewCs, a9, a9.flatCs, aG, aG.LensOks, Value.oneCell', ↓reduceIte, ite_true, ite_false, if_true, if_false, Nat.reduceAdd, Nat.reduceSub, Nat.reduceMul, Nat.reduceEqDiff, Nat.reduceLT, Nat.reduceLeDiff, reduceCtorEq, Int.reduceToNat, forall_const, implies_true, a5, Ent.mk3, bF, bp, bA, a8, br, bj, bL, bC, a6, a4, bm, bP, bz, cP, rn, cz, cz.renCs, aE, aF, aQ, aQ.viewOks, az, bq, bq.flatBs, ay, ar, aA, ah, aW, bM, bM.keysBs, aT, am, aZ, bR, be, cq, ae, ae.passKs, aN, aY, af, af.lendKs, cJ, cp, cu, bD, setInn, ap, cL, cS, aR, bn, cj, bT, aJ, aO, Glob.gl, aP, cF, bG, cc, bg, ak, cH, cZ, cB, c6, cK, aj, aj.ptrOnlys, aq, aB, cD, aH, bf, bI, ca, aL, bB, bU, Nat.reduceBEq, undef]
      refine ⟨by omega, S_fzb 6 rfl ?_⟩
      simp (maxSteps := 4000000) -implicitDefEqProofs only [Ent.of0, Ent.of1, Ent.of2, Ent.of3, V, bV, bl, bu, bW, cM, cT, gt, lk, cb, cG, ce, bX, cg, cn, cn.subCs, cV, a3, bh, bO, ax, bH, bJ, aC, bK, bw, aV, bv, av, cC, cO, cQ, ag, aK, bQ, bS, b0, cU, cR, aD, au, bY, bo, zC, argS, bE, cI, cY, cN, ai, aw, aI, aU, co, leC, cm, bZ, cd, c7, bN, aM, aX, cW, an, cr, a7, a7.viewCs, a9, a9.flatCs, aG, aG.LensOks, Value.oneCell', ↓reduceIte, ite_true, ite_false, if_true, if_false, Nat.reduceAdd, Nat.reduceSub, Nat.reduceMul, Nat.reduceEqDiff, Nat.reduceLT, Nat.reduceLeDiff, reduceCtorEq, Int.reduceToNat, forall_const, implies_true, a5, Ent.mk3, bF, bp, bA, a8, br, bj, bL, bC, a6, a4, bm, bP, bz, cP, rn, cz, cz.renCs, aE, aF, aQ, aQ.viewOks, az, bq, bq.flatBs, ay, ar, aA, ah, aW, bM, bM.keysBs, aT, am, aZ, bR, be, cq, ae, ae.passKs, aN, aY, af, af.lendKs, cJ, cp, cu, bD, setInn, ap, cL, cS, aR, bn, cj, bT, aJ, aO, Glob.gl, aP, cF, bG, cc, bg, ak, cH, cZ, cB, c6, cK, aj, aj.ptrOnlys, aq, aB, cD, aH, bf, bI, ca, aL, bB, bU, Nat.reduceBEq, undef]
      refine S_forU l.length (fun i => [(35, .s (.int .i64 (i : Int)))]) (fun i => [(9, .row 1 3 ((judgedS c T g (l.take i)).map cells))]) (fun _ => True) trivial ?_ (fun i hi _ => S_run [e136 f T c hc hf] 800 ?_)
      · simp (maxSteps := 4000000) -implicitDefEqProofs only [judgedS, Ent.of0, Ent.of1, Ent.of2, Ent.of3, V, bV, bl, bu, bW, cM, cT, gt, lk, cb, cG, ce, bX, cg, cn, cn.subCs, cV, a3, bh, bO, ax, bH, bJ, aC, bK, bw, aV, bv, av, cC, cO, cQ, ag, aK, bQ, bS, b0, cU, cR, aD, au, bY, bo, zC, argS, bE, cI, cY, cN, ai, aw, aI, aU, co, leC, cm, bZ, cd, c7, bN, aM, aX, cW, an, cr, a7, a7.viewCs, a9, a9.flatCs, aG, aG.LensOks, Value.oneCell', ↓reduceIte, ite_true, ite_false, if_true, if_false, Nat.reduceAdd, Nat.reduceSub, Nat.reduceMul, Nat.reduceEqDiff, Nat.reduceLT, Nat.reduceLeDiff, reduceCtorEq, Int.reduceToNat, forall_const, implies_true, a5, Ent.mk3, bF, bp, bA, a8, br, bj, bL, bC, a6, a4, bm, bP, bz, cP, rn, cz, cz.renCs, aE, aF, aQ, aQ.viewOks, az, bq, bq.flatBs, ay, ar, aA, ah, aW, bM, bM.keysBs, aT, am, aZ, bR, be, cq, ae, ae.passKs, aN, aY, af, af.lendKs, cJ, cp, cu, bD, setInn, ap, cL, cS, aR, bn, cj, bT, aJ, aO, Glob.gl, aP, cF, bG, cc, bg, ak, cH, cZ, cB, c6, cK, aj, aj.ptrOnlys, aq, aB, cD, aH, bf, bI, ca, aL, bB, bU, Nat.reduceBEq, undef]
        exact ⟨rfl, rfl⟩
      · by_cases h : i < l.length
        · have hi2 : (i : Int) < (l.length : Int) := by omega
          have hgm : l.getD i ⟨0, 0⟩ ∈ l := getD_mem _ h
          have hn1 := hn _ hgm
          have hsql : ∀ n, (sqS c g n).length = 2 ^ c := fun n => by rw [sqS, List.length_map, hlc]
          have hT1 := hT _ (hsql (l.getD i ⟨0, 0⟩).re)
          have hT2 := hT _ (hsql (l.getD i ⟨0, 0⟩).im)
          delta c115l3
          simp (maxSteps := 4000000) -implicitDefEqProofs only [hi2, h, e136, hT1, InR, Ent.of0, Ent.of1, Ent.of2, Ent.of3, V, bV, bl, bu, bW, cM, cT, gt, lk, cb, cG, ce, bX, cg, cn, cn.subCs, cV, a3, bh, bO, ax, bH, bJ, aC, bK, bw, aV, bv, av, cC, cO, cQ, ag, aK, bQ, bS, b0, cU, cR, aD, au, bY, bo, zC, argS, bE, cI, cY, cN, ai, aw, aI, aU, co, leC, cm, bZ, cd, c7, bN, aM, aX, cW, an, cr, a7, a7.viewCs, a9, a9.flatCs, aG, aG.LensOks, Value.oneCell', ↓reduceIte, ite_true, ite_false, if_true, if_false, Nat.reduceAdd, Nat.reduceSub, Nat.reduceMul, Nat.reduceEqDiff, Nat.reduceLT, Nat.reduceLeDiff, reduceCtorEq, Int.reduceToNat, forall_const, implies_true, a5, Ent.mk3, bF, bp, bA, a8, br, bj, bL, bC, a6, a4, bm, bP, bz, cP, rn, cz, cz.renCs, aE, aF, aQ, aQ.viewOks, az, bq, bq.flatBs, ay, ar, aA, ah, aW, bM, bM.keysBs, aT, am, aZ, bR, be, cq, ae, ae.passKs, aN, aY, af, af.lendKs, cJ, cp, cu, bD, setInn, ap, cL, cS, aR, bn, cj, bT, aJ, aO, Glob.gl, aP, cF, bG, cc, bg, ak, cH, cZ, cB, c6, cK, aj, aj.ptrOnlys, aq, aB, cD, aH, bf, bI, ca, aL, bB, bU, Nat.reduceBEq, undef]
          refine ⟨by omega, ⟨⟨l, rfl⟩, hg, hn1.1⟩, ⟨⟨l, rfl⟩, hg, hn1.2⟩, ?_⟩
          have hjs : judgedS c T g (l.take (i + 1)) = judgedS c T g (l.take i) ++ turnsS c (T (sqS c g (l.getD i ⟨0, 0⟩).re)) (T (sqS c g (l.getD i ⟨0, 0⟩).im)) := by
            rw [take_getD ⟨0, 0⟩ h, judgedS, judgedS, List.flatMap_append]; simp
          have hjl : (judgedS c T g (l.take i)).length ≤ 6000 := by
            have e : ∀ (m : List Gs), (judgedS c T g m).length ≤ 6 * m.length := fun m => by
              induction m with
              | nil => simp [judgedS]
              | cons x m ih =>
                have : judgedS c T g (x :: m) = turnsS c (T (sqS c g x.re)) (T (sqS c g x.im)) ++ judgedS c T g m := by simp [judgedS]
                rw [this, List.length_append, List.length_cons]
                have h2 : (turnsS c (T (sqS c g x.re)) (T (sqS c g x.im))).length ≤ 6 := by
                  rcases hc with rfl | rfl | rfl <;> simp [turnsS, List.range_succ]
                omega
            have := e (l.take i)
            rw [List.length_take] at this
            omega
          generalize T (sqS c g (l.getD i ⟨0, 0⟩).re) = X at *
          generalize T (sqS c g (l.getD i ⟨0, 0⟩).im) = Y at *
          generalize judgedS c T g (l.take i) = J at *
          refine S_forU c (fun j => [(49, .s (.int .i64 (j : Int)))]) (fun j => [(9, .row 1 3 ((J ++ turnsS j X Y).map cells))]) (fun _ => True) trivial ?_ (fun j hj _ => S_run [] 800 ?_)
          · simp (maxSteps := 4000000) -implicitDefEqProofs only [Ent.of0, Ent.of1, Ent.of2, Ent.of3, V, bV, bl, bu, bW, cM, cT, gt, lk, cb, cG, ce, bX, cg, cn, cn.subCs, cV, a3, bh, bO, ax, bH, bJ, aC, bK, bw, aV, bv, av, cC, cO, cQ, ag, aK, bQ, bS, b0, cU, cR, aD, au, bY, bo, zC, argS, bE, cI, cY, cN, ai, aw, aI, aU, co, leC, cm, bZ, cd, c7, bN, aM, aX, cW, an, cr, a7, a7.viewCs, a9, a9.flatCs, aG, aG.LensOks, Value.oneCell', ↓reduceIte, ite_true, ite_false, if_true, if_false, Nat.reduceAdd, Nat.reduceSub, Nat.reduceMul, Nat.reduceEqDiff, Nat.reduceLT, Nat.reduceLeDiff, reduceCtorEq, Int.reduceToNat, forall_const, implies_true, a5, Ent.mk3, bF, bp, bA, a8, br, bj, bL, bC, a6, a4, bm, bP, bz, cP, rn, cz, cz.renCs, aE, aF, aQ, aQ.viewOks, az, bq, bq.flatBs, ay, ar, aA, ah, aW, bM, bM.keysBs, aT, am, aZ, bR, be, cq, ae, ae.passKs, aN, aY, af, af.lendKs, cJ, cp, cu, bD, setInn, ap, cL, cS, aR, bn, cj, bT, aJ, aO, Glob.gl, aP, cF, bG, cc, bg, ak, cH, cZ, cB, c6, cK, aj, aj.ptrOnlys, aq, aB, cD, aH, bf, bI, ca, aL, bB, bU, Nat.reduceBEq, undef]
            exact ⟨rfl, by simp [turnsS]⟩
          · have htl := turnsS_length X Y j
            by_cases hjc : j < c
            · have hj2 : (j : Int) < (c : Int) := by omega
              have hj3 : j < X.length := by omega
              have hj4 : j < Y.length := by omega
              have htk : (J ++ turnsS j X Y).map cells ++ [[C.s (.int .i64 (X.getD j 0))], [C.s (.int .i64 (Y.getD j 0))]] = (J ++ turnsS (j + 1) X Y).map cells := by
                rw [turnsS_succ, ← List.append_assoc, List.map_append (l₁ := J ++ turnsS j X Y)]; rfl
              have hll : (J ++ turnsS j X Y).length ≤ 6012 := by rw [List.length_append]; omega
              delta c115l2
              simp (maxSteps := 4000000) -implicitDefEqProofs only [hj2, hj3, hj4, htk, InR, Ent.of0, Ent.of1, Ent.of2, Ent.of3, V, bV, bl, bu, bW, cM, cT, gt, lk, cb, cG, ce, bX, cg, cn, cn.subCs, cV, a3, bh, bO, ax, bH, bJ, aC, bK, bw, aV, bv, av, cC, cO, cQ, ag, aK, bQ, bS, b0, cU, cR, aD, au, bY, bo, zC, argS, bE, cI, cY, cN, ai, aw, aI, aU, co, leC, cm, bZ, cd, c7, bN, aM, aX, cW, an, cr, a7, a7.viewCs, a9, a9.flatCs, aG, aG.LensOks, Value.oneCell', ↓reduceIte, ite_true, ite_false, if_true, if_false, Nat.reduceAdd, Nat.reduceSub, Nat.reduceMul, Nat.reduceEqDiff, Nat.reduceLT, Nat.reduceLeDiff, reduceCtorEq, Int.reduceToNat, forall_const, implies_true, a5, Ent.mk3, bF, bp, bA, a8, br, bj, bL, bC, a6, a4, bm, bP, bz, cP, rn, cz, cz.renCs, aE, aF, aQ, aQ.viewOks, az, bq, bq.flatBs, ay, ar, aA, ah, aW, bM, bM.keysBs, aT, am, aZ, bR, be, cq, ae, ae.passKs, aN, aY, af, af.lendKs, cJ, cp, cu, bD, setInn, ap, cL, cS, aR, bn, cj, bT, aJ, aO, Glob.gl, aP, cF, bG, cc, bg, ak, cH, cZ, cB, c6, cK, aj, aj.ptrOnlys, aq, aB, cD, aH, bf, bI, ca, aL, bB, bU, Nat.reduceBEq, undef]
              and_intros <;> first | omega | rfl | trivial
            · have hj2 : ¬ (j : Int) < (c : Int) := by omega
              have hjc : j = c := by omega
              subst hjc
              delta c115l2
              simp (maxSteps := 4000000) -implicitDefEqProofs only [hj2, hjs, InR, Ent.of0, Ent.of1, Ent.of2, Ent.of3, V, bV, bl, bu, bW, cM, cT, gt, lk, cb, cG, ce, bX, cg, cn, cn.subCs, cV, a3, bh, bO, ax, bH, bJ, aC, bK, bw, aV, bv, av, cC, cO, cQ, ag, aK, bQ, bS, b0, cU, cR, aD, au, bY, bo, zC, argS, bE, cI, cY, cN, ai, aw, aI, aU, co, leC, cm, bZ, cd, c7, bN, aM, aX, cW, an, cr, a7, a7.viewCs, a9, a9.flatCs, aG, aG.LensOks, Value.oneCell', ↓reduceIte, ite_true, ite_false, if_true, if_false, Nat.reduceAdd, Nat.reduceSub, Nat.reduceMul, Nat.reduceEqDiff, Nat.reduceLT, Nat.reduceLeDiff, reduceCtorEq, Int.reduceToNat, forall_const, implies_true, a5, Ent.mk3, bF, bp, bA, a8, br, bj, bL, bC, a6, a4, bm, bP, bz, cP, rn, cz, cz.renCs, aE, aF, aQ, aQ.viewOks, az, bq, bq.flatBs, ay, ar, aA, ah, aW, bM, bM.keysBs, aT, am, aZ, bR, be, cq, ae, ae.passKs, aN, aY, af, af.lendKs, cJ, cp, cu, bD, setInn, ap, cL, cS, aR, bn, cj, bT, aJ, aO, Glob.gl, aP, cF, bG, cc, bg, ak, cH, cZ, cB, c6, cK, aj, aj.ptrOnlys, aq, aB, cD, aH, bf, bI, ca, aL, bB, bU, Nat.reduceBEq, undef]
              and_intros <;> first | omega | rfl | trivial
        · have hi2 : ¬ (i : Int) < (l.length : Int) := by omega
          have hie : i = l.length := by omega
          subst hie
          delta c115l3
          simp (maxSteps := 4000000) -implicitDefEqProofs only [hi2, rv115, List.take_length, InR, Ent.of0, Ent.of1, Ent.of2, Ent.of3, V, bV, bl, bu, bW, cM, cT, gt, lk, cb, cG, ce, bX, cg, cn, cn.subCs, cV, a3, bh, bO, ax, bH, bJ, aC, bK, bw, aV, bv, av, cC, cO, cQ, ag, aK, bQ, bS, b0, cU, cR, aD, au, bY, bo, zC, argS, bE, cI, cY, cN, ai, aw, aI, aU, co, leC, cm, bZ, cd, c7, bN, aM, aX, cW, an, cr, a7, a7.viewCs, a9, a9.flatCs, aG, aG.LensOks, Value.oneCell', ↓reduceIte, ite_true, ite_false, if_true, if_false, Nat.reduceAdd, Nat.reduceSub, Nat.reduceMul, Nat.reduceEqDiff, Nat.reduceLT, Nat.reduceLeDiff, reduceCtorEq, Int.reduceToNat, forall_const, implies_true, a5, Ent.mk3, bF, bp, bA, a8, br, bj, bL, bC, a6, a4, bm, bP, bz, cP, rn, cz, cz.renCs, aE, aF, aQ, aQ.viewOks, az, bq, bq.flatBs, ay, ar, aA, ah, aW, bM, bM.keysBs, aT, am, aZ, bR, be, cq, ae, ae.passKs, aN, aY, af, af.lendKs, cJ, cp, cu, bD, setInn, ap, cL, cS, aR, bn, cj, bT, aJ, aO, Glob.gl, aP, cF, bG, cc, bg, ak, cH, cZ, cB, c6, cK, aj, aj.ptrOnlys, aq, aB, cD, aH, bf, bI, ca, aL, bB, bU, Nat.reduceBEq, undef]
end Go.Proofs.Ytfgpbmjmoobcnaa
end
section
open Go Go.Am
open Go.Am.Dat (cells)
namespace Go.Proofs.Ytfgpbmjmoobcnaa
set_option maxHeartbeats 4000000
set_option maxRecDepth 100000
set_option linter.unusedSimpArgs false
theorem softS_length (c : Nat) (sq : List Int) : (softS c sq).length = c := by simp [softS]
def hardS (c : Nat) (sq : List Int) : List Int := match ofLevelI c ((lvls c).getD (idxOfI sq fun x => decide (minS sq = x)).toNat 0) with | some i => bitsOfS i c c | none => []
theorem ofLevelI_some {c : Nat} (hc : c = 1 ∨ c = 2 ∨ c = 3) : ∀ l ∈ lvls c, (ofLevelI c l).isSome = true := by
  rcases hc with rfl | rfl | rfl <;> decide
theorem minS_in (l : List Int) (h : 0 < l.length) : minS l ∈ l := by
  cases l with
  | nil => simp at h
  | cons x t => exact minS_mem t x
theorem idx_in {l : List Int} {v : Int} (h : v ∈ l) : ∃ i : Nat, idxOfI l (fun x => decide (v = x)) = (i : Int) ∧ i < l.length := by
  unfold idxOfI
  cases hq : l.findIdx? (fun x => decide (v = x)) with
  | none =>
    rw [List.findIdx?_eq_none_iff] at hq
    have := hq v h
    simp at this
  | some i =>
    obtain ⟨h1, _⟩ := List.findIdx?_eq_some_iff_getElem.1 hq
    exact ⟨i, rfl, h1⟩
theorem hard_idx {c : Nat} {sq : List Int} (hl : sq.length = 2 ^ c) : ∃ i : Nat, idxOfI sq (fun x => decide (minS sq = x)) = (i : Int) ∧ i < (lvls c).length := by
  have hp := Nat.two_pow_pos c
  obtain ⟨i, h1, h2⟩ := idx_in (minS_in sq (by omega))
  exact ⟨i, h1, by rw [lvls_length]; omega⟩
theorem hardS_length {c : Nat} (hc : c = 1 ∨ c = 2 ∨ c = 3) {sq : List Int} (hl : sq.length = 2 ^ c) : (hardS c sq).length = c := by
  obtain ⟨i, h1, h2⟩ := hard_idx hl
  unfold hardS
  rw [h1, Int.toNat_natCast]
  have := ofLevelI_some hc _ (getD_mem 0 h2)
  cases hq : ofLevelI c ((lvls c).getD i 0) with
  | none => rw [hq] at this; cases this
  | some j => exact bitsOfS_length _ _ _
theorem hard_c (c : Nat) (hc : c = 1 ∨ c = 2 ∨ c = 3) (sq : List Int) (hl : sq.length = 2 ^ c) : FC Try.prog 116 [enc (lvls c), enc sq] [] (enc (hardS c sq)) [] := by
  have hp := Nat.two_pow_pos c
  obtain ⟨i, h1, h2⟩ := hard_idx hl
  have hs : ofLevelC c ((lvls c).getD i 0) = .sl 1 ((hardS c sq).map cells) := by
    have := ofLevelI_some hc _ (getD_mem 0 h2)
    unfold ofLevelC hardS
    rw [h1, Int.toNat_natCast]
    cases hq : ofLevelI c ((lvls c).getD i 0) with
    | none => rw [hq] at this; cases this
    | some j => rfl
  have h0 : 0 < sq.length := by omega
  have hlc := lvls_length c
  refine fc_intro' is116 (by simp) (fun cx hl => S_run [ctE c (by omega), e104, e138, e139] 800 ?_)
  delta c116
  simp (maxSteps := 4000000) -implicitDefEqProofs only [rv116, ctE, e104, e138, e139, h1, h2, hs, hlc, h0, Ent.of0, Ent.of1, Ent.of2, Ent.of3, V, bV, bl, bu, bW, cM, cT, gt, lk, cb, cG, ce, bX, cg, cn, cn.subCs, cV, a3, bh, bO, ax, bH, bJ, aC, bK, bw, aV, bv, av, cC, cO, cQ, ag, aK, bQ, bS, b0, cU, cR, aD, au, bY, bo, zC, argS, bE, cI, cY, cN, ai, aw, aI, aU, co, leC, cm, bZ, cd, c7, bN, aM, aX, cW, an, cr, a7, a7.viewCs, a9, a9.flatCs, aG, aG.LensOks, Value.oneCell', ↓reduceIte, ite_true, ite_false, if_true, if_false, Nat.reduceAdd, Nat.reduceSub, Nat.reduceMul, Nat.reduceEqDiff, Nat.reduceLT, Nat.reduceLeDiff, reduceCtorEq, Int.reduceToNat, forall_const, implies_true, a5, Ent.mk3, bF, bp, bA, a8, br, bj, bL, bC, a6, a4, bm, bP, bz, cP, rn, cz, cz.renCs, aE, aF, aQ, aQ.viewOks, az, bq, bq.flatBs, ay, ar, aA, ah, aW, bM, bM.keysBs, aT, am, aZ, bR, be, cq, ae, ae.passKs, aN, aY, af, af.lendKs, cJ, cp, cu, bD, setInn, ap, cL, cS, aR, bn, cj, bT, aJ, aO, Glob.gl, aP, cF, bG, cc, bg, ak, cH, cZ, cB, c6, cK, aj, aj.ptrOnlys, aq, aB, cD, aH, bf, bI, ca, aL, bB, bU, Nat.reduceBEq, undef]
  and_intros <;> first | omega | rfl | trivial
def e115 (f : FuncId) (T : Nat → List Int → List Int) (hj : ∀ (c : Nat) (g : Int) (l : List Gs), (c = 1 ∨ c = 2 ∨ c = 3) → 1 ≤ g ∧ g ≤ 10000000 → (∀ s ∈ l, (-100000000 ≤ s.re ∧ s.re ≤ 100000000) ∧ -100000000 ≤ s.im ∧ s.im ≤ 100000000) → l.length ≤ 1000 →
    FC Try.prog 115 [enc (⟨2 * (c : Int), g, l⟩ : Recv), .fn (.func f) [] []] [] (enc (judgedS c (T c) g l)) []) : Ent Try.prog := .mk3 115 (fun args chs => match args, chs with
    | [.agg [.s (.int .i64 o), .s (.int .i64 g), .sl 2 t], .fn (.func f') [] []], [] => (decL t : Option (List Gs)).bind fun l => some (f' = f ∧ recvErr ⟨o, g, l⟩ = 0, enc (judgedS (o.toNat / 2) (T (o.toNat / 2)) g l), [], [])
    | _, _ => none) (by
  intro args chs p r chs' nk hs hp
  split at hs
  · rename_i o g t f'
    simp only [Option.bind_eq_some_iff, Option.some.injEq, Prod.mk.injEq] at hs
    obtain ⟨l, hl, rfl, rfl, rfl, rfl⟩ := hs
    obtain ⟨hff, hr⟩ := hp
    have := decL_ok hl
    subst this
    have hz := firstS_zero hr
    have z1 : orderErrS o = 0 := hz _ (by simp [recvErr])
    have z2 : (if 1 ≤ g ∧ g ≤ 10000000 then (0 : Int) else 2) = 0 := hz _ (by simp)
    have z3 : symErr l = 0 := hz _ (by simp)
    have ho : o = 2 ∨ o = 4 ∨ o = 6 := by
      unfold orderErrS at z1
      split at z1
      · assumption
      · cases z1
    have hg : 1 ≤ g ∧ g ≤ 10000000 := by
      split at z2
      · assumption
      · cases z2
    have hl2 : l.length ≤ 1000 := by
      unfold symErr at z3
      grind
    have hn : ∀ s ∈ l, (-100000000 ≤ s.re ∧ s.re ≤ 100000000) ∧ -100000000 ≤ s.im ∧ s.im ≤ 100000000 := by
      have : l.all (smallG · 100000000) = true := by
        unfold symErr at z3
        grind
      intro s hs
      have := List.all_eq_true.1 this s hs
      simpa [smallG] using this
    have e : o = 2 * ((o.toNat / 2 : Nat) : Int) := by rcases ho with rfl | rfl | rfl <;> rfl
    have := hj (o.toNat / 2) g l (by rcases ho with rfl | rfl | rfl <;> simp) hg hn hl2
    rw [← e] at this
    subst hff
    exact ⟨this, .plain trivial⟩
  · cases hs)
def judgeAll (T : Nat → List Int → List Int) (x : Recv) : List Int := judgedS (x.order.toNat / 2) (T (x.order.toNat / 2)) x.gain x.symbols
theorem Soft_c (x : Recv) : FC Try.prog 58 [enc x] [] (.tup [enc (if recvErr x = 0 then judgeAll softS x else []), enc (recvErr x)]) [] := by
  refine fc_intro' is58 (by simp) (fun cx hl => S_run [e114, e115 117 softS (fun c g l hc hg hn hl => judged_c 117 (softS c) c hc (fun sq h1 h2 => soft_c c hc sq h1 h2) (fun sq _ => softS_length c sq) g l hg hn hl)] 800 ?_)
  obtain ⟨o, g, l⟩ := x
  delta c58
  simp (maxSteps := 4000000) -implicitDefEqProofs only [rv58, e114, e115, enc_recv, decV_recv, Ent.of0, Ent.of1, Ent.of2, Ent.of3, V, bV, bl, bu, bW, cM, cT, gt, lk, cb, cG, ce, bX, cg, cn, cn.subCs, cV, a3, bh, bO, ax, bH, bJ, aC, bK, bw, aV, bv, av, cC, cO, cQ, ag, aK, bQ, bS, b0, cU, cR, aD, au, bY, bo, zC, argS, bE, cI, cY, cN, ai, aw, aI, aU, co, leC, cm, bZ, cd, c7, bN, aM, aX, cW, an, cr, a7, a7.viewCs, a9, a9.flatCs, aG, aG.LensOks, Value.oneCell', ↓reduceIte, ite_true, ite_false, if_true, if_false, Nat.reduceAdd, Nat.reduceSub, Nat.reduceMul, Nat.reduceEqDiff, Nat.reduceLT, Nat.reduceLeDiff, reduceCtorEq, Int.reduceToNat, forall_const, implies_true, a5, Ent.mk3, bF, bp, bA, a8, br, bj, bL, bC, a6, a4, bm, bP, bz, cP, rn, cz, cz.renCs, aE, aF, aQ, aQ.viewOks, az, bq, bq.flatBs, ay, ar, aA, ah, aW, bM, bM.keysBs, aT, am, aZ, bR, be, cq, ae, ae.passKs, aN, aY, af, af.lendKs, cJ, cp, cu, bD, setInn, ap, cL, cS, aR, bn, cj, bT, aJ, aO, Glob.gl, aP, cF, bG, cc, bg, ak, cH, cZ, cB, c6, cK, aj, aj.ptrOnlys, aq, aB, cD, aH, bf, bI, ca, aL, bB, bU, Nat.reduceBEq, undef]
  by_cases h : recvErr ⟨o, g, l⟩ = 0
  · simp only [h, if_true, decide_true, judgeAll, Bool.false_eq_true, if_false, not_true_eq_false, decide_false, true_and]
  · rw [if_pos h, if_neg h]; trivial
def e58 : Ent Try.prog := .of1 58 (fun _ => True) (fun x : Recv => .tup [enc (if recvErr x = 0 then judgeAll softS x else []), enc (recvErr x)]) (fun _ => ⟨trivial, trivial, trivial⟩) (fun x _ => Soft_c x)
theorem Hard_c (x : Recv) : FC Try.prog 56 [enc x] [] (.tup [enc (if recvErr x = 0 then judgeAll hardS x else []), enc (recvErr x)]) [] := by
  refine fc_intro' is56 (by simp) (fun cx hl => S_run [e114, e115 116 hardS (fun c g l hc hg hn hl => judged_c 116 (hardS c) c hc (fun sq h1 _ => hard_c c hc sq h1) (fun sq h => hardS_length hc h) g l hg hn hl)] 800 ?_)
  obtain ⟨o, g, l⟩ := x
  delta c56
  simp (maxSteps := 4000000) -implicitDefEqProofs only [rv56, e114, e115, enc_recv, decV_recv, Ent.of0, Ent.of1, Ent.of2, Ent.of3, V, bV, bl, bu, bW, cM, cT, gt, lk, cb, cG, ce, bX, cg, cn, cn.subCs, cV, a3, bh, bO, ax, bH, bJ, aC, bK, bw, aV, bv, av, cC, cO, cQ, ag, aK, bQ, bS, b0, cU, cR, aD, au, bY, bo, zC, argS, bE, cI, cY, cN, ai, aw, aI, aU, co, leC, cm, bZ, cd, c7, bN, aM, aX, cW, an, cr, a7, a7.viewCs, a9, a9.flatCs, aG, aG.LensOks, Value.oneCell', ↓reduceIte, ite_true, ite_false, if_true, if_false, Nat.reduceAdd, Nat.reduceSub, Nat.reduceMul, Nat.reduceEqDiff, Nat.reduceLT, Nat.reduceLeDiff, reduceCtorEq, Int.reduceToNat, forall_const, implies_true, a5, Ent.mk3, bF, bp, bA, a8, br, bj, bL, bC, a6, a4, bm, bP, bz, cP, rn, cz, cz.renCs, aE, aF, aQ, aQ.viewOks, az, bq, bq.flatBs, ay, ar, aA, ah, aW, bM, bM.keysBs, aT, am, aZ, bR, be, cq, ae, ae.passKs, aN, aY, af, af.lendKs, cJ, cp, cu, bD, setInn, ap, cL, cS, aR, bn, cj, bT, aJ, aO, Glob.gl, aP, cF, bG, cc, bg, ak, cH, cZ, cB, c6, cK, aj, aj.ptrOnlys, aq, aB, cD, aH, bf, bI, ca, aL, bB, bU, Nat.reduceBEq, undef]
  by_cases h : recvErr ⟨o, g, l⟩ = 0
  · simp only [h, if_true, decide_true, judgeAll, Bool.false_eq_true, if_false, not_true_eq_false, decide_false, true_and]
  · rw [if_pos h, if_neg h]; trivial
def e56 : Ent Try.prog := .of1 56 (fun _ => True) (fun x : Recv => .tup [enc (if recvErr x = 0 then judgeAll hardS x else []), enc (recvErr x)]) (fun _ => ⟨trivial, trivial, trivial⟩) (fun x _ => Hard_c x)
end Go.Proofs.Ytfgpbmjmoobcnaa
end
section
open Go Go.Am
open Go.Am.Dat (cells)
namespace Go.Proofs.Ytfgpbmjmoobcnaa
set_option maxHeartbeats 4000000
set_option maxRecDepth 20000
set_option linter.unusedSimpArgs false
theorem rowsD_c (w : List (List Fz)) (m : List (List Gs)) (h : RowsOk w m) : FC Try.prog 87 [enc w] [] (.own 3) [(3, .deep 2 48 35 none (m.map fun r => r.map cells))] := by
  refine fc_introC [3] D.is87 (by simp) trivial trivial (by simp [aM, aX, bO]) trivial (fun cx _ hl _ => S_run [] 800 ?_)
  obtain ⟨hrep, hm, hr, hb⟩ := h
  have hwm := hrep.1
  delta D.c87
  simp (maxSteps := 4000000) -implicitDefEqProofs only [D.rv87, Ent.of0, Ent.of1, Ent.of2, Ent.of3, V, bV, bl, bu, bW, cM, cT, gt, lk, cb, cG, ce, bX, cg, cn, cn.subCs, cV, a3, bh, bO, ax, bH, bJ, aC, bK, bw, aV, bv, av, cC, cO, cQ, ag, aK, bQ, bS, b0, cU, cR, aD, au, bY, bo, zC, argS, bE, cI, cY, cN, ai, aw, aI, aU, co, leC, cm, bZ, cd, c7, bN, aM, aX, cW, an, cr, a7, a7.viewCs, a9, a9.flatCs, aG, aG.LensOks, Value.oneCell', ↓reduceIte, ite_true, ite_false, if_true, if_false, Nat.reduceAdd, Nat.reduceSub, Nat.reduceMul, Nat.reduceEqDiff, Nat.reduceLT, Nat.reduceLeDiff, reduceCtorEq, Int.reduceToNat, forall_const, implies_true, a5, Ent.mk3, bF, bp, bA, a8, br, bj, bL, bC, a6, a4, bm, bP, bz, cP, rn, cz, cz.renCs, aE, aF, aQ, aQ.viewOks, az, bq, bq.flatBs, ay, ar, aA, ah, aW, bM, bM.keysBs, aT, am, aZ, bR, be, cq, ae, ae.passKs, aN, aY, af, af.lendKs, cJ, cp, cu, bD, setInn, ap, cL, cS, aR, bn, cj, bT, aJ, aO, Glob.gl, aP, cF, bG, cc, bg, ak, cH, cZ, cB, c6, cK, aj, aj.ptrOnlys, aq, aB, cD, aH, bf, bI, ca, aL, bB, bU, Nat.reduceBEq, undef]
  refine ⟨by simp, ?_⟩
  refine S_forU w.length (fun i => [(11, .s (.int .i64 i))]) (fun i => [(3, .deep 2 48 35 none ((m.take i).map fun r => r.map cells))]) (fun _ => True) trivial ?_ (fun i hi _ => S_run [] 800 ?_)
  · simp (maxSteps := 4000000) -implicitDefEqProofs only [Ent.of0, Ent.of1, Ent.of2, Ent.of3, V, bV, bl, bu, bW, cM, cT, gt, lk, cb, cG, ce, bX, cg, cn, cn.subCs, cV, a3, bh, bO, ax, bH, bJ, aC, bK, bw, aV, bv, av, cC, cO, cQ, ag, aK, bQ, bS, b0, cU, cR, aD, au, bY, bo, zC, argS, bE, cI, cY, cN, ai, aw, aI, aU, co, leC, cm, bZ, cd, c7, bN, aM, aX, cW, an, cr, a7, a7.viewCs, a9, a9.flatCs, aG, aG.LensOks, Value.oneCell', ↓reduceIte, ite_true, ite_false, if_true, if_false, Nat.reduceAdd, Nat.reduceSub, Nat.reduceMul, Nat.reduceEqDiff, Nat.reduceLT, Nat.reduceLeDiff, reduceCtorEq, Int.reduceToNat, forall_const, implies_true, a5, Ent.mk3, bF, bp, bA, a8, br, bj, bL, bC, a6, a4, bm, bP, bz, cP, rn, cz, cz.renCs, aE, aF, aQ, aQ.viewOks, az, bq, bq.flatBs, ay, ar, aA, ah, aW, bM, bM.keysBs, aT, am, aZ, bR, be, cq, ae, ae.passKs, aN, aY, af, af.lendKs, cJ, cp, cu, bD, setInn, ap, cL, cS, aR, bn, cj, bT, aJ, aO, Glob.gl, aP, cF, bG, cc, bg, ak, cH, cZ, cB, c6, cK, aj, aj.ptrOnlys, aq, aB, cD, aH, bf, bI, ca, aL, bB, bU, Nat.reduceBEq, undef]; simp
  · delta D.c87l2
    by_cases h : i < w.length
    · have hi2 : (i : Int) < (w.length : Int) := by omega
      have him : i < m.length := by omega
      have hrl := hr _ (getD_mem [] him)
      have hbl := hb _ (getD_mem [] him)
      obtain ⟨q1, q2⟩ := hrep.2 i him
      have htkm : ((m.take i).map fun r => r.map cells) ++ [(m.getD i []).map cells] = (m.take (i + 1)).map fun r => r.map cells := by
        rw [take_getD [] him, List.map_append]; rfl
      have htlm : (m.take i).length = i := by rw [List.length_take]; omega
      simp (maxSteps := 4000000) -implicitDefEqProofs only [sz_fz, hi2, getD_list, h, Ent.of0, Ent.of1, Ent.of2, Ent.of3, V, bV, bl, bu, bW, cM, cT, gt, lk, cb, cG, ce, bX, cg, cn, cn.subCs, cV, a3, bh, bO, ax, bH, bJ, aC, bK, bw, aV, bv, av, cC, cO, cQ, ag, aK, bQ, bS, b0, cU, cR, aD, au, bY, bo, zC, argS, bE, cI, cY, cN, ai, aw, aI, aU, co, leC, cm, bZ, cd, c7, bN, aM, aX, cW, an, cr, a7, a7.viewCs, a9, a9.flatCs, aG, aG.LensOks, Value.oneCell', ↓reduceIte, ite_true, ite_false, if_true, if_false, Nat.reduceAdd, Nat.reduceSub, Nat.reduceMul, Nat.reduceEqDiff, Nat.reduceLT, Nat.reduceLeDiff, reduceCtorEq, Int.reduceToNat, forall_const, implies_true, a5, Ent.mk3, bF, bp, bA, a8, br, bj, bL, bC, a6, a4, bm, bP, bz, cP, rn, cz, cz.renCs, aE, aF, aQ, aQ.viewOks, az, bq, bq.flatBs, ay, ar, aA, ah, aW, bM, bM.keysBs, aT, am, aZ, bR, be, cq, ae, ae.passKs, aN, aY, af, af.lendKs, cJ, cp, cu, bD, setInn, ap, cL, cS, aR, bn, cj, bT, aJ, aO, Glob.gl, aP, cF, bG, cc, bg, ak, cH, cZ, cB, c6, cK, aj, aj.ptrOnlys, aq, aB, cD, aH, bf, bI, ca, aL, bB, bU, Nat.reduceBEq, undef]
      refine ⟨by omega, ?_⟩
      generalize hR : w.getD i [] = R at *
      generalize hG : m.getD i [] = G at *
      refine S_forU R.length (fun j => [(17, .s (.int .i64 j))]) (fun j => [(6, .row 2 48 ((G.take j).map cells))]) (fun _ => True) trivial ?_ (fun j hj _ => S_run [] 800 ?_)
      · simp (maxSteps := 4000000) -implicitDefEqProofs only [Ent.of0, Ent.of1, Ent.of2, Ent.of3, V, bV, bl, bu, bW, cM, cT, gt, lk, cb, cG, ce, bX, cg, cn, cn.subCs, cV, a3, bh, bO, ax, bH, bJ, aC, bK, bw, aV, bv, av, cC, cO, cQ, ag, aK, bQ, bS, b0, cU, cR, aD, au, bY, bo, zC, argS, bE, cI, cY, cN, ai, aw, aI, aU, co, leC, cm, bZ, cd, c7, bN, aM, aX, cW, an, cr, a7, a7.viewCs, a9, a9.flatCs, aG, aG.LensOks, Value.oneCell', ↓reduceIte, ite_true, ite_false, if_true, if_false, Nat.reduceAdd, Nat.reduceSub, Nat.reduceMul, Nat.reduceEqDiff, Nat.reduceLT, Nat.reduceLeDiff, reduceCtorEq, Int.reduceToNat, forall_const, implies_true, a5, Ent.mk3, bF, bp, bA, a8, br, bj, bL, bC, a6, a4, bm, bP, bz, cP, rn, cz, cz.renCs, aE, aF, aQ, aQ.viewOks, az, bq, bq.flatBs, ay, ar, aA, ah, aW, bM, bM.keysBs, aT, am, aZ, bR, be, cq, ae, ae.passKs, aN, aY, af, af.lendKs, cJ, cp, cu, bD, setInn, ap, cL, cS, aR, bn, cj, bT, aJ, aO, Glob.gl, aP, cF, bG, cc, bg, ak, cH, cZ, cB, c6, cK, aj, aj.ptrOnlys, aq, aB, cD, aH, bf, bI, ca, aL, bB, bU, Nat.reduceBEq, undef]; simp
      · delta D.c87l1
        by_cases hjl : j < R.length
        · have hj2 : (j : Int) < (R.length : Int) := by omega
          have hjG : j < G.length := by omega
          have htk : (G.take j).map cells ++ [[C.s (.int .i64 (G.getD j ⟨0, 0⟩).re), C.s (.int .i64 (G.getD j ⟨0, 0⟩).im)]] = (G.take (j + 1)).map cells := by
            rw [take_getD ⟨0, 0⟩ hjG, List.map_append]; rfl
          have htl : (G.take j).length = j := by rw [List.length_take]; omega
          obtain ⟨z1, z2⟩ := q2 j hjG
          have t1 := toInt_F z1
          have t2 := toInt_F z2
          obtain ⟨b1, b2⟩ := hbl _ (getD_mem ⟨0, 0⟩ hjG)
          simp (maxSteps := 4000000) -implicitDefEqProofs only [hj2, hjl, cC, getD_fz, t1, t2, htk, htl, IntKind.min, IntKind.max, IntKind.signed, IntKind.bits, InR, Ent.of0, Ent.of1, Ent.of2, Ent.of3, V, bV, bl, bu, bW, cM, cT, gt, lk, cb, cG, ce, bX, cg, cn, cn.subCs, cV, a3, bh, bO, ax, bH, bJ, aC, bK, bw, aV, bv, av, cC, cO, cQ, ag, aK, bQ, bS, b0, cU, cR, aD, au, bY, bo, zC, argS, bE, cI, cY, cN, ai, aw, aI, aU, co, leC, cm, bZ, cd, c7, bN, aM, aX, cW, an, cr, a7, a7.viewCs, a9, a9.flatCs, aG, aG.LensOks, Value.oneCell', ↓reduceIte, ite_true, ite_false, if_true, if_false, Nat.reduceAdd, Nat.reduceSub, Nat.reduceMul, Nat.reduceEqDiff, Nat.reduceLT, Nat.reduceLeDiff, reduceCtorEq, Int.reduceToNat, forall_const, implies_true, a5, Ent.mk3, bF, bp, bA, a8, br, bj, bL, bC, a6, a4, bm, bP, bz, cP, rn, cz, cz.renCs, aE, aF, aQ, aQ.viewOks, az, bq, bq.flatBs, ay, ar, aA, ah, aW, bM, bM.keysBs, aT, am, aZ, bR, be, cq, ae, ae.passKs, aN, aY, af, af.lendKs, cJ, cp, cu, bD, setInn, ap, cL, cS, aR, bn, cj, bT, aJ, aO, Glob.gl, aP, cF, bG, cc, bg, ak, cH, cZ, cB, c6, cK, aj, aj.ptrOnlys, aq, aB, cD, aH, bf, bI, ca, aL, bB, bU, Nat.reduceBEq, undef]
          simp only [Int.reducePow] at *
          and_intros <;> first | omega | rfl | trivial
        · have : j = R.length := by omega
          subst this
          have hj2 : ¬ (R.length : Int) < (R.length : Int) := by omega
          have hG2 : G.take R.length = G := by rw [q1]; exact List.take_length
          simp (maxSteps := 4000000) -implicitDefEqProofs only [hj2, hG2, htkm, htlm, InR, Ent.of0, Ent.of1, Ent.of2, Ent.of3, V, bV, bl, bu, bW, cM, cT, gt, lk, cb, cG, ce, bX, cg, cn, cn.subCs, cV, a3, bh, bO, ax, bH, bJ, aC, bK, bw, aV, bv, av, cC, cO, cQ, ag, aK, bQ, bS, b0, cU, cR, aD, au, bY, bo, zC, argS, bE, cI, cY, cN, ai, aw, aI, aU, co, leC, cm, bZ, cd, c7, bN, aM, aX, cW, an, cr, a7, a7.viewCs, a9, a9.flatCs, aG, aG.LensOks, Value.oneCell', ↓reduceIte, ite_true, ite_false, if_true, if_false, Nat.reduceAdd, Nat.reduceSub, Nat.reduceMul, Nat.reduceEqDiff, Nat.reduceLT, Nat.reduceLeDiff, reduceCtorEq, Int.reduceToNat, forall_const, implies_true, a5, Ent.mk3, bF, bp, bA, a8, br, bj, bL, bC, a6, a4, bm, bP, bz, cP, rn, cz, cz.renCs, aE, aF, aQ, aQ.viewOks, az, bq, bq.flatBs, ay, ar, aA, ah, aW, bM, bM.keysBs, aT, am, aZ, bR, be, cq, ae, ae.passKs, aN, aY, af, af.lendKs, cJ, cp, cu, bD, setInn, ap, cL, cS, aR, bn, cj, bT, aJ, aO, Glob.gl, aP, cF, bG, cc, bg, ak, cH, cZ, cB, c6, cK, aj, aj.ptrOnlys, aq, aB, cD, aH, bf, bI, ca, aL, bB, bU, Nat.reduceBEq, undef]
          and_intros <;> first | omega | rfl | trivial
    · have : i = w.length := by omega
      subst this
      have hi2 : ¬ (w.length : Int) < (w.length : Int) := by omega
      have hm2 : m.take w.length = m := by rw [hwm]; exact List.take_length
      simp (maxSteps := 4000000) -implicitDefEqProofs only [hi2, D.rv87, hm2, Ent.of0, Ent.of1, Ent.of2, Ent.of3, V, bV, bl, bu, bW, cM, cT, gt, lk, cb, cG, ce, bX, cg, cn, cn.subCs, cV, a3, bh, bO, ax, bH, bJ, aC, bK, bw, aV, bv, av, cC, cO, cQ, ag, aK, bQ, bS, b0, cU, cR, aD, au, bY, bo, zC, argS, bE, cI, cY, cN, ai, aw, aI, aU, co, leC, cm, bZ, cd, c7, bN, aM, aX, cW, an, cr, a7, a7.viewCs, a9, a9.flatCs, aG, aG.LensOks, Value.oneCell', ↓reduceIte, ite_true, ite_false, if_true, if_false, Nat.reduceAdd, Nat.reduceSub, Nat.reduceMul, Nat.reduceEqDiff, Nat.reduceLT, Nat.reduceLeDiff, reduceCtorEq, Int.reduceToNat, forall_const, implies_true, a5, Ent.mk3, bF, bp, bA, a8, br, bj, bL, bC, a6, a4, bm, bP, bz, cP, rn, cz, cz.renCs, aE, aF, aQ, aQ.viewOks, az, bq, bq.flatBs, ay, ar, aA, ah, aW, bM, bM.keysBs, aT, am, aZ, bR, be, cq, ae, ae.passKs, aN, aY, af, af.lendKs, cJ, cp, cu, bD, setInn, ap, cL, cS, aR, bn, cj, bT, aJ, aO, Glob.gl, aP, cF, bG, cc, bg, ak, cH, cZ, cB, c6, cK, aj, aj.ptrOnlys, aq, aB, cD, aH, bf, bI, ca, aL, bB, bU, Nat.reduceBEq, undef]
def adjS (m : List (List Gs)) : List (List Gs) :=
  match m with
  | [[_]] => [[⟨1, 0⟩]]
  | [[a, b], [c, d]] => [[d, gsub ⟨0, 0⟩ b], [gsub ⟨0, 0⟩ c, a]]
  | _ => []
theorem zadd {b : Gs} (hb : bd b 1000) : addOk ⟨0, 0⟩ b := ⟨0, 1000, ⟨by simp, by simp⟩, hb, by omega⟩
theorem adj1_c (a : Gs) : FC Try.prog 85 [enc [[a]]] [] (enc (adjS [[a]])) [] := by
  refine fc_intro' is85 (by simp) (fun cx hl => S_run [e113] 800 ?_)
  delta c85
  simp (maxSteps := 4000000) -implicitDefEqProofs only [rv85, e113, adjS, Int.cast_ofNat_Int, Int.natCast_one, Int.natCast_zero, Int.reduceAdd, Int.reduceSub, Int.reduceMul, Int.reduceLT, Int.reduceLE, Int.reduceTMod, Int.reduceTDiv, Int.reduceNeg, Int.reduceEq, Nat.reducePow, Int.reducePow, ne_eq, not_false_eq_true, Ent.of0, Ent.of1, Ent.of2, Ent.of3, V, bV, bl, bu, bW, cM, cT, gt, lk, cb, cG, ce, bX, cg, cn, cn.subCs, cV, a3, bh, bO, ax, bH, bJ, aC, bK, bw, aV, bv, av, cC, cO, cQ, ag, aK, bQ, bS, b0, cU, cR, aD, au, bY, bo, zC, argS, bE, cI, cY, cN, ai, aw, aI, aU, co, leC, cm, bZ, cd, c7, bN, aM, aX, cW, an, cr, a7, a7.viewCs, a9, a9.flatCs, aG, aG.LensOks, Value.oneCell', ↓reduceIte, ite_true, ite_false, if_true, if_false, Nat.reduceAdd, Nat.reduceSub, Nat.reduceMul, Nat.reduceEqDiff, Nat.reduceLT, Nat.reduceLeDiff, reduceCtorEq, Int.reduceToNat, forall_const, implies_true, a5, Ent.mk3, bF, bp, bA, a8, br, bj, bL, bC, a6, a4, bm, bP, bz, cP, rn, cz, cz.renCs, aE, aF, aQ, aQ.viewOks, az, bq, bq.flatBs, ay, ar, aA, ah, aW, bM, bM.keysBs, aT, am, aZ, bR, be, cq, ae, ae.passKs, aN, aY, af, af.lendKs, cJ, cp, cu, bD, setInn, ap, cL, cS, aR, bn, cj, bT, aJ, aO, Glob.gl, aP, cF, bG, cc, bg, ak, cH, cZ, cB, c6, cK, aj, aj.ptrOnlys, aq, aB, cD, aH, bf, bI, ca, aL, bB, bU, Nat.reduceBEq, undef]
theorem adj2_c (a b c d : Gs) (h1 : bd b 1000) (h2 : bd c 1000) : FC Try.prog 85 [enc [[a, b], [c, d]]] [] (enc (adjS [[a, b], [c, d]])) [] := by
  have m1 := zadd h1
  have m2 := zadd h2
  refine fc_intro' is85 (by simp) (fun cx hl => S_run [e113] 800 ?_)
  delta c85
  simp (maxSteps := 4000000) -implicitDefEqProofs only [rv85, e113, adjS, m1, m2, gs_eta, Int.cast_ofNat_Int, Int.natCast_one, Int.natCast_zero, Int.reduceAdd, Int.reduceSub, Int.reduceMul, Int.reduceLT, Int.reduceLE, Int.reduceTMod, Int.reduceTDiv, Int.reduceNeg, Int.reduceEq, Nat.reducePow, Int.reducePow, ne_eq, not_false_eq_true, Ent.of0, Ent.of1, Ent.of2, Ent.of3, V, bV, bl, bu, bW, cM, cT, gt, lk, cb, cG, ce, bX, cg, cn, cn.subCs, cV, a3, bh, bO, ax, bH, bJ, aC, bK, bw, aV, bv, av, cC, cO, cQ, ag, aK, bQ, bS, b0, cU, cR, aD, au, bY, bo, zC, argS, bE, cI, cY, cN, ai, aw, aI, aU, co, leC, cm, bZ, cd, c7, bN, aM, aX, cW, an, cr, a7, a7.viewCs, a9, a9.flatCs, aG, aG.LensOks, Value.oneCell', ↓reduceIte, ite_true, ite_false, if_true, if_false, Nat.reduceAdd, Nat.reduceSub, Nat.reduceMul, Nat.reduceEqDiff, Nat.reduceLT, Nat.reduceLeDiff, reduceCtorEq, Int.reduceToNat, forall_const, implies_true, a5, Ent.mk3, bF, bp, bA, a8, br, bj, bL, bC, a6, a4, bm, bP, bz, cP, rn, cz, cz.renCs, aE, aF, aQ, aQ.viewOks, az, bq, bq.flatBs, ay, ar, aA, ah, aW, bM, bM.keysBs, aT, am, aZ, bR, be, cq, ae, ae.passKs, aN, aY, af, af.lendKs, cJ, cp, cu, bD, setInn, ap, cL, cS, aR, bn, cj, bT, aJ, aO, Glob.gl, aP, cF, bG, cc, bg, ak, cH, cZ, cB, c6, cK, aj, aj.ptrOnlys, aq, aB, cD, aH, bf, bI, ca, aL, bB, bU, Nat.reduceBEq, undef]
end Go.Proofs.Ytfgpbmjmoobcnaa
end
section
open Go Go.Am
open Go.Am.Dat (cells)
namespace Go.Proofs.Ytfgpbmjmoobcnaa
set_option maxHeartbeats 4000000
set_option maxRecDepth 20000
set_option linter.unusedSimpArgs false
def xjC (F : Gs → Gs) (x : List Gs) (j : Nat) : List (List C) := ((x.take j).map F ++ x.drop j).map cells
def riC (F : Gs → Gs) (O : List (List Gs)) (i : Nat) : List (List (List C)) := ((O.take i).map (fun x => x.map F) ++ O.drop i).map fun r => r.map cells
def rjC (F : Gs → Gs) (O : List (List Gs)) (i j : Nat) : List (List (List C)) := ((O.take i).map fun x => (x.map F).map cells) ++ xjC F (O.getD i []) j :: (O.drop (i + 1)).map fun r => r.map cells
variable {F : Gs → Gs} {O : List (List Gs)} {x : List Gs} {i j : Nat}
theorem xjC_length (h : j ≤ x.length) : (xjC F x j).length = x.length := by
  simp [xjC]; omega
theorem xjC_get (h : j < x.length) (d : List C) : (xjC F x j).getD j d = cells (x.getD j ⟨0, 0⟩) := by
  have e : x.drop j = x.getD j ⟨0, 0⟩ :: x.drop (j + 1) := drop_getD _ h
  have hl : ((x.take j).map F).length = j := by simp; omega
  rw [xjC, e, List.map_append, List.getD_eq_getElem?_getD, List.getElem?_append_right (by simp; omega)]
  simp [Nat.min_eq_left (Nat.le_of_lt h)]
theorem xjC_set (h : j < x.length) : (xjC F x j).set j (cells (F (x.getD j ⟨0, 0⟩))) = xjC F x (j + 1) := by
  have e : x.drop j = x.getD j ⟨0, 0⟩ :: x.drop (j + 1) := drop_getD _ h
  have hl : ((x.take j).map F).length = j := by simp; omega
  rw [xjC, xjC, e, take_getD ⟨0, 0⟩ h]
  simp only [List.map_append, List.map_cons, List.map_nil, List.append_assoc, List.cons_append, List.nil_append]
  rw [List.set_append_right _ _ (by simp; omega)]
  simp [Nat.min_eq_left (Nat.le_of_lt h)]
theorem xjC_get' (h : j < x.length) (d : List C) : (xjC F x (j + 1)).getD j d = cells (F (x.getD j ⟨0, 0⟩)) := by
  rw [← xjC_set h, List.getD_eq_getElem?_getD, List.getElem?_set_self (by rw [xjC_length (by omega)]; exact h)]; rfl
theorem rjC_length (h : i < O.length) : (rjC F O i j).length = O.length := by
  simp [rjC]; omega
theorem rjC_get (h : i < O.length) (d : List (List C)) : (rjC F O i j).getD i d = xjC F (O.getD i []) j := by
  rw [rjC, List.getD_eq_getElem?_getD, List.getElem?_append_right (by simp; omega)]
  simp [Nat.min_eq_left (Nat.le_of_lt h)]
theorem rjC_set (h : i < O.length) : (rjC F O i j).set i (xjC F (O.getD i []) (j + 1)) = rjC F O i (j + 1) := by
  rw [rjC, rjC, List.set_append_right _ _ (by simp; omega)]
  simp [Nat.min_eq_left (Nat.le_of_lt h)]
theorem riC_rj (h : i < O.length) : riC F O i = rjC F O i 0 := by
  have e : O.drop i = O.getD i [] :: O.drop (i + 1) := drop_getD _ h
  rw [riC, rjC, e, List.map_append, List.map_map]
  simp [xjC, Function.comp_def]
theorem rjC_ri (h : i < O.length) : rjC F O i (O.getD i []).length = riC F O (i + 1) := by
  rw [riC, rjC, take_getD [] h]
  simp [xjC, Function.comp_def]
theorem riC_zero : riC F O 0 = O.map fun r => r.map cells := by simp [riC]
theorem riC_all : riC F O O.length = (O.map fun x => x.map F).map fun r => r.map cells := by simp [riC]
end Go.Proofs.Ytfgpbmjmoobcnaa
end
section
open Go Go.Am
open Go.Am.Dat (cells)
namespace Go.Proofs.Ytfgpbmjmoobcnaa
set_option maxHeartbeats 4000000
set_option maxRecDepth 20000
set_option linter.unusedSimpArgs false
def adjOk (m : List (List Gs)) : Prop := (∃ a, m = [[a]]) ∨ ∃ a b c d, m = [[a, b], [c, d]] ∧ bd b 1000 ∧ bd c 1000
def e85 : Ent Try.prog := .of1 85 adjOk (fun m : List (List Gs) => enc (adjS m)) (fun _ => trivial) (fun m h => by
  rcases h with ⟨a, rfl⟩ | ⟨a, b, c, d, rfl, h1, h2⟩
  · exact adj1_c a
  · exact adj2_c a b c d h1 h2)
def timesOk (a o : List (List Fz)) : Prop := ∃ m ls A B, Fits m ls A B ∧ 8 * (A * B) ≤ 9007199254740991 ∧ RepM a m ∧ RepM o ls
def e86 : Ent Try.prog := .of2 86 timesOk (fun a o : List (List Fz) => enc (timesW a o)) (fun _ _ => trivial) (fun a o h => by
  obtain ⟨m, ls, A, B, h1, h2, h3, h4⟩ := h
  exact gridTimes_c a o m ls A B h1 h2 h3 h4)
def e87D : Ent Try.prog := .mk3 87 (fun args chs => match args, chs with
    | [.sl 1 t], [] => (decL t : Option (List (List Fz))).bind fun w => some (RowsOk w (ofM w), .own 3, [(3, .deep 2 48 35 none ((ofM w).map fun r => r.map cells))], [3])
    | _, _ => none) (by
  intro args chs p r chs' nk hs hp
  split at hs
  · simp only [Option.bind_eq_some_iff, Option.some.injEq, Prod.mk.injEq] at hs
    obtain ⟨w, hw, rfl, rfl, rfl, rfl⟩ := hs
    have := decL_ok hw
    subst this
    refine ⟨rowsD_c w _ hp, ⟨fun k c h => .inl ?_, fun k cs h => by simp at h, by simp [keysIn], fun k c h => ?_⟩⟩
    · simp only [List.mem_singleton, Prod.mk.injEq] at h; rw [h.1]; exact List.mem_singleton.2 rfl
    · simp only [List.mem_singleton, Prod.mk.injEq] at h; rw [h.2]; trivial
  · cases hs)
theorem sym_of {l : List Gs} (h : symErr l = 0) : 0 < l.length ∧ l.length ≤ 200 ∧ ∀ g ∈ l, bd g 100000000 := by
  unfold symErr at h
  split at h
  · cases h
  · split at h
    · cases h
    · split at h
      · rename_i h1 h2 h3
        exact ⟨by omega, by omega, fun g hg => smallG_bd (by simpa using List.all_eq_true.1 h3 g hg)⟩
      · cases h
theorem lay_of {r : List (List Gs)} (h : layErr r = 0) : 0 < r.length ∧ r.length ≤ 4 ∧ ∀ x ∈ r, x.length = (r.getD 0 []).length ∧ 0 < x.length ∧ x.length ≤ 200 ∧ ∀ g ∈ x, bd g 100000000 := by
  unfold layErr at h
  split at h
  · cases h
  · split at h
    · cases h
    · refine ⟨by omega, by omega, fun x hx => ?_⟩
      have := firstS_zero h _ (List.mem_map.2 ⟨x, hx, rfl⟩)
      by_cases h1 : symErr x = 0
      · rw [if_neg (by simpa using h1)] at this
        obtain ⟨q1, q2, q3⟩ := sym_of h1
        refine ⟨?_, q1, q2, q3⟩
        split at this
        · cases this
        · omega
      · rw [if_pos h1] at this; exact absurd this h1
theorem det_of {m : List (List Gs)} (h : symDetE m = 0) : adjOk m ∧ (∀ x ∈ m, x.length = m.length ∧ ∀ g ∈ x, bd g 1000) ∧ 0 < m.length ∧ m.length ≤ 2 := by
  unfold symDetE at h
  by_cases h1 : matErr m = 0
  · rw [if_neg (by simpa using h1)] at h
    have hr := right_of h1
    unfold detE at h
    split at h
    · cases h
    · split at h
      · cases h
      · rename_i h2 h3
        have hb : ∀ x ∈ m, x.length = m.length ∧ ∀ g ∈ x, bd g 1000 := fun x hx => ⟨by have := (hr.row x hx).1; omega, fun g hg => smallG_bd ((hr.row x hx).2.2.2 g hg)⟩
        refine ⟨?_, hb, hr.pos, by omega⟩
        match m, hb, hr.pos, h3 with
        | [x], hb, _, _ =>
          obtain ⟨q1, q2⟩ := hb x (by simp)
          match x, q1 with
          | [a], _ => exact .inl ⟨a, rfl⟩
        | [x, y], hb, _, _ =>
          obtain ⟨q1, q2⟩ := hb x (by simp)
          obtain ⟨q3, q4⟩ := hb y (by simp)
          match x, y, q1, q3, q2, q4 with
          | [a, b], [c, d], _, _, q2, q4 => exact .inr ⟨a, b, c, d, rfl, q2 b (by simp), q4 c (by simp)⟩
        | _ :: _ :: _ :: _, _, _, h3 => simp at h3
  · rw [if_pos h1] at h; exact absurd h h1
theorem adjS_length {m : List (List Gs)} (ha : adjOk m) : (adjS m).length = m.length ∧ ∀ x ∈ adjS m, x.length = m.length := by
  rcases ha with ⟨a, rfl⟩ | ⟨a, b, c, d, rfl, _, _⟩ <;> simp [adjS]
theorem adj_fits {m r : List (List Gs)} (ha : adjOk m) (hm : ∀ x ∈ m, x.length = m.length ∧ ∀ g ∈ x, bd g 1000) (hl : layErr r = 0) (hrm : r.length = m.length) : Fits (adjS m) r 1000 100000000 := by
  obtain ⟨h1, h2, h3⟩ := lay_of hl
  obtain ⟨g1, g2⟩ := adjS_length ha
  refine ⟨h1, h2, by omega, fun x hx => (h3 x hx).1, ?_, fun x hx => by rw [g2 x hx, hrm], ?_, fun x hx g hg => (h3 x hx).2.2.2 g hg, by omega⟩
  · have := (h3 _ (getD_mem [] h1)).2.2.1; omega
  · rcases ha with ⟨a, rfl⟩ | ⟨a, b, c, d, rfl, h1, h2⟩
    · intro x hx g hg
      simp [adjS] at hx; subst hx; simp at hg; subst hg
      constructor <;> simp
    · have ha := (hm [a, b] (by simp)).2 a (by simp)
      have hd := (hm [c, d] (by simp)).2 d (by simp)
      intro x hx g hg
      simp only [bd] at *
      simp only [adjS, List.mem_cons, List.not_mem_nil, or_false] at hx
      rcases hx with rfl | rfl <;> simp only [List.mem_cons, List.not_mem_nil, or_false] at hg <;> rcases hg with rfl | rfl <;> (try simp only [gsub]) <;> omega
def eqErr (m r : List (List Gs)) : Int := firstS [symDetE m, layErr r, if r.length = m.length then 0 else 13, if symDetS m = ⟨0, 0⟩ then 27 else 0]
def gainS (m : List (List Gs)) : Int := (gmul (symDetS m) (gconj (symDetS m))).re
def eqOut (m r : List (List Gs)) : List (List Gs) := (applS (adjS m) r).map fun x => x.map (gmul (gconj (symDetS m)))
def eqE (m r : List (List Gs)) : Int := if eqErr m r ≠ 0 then eqErr m r else if gainS m > 10000000 then 8 else if (eqOut m r).all fun x => x.all (smallG · 100000000) then 0 else 8
theorem Equalized_c (m r : List (List Gs)) : FC Try.prog 17 [enc m, enc r] [] (.tup [enc (if eqE m r = 0 then eqOut m r else []), enc (if eqE m r = 0 then gainS m else 0), enc (eqE m r)]) [] := by
  refine fc_introC [] D.is17 (by simp) trivial trivial trivial trivial (fun cx _ hl _ => S_run [e49, e81, e82, e80, e83, e84, e85, e86, e87D] 800 ?_)
  have hEq : firstS [symDetE m, layErr r, if (r.length : Int) = (m.length : Int) then 0 else 13, if (decide ((symDetS m).re = 0) && decide ((symDetS m).im = 0)) = false then 0 else 27] = eqErr m r := by
    have e1 : (if (r.length : Int) = (m.length : Int) then (0 : Int) else 13) = if r.length = m.length then 0 else 13 := by
      by_cases h : r.length = m.length
      · simp [h]
      · rw [if_neg h, if_neg (by omega)]
    have e2 : (if (decide ((symDetS m).re = 0) && decide ((symDetS m).im = 0)) = false then (0 : Int) else 27) = if symDetS m = ⟨0, 0⟩ then 27 else 0 := by
      by_cases h : symDetS m = ⟨0, 0⟩
      · rw [h]; simp
      · rw [if_neg h, if_pos]
        rw [Bool.and_eq_false_iff]
        by_cases h1 : (symDetS m).re = 0
        · right
          simp only [decide_eq_false_iff_not]
          intro h2
          apply h
          cases hq : symDetS m
          rw [hq] at h1 h2
          simp only at h1 h2
          rw [h1, h2]
        · left; simpa using h1
    rw [e1, e2]; rfl
  by_cases he : eqErr m r = 0
  · have hz := firstS_zero he
    have z1 : symDetE m = 0 := hz _ (by simp)
    have z2 : layErr r = 0 := hz _ (by simp)
    have z3 : r.length = m.length := by
      have : (if r.length = m.length then (0 : Int) else 13) = 0 := hz _ (by simp)
      split at this
      · assumption
      · cases this
    obtain ⟨d1, d2, d3, d4⟩ := det_of z1
    have hf := adj_fits d1 d2 z2 z3
    obtain ⟨l1, l2, l3⟩ := lay_of z2
    have hga : RepM (gridS (adjS m)) (adjS m) := grid_rep fun x hx g hg => by
      have := hf.ma x hx g hg
      simp only [bd] at *; omega
    have hgr : RepM (gridS r) r := grid_rep fun x hx g hg => by
      have := hf.mb x hx g hg
      simp only [bd] at *; omega
    have hrep := times_rep hf (by omega) hga hgr
    have hO := ofM_c hrep
    have hOl : (applS (adjS m) r).length = m.length := by simp [applS, (adjS_length d1).1]
    rw [he] at hEq
    delta D.c17
    simp (maxSteps := 4000000) -implicitDefEqProofs only [D.rv17, e49, e81, e82, e80, e83, e84, e85, e86, e87D, hEq, hO, Ent.of0, Ent.of1, Ent.of2, Ent.of3, V, bV, bl, bu, bW, cM, cT, gt, lk, cb, cG, ce, bX, cg, cn, cn.subCs, cV, a3, bh, bO, ax, bH, bJ, aC, bK, bw, aV, bv, av, cC, cO, cQ, ag, aK, bQ, bS, b0, cU, cR, aD, au, bY, bo, zC, argS, bE, cI, cY, cN, ai, aw, aI, aU, co, leC, cm, bZ, cd, c7, bN, aM, aX, cW, an, cr, a7, a7.viewCs, a9, a9.flatCs, aG, aG.LensOks, Value.oneCell', ↓reduceIte, ite_true, ite_false, if_true, if_false, Nat.reduceAdd, Nat.reduceSub, Nat.reduceMul, Nat.reduceEqDiff, Nat.reduceLT, Nat.reduceLeDiff, reduceCtorEq, Int.reduceToNat, forall_const, implies_true, a5, Ent.mk3, bF, bp, bA, a8, br, bj, bL, bC, a6, a4, bm, bP, bz, cP, rn, cz, cz.renCs, aE, aF, aQ, aQ.viewOks, az, bq, bq.flatBs, ay, ar, aA, ah, aW, bM, bM.keysBs, aT, am, aZ, bR, be, cq, ae, ae.passKs, aN, aY, af, af.lendKs, cJ, cp, cu, bD, setInn, ap, cL, cS, aR, bn, cj, bT, aJ, aO, Glob.gl, aP, cF, bG, cc, bg, ak, cH, cZ, cB, c6, cK, aj, aj.ptrOnlys, aq, aB, cD, aH, bf, bI, ca, aL, bB, bU, Nat.reduceBEq, undef]
    have hbd : bd (symDetS m) 4000000 := by
      have e : symDetS m = detS m := by unfold symDetS symDetE at *; split at z1 <;> simp_all
      rw [e]
      rcases d1 with ⟨a, rfl⟩ | ⟨a, b, c, d, rfl, _, _⟩
      · have := (d2 [a] (by simp)).2 a (by simp)
        simp only [detS, bd] at *; omega
      · have ha := (d2 [a, b] (by simp)).2 a (by simp)
        have hb := (d2 [a, b] (by simp)).2 b (by simp)
        have hc := (d2 [c, d] (by simp)).2 c (by simp)
        have hd := (d2 [c, d] (by simp)).2 d (by simp)
        have q1 := bd_gmul ha hd
        have q2 := bd_gmul hb hc
        simp only [detS, bd, gsub] at *
        omega
    have hgc : gconj (symDetS m) = ⟨(symDetS m).re, -(symDetS m).im⟩ := rfl
    have hgain : gainS m = (gmul (symDetS m) ⟨(symDetS m).re, -(symDetS m).im⟩).re := rfl
    have hgain2 : gainS m = (symDetS m).re * (symDetS m).re + (symDetS m).im * (symDetS m).im := by
      rw [hgain]; simp only [gmul]; rw [Int.mul_neg]; omega
    have heE : eqE m r = if gainS m > 10000000 then 8 else if (eqOut m r).all fun x => x.all (smallG · 100000000) then 0 else 8 := by unfold eqE; rw [if_neg (by simpa using he)]
    have hout : eqOut m r = (applS (adjS m) r).map fun x => x.map (gmul (gconj (symDetS m))) := rfl
    refine ⟨by simp only [bd, InR] at *; omega, ⟨4000000, 4000000, hbd, by simp only [bd] at *; omega, by omega⟩, ?_⟩
    rw [← hgain]
    by_cases hG : gainS m > 10000000
    · rw [if_pos hG, heE, if_pos hG]
      exact ⟨trivial, rfl, rfl⟩
    · rw [if_neg hG]
      rw [if_neg hG] at heE
      have hal := adjS_length d1
      have hrows : ∀ x ∈ applS (adjS m) r, x.length ≤ 1000000 ∧ ∀ g ∈ x, bd g 800000000000 := fun x hx => by
        obtain ⟨row, hrow, rfl⟩ := List.mem_map.1 hx
        refine ⟨by simp only [rowS', List.length_map, List.length_range]; exact hf.short, fun g hg => ?_⟩
        obtain ⟨k, hk, rfl⟩ := List.mem_map.1 hg
        have := bd_dot hf hrow (by simpa using hk) r.length (Nat.le_refl _)
        have h4 : r.length * (2 * (1000 * 100000000)) ≤ 4 * (2 * (1000 * 100000000)) := Nat.mul_le_mul_right _ l2
        simp only [bd] at *; omega
      refine ⟨d1, ⟨by omega, fun x hx => by rw [hal.2 x hx]; omega⟩, ⟨by omega, fun x hx => by have := (l3 x hx).2.2.1; omega⟩, ⟨_, _, _, _, hf, by omega, hga, hgr⟩, ⟨hrep, by omega, fun x hx => (hrows x hx).1, fun x hx g hg => by have := (hrows x hx).2 g hg; simp only [bd] at *; omega⟩, ?_⟩
      have hback : bd (gconj (symDetS m)) 4000 := by
        have sq : ∀ a b : Int, a * a + b * b ≤ 10000000 → a.natAbs ≤ 4000 := fun a b h => by
          rcases Nat.lt_or_ge 4000 a.natAbs with h1 | h1
          · have h2 : 4001 * 4001 ≤ a.natAbs * a.natAbs := Nat.mul_le_mul h1 h1
            have h3 : ((a.natAbs * a.natAbs : Nat) : Int) = a * a := by rw [← Int.natAbs_mul_self]
            have h4 : (0 : Int) ≤ b * b := by rw [← Int.natAbs_mul_self]; omega
            omega
          · exact h1
        have q1 := sq (symDetS m).re (symDetS m).im (by omega)
        have q2 := sq (symDetS m).im (symDetS m).re (by omega)
        simp only [bd, gconj] at *; omega
      generalize hF : gmul (gconj (symDetS m)) = F at *
      generalize hOO : applS (adjS m) r = O at *
      rw [hgc] at hF hback
      have hFg : ∀ g, gmul ⟨(symDetS m).re, -(symDetS m).im⟩ g = F g := fun g => by rw [← hF]
      generalize hB : (⟨(symDetS m).re, -(symDetS m).im⟩ : Gs) = B at *
      generalize (symDetS m).re = Dr at *
      generalize (symDetS m).im = Di at *
      generalize eqE m r = E at *
      generalize eqOut m r = Out at *
      generalize gainS m = n at *
      clear hF hgain hgain2 hgc hbd hEq he hz z1 z2 z3 d1 d2 hf l3 hga hgr hrep hO hal hOO hG
      subst hB
      refine S_forU O.length (fun i => [(60, .s (.int .i64 (i : Int)))]) (fun i => [(57, .deep 2 48 35 none (riC F O i))]) (fun i => ((O.take i).all fun x => x.all fun g => smallG (F g) 100000000) = true) (by simp) ?_ (fun i hi hv => S_run [e83, e88] 800 ?_)
      · simp (maxSteps := 4000000) -implicitDefEqProofs only [riC_zero, Ent.of0, Ent.of1, Ent.of2, Ent.of3, V, bV, bl, bu, bW, cM, cT, gt, lk, cb, cG, ce, bX, cg, cn, cn.subCs, cV, a3, bh, bO, ax, bH, bJ, aC, bK, bw, aV, bv, av, cC, cO, cQ, ag, aK, bQ, bS, b0, cU, cR, aD, au, bY, bo, zC, argS, bE, cI, cY, cN, ai, aw, aI, aU, co, leC, cm, bZ, cd, c7, bN, aM, aX, cW, an, cr, a7, a7.viewCs, a9, a9.flatCs, aG, aG.LensOks, Value.oneCell', ↓reduceIte, ite_true, ite_false, if_true, if_false, Nat.reduceAdd, Nat.reduceSub, Nat.reduceMul, Nat.reduceEqDiff, Nat.reduceLT, Nat.reduceLeDiff, reduceCtorEq, Int.reduceToNat, forall_const, implies_true, a5, Ent.mk3, bF, bp, bA, a8, br, bj, bL, bC, a6, a4, bm, bP, bz, cP, rn, cz, cz.renCs, aE, aF, aQ, aQ.viewOks, az, bq, bq.flatBs, ay, ar, aA, ah, aW, bM, bM.keysBs, aT, am, aZ, bR, be, cq, ae, ae.passKs, aN, aY, af, af.lendKs, cJ, cp, cu, bD, setInn, ap, cL, cS, aR, bn, cj, bT, aJ, aO, Glob.gl, aP, cF, bG, cc, bg, ak, cH, cZ, cB, c6, cK, aj, aj.ptrOnlys, aq, aB, cD, aH, bf, bI, ca, aL, bB, bU, Nat.reduceBEq, undef]
        rfl
      · delta D.c17l2
        by_cases h : i < O.length
        · have hi2 : (i : Int) < (O.length : Int) := by omega
          have r1 : (rjC F O i 0).length = O.length := rjC_length h
          have r2 : (rjC F O i 0).getD i [] = xjC F (O.getD i []) 0 := rjC_get h []
          have r3 : (xjC F (O.getD i []) 0).length = (O.getD i []).length := xjC_length (by omega)
          rw [riC_rj h]
          simp (maxSteps := 4000000) -implicitDefEqProofs only [hi2, r1, r2, r3, h, InR, Ent.of0, Ent.of1, Ent.of2, Ent.of3, V, bV, bl, bu, bW, cM, cT, gt, lk, cb, cG, ce, bX, cg, cn, cn.subCs, cV, a3, bh, bO, ax, bH, bJ, aC, bK, bw, aV, bv, av, cC, cO, cQ, ag, aK, bQ, bS, b0, cU, cR, aD, au, bY, bo, zC, argS, bE, cI, cY, cN, ai, aw, aI, aU, co, leC, cm, bZ, cd, c7, bN, aM, aX, cW, an, cr, a7, a7.viewCs, a9, a9.flatCs, aG, aG.LensOks, Value.oneCell', ↓reduceIte, ite_true, ite_false, if_true, if_false, Nat.reduceAdd, Nat.reduceSub, Nat.reduceMul, Nat.reduceEqDiff, Nat.reduceLT, Nat.reduceLeDiff, reduceCtorEq, Int.reduceToNat, forall_const, implies_true, a5, Ent.mk3, bF, bp, bA, a8, br, bj, bL, bC, a6, a4, bm, bP, bz, cP, rn, cz, cz.renCs, aE, aF, aQ, aQ.viewOks, az, bq, bq.flatBs, ay, ar, aA, ah, aW, bM, bM.keysBs, aT, am, aZ, bR, be, cq, ae, ae.passKs, aN, aY, af, af.lendKs, cJ, cp, cu, bD, setInn, ap, cL, cS, aR, bn, cj, bT, aJ, aO, Glob.gl, aP, cF, bG, cc, bg, ak, cH, cZ, cB, c6, cK, aj, aj.ptrOnlys, aq, aB, cD, aH, bf, bI, ca, aL, bB, bU, Nat.reduceBEq, undef]
          refine ⟨by omega, by simp, by simp, ?_⟩
          have hXm := hrows _ (getD_mem [] h)
          have htk : O.take (i + 1) = O.take i ++ [O.getD i []] := take_getD [] h
          have hXmem : O.getD i [] ∈ O := getD_mem [] h
          have rn := rjC_ri (F := F) h
          have g1 : ∀ j, (rjC F O i j).length = O.length := fun j => rjC_length h
          have g2 : ∀ j, (rjC F O i j).getD i [] = xjC F (O.getD i []) j := fun j => rjC_get h []
          have g3 : ∀ j, (rjC F O i j).set i (xjC F (O.getD i []) (j + 1)) = rjC F O i (j + 1) := fun j => rjC_set h
          generalize hX : O.getD i [] = X at *
          refine S_forU X.length (fun j => [(66, .s (.int .i64 (j : Int)))]) (fun j => [(57, .deep 2 48 35 none (rjC F O i j))]) (fun j => ((X.take j).all fun g => smallG (F g) 100000000) = true) (by simp) ?_ (fun j hj hw => S_run [e83, e88] 800 ?_)
          · simp (maxSteps := 4000000) -implicitDefEqProofs only [Ent.of0, Ent.of1, Ent.of2, Ent.of3, V, bV, bl, bu, bW, cM, cT, gt, lk, cb, cG, ce, bX, cg, cn, cn.subCs, cV, a3, bh, bO, ax, bH, bJ, aC, bK, bw, aV, bv, av, cC, cO, cQ, ag, aK, bQ, bS, b0, cU, cR, aD, au, bY, bo, zC, argS, bE, cI, cY, cN, ai, aw, aI, aU, co, leC, cm, bZ, cd, c7, bN, aM, aX, cW, an, cr, a7, a7.viewCs, a9, a9.flatCs, aG, aG.LensOks, Value.oneCell', ↓reduceIte, ite_true, ite_false, if_true, if_false, Nat.reduceAdd, Nat.reduceSub, Nat.reduceMul, Nat.reduceEqDiff, Nat.reduceLT, Nat.reduceLeDiff, reduceCtorEq, Int.reduceToNat, forall_const, implies_true, a5, Ent.mk3, bF, bp, bA, a8, br, bj, bL, bC, a6, a4, bm, bP, bz, cP, rn, cz, cz.renCs, aE, aF, aQ, aQ.viewOks, az, bq, bq.flatBs, ay, ar, aA, ah, aW, bM, bM.keysBs, aT, am, aZ, bR, be, cq, ae, ae.passKs, aN, aY, af, af.lendKs, cJ, cp, cu, bD, setInn, ap, cL, cS, aR, bn, cj, bT, aJ, aO, Glob.gl, aP, cF, bG, cc, bg, ak, cH, cZ, cB, c6, cK, aj, aj.ptrOnlys, aq, aB, cD, aH, bf, bI, ca, aL, bB, bU, Nat.reduceBEq, undef]; rfl
          · delta D.c17l1
            by_cases hjl : j < X.length
            · have hj2 : (j : Int) < (X.length : Int) := by omega
              have g4 : (xjC F X j).length = X.length := xjC_length (by omega)
              have g4' : (xjC F X (j + 1)).length = X.length := xjC_length (by omega)
              have g5 : (xjC F X j).getD j [] = [.s (.int .i64 (X.getD j ⟨0, 0⟩).re), .s (.int .i64 (X.getD j ⟨0, 0⟩).im)] := xjC_get hjl []
              have g6 : (xjC F X (j + 1)).getD j [] = [.s (.int .i64 (F (X.getD j ⟨0, 0⟩)).re), .s (.int .i64 (F (X.getD j ⟨0, 0⟩)).im)] := xjC_get' hjl []
              have g7 : (xjC F X j).set j [.s (.int .i64 (F (X.getD j ⟨0, 0⟩)).re), .s (.int .i64 (F (X.getD j ⟨0, 0⟩)).im)] = xjC F X (j + 1) := xjC_set hjl
              have hgm := getD_mem ⟨0, 0⟩ hjl
              have hm1 : mulOk ⟨Dr, -Di⟩ (X.getD j ⟨0, 0⟩) := ⟨4000, 800000000000, hback, hXm.2 _ hgm, by omega⟩
              have htk2 : X.take (j + 1) = X.take j ++ [X.getD j ⟨0, 0⟩] := take_getD _ hjl
              simp (maxSteps := 4000000) -implicitDefEqProofs only [hj2, g1, g2, g3, g4, g4', g5, g6, g7, h, hjl, gs_eta, hFg, hm1, e83, e88, aC, D.rv17, InR, Ent.of0, Ent.of1, Ent.of2, Ent.of3, V, bV, bl, bu, bW, cM, cT, gt, lk, cb, cG, ce, bX, cg, cn, cn.subCs, cV, a3, bh, bO, ax, bH, bJ, aC, bK, bw, aV, bv, av, cC, cO, cQ, ag, aK, bQ, bS, b0, cU, cR, aD, au, bY, bo, zC, argS, bE, cI, cY, cN, ai, aw, aI, aU, co, leC, cm, bZ, cd, c7, bN, aM, aX, cW, an, cr, a7, a7.viewCs, a9, a9.flatCs, aG, aG.LensOks, Value.oneCell', ↓reduceIte, ite_true, ite_false, if_true, if_false, Nat.reduceAdd, Nat.reduceSub, Nat.reduceMul, Nat.reduceEqDiff, Nat.reduceLT, Nat.reduceLeDiff, reduceCtorEq, Int.reduceToNat, forall_const, implies_true, a5, Ent.mk3, bF, bp, bA, a8, br, bj, bL, bC, a6, a4, bm, bP, bz, cP, rn, cz, cz.renCs, aE, aF, aQ, aQ.viewOks, az, bq, bq.flatBs, ay, ar, aA, ah, aW, bM, bM.keysBs, aT, am, aZ, bR, be, cq, ae, ae.passKs, aN, aY, af, af.lendKs, cJ, cp, cu, bD, setInn, ap, cL, cS, aR, bn, cj, bT, aJ, aO, Glob.gl, aP, cF, bG, cc, bg, ak, cH, cZ, cB, c6, cK, aj, aj.ptrOnlys, aq, aB, cD, aH, bf, bI, ca, aL, bB, bU, Nat.reduceBEq, undef]
              have hne : (none : Option Nat) ≠ some i := by simp
              have hj0 : (0 : Int) ≤ (j : Int) := by omega
              refine ⟨⟨hne, hj0⟩, hne, ⟨hne, hj0⟩, hne, ⟨hne, hj0⟩, hne, by omega, ?_⟩
              by_cases hs : smallG (F (X.getD j ⟨0, 0⟩)) 100000000 = false
              · rw [if_pos hs]
                have hE8 : E = 8 := by
                  rw [heE, if_neg]
                  rw [hout]
                  intro ha
                  have h1 := List.all_eq_true.1 ha _ (List.mem_map.2 ⟨X, hXmem, rfl⟩)
                  have h2 := List.all_eq_true.1 h1 _ (List.mem_map.2 ⟨_, hgm, rfl⟩)
                  rw [hs] at h2; cases h2
                rw [hE8]
                exact ⟨trivial, rfl, rfl⟩
              · rw [if_neg hs]
                refine ⟨by omega, ?_, by omega⟩
                rw [htk2, List.all_append, hw]
                simpa using hs
            · have hje : j = X.length := by omega
              subst hje
              have hj2 : ¬ (X.length : Int) < (X.length : Int) := by omega
              simp (maxSteps := 4000000) -implicitDefEqProofs only [hj2, rn, h, htk, InR, Ent.of0, Ent.of1, Ent.of2, Ent.of3, V, bV, bl, bu, bW, cM, cT, gt, lk, cb, cG, ce, bX, cg, cn, cn.subCs, cV, a3, bh, bO, ax, bH, bJ, aC, bK, bw, aV, bv, av, cC, cO, cQ, ag, aK, bQ, bS, b0, cU, cR, aD, au, bY, bo, zC, argS, bE, cI, cY, cN, ai, aw, aI, aU, co, leC, cm, bZ, cd, c7, bN, aM, aX, cW, an, cr, a7, a7.viewCs, a9, a9.flatCs, aG, aG.LensOks, Value.oneCell', ↓reduceIte, ite_true, ite_false, if_true, if_false, Nat.reduceAdd, Nat.reduceSub, Nat.reduceMul, Nat.reduceEqDiff, Nat.reduceLT, Nat.reduceLeDiff, reduceCtorEq, Int.reduceToNat, forall_const, implies_true, a5, Ent.mk3, bF, bp, bA, a8, br, bj, bL, bC, a6, a4, bm, bP, bz, cP, rn, cz, cz.renCs, aE, aF, aQ, aQ.viewOks, az, bq, bq.flatBs, ay, ar, aA, ah, aW, bM, bM.keysBs, aT, am, aZ, bR, be, cq, ae, ae.passKs, aN, aY, af, af.lendKs, cJ, cp, cu, bD, setInn, ap, cL, cS, aR, bn, cj, bT, aJ, aO, Glob.gl, aP, cF, bG, cc, bg, ak, cH, cZ, cB, c6, cK, aj, aj.ptrOnlys, aq, aB, cD, aH, bf, bI, ca, aL, bB, bU, Nat.reduceBEq, undef]
              rw [List.take_length] at hw
              refine ⟨by omega, ?_, by omega⟩
              rw [List.all_append, hv]
              simp only [List.all_cons, List.all_nil, Bool.and_true, Bool.true_and]
              exact hw
        · have hie : i = O.length := by omega
          subst hie
          have hi2 : ¬ (O.length : Int) < (O.length : Int) := by omega
          rw [riC_all]
          simp (maxSteps := 4000000) -implicitDefEqProofs only [hi2, D.rv17, InR, Ent.of0, Ent.of1, Ent.of2, Ent.of3, V, bV, bl, bu, bW, cM, cT, gt, lk, cb, cG, ce, bX, cg, cn, cn.subCs, cV, a3, bh, bO, ax, bH, bJ, aC, bK, bw, aV, bv, av, cC, cO, cQ, ag, aK, bQ, bS, b0, cU, cR, aD, au, bY, bo, zC, argS, bE, cI, cY, cN, ai, aw, aI, aU, co, leC, cm, bZ, cd, c7, bN, aM, aX, cW, an, cr, a7, a7.viewCs, a9, a9.flatCs, aG, aG.LensOks, Value.oneCell', ↓reduceIte, ite_true, ite_false, if_true, if_false, Nat.reduceAdd, Nat.reduceSub, Nat.reduceMul, Nat.reduceEqDiff, Nat.reduceLT, Nat.reduceLeDiff, reduceCtorEq, Int.reduceToNat, forall_const, implies_true, a5, Ent.mk3, bF, bp, bA, a8, br, bj, bL, bC, a6, a4, bm, bP, bz, cP, rn, cz, cz.renCs, aE, aF, aQ, aQ.viewOks, az, bq, bq.flatBs, ay, ar, aA, ah, aW, bM, bM.keysBs, aT, am, aZ, bR, be, cq, ae, ae.passKs, aN, aY, af, af.lendKs, cJ, cp, cu, bD, setInn, ap, cL, cS, aR, bn, cj, bT, aJ, aO, Glob.gl, aP, cF, bG, cc, bg, ak, cH, cZ, cB, c6, cK, aj, aj.ptrOnlys, aq, aB, cD, aH, bf, bI, ca, aL, bB, bU, Nat.reduceBEq, undef]
          rw [List.take_length] at hv
          have hE0 : E = 0 := by
            rw [heE, if_pos]
            rw [hout, List.all_map]
            simpa [Function.comp_def, List.all_map] using hv
          rw [hE0, if_pos rfl, if_pos rfl, hout]
          refine ⟨?_, rfl, rfl⟩
          simp only [List.map_map]
          rfl
  · have hE : eqE m r = eqErr m r := by unfold eqE; rw [if_pos he]
    delta D.c17
    simp (maxSteps := 4000000) -implicitDefEqProofs only [D.rv17, e49, e81, e82, e80, e83, Ent.of0, Ent.of1, Ent.of2, Ent.of3, V, bV, bl, bu, bW, cM, cT, gt, lk, cb, cG, ce, bX, cg, cn, cn.subCs, cV, a3, bh, bO, ax, bH, bJ, aC, bK, bw, aV, bv, av, cC, cO, cQ, ag, aK, bQ, bS, b0, cU, cR, aD, au, bY, bo, zC, argS, bE, cI, cY, cN, ai, aw, aI, aU, co, leC, cm, bZ, cd, c7, bN, aM, aX, cW, an, cr, a7, a7.viewCs, a9, a9.flatCs, aG, aG.LensOks, Value.oneCell', ↓reduceIte, ite_true, ite_false, if_true, if_false, Nat.reduceAdd, Nat.reduceSub, Nat.reduceMul, Nat.reduceEqDiff, Nat.reduceLT, Nat.reduceLeDiff, reduceCtorEq, Int.reduceToNat, forall_const, implies_true, a5, Ent.mk3, bF, bp, bA, a8, br, bj, bL, bC, a6, a4, bm, bP, bz, cP, rn, cz, cz.renCs, aE, aF, aQ, aQ.viewOks, az, bq, bq.flatBs, ay, ar, aA, ah, aW, bM, bM.keysBs, aT, am, aZ, bR, be, cq, ae, ae.passKs, aN, aY, af, af.lendKs, cJ, cp, cu, bD, setInn, ap, cL, cS, aR, bn, cj, bT, aJ, aO, Glob.gl, aP, cF, bG, cc, bg, ak, cH, cZ, cB, c6, cK, aj, aj.ptrOnlys, aq, aB, cD, aH, bf, bI, ca, aL, bB, bU, Nat.reduceBEq, undef]
    rw [hEq, if_pos he, hE, if_neg he, if_neg he]
    exact ⟨trivial, rfl, rfl⟩
end Go.Proofs.Ytfgpbmjmoobcnaa
end
section
open Go Go.Am
open Go.Am.Dat (cells)
namespace Go.Proofs.Ytfgpbmjmoobcnaa
set_option maxHeartbeats 4000000
set_option maxRecDepth 100000
set_option linter.unusedSimpArgs false
def regX : Reg := ⟨3, [0, 1], [1, 0, 0]⟩
theorem Register_c : FC Try.prog 79 [] [] (enc regX) [] := by
  refine fc_intro' is79 (by simp) (fun cx hl => S_run [] 800 ?_)
  delta c79
  simp (maxSteps := 4000000) -implicitDefEqProofs only [rv79, regX, enc_reg, aC, Ent.of0, Ent.of1, Ent.of2, Ent.of3, V, bV, bl, bu, bW, cM, cT, gt, lk, cb, cG, ce, bX, cg, cn, cn.subCs, cV, a3, bh, bO, ax, bH, bJ, aC, bK, bw, aV, bv, av, cC, cO, cQ, ag, aK, bQ, bS, b0, cU, cR, aD, au, bY, bo, zC, argS, bE, cI, cY, cN, ai, aw, aI, aU, co, leC, cm, bZ, cd, c7, bN, aM, aX, cW, an, cr, a7, a7.viewCs, a9, a9.flatCs, aG, aG.LensOks, Value.oneCell', ↓reduceIte, ite_true, ite_false, if_true, if_false, Nat.reduceAdd, Nat.reduceSub, Nat.reduceMul, Nat.reduceEqDiff, Nat.reduceLT, Nat.reduceLeDiff, reduceCtorEq, Int.reduceToNat, forall_const, implies_true, a5, Ent.mk3, bF, bp, bA, a8, br, bj, bL, bC, a6, a4, bm, bP, bz, cP, rn, cz, cz.renCs, aE, aF, aQ, aQ.viewOks, az, bq, bq.flatBs, ay, ar, aA, ah, aW, bM, bM.keysBs, aT, am, aZ, bR, be, cq, ae, ae.passKs, aN, aY, af, af.lendKs, cJ, cp, cu, bD, setInn, ap, cL, cS, aR, bn, cj, bT, aJ, aO, Glob.gl, aP, cF, bG, cc, bg, ak, cH, cZ, cB, c6, cK, aj, aj.ptrOnlys, aq, aB, cD, aH, bf, bI, ca, aL, bB, bU, Nat.reduceBEq, undef]
def e79 : Ent Try.prog := .of0 79 (enc regX) (by simp [enc_reg, regX, keysIn, keysIn.keysIns]) Register_c
def mX : List (List Gs) := [[⟨1, 0⟩, ⟨0, 1⟩], [⟨0, 0⟩, ⟨2, 0⟩]]
def rX : List (List Gs) := [[⟨2, 1⟩], [⟨2, 2⟩]]
theorem eqX : FC Try.prog 17 [enc mX, enc rX] [] (.tup [enc [[(⟨12, 0⟩ : Gs)], [⟨4, 4⟩]], enc (4 : Int), enc (0 : Int)]) [] := by
  have s7 : eqE mX rX = 0 := by decide +kernel
  have s8 : eqOut mX rX = [[⟨12, 0⟩], [⟨4, 4⟩]] := by decide +kernel
  have s9 : gainS mX = 4 := by decide +kernel
  have := Equalized_c mX rX
  rwa [s7, if_pos rfl, if_pos rfl, s8, s9] at this
def e17X : Ent Try.prog := .mk3 17 (fun args chs => match chs with | [] => some (args = [enc mX, enc rX], .tup [enc [[(⟨12, 0⟩ : Gs)], [⟨4, 4⟩]], enc (4 : Int), enc (0 : Int)], [], []) | _ => none) (by
  intro args chs p r chs' nk hs hp
  split at hs
  · simp only [Option.some.injEq, Prod.mk.injEq] at hs
    obtain ⟨rfl, rfl, rfl, rfl⟩ := hs
    subst hp
    exact ⟨eqX, .plain (by simp [enc_list, enc_int, keysIn, keysIn.keysIns])⟩
  · cases hs)
theorem awake_c : FC Try.prog 15 [] [] (enc true) [] := by
  have s1 : sequenceErr ⟨3, [0, 1], [1, 0, 0]⟩ 7 = 0 := by decide +kernel
  have s2 : seqS (wireW ⟨3, [0, 1], [1, 0, 0]⟩) 7 = [1, 0, 0, 1, 0, 1, 1] := by decide +kernel
  have s3 : modErr 4 [0, 1, 1, 0] = 0 := by decide +kernel
  have s4 : modS 4 [0, 1, 1, 0] 1 = [⟨3, -1⟩] := by decide +kernel
  have s5 : recvErr ⟨4, 2, [⟨5, 1⟩]⟩ = 0 := by decide +kernel
  have s6 : judgeAll softS ⟨4, 2, [⟨5, 1⟩]⟩ = [48, 8, -8, 24] := by decide +kernel
  have t7 : Int.toNat 7 = 7 := rfl
  have t4 : Int.toNat 4 = 4 := rfl
  have d1 : (4 : Nat) / 4 = 1 := rfl
  refine fc_intro' is15 (by simp) (fun cx hl => S_run [e79, e72, e24] 800 ?_)
  delta c15
  simp (maxSteps := 4000000) -implicitDefEqProofs only [rv15, e79, regX, e72, e24, enc_reg, decV_reg, s1, s2, s3, s4, t7, t4, d1, Int.cast_ofNat_Int, Int.natCast_one, Int.natCast_zero, Int.reduceAdd, Int.reduceSub, Int.reduceMul, Int.reduceLT, Int.reduceLE, Int.reduceTMod, Int.reduceTDiv, Int.reduceNeg, Int.reduceEq, Nat.reducePow, Int.reducePow, ne_eq, not_false_eq_true, Ent.of0, Ent.of1, Ent.of2, Ent.of3, V, bV, bl, bu, bW, cM, cT, gt, lk, cb, cG, ce, bX, cg, cn, cn.subCs, cV, a3, bh, bO, ax, bH, bJ, aC, bK, bw, aV, bv, av, cC, cO, cQ, ag, aK, bQ, bS, b0, cU, cR, aD, au, bY, bo, zC, argS, bE, cI, cY, cN, ai, aw, aI, aU, co, leC, cm, bZ, cd, c7, bN, aM, aX, cW, an, cr, a7, a7.viewCs, a9, a9.flatCs, aG, aG.LensOks, Value.oneCell', ↓reduceIte, ite_true, ite_false, if_true, if_false, Nat.reduceAdd, Nat.reduceSub, Nat.reduceMul, Nat.reduceEqDiff, Nat.reduceLT, Nat.reduceLeDiff, reduceCtorEq, Int.reduceToNat, forall_const, implies_true, a5, Ent.mk3, bF, bp, bA, a8, br, bj, bL, bC, a6, a4, bm, bP, bz, cP, rn, cz, cz.renCs, aE, aF, aQ, aQ.viewOks, az, bq, bq.flatBs, ay, ar, aA, ah, aW, bM, bM.keysBs, aT, am, aZ, bR, be, cq, ae, ae.passKs, aN, aY, af, af.lendKs, cJ, cp, cu, bD, setInn, ap, cL, cS, aR, bn, cj, bT, aJ, aO, Glob.gl, aP, cF, bG, cc, bg, ak, cH, cZ, cB, c6, cK, aj, aj.ptrOnlys, aq, aB, cD, aH, bf, bI, ca, aL, bB, bU, Nat.reduceBEq, undef]
  refine D_run [e58] 800 ?_
  simp (maxSteps := 4000000) -implicitDefEqProofs only [e58, enc_recv, decV_recv, s5, s6, Int.cast_ofNat_Int, Int.natCast_one, Int.natCast_zero, Int.reduceAdd, Int.reduceSub, Int.reduceMul, Int.reduceLT, Int.reduceLE, Int.reduceTMod, Int.reduceTDiv, Int.reduceNeg, Int.reduceEq, Nat.reducePow, Int.reducePow, ne_eq, not_false_eq_true, Ent.of0, Ent.of1, Ent.of2, Ent.of3, V, bV, bl, bu, bW, cM, cT, gt, lk, cb, cG, ce, bX, cg, cn, cn.subCs, cV, a3, bh, bO, ax, bH, bJ, aC, bK, bw, aV, bv, av, cC, cO, cQ, ag, aK, bQ, bS, b0, cU, cR, aD, au, bY, bo, zC, argS, bE, cI, cY, cN, ai, aw, aI, aU, co, leC, cm, bZ, cd, c7, bN, aM, aX, cW, an, cr, a7, a7.viewCs, a9, a9.flatCs, aG, aG.LensOks, Value.oneCell', ↓reduceIte, ite_true, ite_false, if_true, if_false, Nat.reduceAdd, Nat.reduceSub, Nat.reduceMul, Nat.reduceEqDiff, Nat.reduceLT, Nat.reduceLeDiff, reduceCtorEq, Int.reduceToNat, forall_const, implies_true, a5, Ent.mk3, bF, bp, bA, a8, br, bj, bL, bC, a6, a4, bm, bP, bz, cP, rn, cz, cz.renCs, aE, aF, aQ, aQ.viewOks, az, bq, bq.flatBs, ay, ar, aA, ah, aW, bM, bM.keysBs, aT, am, aZ, bR, be, cq, ae, ae.passKs, aN, aY, af, af.lendKs, cJ, cp, cu, bD, setInn, ap, cL, cS, aR, bn, cj, bT, aJ, aO, Glob.gl, aP, cF, bG, cc, bg, ak, cH, cZ, cB, c6, cK, aj, aj.ptrOnlys, aq, aB, cD, aH, bf, bI, ca, aL, bB, bU, Nat.reduceBEq, undef]
  refine D_run [e17X] 800 ?_
  simp (maxSteps := 4000000) -implicitDefEqProofs only [e17X, mX, rX, Int.cast_ofNat_Int, Int.natCast_one, Int.natCast_zero, Int.reduceAdd, Int.reduceSub, Int.reduceMul, Int.reduceLT, Int.reduceLE, Int.reduceTMod, Int.reduceTDiv, Int.reduceNeg, Int.reduceEq, Nat.reducePow, Int.reducePow, ne_eq, not_false_eq_true, Ent.of0, Ent.of1, Ent.of2, Ent.of3, V, bV, bl, bu, bW, cM, cT, gt, lk, cb, cG, ce, bX, cg, cn, cn.subCs, cV, a3, bh, bO, ax, bH, bJ, aC, bK, bw, aV, bv, av, cC, cO, cQ, ag, aK, bQ, bS, b0, cU, cR, aD, au, bY, bo, zC, argS, bE, cI, cY, cN, ai, aw, aI, aU, co, leC, cm, bZ, cd, c7, bN, aM, aX, cW, an, cr, a7, a7.viewCs, a9, a9.flatCs, aG, aG.LensOks, Value.oneCell', ↓reduceIte, ite_true, ite_false, if_true, if_false, Nat.reduceAdd, Nat.reduceSub, Nat.reduceMul, Nat.reduceEqDiff, Nat.reduceLT, Nat.reduceLeDiff, reduceCtorEq, Int.reduceToNat, forall_const, implies_true, a5, Ent.mk3, bF, bp, bA, a8, br, bj, bL, bC, a6, a4, bm, bP, bz, cP, rn, cz, cz.renCs, aE, aF, aQ, aQ.viewOks, az, bq, bq.flatBs, ay, ar, aA, ah, aW, bM, bM.keysBs, aT, am, aZ, bR, be, cq, ae, ae.passKs, aN, aY, af, af.lendKs, cJ, cp, cu, bD, setInn, ap, cL, cS, aR, bn, cj, bT, aJ, aO, Glob.gl, aP, cF, bG, cc, bg, ak, cH, cZ, cB, c6, cK, aj, aj.ptrOnlys, aq, aB, cD, aH, bf, bI, ca, aL, bB, bU, Nat.reduceBEq, undef]
  refine D_run [e37, e27, e21] 800 ?_
  simp (maxSteps := 4000000) -implicitDefEqProofs only [e37, e27, e21, rv15, Int.cast_ofNat_Int, Int.natCast_one, Int.natCast_zero, Int.reduceAdd, Int.reduceSub, Int.reduceMul, Int.reduceLT, Int.reduceLE, Int.reduceTMod, Int.reduceTDiv, Int.reduceNeg, Int.reduceEq, Nat.reducePow, Int.reducePow, ne_eq, not_false_eq_true, Ent.of0, Ent.of1, Ent.of2, Ent.of3, V, bV, bl, bu, bW, cM, cT, gt, lk, cb, cG, ce, bX, cg, cn, cn.subCs, cV, a3, bh, bO, ax, bH, bJ, aC, bK, bw, aV, bv, av, cC, cO, cQ, ag, aK, bQ, bS, b0, cU, cR, aD, au, bY, bo, zC, argS, bE, cI, cY, cN, ai, aw, aI, aU, co, leC, cm, bZ, cd, c7, bN, aM, aX, cW, an, cr, a7, a7.viewCs, a9, a9.flatCs, aG, aG.LensOks, Value.oneCell', ↓reduceIte, ite_true, ite_false, if_true, if_false, Nat.reduceAdd, Nat.reduceSub, Nat.reduceMul, Nat.reduceEqDiff, Nat.reduceLT, Nat.reduceLeDiff, reduceCtorEq, Int.reduceToNat, forall_const, implies_true, a5, Ent.mk3, bF, bp, bA, a8, br, bj, bL, bC, a6, a4, bm, bP, bz, cP, rn, cz, cz.renCs, aE, aF, aQ, aQ.viewOks, az, bq, bq.flatBs, ay, ar, aA, ah, aW, bM, bM.keysBs, aT, am, aZ, bR, be, cq, ae, ae.passKs, aN, aY, af, af.lendKs, cJ, cp, cu, bD, setInn, ap, cL, cS, aR, bn, cj, bT, aJ, aO, Glob.gl, aP, cF, bG, cc, bg, ak, cH, cZ, cB, c6, cK, aj, aj.ptrOnlys, aq, aB, cD, aH, bf, bI, ca, aL, bB, bU, Nat.reduceBEq, undef]
def e15 : Ent Try.prog := .of0 15 (enc true) trivial awake_c
end Go.Proofs.Ytfgpbmjmoobcnaa
end
section
open Go Go.Am
open Go.Am.Dat (cells)
namespace Go.Proofs.Ytfgpbmjmoobcnaa
set_option maxHeartbeats 4000000
set_option maxRecDepth 100000
set_option linter.unusedSimpArgs false
theorem tmod2 (n : Nat) : ((n : Int)).tmod 2 = ((n % 2 : Nat) : Int) := by
  rw [Int.tmod_eq_emod_of_nonneg (by omega)]; push_cast; rfl
theorem tdiv2 (n : Nat) : ((n : Int)).tdiv 2 = ((n / 2 : Nat) : Int) := by
  rw [Int.tdiv_eq_ediv_of_nonneg (by omega)]; push_cast; rfl
theorem div22 (n : Nat) : n / 2 / 2 = n / 4 ∧ n / 4 / 2 = n / 8 ∧ n / 8 / 2 = n / 16 ∧ n / 16 / 2 = n / 32 := by omega
theorem rbitsOf_c (n c : Nat) (hn : n < 4096) (hc : c ≤ 6) : FC Try.prog 34 [enc (n : Int), enc (c : Int)] [] (enc (bitsOfS n c c)) [] := by
  obtain ⟨d4, d8, d16, d32⟩ := div22 n
  have d64 : n / 32 / 2 = n / 64 := by omega
  have : c = 0 ∨ c = 1 ∨ c = 2 ∨ c = 3 ∨ c = 4 ∨ c = 5 ∨ c = 6 := by omega
  rcases this with rfl | rfl | rfl | rfl | rfl | rfl | rfl
  all_goals
    refine fc_intro' is34 (by simp) (fun cx _ => S_runU [] 1000 ?_)
    delta c34 c34l1
    simp (maxSteps := 4000000) -implicitDefEqProofs only [rv34, InR, tmod2, tdiv2, aC, bitsOfS, d4, d8, d16, d32, d64, Nat.div_one, Nat.reduceDiv, Nat.reducePow, Int.cast_ofNat_Int, Int.natCast_one, Int.natCast_zero, Int.reduceAdd, Int.reduceSub, Int.reduceMul, Int.reduceLT, Int.reduceLE, Int.reduceTMod, Int.reduceTDiv, Int.reduceNeg, Int.reduceEq, Nat.reducePow, Int.reducePow, ne_eq, not_false_eq_true, Ent.of0, Ent.of1, Ent.of2, Ent.of3, V, bV, bl, bu, bW, cM, cT, gt, lk, cb, cG, ce, bX, cg, cn, cn.subCs, cV, a3, bh, bO, ax, bH, bJ, aC, bK, bw, aV, bv, av, cC, cO, cQ, ag, aK, bQ, bS, b0, cU, cR, aD, au, bY, bo, zC, argS, bE, cI, cY, cN, ai, aw, aI, aU, co, leC, cm, bZ, cd, c7, bN, aM, aX, cW, an, cr, a7, a7.viewCs, a9, a9.flatCs, aG, aG.LensOks, Value.oneCell', ↓reduceIte, ite_true, ite_false, if_true, if_false, Nat.reduceAdd, Nat.reduceSub, Nat.reduceMul, Nat.reduceEqDiff, Nat.reduceLT, Nat.reduceLeDiff, reduceCtorEq, Int.reduceToNat, forall_const, implies_true, a5, Ent.mk3, bF, bp, bA, a8, br, bj, bL, bC, a6, a4, bm, bP, bz, cP, rn, cz, cz.renCs, aE, aF, aQ, aQ.viewOks, az, bq, bq.flatBs, ay, ar, aA, ah, aW, bM, bM.keysBs, aT, am, aZ, bR, be, cq, ae, ae.passKs, aN, aY, af, af.lendKs, cJ, cp, cu, bD, setInn, ap, cL, cS, aR, bn, cj, bT, aJ, aO, Glob.gl, aP, cF, bG, cc, bg, ak, cH, cZ, cB, c6, cK, aj, aj.ptrOnlys, aq, aB, cD, aH, bf, bI, ca, aL, bB, bU, Nat.reduceBEq, undef]
    try omega
def e34 : Ent Try.prog := .mk3 34 (fun args chs => match args, chs with
    | [.s (.int .i64 n), .s (.int .i64 c)], [] => some (0 ≤ n ∧ n < 4096 ∧ 0 ≤ c ∧ c ≤ 6, enc (bitsOfS n.toNat c.toNat c.toNat), [], [])
    | _, _ => none) (by
    intro args chs p r chs' nk hs hp
    split at hs
    · simp only [Option.some.injEq, Prod.mk.injEq] at hs
      obtain ⟨rfl, rfl, rfl, rfl⟩ := hs
      obtain ⟨h1, h2, h3, h4⟩ := hp
      rename_i n c
      have := rbitsOf_c n.toNat c.toNat (by omega) (by omega)
      rw [Int.toNat_of_nonneg h1, Int.toNat_of_nonneg h3] at this
      exact ⟨this, .plain trivial⟩
    · cases hs)
def blE (c n : Int) : Int := if 1 ≤ c ∧ c ≤ 3 then (if (ofLevelI c.toNat n).isSome then 0 else 3) else 2
def blS (c n : Int) : List Int := if 1 ≤ c ∧ c ≤ 3 then (match ofLevelI c.toNat n with | some i => bitsOfS i c.toNat c.toNat | none => []) else []
end Go.Proofs.Ytfgpbmjmoobcnaa
end
section
open Go Go.Am
open Go.Am.Dat (cells)
namespace Go.Proofs.Ytfgpbmjmoobcnaa
set_option maxHeartbeats 4000000
set_option maxRecDepth 100000
set_option linter.unusedSimpArgs false
def e100 (c : Nat) (h : c ≤ 6) : Ent Try.prog := .of1 100 (fun n : Int => n = (c : Int)) (fun _ : Int => enc (2 ^ c : Int)) (fun _ => trivial) (fun n e => by subst e; exact power_c c h)
theorem RBitsOf_c (c n : Int) : FC Try.prog 36 [enc c, enc n] [] (.tup [enc (blS c n), enc (blE c n)]) [] := by
  by_cases hc : 1 ≤ c ∧ c ≤ 3
  · obtain ⟨K, rfl⟩ : ∃ K : Nat, c = (K : Int) := ⟨c.toNat, by omega⟩
    have hK : 1 ≤ K ∧ K ≤ 3 := by omega
    have hp : 2 ^ K ≤ 2 ^ 3 := Nat.pow_le_pow_right (by decide) hK.2
    have hq1 : (0 : Int) < 2 ^ K := Int.pow_pos (by decide)
    have hpc : (2 : Int) ^ K = ((2 ^ K : Nat) : Int) := by push_cast; rfl
    have eE : blE (K : Int) n = if (ofLevelI K n).isSome then 0 else 3 := by unfold blE; rw [if_pos hc, Int.toNat_natCast]
    have eS : blS (K : Int) n = match ofLevelI K n with | some i => bitsOfS i K K | none => [] := by unfold blS; rw [if_pos hc, Int.toNat_natCast] <;> rfl
    refine fc_intro' is36 (by simp) (fun cx hl => S_run [e32] 800 ?_)
    delta c36
    simp (maxSteps := 4000000) -implicitDefEqProofs only [rv36, e32, hc, InR, Ent.of0, Ent.of1, Ent.of2, Ent.of3, V, bV, bl, bu, bW, cM, cT, gt, lk, cb, cG, ce, bX, cg, cn, cn.subCs, cV, a3, bh, bO, ax, bH, bJ, aC, bK, bw, aV, bv, av, cC, cO, cQ, ag, aK, bQ, bS, b0, cU, cR, aD, au, bY, bo, zC, argS, bE, cI, cY, cN, ai, aw, aI, aU, co, leC, cm, bZ, cd, c7, bN, aM, aX, cW, an, cr, a7, a7.viewCs, a9, a9.flatCs, aG, aG.LensOks, Value.oneCell', ↓reduceIte, ite_true, ite_false, if_true, if_false, Nat.reduceAdd, Nat.reduceSub, Nat.reduceMul, Nat.reduceEqDiff, Nat.reduceLT, Nat.reduceLeDiff, reduceCtorEq, Int.reduceToNat, forall_const, implies_true, a5, Ent.mk3, bF, bp, bA, a8, br, bj, bL, bC, a6, a4, bm, bP, bz, cP, rn, cz, cz.renCs, aE, aF, aQ, aQ.viewOks, az, bq, bq.flatBs, ay, ar, aA, ah, aW, bM, bM.keysBs, aT, am, aZ, bR, be, cq, ae, ae.passKs, aN, aY, af, af.lendKs, cJ, cp, cu, bD, setInn, ap, cL, cS, aR, bn, cj, bT, aJ, aO, Glob.gl, aP, cF, bG, cc, bg, ak, cH, cZ, cB, c6, cK, aj, aj.ptrOnlys, aq, aB, cD, aH, bf, bI, ca, aL, bB, bU, Nat.reduceBEq, undef]
    refine S_forU (2 ^ K) (fun i => [(6, .s (.int .i64 (i : Int)))]) (fun _ => []) (fun i => ∀ j, j < i → ¬ levelS (bitsOfS j K K) = n) (by omega) ?_ (fun i hi hv => S_run [e100 K (by omega), e34, e40] 800 ?_)
    · simp (maxSteps := 4000000) -implicitDefEqProofs only [Ent.of0, Ent.of1, Ent.of2, Ent.of3, V, bV, bl, bu, bW, cM, cT, gt, lk, cb, cG, ce, bX, cg, cn, cn.subCs, cV, a3, bh, bO, ax, bH, bJ, aC, bK, bw, aV, bv, av, cC, cO, cQ, ag, aK, bQ, bS, b0, cU, cR, aD, au, bY, bo, zC, argS, bE, cI, cY, cN, ai, aw, aI, aU, co, leC, cm, bZ, cd, c7, bN, aM, aX, cW, an, cr, a7, a7.viewCs, a9, a9.flatCs, aG, aG.LensOks, Value.oneCell', ↓reduceIte, ite_true, ite_false, if_true, if_false, Nat.reduceAdd, Nat.reduceSub, Nat.reduceMul, Nat.reduceEqDiff, Nat.reduceLT, Nat.reduceLeDiff, reduceCtorEq, Int.reduceToNat, forall_const, implies_true, a5, Ent.mk3, bF, bp, bA, a8, br, bj, bL, bC, a6, a4, bm, bP, bz, cP, rn, cz, cz.renCs, aE, aF, aQ, aQ.viewOks, az, bq, bq.flatBs, ay, ar, aA, ah, aW, bM, bM.keysBs, aT, am, aZ, bR, be, cq, ae, ae.passKs, aN, aY, af, af.lendKs, cJ, cp, cu, bD, setInn, ap, cL, cS, aR, bn, cj, bT, aJ, aO, Glob.gl, aP, cF, bG, cc, bg, ak, cH, cZ, cB, c6, cK, aj, aj.ptrOnlys, aq, aB, cD, aH, bf, bI, ca, aL, bB, bU, Nat.reduceBEq, undef]; simp
    · by_cases h : i < 2 ^ K
      · have hi2 : (i : Int) < ((2 ^ K : Nat) : Int) := by omega
        have hlen := bitsOfS_length i K K
        have hok := bitsOfS_ok i K K
        delta c36l1
        simp (maxSteps := 4000000) -implicitDefEqProofs only [rv36, e100, hpc, hi2, h, e34, e40, Int.toNat_natCast, hlen, hok, InR, Ent.of0, Ent.of1, Ent.of2, Ent.of3, V, bV, bl, bu, bW, cM, cT, gt, lk, cb, cG, ce, bX, cg, cn, cn.subCs, cV, a3, bh, bO, ax, bH, bJ, aC, bK, bw, aV, bv, av, cC, cO, cQ, ag, aK, bQ, bS, b0, cU, cR, aD, au, bY, bo, zC, argS, bE, cI, cY, cN, ai, aw, aI, aU, co, leC, cm, bZ, cd, c7, bN, aM, aX, cW, an, cr, a7, a7.viewCs, a9, a9.flatCs, aG, aG.LensOks, Value.oneCell', ↓reduceIte, ite_true, ite_false, if_true, if_false, Nat.reduceAdd, Nat.reduceSub, Nat.reduceMul, Nat.reduceEqDiff, Nat.reduceLT, Nat.reduceLeDiff, reduceCtorEq, Int.reduceToNat, forall_const, implies_true, a5, Ent.mk3, bF, bp, bA, a8, br, bj, bL, bC, a6, a4, bm, bP, bz, cP, rn, cz, cz.renCs, aE, aF, aQ, aQ.viewOks, az, bq, bq.flatBs, ay, ar, aA, ah, aW, bM, bM.keysBs, aT, am, aZ, bR, be, cq, ae, ae.passKs, aN, aY, af, af.lendKs, cJ, cp, cu, bD, setInn, ap, cL, cS, aR, bn, cj, bT, aJ, aO, Glob.gl, aP, cF, bG, cc, bg, ak, cH, cZ, cB, c6, cK, aj, aj.ptrOnlys, aq, aB, cD, aH, bf, bI, ca, aL, bB, bU, Nat.reduceBEq, undef]
        split
        · rename_i he
          have hn : ofLevelI K n = some i := by
            unfold ofLevelI
            rw [List.find?_range_eq_some]
            exact ⟨by simpa using he, List.mem_range.2 h, fun j hj => by simpa using hv j hj⟩
          rw [hn] at eE eS
          rw [eE, eS]
          exact ⟨by omega, by omega, rfl, rfl⟩
        · rename_i he
          refine ⟨by omega, by omega, by omega, fun j hj => ?_, by omega⟩
          by_cases hj2 : j = i
          · rw [hj2]; exact he
          · exact hv j (by omega)
      · have hi2 : ¬ (i : Int) < ((2 ^ K : Nat) : Int) := by omega
        have hn : ofLevelI K n = none := by
          unfold ofLevelI
          rw [List.find?_eq_none]
          intro x hx
          simpa using hv x (by have := List.mem_range.1 hx; omega)
        rw [hn] at eE eS
        rw [eE, eS]
        delta c36l1
        simp (maxSteps := 4000000) -implicitDefEqProofs only [rv36, e100, hpc, hi2, InR, Ent.of0, Ent.of1, Ent.of2, Ent.of3, V, bV, bl, bu, bW, cM, cT, gt, lk, cb, cG, ce, bX, cg, cn, cn.subCs, cV, a3, bh, bO, ax, bH, bJ, aC, bK, bw, aV, bv, av, cC, cO, cQ, ag, aK, bQ, bS, b0, cU, cR, aD, au, bY, bo, zC, argS, bE, cI, cY, cN, ai, aw, aI, aU, co, leC, cm, bZ, cd, c7, bN, aM, aX, cW, an, cr, a7, a7.viewCs, a9, a9.flatCs, aG, aG.LensOks, Value.oneCell', ↓reduceIte, ite_true, ite_false, if_true, if_false, Nat.reduceAdd, Nat.reduceSub, Nat.reduceMul, Nat.reduceEqDiff, Nat.reduceLT, Nat.reduceLeDiff, reduceCtorEq, Int.reduceToNat, forall_const, implies_true, a5, Ent.mk3, bF, bp, bA, a8, br, bj, bL, bC, a6, a4, bm, bP, bz, cP, rn, cz, cz.renCs, aE, aF, aQ, aQ.viewOks, az, bq, bq.flatBs, ay, ar, aA, ah, aW, bM, bM.keysBs, aT, am, aZ, bR, be, cq, ae, ae.passKs, aN, aY, af, af.lendKs, cJ, cp, cu, bD, setInn, ap, cL, cS, aR, bn, cj, bT, aJ, aO, Glob.gl, aP, cF, bG, cc, bg, ak, cH, cZ, cB, c6, cK, aj, aj.ptrOnlys, aq, aB, cD, aH, bf, bI, ca, aL, bB, bU, Nat.reduceBEq, undef]
  · have e2 : blE c n = 2 := by unfold blE; rw [if_neg hc]
    have e3 : blS c n = [] := by unfold blS; rw [if_neg hc]
    rw [e2, e3]
    refine fc_intro' is36 (by simp) (fun cx hl => S_run [e32] 800 ?_)
    delta c36
    simp (maxSteps := 4000000) -implicitDefEqProofs only [rv36, e32, hc, Ent.of0, Ent.of1, Ent.of2, Ent.of3, V, bV, bl, bu, bW, cM, cT, gt, lk, cb, cG, ce, bX, cg, cn, cn.subCs, cV, a3, bh, bO, ax, bH, bJ, aC, bK, bw, aV, bv, av, cC, cO, cQ, ag, aK, bQ, bS, b0, cU, cR, aD, au, bY, bo, zC, argS, bE, cI, cY, cN, ai, aw, aI, aU, co, leC, cm, bZ, cd, c7, bN, aM, aX, cW, an, cr, a7, a7.viewCs, a9, a9.flatCs, aG, aG.LensOks, Value.oneCell', ↓reduceIte, ite_true, ite_false, if_true, if_false, Nat.reduceAdd, Nat.reduceSub, Nat.reduceMul, Nat.reduceEqDiff, Nat.reduceLT, Nat.reduceLeDiff, reduceCtorEq, Int.reduceToNat, forall_const, implies_true, a5, Ent.mk3, bF, bp, bA, a8, br, bj, bL, bC, a6, a4, bm, bP, bz, cP, rn, cz, cz.renCs, aE, aF, aQ, aQ.viewOks, az, bq, bq.flatBs, ay, ar, aA, ah, aW, bM, bM.keysBs, aT, am, aZ, bR, be, cq, ae, ae.passKs, aN, aY, af, af.lendKs, cJ, cp, cu, bD, setInn, ap, cL, cS, aR, bn, cj, bT, aJ, aO, Glob.gl, aP, cF, bG, cc, bg, ak, cH, cZ, cB, c6, cK, aj, aj.ptrOnlys, aq, aB, cD, aH, bf, bI, ca, aL, bB, bU, Nat.reduceBEq, undef]
def e36 : Ent Try.prog := .of2 36 (fun _ _ => True) (fun c n : Int => .tup [enc (blS c n), enc (blE c n)]) (fun _ _ => ⟨trivial, trivial, trivial⟩) (fun c n _ => RBitsOf_c c n)
end Go.Proofs.Ytfgpbmjmoobcnaa
end
section
open Go Go.Am
open Go.Am.Dat (cells)
namespace Go.Proofs.Ytfgpbmjmoobcnaa
set_option maxHeartbeats 4000000
set_option maxRecDepth 100000
set_option linter.unusedSimpArgs false
theorem ordErr_eq (n : Int) : ordErr n = orderErrS n := by unfold ordErr orderErrS; split <;> split <;> first | rfl | omega
end Go.Proofs.Ytfgpbmjmoobcnaa
end
section
open Go Go.Am
open Go.Am.Dat (cells)
namespace Go.Proofs.Ytfgpbmjmoobcnaa
set_option maxHeartbeats 4000000
set_option maxRecDepth 100000
set_option linter.unusedSimpArgs false
theorem parts_c (g : Gs) : FC Try.prog 120 [enc g] [] (.agg [.s (.int .i64 g.re), .s (.int .i64 g.im)]) [] := by
  refine fc_intro' is120 (by simp) (fun cx _ => S_run [] 400 ?_)
  delta c120
  simp (maxSteps := 4000000) -implicitDefEqProofs only [rv120, Int.cast_ofNat_Int, Int.natCast_one, Int.natCast_zero, Int.reduceAdd, Int.reduceSub, Int.reduceMul, Int.reduceLT, Int.reduceLE, Int.reduceTMod, Int.reduceTDiv, Int.reduceNeg, Int.reduceEq, Nat.reducePow, Int.reducePow, ne_eq, not_false_eq_true, Ent.of0, Ent.of1, Ent.of2, Ent.of3, V, bV, bl, bu, bW, cM, cT, gt, lk, cb, cG, ce, bX, cg, cn, cn.subCs, cV, a3, bh, bO, ax, bH, bJ, aC, bK, bw, aV, bv, av, cC, cO, cQ, ag, aK, bQ, bS, b0, cU, cR, aD, au, bY, bo, zC, argS, bE, cI, cY, cN, ai, aw, aI, aU, co, leC, cm, bZ, cd, c7, bN, aM, aX, cW, an, cr, a7, a7.viewCs, a9, a9.flatCs, aG, aG.LensOks, Value.oneCell', ↓reduceIte, ite_true, ite_false, if_true, if_false, Nat.reduceAdd, Nat.reduceSub, Nat.reduceMul, Nat.reduceEqDiff, Nat.reduceLT, Nat.reduceLeDiff, reduceCtorEq, Int.reduceToNat, forall_const, implies_true, a5, Ent.mk3, bF, bp, bA, a8, br, bj, bL, bC, a6, a4, bm, bP, bz, cP, rn, cz, cz.renCs, aE, aF, aQ, aQ.viewOks, az, bq, bq.flatBs, ay, ar, aA, ah, aW, bM, bM.keysBs, aT, am, aZ, bR, be, cq, ae, ae.passKs, aN, aY, af, af.lendKs, cJ, cp, cu, bD, setInn, ap, cL, cS, aR, bn, cj, bT, aJ, aO, Glob.gl, aP, cF, bG, cc, bg, ak, cH, cZ, cB, c6, cK, aj, aj.ptrOnlys, aq, aB, cD, aH, bf, bI, ca, aL, bB, bU, Nat.reduceBEq, undef]
def e120 : Ent Try.prog := .of1 120 (fun _ => True) (fun g : Gs => .agg [.s (.int .i64 g.re), .s (.int .i64 g.im)]) (fun _ => ⟨trivial, trivial, trivial⟩) (fun g _ => parts_c g)
theorem square_c (n : Int) (h : InR .i64 (n * n)) : FC Try.prog 141 [enc n] [] (enc (n * n)) [] := by
  refine fc_intro' is141 (by simp) (fun cx _ => S_run [] 400 ?_)
  delta c141
  simp (maxSteps := 4000000) -implicitDefEqProofs only [rv141, h, Ent.of0, Ent.of1, Ent.of2, Ent.of3, V, bV, bl, bu, bW, cM, cT, gt, lk, cb, cG, ce, bX, cg, cn, cn.subCs, cV, a3, bh, bO, ax, bH, bJ, aC, bK, bw, aV, bv, av, cC, cO, cQ, ag, aK, bQ, bS, b0, cU, cR, aD, au, bY, bo, zC, argS, bE, cI, cY, cN, ai, aw, aI, aU, co, leC, cm, bZ, cd, c7, bN, aM, aX, cW, an, cr, a7, a7.viewCs, a9, a9.flatCs, aG, aG.LensOks, Value.oneCell', ↓reduceIte, ite_true, ite_false, if_true, if_false, Nat.reduceAdd, Nat.reduceSub, Nat.reduceMul, Nat.reduceEqDiff, Nat.reduceLT, Nat.reduceLeDiff, reduceCtorEq, Int.reduceToNat, forall_const, implies_true, a5, Ent.mk3, bF, bp, bA, a8, br, bj, bL, bC, a6, a4, bm, bP, bz, cP, rn, cz, cz.renCs, aE, aF, aQ, aQ.viewOks, az, bq, bq.flatBs, ay, ar, aA, ah, aW, bM, bM.keysBs, aT, am, aZ, bR, be, cq, ae, ae.passKs, aN, aY, af, af.lendKs, cJ, cp, cu, bD, setInn, ap, cL, cS, aR, bn, cj, bT, aJ, aO, Glob.gl, aP, cF, bG, cc, bg, ak, cH, cZ, cB, c6, cK, aj, aj.ptrOnlys, aq, aB, cD, aH, bf, bI, ca, aL, bB, bU, Nat.reduceBEq, undef]
def e141 : Ent Try.prog := .of1 141 (fun n => InR .i64 (n * n)) (fun n : Int => enc (n * n)) (fun _ => trivial) (fun n h => square_c n h)
theorem minS_le : ∀ (l : List Int) (x : Int), ∀ y ∈ x :: l, l.foldl (fun a b => if b < a then b else a) x ≤ y
  | [], x, y, h => by simp at h; subst h; exact Int.le_refl _
  | z :: l, x, y, h => by
    simp only [List.foldl_cons]
    have e : (if z < x then z else x) ≤ x ∧ (if z < x then z else x) ≤ z := by split <;> omega
    have ih := minS_le l (if z < x then z else x)
    rcases List.mem_cons.1 h with rfl | h
    · have := ih _ List.mem_cons_self
      omega
    · rcases List.mem_cons.1 h with rfl | h
      · have := ih _ List.mem_cons_self
        omega
      · exact ih _ (List.mem_cons_of_mem _ h)
theorem minS_eq {l : List Int} {m : Int} (h1 : m ∈ l) (h2 : ∀ x ∈ l, m ≤ x) : minS l = m := by
  cases l with
  | nil => cases h1
  | cons x t =>
    have a1 := minS_mem t x
    have a2 := minS_le t x
    have b1 := h2 _ a1
    have b2 := a2 _ h1
    show t.foldl _ x = m
    omega
theorem minS_congr {a b : List Int} (h : ∀ x, x ∈ a ↔ x ∈ b) : minS a = minS b := by
  cases a with
  | nil =>
    cases b with
    | nil => rfl
    | cons y u => have := (h y).2 List.mem_cons_self; cases this
  | cons x t =>
    cases b with
    | nil => have := (h x).1 List.mem_cons_self; cases this
    | cons y u =>
      refine (minS_eq (l := y :: u) ?_ ?_).symm
      · exact (h _).1 (minS_mem t x)
      · exact fun z hz => minS_le t x z ((h z).2 hz)
theorem idx_first {sq : List Int} {b : Nat} (hb : b < sq.length) (h1 : ∀ j, j < sq.length → sq.getD b 0 ≤ sq.getD j 0) (h2 : ∀ j, j < b → sq.getD b 0 < sq.getD j 0) :
    minS sq = sq.getD b 0 ∧ idxOfI sq (fun x => decide (minS sq = x)) = (b : Int) := by
  have hm : minS sq = sq.getD b 0 := minS_eq (by rw [List.getD_eq_getElem?_getD, List.getElem?_eq_getElem hb]; exact List.getElem_mem hb) (fun x hx => by
    obtain ⟨j, hj, rfl⟩ := List.getElem_of_mem hx
    have := h1 j hj
    rwa [List.getD_eq_getElem?_getD (i := j), List.getElem?_eq_getElem hj] at this)
  refine ⟨hm, ?_⟩
  unfold idxOfI
  have : sq.findIdx? (fun x => decide (minS sq = x)) = some b := by
    rw [List.findIdx?_eq_some_iff_getElem]
    refine ⟨hb, ?_, fun j hj => ?_⟩
    · rw [hm, List.getD_eq_getElem?_getD, List.getElem?_eq_getElem hb]; simp
    · have := h2 j hj
      rw [← hm] at this
      rw [List.getD_eq_getElem?_getD (i := j), List.getElem?_eq_getElem (by omega)] at this
      simp only [Option.getD_some] at this
      rw [decide_eq_true_eq]; omega
  rw [this]
theorem lvls_getD {c i : Nat} (h : i < 2 ^ c) : (lvls c).getD i 0 = 2 * (i : Int) - (2 ^ c - 1) := by
  have hi' : i < (lvls c).length := by rw [lvls_length]; exact h
  rw [List.getD_eq_getElem?_getD, List.getElem?_eq_getElem hi']
  simp [lvls]
theorem sqS_getD {c i : Nat} (h : i < 2 ^ c) (g n : Int) : (sqS c g n).getD i 0 = (n - (lvls c).getD i 0 * g) * (n - (lvls c).getD i 0 * g) :=
  getD_map' _ _ _ _ _ (by rw [lvls_length]; exact h)
theorem sq_lt {a b : Int} : (if -a > a then -a else a) < (if -b > b then -b else b) ↔ a * a < b * b := by
  have e1 : a * a = (if -a > a then -a else a) * (if -a > a then -a else a) := by split <;> grind
  have e2 : b * b = (if -b > b then -b else b) * (if -b > b then -b else b) := by split <;> grind
  have p1 : 0 ≤ (if -a > a then -a else a) := by split <;> omega
  have p2 : 0 ≤ (if -b > b then -b else b) := by split <;> omega
  rw [e1, e2]
  generalize (if -a > a then -a else a) = x at *
  generalize (if -b > b then -b else b) = y at *
  constructor
  · intro h
    exact Int.lt_of_le_of_lt (Int.mul_le_mul_of_nonneg_left (Int.le_of_lt h) p1) (Int.mul_lt_mul_of_pos_right h (by omega))
  · intro h
    rcases Int.lt_or_le x y with h3 | h3
    · exact h3
    · exfalso
      have := Int.mul_le_mul h3 h3 p2 p1
      omega
theorem nearest_c (c : Nat) (g n : Int) (hc : c = 1 ∨ c = 2 ∨ c = 3) (hg : 1 ≤ g ∧ g ≤ 10000000) (hn : -100000000 ≤ n ∧ n ≤ 100000000) : FC Try.prog 121 [enc (c : Int), enc g, enc n] [] (enc (hardS c (sqS c g n))) [] := by
  have hc6 : c ≤ 6 := by omega
  have hp : 2 ^ c ≤ 2 ^ 3 := Nat.pow_le_pow_right (by decide) (by omega)
  have hp0 : 0 < 2 ^ c := Nat.two_pow_pos c
  have hpc : (2 : Int) ^ c = ((2 ^ c : Nat) : Int) := by push_cast; rfl
  have hsl : (sqS c g n).length = 2 ^ c := by simp [sqS, lvls_length]
  refine fc_intro' is121 (by simp) (fun cx hl => S_run [e100 c hc6] 800 ?_)
  delta c121
  simp (maxSteps := 4000000) -implicitDefEqProofs only [rv121, e100, hpc, InR, Ent.of0, Ent.of1, Ent.of2, Ent.of3, V, bV, bl, bu, bW, cM, cT, gt, lk, cb, cG, ce, bX, cg, cn, cn.subCs, cV, a3, bh, bO, ax, bH, bJ, aC, bK, bw, aV, bv, av, cC, cO, cQ, ag, aK, bQ, bS, b0, cU, cR, aD, au, bY, bo, zC, argS, bE, cI, cY, cN, ai, aw, aI, aU, co, leC, cm, bZ, cd, c7, bN, aM, aX, cW, an, cr, a7, a7.viewCs, a9, a9.flatCs, aG, aG.LensOks, Value.oneCell', ↓reduceIte, ite_true, ite_false, if_true, if_false, Nat.reduceAdd, Nat.reduceSub, Nat.reduceMul, Nat.reduceEqDiff, Nat.reduceLT, Nat.reduceLeDiff, reduceCtorEq, Int.reduceToNat, forall_const, implies_true, a5, Ent.mk3, bF, bp, bA, a8, br, bj, bL, bC, a6, a4, bm, bP, bz, cP, rn, cz, cz.renCs, aE, aF, aQ, aQ.viewOks, az, bq, bq.flatBs, ay, ar, aA, ah, aW, bM, bM.keysBs, aT, am, aZ, bR, be, cq, ae, ae.passKs, aN, aY, af, af.lendKs, cJ, cp, cu, bD, setInn, ap, cL, cS, aR, bn, cj, bT, aJ, aO, Glob.gl, aP, cF, bG, cc, bg, ak, cH, cZ, cB, c6, cK, aj, aj.ptrOnlys, aq, aB, cD, aH, bf, bI, ca, aL, bB, bU, Nat.reduceBEq, undef]
  refine ⟨by omega, ?_⟩
  refine S_loopU (α := Nat × Nat) (fun v => [(8, .s (.int .i64 (2 * (v.1 : Int) - ((2 ^ c : Nat) - 1)))), (7, .s (.int .i64 (2 * (v.2 : Int) - ((2 ^ c : Nat) - 1))))]) (fun _ => [])
    (fun v => v.1 ≤ 2 ^ c ∧ v.2 < 2 ^ c ∧ v.2 ≤ v.1 ∧ (∀ j, j < v.1 → (sqS c g n).getD v.2 0 ≤ (sqS c g n).getD j 0) ∧ (∀ j, j < v.2 → (sqS c g n).getD v.2 0 < (sqS c g n).getD j 0))
    (fun v => 2 ^ c - v.1) (0, 0) ⟨by omega, by omega, by omega, fun j hj => by simp at hj, fun j hj => by simp at hj⟩ ?_ (fun v hv => S_run [e100 c hc6, e33, e36] 800 ?_)
  · simp (maxSteps := 4000000) -implicitDefEqProofs only [Ent.of0, Ent.of1, Ent.of2, Ent.of3, V, bV, bl, bu, bW, cM, cT, gt, lk, cb, cG, ce, bX, cg, cn, cn.subCs, cV, a3, bh, bO, ax, bH, bJ, aC, bK, bw, aV, bv, av, cC, cO, cQ, ag, aK, bQ, bS, b0, cU, cR, aD, au, bY, bo, zC, argS, bE, cI, cY, cN, ai, aw, aI, aU, co, leC, cm, bZ, cd, c7, bN, aM, aX, cW, an, cr, a7, a7.viewCs, a9, a9.flatCs, aG, aG.LensOks, Value.oneCell', ↓reduceIte, ite_true, ite_false, if_true, if_false, Nat.reduceAdd, Nat.reduceSub, Nat.reduceMul, Nat.reduceEqDiff, Nat.reduceLT, Nat.reduceLeDiff, reduceCtorEq, Int.reduceToNat, forall_const, implies_true, a5, Ent.mk3, bF, bp, bA, a8, br, bj, bL, bC, a6, a4, bm, bP, bz, cP, rn, cz, cz.renCs, aE, aF, aQ, aQ.viewOks, az, bq, bq.flatBs, ay, ar, aA, ah, aW, bM, bM.keysBs, aT, am, aZ, bR, be, cq, ae, ae.passKs, aN, aY, af, af.lendKs, cJ, cp, cu, bD, setInn, ap, cL, cS, aR, bn, cj, bT, aJ, aO, Glob.gl, aP, cF, bG, cc, bg, ak, cH, cZ, cB, c6, cK, aj, aj.ptrOnlys, aq, aB, cD, aH, bf, bI, ca, aL, bB, bU, Nat.reduceBEq, undef]; simp; omega
  · obtain ⟨k, b⟩ := v
    obtain ⟨v1, v2, v3, v4, v5⟩ := hv
    simp only at v1 v2 v3 v4 v5
    have hsq : ∀ j, j < 2 ^ c → (sqS c g n).getD j 0 = (n - g * (2 * (j : Int) - ((2 ^ c : Nat) - 1))) * (n - g * (2 * (j : Int) - ((2 ^ c : Nat) - 1))) := fun j hj => by
      rw [sqS_getD hj, lvls_getD hj, hpc, Int.mul_comm g]
    have hbd : ∀ j : Nat, j < 2 ^ c → -70000000 ≤ g * (2 * (j : Int) - ((2 ^ c : Nat) - 1)) ∧ g * (2 * (j : Int) - ((2 ^ c : Nat) - 1)) ≤ 70000000 := fun j hj => by
      rw [Int.mul_comm g]
      exact lg_bd (by omega) hg
    have bb := hbd b v2
    have sb := hsq b v2
    by_cases h : k < 2 ^ c
    · have bk := hbd k h
      have sk := hsq k h
      have hlt : 2 * (k : Int) - (((2 ^ c : Nat) : Int) - 1) < ((2 ^ c : Nat) : Int) := by omega
      by_cases hq : (if -(n - g * (2 * (k : Int) - ((2 ^ c : Nat) - 1))) > n - g * (2 * (k : Int) - ((2 ^ c : Nat) - 1)) then -(n - g * (2 * (k : Int) - ((2 ^ c : Nat) - 1))) else n - g * (2 * (k : Int) - ((2 ^ c : Nat) - 1))) < (if -(n - g * (2 * (b : Int) - ((2 ^ c : Nat) - 1))) > n - g * (2 * (b : Int) - ((2 ^ c : Nat) - 1)) then -(n - g * (2 * (b : Int) - ((2 ^ c : Nat) - 1))) else n - g * (2 * (b : Int) - ((2 ^ c : Nat) - 1)))
      · have hq2 := sq_lt.1 hq
        rw [← sk, ← sb] at hq2
        delta c121l1
        simp (maxSteps := 4000000) -implicitDefEqProofs only [e100, hpc, e33, hlt, hq, InR, Ent.of0, Ent.of1, Ent.of2, Ent.of3, V, bV, bl, bu, bW, cM, cT, gt, lk, cb, cG, ce, bX, cg, cn, cn.subCs, cV, a3, bh, bO, ax, bH, bJ, aC, bK, bw, aV, bv, av, cC, cO, cQ, ag, aK, bQ, bS, b0, cU, cR, aD, au, bY, bo, zC, argS, bE, cI, cY, cN, ai, aw, aI, aU, co, leC, cm, bZ, cd, c7, bN, aM, aX, cW, an, cr, a7, a7.viewCs, a9, a9.flatCs, aG, aG.LensOks, Value.oneCell', ↓reduceIte, ite_true, ite_false, if_true, if_false, Nat.reduceAdd, Nat.reduceSub, Nat.reduceMul, Nat.reduceEqDiff, Nat.reduceLT, Nat.reduceLeDiff, reduceCtorEq, Int.reduceToNat, forall_const, implies_true, a5, Ent.mk3, bF, bp, bA, a8, br, bj, bL, bC, a6, a4, bm, bP, bz, cP, rn, cz, cz.renCs, aE, aF, aQ, aQ.viewOks, az, bq, bq.flatBs, ay, ar, aA, ah, aW, bM, bM.keysBs, aT, am, aZ, bR, be, cq, ae, ae.passKs, aN, aY, af, af.lendKs, cJ, cp, cu, bD, setInn, ap, cL, cS, aR, bn, cj, bT, aJ, aO, Glob.gl, aP, cF, bG, cc, bg, ak, cH, cZ, cB, c6, cK, aj, aj.ptrOnlys, aq, aB, cD, aH, bf, bI, ca, aL, bB, bU, Nat.reduceBEq, undef]
        refine ⟨by omega, by omega, by omega, by omega, by omega, by omega, by omega, (k + 1, k), ⟨by omega, by omega, by omega, fun j hj => ?_, fun j hj => ?_⟩, by omega, ?_⟩
        · show (sqS c g n).getD k 0 ≤ (sqS c g n).getD j 0
          by_cases hj2 : j = k
          · rw [hj2]; exact Int.le_refl _
          · have hj3 : j < k + 1 := hj
            have := v4 j (by omega); omega
        · show (sqS c g n).getD k 0 < (sqS c g n).getD j 0
          have := v4 j hj; omega
        · constructor <;> simp only <;> omega
      · have hq2 : ¬ _ := fun h => hq (sq_lt.2 h)
        rw [← sk, ← sb] at hq2
        delta c121l1
        simp (maxSteps := 4000000) -implicitDefEqProofs only [e100, hpc, e33, hlt, hq, InR, Ent.of0, Ent.of1, Ent.of2, Ent.of3, V, bV, bl, bu, bW, cM, cT, gt, lk, cb, cG, ce, bX, cg, cn, cn.subCs, cV, a3, bh, bO, ax, bH, bJ, aC, bK, bw, aV, bv, av, cC, cO, cQ, ag, aK, bQ, bS, b0, cU, cR, aD, au, bY, bo, zC, argS, bE, cI, cY, cN, ai, aw, aI, aU, co, leC, cm, bZ, cd, c7, bN, aM, aX, cW, an, cr, a7, a7.viewCs, a9, a9.flatCs, aG, aG.LensOks, Value.oneCell', ↓reduceIte, ite_true, ite_false, if_true, if_false, Nat.reduceAdd, Nat.reduceSub, Nat.reduceMul, Nat.reduceEqDiff, Nat.reduceLT, Nat.reduceLeDiff, reduceCtorEq, Int.reduceToNat, forall_const, implies_true, a5, Ent.mk3, bF, bp, bA, a8, br, bj, bL, bC, a6, a4, bm, bP, bz, cP, rn, cz, cz.renCs, aE, aF, aQ, aQ.viewOks, az, bq, bq.flatBs, ay, ar, aA, ah, aW, bM, bM.keysBs, aT, am, aZ, bR, be, cq, ae, ae.passKs, aN, aY, af, af.lendKs, cJ, cp, cu, bD, setInn, ap, cL, cS, aR, bn, cj, bT, aJ, aO, Glob.gl, aP, cF, bG, cc, bg, ak, cH, cZ, cB, c6, cK, aj, aj.ptrOnlys, aq, aB, cD, aH, bf, bI, ca, aL, bB, bU, Nat.reduceBEq, undef]
        refine ⟨by omega, by omega, by omega, by omega, by omega, by omega, by omega, (k + 1, b), ⟨by omega, by omega, by omega, fun j hj => ?_, v5⟩, by omega, ?_⟩
        · show (sqS c g n).getD b 0 ≤ (sqS c g n).getD j 0
          by_cases hj2 : j = k
          · rw [hj2]; omega
          · have hj3 : j < k + 1 := hj
            exact v4 j (by omega)
        · constructor <;> simp only <;> omega
    · have hk : k = 2 ^ c := by omega
      have hlt : ¬ 2 * (k : Int) - (((2 ^ c : Nat) : Int) - 1) < ((2 ^ c : Nat) : Int) := by omega
      obtain ⟨m1, m2⟩ := idx_first (sq := sqS c g n) (b := b) (by omega) (fun j hj => v4 j (by omega)) v5
      have hS : hardS c (sqS c g n) = blS (c : Int) (2 * (b : Int) - ((2 ^ c : Nat) - 1)) := by
        unfold hardS blS
        rw [m2, if_pos (by omega), Int.toNat_natCast, Int.toNat_natCast, lvls_getD v2, hpc] <;> rfl
      rw [hS]
      delta c121l1
      simp (maxSteps := 4000000) -implicitDefEqProofs only [rv121, e100, hpc, e33, e36, hlt, InR, Ent.of0, Ent.of1, Ent.of2, Ent.of3, V, bV, bl, bu, bW, cM, cT, gt, lk, cb, cG, ce, bX, cg, cn, cn.subCs, cV, a3, bh, bO, ax, bH, bJ, aC, bK, bw, aV, bv, av, cC, cO, cQ, ag, aK, bQ, bS, b0, cU, cR, aD, au, bY, bo, zC, argS, bE, cI, cY, cN, ai, aw, aI, aU, co, leC, cm, bZ, cd, c7, bN, aM, aX, cW, an, cr, a7, a7.viewCs, a9, a9.flatCs, aG, aG.LensOks, Value.oneCell', ↓reduceIte, ite_true, ite_false, if_true, if_false, Nat.reduceAdd, Nat.reduceSub, Nat.reduceMul, Nat.reduceEqDiff, Nat.reduceLT, Nat.reduceLeDiff, reduceCtorEq, Int.reduceToNat, forall_const, implies_true, a5, Ent.mk3, bF, bp, bA, a8, br, bj, bL, bC, a6, a4, bm, bP, bz, cP, rn, cz, cz.renCs, aE, aF, aQ, aQ.viewOks, az, bq, bq.flatBs, ay, ar, aA, ah, aW, bM, bM.keysBs, aT, am, aZ, bR, be, cq, ae, ae.passKs, aN, aY, af, af.lendKs, cJ, cp, cu, bD, setInn, ap, cL, cS, aR, bn, cj, bT, aJ, aO, Glob.gl, aP, cF, bG, cc, bg, ak, cH, cZ, cB, c6, cK, aj, aj.ptrOnlys, aq, aB, cD, aH, bf, bI, ca, aL, bB, bU, Nat.reduceBEq, undef]
end Go.Proofs.Ytfgpbmjmoobcnaa
end
section
open Go Go.Am
open Go.Am.Dat (cells)
namespace Go.Proofs.Ytfgpbmjmoobcnaa
set_option maxHeartbeats 4000000
set_option maxRecDepth 100000
set_option linter.unusedSimpArgs false
def dvS (c : Nat) (g p : Int) (n : Nat) : Int := (p - g * levelS (bitsOfS n c c)) * (p - g * levelS (bitsOfS n c c))
def aS (c bt : Nat) (g p : Int) (b : Int) (n : Nat) : List Int := ((List.range n).filter fun m => decide ((bitsOfS m c c).getD bt 0 = b)).map (dvS c g p)
theorem aS_succ (c bt : Nat) (g p b : Int) (n : Nat) : aS c bt g p b (n + 1) = if (bitsOfS n c c).getD bt 0 = b then aS c bt g p b n ++ [dvS c g p n] else aS c bt g p b n := by
  unfold aS
  rw [List.range_succ, List.filter_append, List.map_append]
  by_cases h : (bitsOfS n c c).getD bt 0 = b
  · rw [if_pos h, List.filter_cons_of_pos (by simpa using h)]; rfl
  · rw [if_neg h, List.filter_cons_of_neg (by simpa using h)]; simp
theorem minS_snoc (l : List Int) (x : Int) (h : l.isEmpty = false) : minS (l ++ [x]) = if x < minS l then x else minS l := by
  cases l with
  | nil => cases h
  | cons y t =>
    show List.foldl _ y (t ++ [x]) = _
    rw [List.foldl_append]; rfl
theorem sets_eq {X Y : List Int} (F : Int → Int) (h : (X.all (fun x => Y.contains x) && Y.all fun x => X.contains x) = true) : minS (X.map F) = minS (Y.map F) := by
  rw [Bool.and_eq_true, List.all_eq_true, List.all_eq_true] at h
  apply minS_congr
  intro x
  constructor
  · intro hx
    obtain ⟨y, hy, rfl⟩ := List.mem_map.1 hx
    exact List.mem_map.2 ⟨y, by simpa using h.1 y hy, rfl⟩
  · intro hx
    obtain ⟨y, hy, rfl⟩ := List.mem_map.1 hx
    exact List.mem_map.2 ⟨y, by simpa using h.2 y hy, rfl⟩
def xS (c bt : Nat) (b : Int) : List Int := ((List.range (2 ^ c)).filter fun (k : Nat) => decide (((ofLevelI c (2 * (k : Int) - (2 ^ c - 1))).map fun m => (bitsOfS m c c).getD bt 0) = some b)).map fun k => (lvls c).getD k 0
def yS (c bt : Nat) (b : Int) : List Int := ((List.range (2 ^ c)).filter fun m => decide ((bitsOfS m c c).getD bt 0 = b)).map fun m => levelS (bitsOfS m c c)
theorem xy_ok : ([(1, 0), (2, 0), (2, 1), (3, 0), (3, 1), (3, 2)] : List (Nat × Nat)).all (fun a => ([0, 1] : List Int).all fun b => (xS a.1 a.2 b).all (fun x => (yS a.1 a.2 b).contains x) && (yS a.1 a.2 b).all fun x => (xS a.1 a.2 b).contains x) = true := by decide +kernel
theorem near_aS (c bt : Nat) (g p b : Int) (hc : c = 1 ∨ c = 2 ∨ c = 3) (hb : bt < c) (h01 : b = 0 ∨ b = 1) : minS (nearS c bt b (sqS c g p)) = minS (aS c bt g p b (2 ^ c)) := by
  have e1 : nearS c bt b (sqS c g p) = (xS c bt b).map fun l => (p - l * g) * (p - l * g) := by
    unfold nearS xS
    rw [List.map_map]
    apply List.map_congr_left
    intro k hk
    have := List.mem_range.1 (List.mem_filter.1 hk).1
    exact sqS_getD this g p
  have e2 : aS c bt g p b (2 ^ c) = (yS c bt b).map fun l => (p - l * g) * (p - l * g) := by
    unfold aS yS
    rw [List.map_map]
    apply List.map_congr_left
    intro k hk
    simp only [dvS, Function.comp, Int.mul_comm g]
  rw [e1, e2]
  apply sets_eq
  have h := xy_ok
  rw [List.all_eq_true] at h
  have h1 := h (c, bt) (by
    rcases hc with rfl | rfl | rfl
    · have : bt = 0 := by omega
      subst this; decide
    · have : bt = 0 ∨ bt = 1 := by omega
      rcases this with rfl | rfl <;> decide
    · have : bt = 0 ∨ bt = 1 ∨ bt = 2 := by omega
      rcases this with rfl | rfl | rfl <;> decide)
  rw [List.all_eq_true] at h1
  exact h1 b (by rcases h01 with rfl | rfl <;> simp)
theorem dv_bd {c n : Nat} {g p : Int} (hc : c = 1 ∨ c = 2 ∨ c = 3) (hg : 1 ≤ g ∧ g ≤ 10000000) (hp : -100000000 ≤ p ∧ p ≤ 100000000) :
    (-70000000 ≤ g * levelS (bitsOfS n c c) ∧ g * levelS (bitsOfS n c c) ≤ 70000000) ∧ 0 ≤ dvS c g p n ∧ dvS c g p n ≤ 28900000000000000 := by
  have h1 := levelS_le (bitsOfS n c c) (bitsOfS_ok n c c)
  rw [bitsOfS_length] at h1
  have h2 : -7 ≤ levelS (bitsOfS n c c) ∧ levelS (bitsOfS n c c) ≤ 7 := by
    rcases hc with rfl | rfl | rfl
    · simp only [Int.reducePow] at h1; omega
    · simp only [Int.reducePow] at h1; omega
    · simp only [Int.reducePow] at h1; omega
  have h3 := lg_bd h2 hg
  rw [Int.mul_comm] at h3
  refine ⟨h3, ?_⟩
  have := sq_bd (d := p - g * levelS (bitsOfS n c c)) (B := 170000000) (by omega)
  simp only [dvS]
  omega
theorem rsoft_c (c bt : Nat) (g p : Int) (hc : c = 1 ∨ c = 2 ∨ c = 3) (hb : bt < c) (hg : 1 ≤ g ∧ g ≤ 10000000) (hn : -100000000 ≤ p ∧ p ≤ 100000000) : FC Try.prog 122 [enc (c : Int), enc g, enc p, enc (bt : Int)] [] (enc ((softS c (sqS c g p)).getD bt 0)) [] := by
  have hc6 : c ≤ 6 := by omega
  have hpw : 2 ^ c ≤ 2 ^ 3 := Nat.pow_le_pow_right (by decide) (by omega)
  have hpc : (2 : Int) ^ c = ((2 ^ c : Nat) : Int) := by push_cast; rfl
  have hS : (softS c (sqS c g p)).getD bt 0 = minS (aS c bt g p 1 (2 ^ c)) - minS (aS c bt g p 0 (2 ^ c)) := by
    unfold softS
    rw [rng_getD _ _ hb, near_aS c bt g p 1 hc hb (.inr rfl), near_aS c bt g p 0 hc hb (.inl rfl)]
  rw [hS]
  have hmin : ∀ b n, 0 ≤ minS (aS c bt g p b n) ∧ minS (aS c bt g p b n) ≤ 28900000000000000 := fun b n => by
    rcases Nat.eq_zero_or_pos (aS c bt g p b n).length with h | h
    · rw [List.length_eq_zero_iff.1 h]; decide
    · refine minS_bd h fun x hx => ?_
      obtain ⟨m, hm, rfl⟩ := List.mem_map.1 hx
      exact (dv_bd hc hg hn).2
  refine fc_intro' is122 (by simp) (fun cx hl => S_run [] 800 ?_)
  delta c122
  simp (maxSteps := 4000000) -implicitDefEqProofs only [rv122, Ent.of0, Ent.of1, Ent.of2, Ent.of3, V, bV, bl, bu, bW, cM, cT, gt, lk, cb, cG, ce, bX, cg, cn, cn.subCs, cV, a3, bh, bO, ax, bH, bJ, aC, bK, bw, aV, bv, av, cC, cO, cQ, ag, aK, bQ, bS, b0, cU, cR, aD, au, bY, bo, zC, argS, bE, cI, cY, cN, ai, aw, aI, aU, co, leC, cm, bZ, cd, c7, bN, aM, aX, cW, an, cr, a7, a7.viewCs, a9, a9.flatCs, aG, aG.LensOks, Value.oneCell', ↓reduceIte, ite_true, ite_false, if_true, if_false, Nat.reduceAdd, Nat.reduceSub, Nat.reduceMul, Nat.reduceEqDiff, Nat.reduceLT, Nat.reduceLeDiff, reduceCtorEq, Int.reduceToNat, forall_const, implies_true, a5, Ent.mk3, bF, bp, bA, a8, br, bj, bL, bC, a6, a4, bm, bP, bz, cP, rn, cz, cz.renCs, aE, aF, aQ, aQ.viewOks, az, bq, bq.flatBs, ay, ar, aA, ah, aW, bM, bM.keysBs, aT, am, aZ, bR, be, cq, ae, ae.passKs, aN, aY, af, af.lendKs, cJ, cp, cu, bD, setInn, ap, cL, cS, aR, bn, cj, bT, aJ, aO, Glob.gl, aP, cF, bG, cc, bg, ak, cH, cZ, cB, c6, cK, aj, aj.ptrOnlys, aq, aB, cD, aH, bf, bI, ca, aL, bB, bU, Nat.reduceBEq, undef]
  refine S_forU (2 ^ c) (fun n => [(11, .s (.int .i64 (n : Int)))]) (fun n => [(9, .box [.s (.int .i64 (minS (aS c bt g p 0 n))), .s (.int .i64 (minS (aS c bt g p 1 n)))]), (10, .box [.s (.bool (!(aS c bt g p 0 n).isEmpty)), .s (.bool (!(aS c bt g p 1 n).isEmpty))])]) (fun _ => True) trivial ?_ (fun n hi _ => S_run [e100 c hc6, e34, e40, e141] 800 ?_)
  · simp (maxSteps := 4000000) -implicitDefEqProofs only [aS, Ent.of0, Ent.of1, Ent.of2, Ent.of3, V, bV, bl, bu, bW, cM, cT, gt, lk, cb, cG, ce, bX, cg, cn, cn.subCs, cV, a3, bh, bO, ax, bH, bJ, aC, bK, bw, aV, bv, av, cC, cO, cQ, ag, aK, bQ, bS, b0, cU, cR, aD, au, bY, bo, zC, argS, bE, cI, cY, cN, ai, aw, aI, aU, co, leC, cm, bZ, cd, c7, bN, aM, aX, cW, an, cr, a7, a7.viewCs, a9, a9.flatCs, aG, aG.LensOks, Value.oneCell', ↓reduceIte, ite_true, ite_false, if_true, if_false, Nat.reduceAdd, Nat.reduceSub, Nat.reduceMul, Nat.reduceEqDiff, Nat.reduceLT, Nat.reduceLeDiff, reduceCtorEq, Int.reduceToNat, forall_const, implies_true, a5, Ent.mk3, bF, bp, bA, a8, br, bj, bL, bC, a6, a4, bm, bP, bz, cP, rn, cz, cz.renCs, aE, aF, aQ, aQ.viewOks, az, bq, bq.flatBs, ay, ar, aA, ah, aW, bM, bM.keysBs, aT, am, aZ, bR, be, cq, ae, ae.passKs, aN, aY, af, af.lendKs, cJ, cp, cu, bD, setInn, ap, cL, cS, aR, bn, cj, bT, aJ, aO, Glob.gl, aP, cF, bG, cc, bg, ak, cH, cZ, cB, c6, cK, aj, aj.ptrOnlys, aq, aB, cD, aH, bf, bI, ca, aL, bB, bU, Nat.reduceBEq, undef]; simp [minS]
  · by_cases h : n < 2 ^ c
    · have hi2 : (n : Int) < ((2 ^ c : Nat) : Int) := by omega
      have hlen := bitsOfS_length n c c
      have hok := bitsOfS_ok n c c
      obtain ⟨d1, d2⟩ := dv_bd (n := n) hc hg hn
      have hc3 : 0 < c ∧ c ≤ 3 := by omega
      have hbi : (bt : Int) < (c : Int) := by omega
      have hdv : (p - g * levelS (bitsOfS n c c)) * (p - g * levelS (bitsOfS n c c)) = dvS c g p n := rfl
      rcases bits_getD hok bt with hz | hz
      · have n1 : aS c bt g p 1 (n + 1) = aS c bt g p 1 n := by rw [aS_succ, if_neg (by rw [hz]; decide)]
        have n0 : aS c bt g p 0 (n + 1) = aS c bt g p 0 n ++ [dvS c g p n] := by rw [aS_succ, if_pos hz]
        have i1 : (aS c bt g p 0 n ++ [dvS c g p n]).isEmpty = false := by cases aS c bt g p 0 n <;> rfl
        cases hE : (aS c bt g p 0 n).isEmpty with
        | true =>
          have m1 : minS (aS c bt g p 0 n ++ [dvS c g p n]) = dvS c g p n := by rw [List.isEmpty_iff.1 hE]; rfl
          delta c122l1
          simp (maxSteps := 4000000) -implicitDefEqProofs only [e100, hpc, hi2, h, e34, e40, e141, hlen, hok, hc3, hbi, hz, hE, hdv, n0, n1, m1, i1, Int.toNat_natCast, InR, Int.cast_ofNat_Int, Int.natCast_one, Int.natCast_zero, Int.reduceAdd, Int.reduceSub, Int.reduceMul, Int.reduceLT, Int.reduceLE, Int.reduceTMod, Int.reduceTDiv, Int.reduceNeg, Int.reduceEq, Nat.reducePow, Int.reducePow, ne_eq, not_false_eq_true, Ent.of0, Ent.of1, Ent.of2, Ent.of3, V, bV, bl, bu, bW, cM, cT, gt, lk, cb, cG, ce, bX, cg, cn, cn.subCs, cV, a3, bh, bO, ax, bH, bJ, aC, bK, bw, aV, bv, av, cC, cO, cQ, ag, aK, bQ, bS, b0, cU, cR, aD, au, bY, bo, zC, argS, bE, cI, cY, cN, ai, aw, aI, aU, co, leC, cm, bZ, cd, c7, bN, aM, aX, cW, an, cr, a7, a7.viewCs, a9, a9.flatCs, aG, aG.LensOks, Value.oneCell', ↓reduceIte, ite_true, ite_false, if_true, if_false, Nat.reduceAdd, Nat.reduceSub, Nat.reduceMul, Nat.reduceEqDiff, Nat.reduceLT, Nat.reduceLeDiff, reduceCtorEq, Int.reduceToNat, forall_const, implies_true, a5, Ent.mk3, bF, bp, bA, a8, br, bj, bL, bC, a6, a4, bm, bP, bz, cP, rn, cz, cz.renCs, aE, aF, aQ, aQ.viewOks, az, bq, bq.flatBs, ay, ar, aA, ah, aW, bM, bM.keysBs, aT, am, aZ, bR, be, cq, ae, ae.passKs, aN, aY, af, af.lendKs, cJ, cp, cu, bD, setInn, ap, cL, cS, aR, bn, cj, bT, aJ, aO, Glob.gl, aP, cF, bG, cc, bg, ak, cH, cZ, cB, c6, cK, aj, aj.ptrOnlys, aq, aB, cD, aH, bf, bI, ca, aL, bB, bU, Nat.reduceBEq, undef]
          and_intros <;> first | omega | rfl | trivial
        | false =>
          have m1 := minS_snoc _ (dvS c g p n) hE
          by_cases hlt : dvS c g p n < minS (aS c bt g p 0 n)
          · rw [if_pos hlt] at m1
            delta c122l1
            simp (maxSteps := 4000000) -implicitDefEqProofs only [e100, hpc, hi2, h, e34, e40, e141, hlen, hok, hc3, hbi, hz, hE, hdv, hlt, n0, n1, m1, i1, Int.toNat_natCast, InR, Int.cast_ofNat_Int, Int.natCast_one, Int.natCast_zero, Int.reduceAdd, Int.reduceSub, Int.reduceMul, Int.reduceLT, Int.reduceLE, Int.reduceTMod, Int.reduceTDiv, Int.reduceNeg, Int.reduceEq, Nat.reducePow, Int.reducePow, ne_eq, not_false_eq_true, Ent.of0, Ent.of1, Ent.of2, Ent.of3, V, bV, bl, bu, bW, cM, cT, gt, lk, cb, cG, ce, bX, cg, cn, cn.subCs, cV, a3, bh, bO, ax, bH, bJ, aC, bK, bw, aV, bv, av, cC, cO, cQ, ag, aK, bQ, bS, b0, cU, cR, aD, au, bY, bo, zC, argS, bE, cI, cY, cN, ai, aw, aI, aU, co, leC, cm, bZ, cd, c7, bN, aM, aX, cW, an, cr, a7, a7.viewCs, a9, a9.flatCs, aG, aG.LensOks, Value.oneCell', ↓reduceIte, ite_true, ite_false, if_true, if_false, Nat.reduceAdd, Nat.reduceSub, Nat.reduceMul, Nat.reduceEqDiff, Nat.reduceLT, Nat.reduceLeDiff, reduceCtorEq, Int.reduceToNat, forall_const, implies_true, a5, Ent.mk3, bF, bp, bA, a8, br, bj, bL, bC, a6, a4, bm, bP, bz, cP, rn, cz, cz.renCs, aE, aF, aQ, aQ.viewOks, az, bq, bq.flatBs, ay, ar, aA, ah, aW, bM, bM.keysBs, aT, am, aZ, bR, be, cq, ae, ae.passKs, aN, aY, af, af.lendKs, cJ, cp, cu, bD, setInn, ap, cL, cS, aR, bn, cj, bT, aJ, aO, Glob.gl, aP, cF, bG, cc, bg, ak, cH, cZ, cB, c6, cK, aj, aj.ptrOnlys, aq, aB, cD, aH, bf, bI, ca, aL, bB, bU, Nat.reduceBEq, undef]
            and_intros <;> first | omega | rfl | trivial
          · rw [if_neg hlt] at m1
            delta c122l1
            simp (maxSteps := 4000000) -implicitDefEqProofs only [e100, hpc, hi2, h, e34, e40, e141, hlen, hok, hc3, hbi, hz, hE, hdv, hlt, n0, n1, m1, i1, Int.toNat_natCast, InR, Int.cast_ofNat_Int, Int.natCast_one, Int.natCast_zero, Int.reduceAdd, Int.reduceSub, Int.reduceMul, Int.reduceLT, Int.reduceLE, Int.reduceTMod, Int.reduceTDiv, Int.reduceNeg, Int.reduceEq, Nat.reducePow, Int.reducePow, ne_eq, not_false_eq_true, Ent.of0, Ent.of1, Ent.of2, Ent.of3, V, bV, bl, bu, bW, cM, cT, gt, lk, cb, cG, ce, bX, cg, cn, cn.subCs, cV, a3, bh, bO, ax, bH, bJ, aC, bK, bw, aV, bv, av, cC, cO, cQ, ag, aK, bQ, bS, b0, cU, cR, aD, au, bY, bo, zC, argS, bE, cI, cY, cN, ai, aw, aI, aU, co, leC, cm, bZ, cd, c7, bN, aM, aX, cW, an, cr, a7, a7.viewCs, a9, a9.flatCs, aG, aG.LensOks, Value.oneCell', ↓reduceIte, ite_true, ite_false, if_true, if_false, Nat.reduceAdd, Nat.reduceSub, Nat.reduceMul, Nat.reduceEqDiff, Nat.reduceLT, Nat.reduceLeDiff, reduceCtorEq, Int.reduceToNat, forall_const, implies_true, a5, Ent.mk3, bF, bp, bA, a8, br, bj, bL, bC, a6, a4, bm, bP, bz, cP, rn, cz, cz.renCs, aE, aF, aQ, aQ.viewOks, az, bq, bq.flatBs, ay, ar, aA, ah, aW, bM, bM.keysBs, aT, am, aZ, bR, be, cq, ae, ae.passKs, aN, aY, af, af.lendKs, cJ, cp, cu, bD, setInn, ap, cL, cS, aR, bn, cj, bT, aJ, aO, Glob.gl, aP, cF, bG, cc, bg, ak, cH, cZ, cB, c6, cK, aj, aj.ptrOnlys, aq, aB, cD, aH, bf, bI, ca, aL, bB, bU, Nat.reduceBEq, undef]
            and_intros <;> first | omega | rfl | trivial
      · have n0 : aS c bt g p 0 (n + 1) = aS c bt g p 0 n := by rw [aS_succ, if_neg (by rw [hz]; decide)]
        have n1 : aS c bt g p 1 (n + 1) = aS c bt g p 1 n ++ [dvS c g p n] := by rw [aS_succ, if_pos hz]
        have i1 : (aS c bt g p 1 n ++ [dvS c g p n]).isEmpty = false := by cases aS c bt g p 1 n <;> rfl
        cases hE : (aS c bt g p 1 n).isEmpty with
        | true =>
          have m1 : minS (aS c bt g p 1 n ++ [dvS c g p n]) = dvS c g p n := by rw [List.isEmpty_iff.1 hE]; rfl
          delta c122l1
          simp (maxSteps := 4000000) -implicitDefEqProofs only [e100, hpc, hi2, h, e34, e40, e141, hlen, hok, hc3, hbi, hz, hE, hdv, n0, n1, m1, i1, Int.toNat_natCast, InR, Int.cast_ofNat_Int, Int.natCast_one, Int.natCast_zero, Int.reduceAdd, Int.reduceSub, Int.reduceMul, Int.reduceLT, Int.reduceLE, Int.reduceTMod, Int.reduceTDiv, Int.reduceNeg, Int.reduceEq, Nat.reducePow, Int.reducePow, ne_eq, not_false_eq_true, Ent.of0, Ent.of1, Ent.of2, Ent.of3, V, bV, bl, bu, bW, cM, cT, gt, lk, cb, cG, ce, bX, cg, cn, cn.subCs, cV, a3, bh, bO, ax, bH, bJ, aC, bK, bw, aV, bv, av, cC, cO, cQ, ag, aK, bQ, bS, b0, cU, cR, aD, au, bY, bo, zC, argS, bE, cI, cY, cN, ai, aw, aI, aU, co, leC, cm, bZ, cd, c7, bN, aM, aX, cW, an, cr, a7, a7.viewCs, a9, a9.flatCs, aG, aG.LensOks, Value.oneCell', ↓reduceIte, ite_true, ite_false, if_true, if_false, Nat.reduceAdd, Nat.reduceSub, Nat.reduceMul, Nat.reduceEqDiff, Nat.reduceLT, Nat.reduceLeDiff, reduceCtorEq, Int.reduceToNat, forall_const, implies_true, a5, Ent.mk3, bF, bp, bA, a8, br, bj, bL, bC, a6, a4, bm, bP, bz, cP, rn, cz, cz.renCs, aE, aF, aQ, aQ.viewOks, az, bq, bq.flatBs, ay, ar, aA, ah, aW, bM, bM.keysBs, aT, am, aZ, bR, be, cq, ae, ae.passKs, aN, aY, af, af.lendKs, cJ, cp, cu, bD, setInn, ap, cL, cS, aR, bn, cj, bT, aJ, aO, Glob.gl, aP, cF, bG, cc, bg, ak, cH, cZ, cB, c6, cK, aj, aj.ptrOnlys, aq, aB, cD, aH, bf, bI, ca, aL, bB, bU, Nat.reduceBEq, undef]
          and_intros <;> first | omega | rfl | trivial
        | false =>
          have m1 := minS_snoc _ (dvS c g p n) hE
          by_cases hlt : dvS c g p n < minS (aS c bt g p 1 n)
          · rw [if_pos hlt] at m1
            delta c122l1
            simp (maxSteps := 4000000) -implicitDefEqProofs only [e100, hpc, hi2, h, e34, e40, e141, hlen, hok, hc3, hbi, hz, hE, hdv, hlt, n0, n1, m1, i1, Int.toNat_natCast, InR, Int.cast_ofNat_Int, Int.natCast_one, Int.natCast_zero, Int.reduceAdd, Int.reduceSub, Int.reduceMul, Int.reduceLT, Int.reduceLE, Int.reduceTMod, Int.reduceTDiv, Int.reduceNeg, Int.reduceEq, Nat.reducePow, Int.reducePow, ne_eq, not_false_eq_true, Ent.of0, Ent.of1, Ent.of2, Ent.of3, V, bV, bl, bu, bW, cM, cT, gt, lk, cb, cG, ce, bX, cg, cn, cn.subCs, cV, a3, bh, bO, ax, bH, bJ, aC, bK, bw, aV, bv, av, cC, cO, cQ, ag, aK, bQ, bS, b0, cU, cR, aD, au, bY, bo, zC, argS, bE, cI, cY, cN, ai, aw, aI, aU, co, leC, cm, bZ, cd, c7, bN, aM, aX, cW, an, cr, a7, a7.viewCs, a9, a9.flatCs, aG, aG.LensOks, Value.oneCell', ↓reduceIte, ite_true, ite_false, if_true, if_false, Nat.reduceAdd, Nat.reduceSub, Nat.reduceMul, Nat.reduceEqDiff, Nat.reduceLT, Nat.reduceLeDiff, reduceCtorEq, Int.reduceToNat, forall_const, implies_true, a5, Ent.mk3, bF, bp, bA, a8, br, bj, bL, bC, a6, a4, bm, bP, bz, cP, rn, cz, cz.renCs, aE, aF, aQ, aQ.viewOks, az, bq, bq.flatBs, ay, ar, aA, ah, aW, bM, bM.keysBs, aT, am, aZ, bR, be, cq, ae, ae.passKs, aN, aY, af, af.lendKs, cJ, cp, cu, bD, setInn, ap, cL, cS, aR, bn, cj, bT, aJ, aO, Glob.gl, aP, cF, bG, cc, bg, ak, cH, cZ, cB, c6, cK, aj, aj.ptrOnlys, aq, aB, cD, aH, bf, bI, ca, aL, bB, bU, Nat.reduceBEq, undef]
            and_intros <;> first | omega | rfl | trivial
          · rw [if_neg hlt] at m1
            delta c122l1
            simp (maxSteps := 4000000) -implicitDefEqProofs only [e100, hpc, hi2, h, e34, e40, e141, hlen, hok, hc3, hbi, hz, hE, hdv, hlt, n0, n1, m1, i1, Int.toNat_natCast, InR, Int.cast_ofNat_Int, Int.natCast_one, Int.natCast_zero, Int.reduceAdd, Int.reduceSub, Int.reduceMul, Int.reduceLT, Int.reduceLE, Int.reduceTMod, Int.reduceTDiv, Int.reduceNeg, Int.reduceEq, Nat.reducePow, Int.reducePow, ne_eq, not_false_eq_true, Ent.of0, Ent.of1, Ent.of2, Ent.of3, V, bV, bl, bu, bW, cM, cT, gt, lk, cb, cG, ce, bX, cg, cn, cn.subCs, cV, a3, bh, bO, ax, bH, bJ, aC, bK, bw, aV, bv, av, cC, cO, cQ, ag, aK, bQ, bS, b0, cU, cR, aD, au, bY, bo, zC, argS, bE, cI, cY, cN, ai, aw, aI, aU, co, leC, cm, bZ, cd, c7, bN, aM, aX, cW, an, cr, a7, a7.viewCs, a9, a9.flatCs, aG, aG.LensOks, Value.oneCell', ↓reduceIte, ite_true, ite_false, if_true, if_false, Nat.reduceAdd, Nat.reduceSub, Nat.reduceMul, Nat.reduceEqDiff, Nat.reduceLT, Nat.reduceLeDiff, reduceCtorEq, Int.reduceToNat, forall_const, implies_true, a5, Ent.mk3, bF, bp, bA, a8, br, bj, bL, bC, a6, a4, bm, bP, bz, cP, rn, cz, cz.renCs, aE, aF, aQ, aQ.viewOks, az, bq, bq.flatBs, ay, ar, aA, ah, aW, bM, bM.keysBs, aT, am, aZ, bR, be, cq, ae, ae.passKs, aN, aY, af, af.lendKs, cJ, cp, cu, bD, setInn, ap, cL, cS, aR, bn, cj, bT, aJ, aO, Glob.gl, aP, cF, bG, cc, bg, ak, cH, cZ, cB, c6, cK, aj, aj.ptrOnlys, aq, aB, cD, aH, bf, bI, ca, aL, bB, bU, Nat.reduceBEq, undef]
            and_intros <;> first | omega | rfl | trivial
    · have hn2 : n = 2 ^ c := by omega
      have hi2 : ¬ (n : Int) < ((2 ^ c : Nat) : Int) := by omega
      have q0 := hmin 0 (2 ^ c)
      have q1 := hmin 1 (2 ^ c)
      rw [hn2] at hi2
      subst hn2
      delta c122l1
      simp (maxSteps := 4000000) -implicitDefEqProofs only [rv122, e100, hpc, hi2, InR, Int.cast_ofNat_Int, Int.natCast_one, Int.natCast_zero, Int.reduceAdd, Int.reduceSub, Int.reduceMul, Int.reduceLT, Int.reduceLE, Int.reduceTMod, Int.reduceTDiv, Int.reduceNeg, Int.reduceEq, Nat.reducePow, Int.reducePow, ne_eq, not_false_eq_true, Ent.of0, Ent.of1, Ent.of2, Ent.of3, V, bV, bl, bu, bW, cM, cT, gt, lk, cb, cG, ce, bX, cg, cn, cn.subCs, cV, a3, bh, bO, ax, bH, bJ, aC, bK, bw, aV, bv, av, cC, cO, cQ, ag, aK, bQ, bS, b0, cU, cR, aD, au, bY, bo, zC, argS, bE, cI, cY, cN, ai, aw, aI, aU, co, leC, cm, bZ, cd, c7, bN, aM, aX, cW, an, cr, a7, a7.viewCs, a9, a9.flatCs, aG, aG.LensOks, Value.oneCell', ↓reduceIte, ite_true, ite_false, if_true, if_false, Nat.reduceAdd, Nat.reduceSub, Nat.reduceMul, Nat.reduceEqDiff, Nat.reduceLT, Nat.reduceLeDiff, reduceCtorEq, Int.reduceToNat, forall_const, implies_true, a5, Ent.mk3, bF, bp, bA, a8, br, bj, bL, bC, a6, a4, bm, bP, bz, cP, rn, cz, cz.renCs, aE, aF, aQ, aQ.viewOks, az, bq, bq.flatBs, ay, ar, aA, ah, aW, bM, bM.keysBs, aT, am, aZ, bR, be, cq, ae, ae.passKs, aN, aY, af, af.lendKs, cJ, cp, cu, bD, setInn, ap, cL, cS, aR, bn, cj, bT, aJ, aO, Glob.gl, aP, cF, bG, cc, bg, ak, cH, cZ, cB, c6, cK, aj, aj.ptrOnlys, aq, aB, cD, aH, bf, bI, ca, aL, bB, bU, Nat.reduceBEq, undef]
      omega
def e122 : Ent Try.prog := .mk3 122 (fun args chs => match args, chs with
    | [.s (.int .i64 c), .s (.int .i64 g), .s (.int .i64 p), .s (.int .i64 b)], [] => some ((c = 1 ∨ c = 2 ∨ c = 3) ∧ (0 ≤ b ∧ b < c) ∧ (1 ≤ g ∧ g ≤ 10000000) ∧ -100000000 ≤ p ∧ p ≤ 100000000, enc ((softS c.toNat (sqS c.toNat g p)).getD b.toNat 0), [], [])
    | _, _ => none) (by
    intro args chs p r chs' nk hs hp
    split at hs
    · rename_i c g q b
      simp only [Option.some.injEq, Prod.mk.injEq] at hs
      obtain ⟨rfl, rfl, rfl, rfl⟩ := hs
      obtain ⟨h1, h2, h3, h4⟩ := hp
      have := rsoft_c c.toNat b.toNat g q (by omega) (by omega) h3 h4
      rw [Int.toNat_of_nonneg (by omega), Int.toNat_of_nonneg h2.1] at this
      exact ⟨this, .plain trivial⟩
    · cases hs)
def e121 : Ent Try.prog := .of3 121 (fun c g n => (c = 1 ∨ c = 2 ∨ c = 3) ∧ (1 ≤ g ∧ g ≤ 10000000) ∧ -100000000 ≤ n ∧ n ≤ 100000000) (fun c g n : Int => enc (hardS c.toNat (sqS c.toNat g n))) (fun _ _ _ => trivial) (fun c g n h => by
    obtain ⟨h1, h2, h3⟩ := h
    have := nearest_c c.toNat g n (by omega) h2 h3
    rw [Int.toNat_of_nonneg (by omega)] at this
    exact this)
end Go.Proofs.Ytfgpbmjmoobcnaa
end
section
open Go Go.Am
open Go.Am.Dat (cells)
namespace Go.Proofs.Ytfgpbmjmoobcnaa
set_option maxHeartbeats 4000000
set_option maxRecDepth 100000
set_option linter.unusedSimpArgs false
theorem CopyRecv_c (x : Recv) (h : x.symbols.length ≤ 1000000) : FC Try.prog 57 [enc x] [] (enc x) [] := by
  obtain ⟨o, g, l⟩ := x
  refine fc_intro' is57 (by simp) (fun cx hl => S_run [e60] 800 ?_)
  simp only at h
  delta c57
  simp (maxSteps := 4000000) -implicitDefEqProofs only [rv57, e60, enc_recv, h, Ent.of0, Ent.of1, Ent.of2, Ent.of3, V, bV, bl, bu, bW, cM, cT, gt, lk, cb, cG, ce, bX, cg, cn, cn.subCs, cV, a3, bh, bO, ax, bH, bJ, aC, bK, bw, aV, bv, av, cC, cO, cQ, ag, aK, bQ, bS, b0, cU, cR, aD, au, bY, bo, zC, argS, bE, cI, cY, cN, ai, aw, aI, aU, co, leC, cm, bZ, cd, c7, bN, aM, aX, cW, an, cr, a7, a7.viewCs, a9, a9.flatCs, aG, aG.LensOks, Value.oneCell', ↓reduceIte, ite_true, ite_false, if_true, if_false, Nat.reduceAdd, Nat.reduceSub, Nat.reduceMul, Nat.reduceEqDiff, Nat.reduceLT, Nat.reduceLeDiff, reduceCtorEq, Int.reduceToNat, forall_const, implies_true, a5, Ent.mk3, bF, bp, bA, a8, br, bj, bL, bC, a6, a4, bm, bP, bz, cP, rn, cz, cz.renCs, aE, aF, aQ, aQ.viewOks, az, bq, bq.flatBs, ay, ar, aA, ah, aW, bM, bM.keysBs, aT, am, aZ, bR, be, cq, ae, ae.passKs, aN, aY, af, af.lendKs, cJ, cp, cu, bD, setInn, ap, cL, cS, aR, bn, cj, bT, aJ, aO, Glob.gl, aP, cF, bG, cc, bg, ak, cH, cZ, cB, c6, cK, aj, aj.ptrOnlys, aq, aB, cD, aH, bf, bI, ca, aL, bB, bU, Nat.reduceBEq, undef]
def e57 : Ent Try.prog := .of1 57 (fun x => x.symbols.length ≤ 1000000) (fun x : Recv => enc x) (fun _ => ⟨trivial, trivial, trivial, trivial⟩) (fun x h => CopyRecv_c x h)
theorem recvErr_eq (x : Recv) : recvErr x = if ordErr x.order ≠ 0 then ordErr x.order else if 1 ≤ x.gain ∧ x.gain ≤ 10000000 then symErr x.symbols else 2 := by
  unfold recvErr
  rw [ordErr_eq]
  simp only [firstS]
  split
  · rfl
  · split
    · simp only [ne_eq, not_true_eq_false, if_false]; split <;> simp_all
    · rfl
theorem RecvErr_c (x : Recv) : FC Try.prog 61 [enc x] [] (enc (recvErr x)) [] := by
  rw [recvErr_eq]
  obtain ⟨o, g, l⟩ := x
  refine fc_intro' is61 (by simp) (fun cx hl => S_run [e26, e32, e64] 800 ?_)
  by_cases h1 : ordErr o = 0
  · by_cases h2 : 1 ≤ g ∧ g ≤ 10000000
    · delta c61
      simp (maxSteps := 4000000) -implicitDefEqProofs only [rv61, e26, e32, e64, enc_recv, h1, h2, Int.cast_ofNat_Int, Int.natCast_one, Int.natCast_zero, Int.reduceAdd, Int.reduceSub, Int.reduceMul, Int.reduceLT, Int.reduceLE, Int.reduceTMod, Int.reduceTDiv, Int.reduceNeg, Int.reduceEq, Nat.reducePow, Int.reducePow, ne_eq, not_false_eq_true, Ent.of0, Ent.of1, Ent.of2, Ent.of3, V, bV, bl, bu, bW, cM, cT, gt, lk, cb, cG, ce, bX, cg, cn, cn.subCs, cV, a3, bh, bO, ax, bH, bJ, aC, bK, bw, aV, bv, av, cC, cO, cQ, ag, aK, bQ, bS, b0, cU, cR, aD, au, bY, bo, zC, argS, bE, cI, cY, cN, ai, aw, aI, aU, co, leC, cm, bZ, cd, c7, bN, aM, aX, cW, an, cr, a7, a7.viewCs, a9, a9.flatCs, aG, aG.LensOks, Value.oneCell', ↓reduceIte, ite_true, ite_false, if_true, if_false, Nat.reduceAdd, Nat.reduceSub, Nat.reduceMul, Nat.reduceEqDiff, Nat.reduceLT, Nat.reduceLeDiff, reduceCtorEq, Int.reduceToNat, forall_const, implies_true, a5, Ent.mk3, bF, bp, bA, a8, br, bj, bL, bC, a6, a4, bm, bP, bz, cP, rn, cz, cz.renCs, aE, aF, aQ, aQ.viewOks, az, bq, bq.flatBs, ay, ar, aA, ah, aW, bM, bM.keysBs, aT, am, aZ, bR, be, cq, ae, ae.passKs, aN, aY, af, af.lendKs, cJ, cp, cu, bD, setInn, ap, cL, cS, aR, bn, cj, bT, aJ, aO, Glob.gl, aP, cF, bG, cc, bg, ak, cH, cZ, cB, c6, cK, aj, aj.ptrOnlys, aq, aB, cD, aH, bf, bI, ca, aL, bB, bU, Nat.reduceBEq, undef]
      simp
    · delta c61
      simp (maxSteps := 4000000) -implicitDefEqProofs only [rv61, e26, e32, e64, enc_recv, h1, h2, Int.cast_ofNat_Int, Int.natCast_one, Int.natCast_zero, Int.reduceAdd, Int.reduceSub, Int.reduceMul, Int.reduceLT, Int.reduceLE, Int.reduceTMod, Int.reduceTDiv, Int.reduceNeg, Int.reduceEq, Nat.reducePow, Int.reducePow, ne_eq, not_false_eq_true, Ent.of0, Ent.of1, Ent.of2, Ent.of3, V, bV, bl, bu, bW, cM, cT, gt, lk, cb, cG, ce, bX, cg, cn, cn.subCs, cV, a3, bh, bO, ax, bH, bJ, aC, bK, bw, aV, bv, av, cC, cO, cQ, ag, aK, bQ, bS, b0, cU, cR, aD, au, bY, bo, zC, argS, bE, cI, cY, cN, ai, aw, aI, aU, co, leC, cm, bZ, cd, c7, bN, aM, aX, cW, an, cr, a7, a7.viewCs, a9, a9.flatCs, aG, aG.LensOks, Value.oneCell', ↓reduceIte, ite_true, ite_false, if_true, if_false, Nat.reduceAdd, Nat.reduceSub, Nat.reduceMul, Nat.reduceEqDiff, Nat.reduceLT, Nat.reduceLeDiff, reduceCtorEq, Int.reduceToNat, forall_const, implies_true, a5, Ent.mk3, bF, bp, bA, a8, br, bj, bL, bC, a6, a4, bm, bP, bz, cP, rn, cz, cz.renCs, aE, aF, aQ, aQ.viewOks, az, bq, bq.flatBs, ay, ar, aA, ah, aW, bM, bM.keysBs, aT, am, aZ, bR, be, cq, ae, ae.passKs, aN, aY, af, af.lendKs, cJ, cp, cu, bD, setInn, ap, cL, cS, aR, bn, cj, bT, aJ, aO, Glob.gl, aP, cF, bG, cc, bg, ak, cH, cZ, cB, c6, cK, aj, aj.ptrOnlys, aq, aB, cD, aH, bf, bI, ca, aL, bB, bU, Nat.reduceBEq, undef]
      simp
  · delta c61
    simp (maxSteps := 4000000) -implicitDefEqProofs only [rv61, e26, e32, e64, enc_recv, h1, Int.cast_ofNat_Int, Int.natCast_one, Int.natCast_zero, Int.reduceAdd, Int.reduceSub, Int.reduceMul, Int.reduceLT, Int.reduceLE, Int.reduceTMod, Int.reduceTDiv, Int.reduceNeg, Int.reduceEq, Nat.reducePow, Int.reducePow, ne_eq, not_false_eq_true, Ent.of0, Ent.of1, Ent.of2, Ent.of3, V, bV, bl, bu, bW, cM, cT, gt, lk, cb, cG, ce, bX, cg, cn, cn.subCs, cV, a3, bh, bO, ax, bH, bJ, aC, bK, bw, aV, bv, av, cC, cO, cQ, ag, aK, bQ, bS, b0, cU, cR, aD, au, bY, bo, zC, argS, bE, cI, cY, cN, ai, aw, aI, aU, co, leC, cm, bZ, cd, c7, bN, aM, aX, cW, an, cr, a7, a7.viewCs, a9, a9.flatCs, aG, aG.LensOks, Value.oneCell', ↓reduceIte, ite_true, ite_false, if_true, if_false, Nat.reduceAdd, Nat.reduceSub, Nat.reduceMul, Nat.reduceEqDiff, Nat.reduceLT, Nat.reduceLeDiff, reduceCtorEq, Int.reduceToNat, forall_const, implies_true, a5, Ent.mk3, bF, bp, bA, a8, br, bj, bL, bC, a6, a4, bm, bP, bz, cP, rn, cz, cz.renCs, aE, aF, aQ, aQ.viewOks, az, bq, bq.flatBs, ay, ar, aA, ah, aW, bM, bM.keysBs, aT, am, aZ, bR, be, cq, ae, ae.passKs, aN, aY, af, af.lendKs, cJ, cp, cu, bD, setInn, ap, cL, cS, aR, bn, cj, bT, aJ, aO, Glob.gl, aP, cF, bG, cc, bg, ak, cH, cZ, cB, c6, cK, aj, aj.ptrOnlys, aq, aB, cD, aH, bf, bI, ca, aL, bB, bU, Nat.reduceBEq, undef]
def e61 : Ent Try.prog := .of1 61 (fun _ => True) (fun x : Recv => enc (recvErr x)) (fun _ => trivial) (fun x _ => RecvErr_c x)
structure RecvOk (x : Recv) : Prop where
  ord : x.order = 2 ∨ x.order = 4 ∨ x.order = 6
  gn : 1 ≤ x.gain ∧ x.gain ≤ 10000000
  pos : 0 < x.symbols.length
  len : x.symbols.length ≤ 200
  sym : ∀ s ∈ x.symbols, (-100000000 ≤ s.re ∧ s.re ≤ 100000000) ∧ -100000000 ≤ s.im ∧ s.im ≤ 100000000
theorem recvOk_of {x : Recv} (h : recvErr x = 0) : RecvOk x := by
  rw [recvErr_eq, ordErr_eq] at h
  by_cases h1 : orderErrS x.order = 0
  · rw [if_neg (fun hh => hh h1)] at h
    by_cases h2 : 1 ≤ x.gain ∧ x.gain ≤ 10000000
    · rw [if_pos h2] at h
      obtain ⟨s1, s2, s3⟩ := sym_of h
      exact ⟨by unfold orderErrS at h1; grind, h2, s1, s2, fun s hs => by have := s3 s hs; simp only [bd] at this; omega⟩
    · rw [if_neg h2] at h; cases h
  · rw [if_pos h1] at h; exact absurd h h1
theorem judged_len {c : Nat} (hc : c = 1 ∨ c = 2 ∨ c = 3) (T : List Int → List Int) (g : Int) : ∀ m : List Gs, (judgedS c T g m).length ≤ 6 * m.length
  | [] => by simp [judgedS]
  | x :: m => by
    have ih := judged_len hc T g m
    have : judgedS c T g (x :: m) = turnsS c (T (sqS c g x.re)) (T (sqS c g x.im)) ++ judgedS c T g m := by simp [judgedS]
    rw [this, List.length_append, List.length_cons]
    have h2 : (turnsS c (T (sqS c g x.re)) (T (sqS c g x.im))).length ≤ 6 := by
      rcases hc with rfl | rfl | rfl <;> simp [turnsS, List.range_succ]
    omega
theorem judged_take {c : Nat} {T : List Int → List Int} {g : Int} {l : List Gs} {i : Nat} (h : i < l.length) : judgedS c T g (l.take (i + 1)) = judgedS c T g (l.take i) ++ turnsS c (T (sqS c g (l.getD i ⟨0, 0⟩).re)) (T (sqS c g (l.getD i ⟨0, 0⟩).im)) := by
  rw [take_getD ⟨0, 0⟩ h, judgedS, judgedS, List.flatMap_append]; simp
theorem RHard_c (x : Recv) (hx : RecvOk x) : FC Try.prog 62 [enc x] [] (enc (judgeAll hardS x)) [] := by
  obtain ⟨c, hc, hco⟩ : ∃ c : Nat, (c = 1 ∨ c = 2 ∨ c = 3) ∧ x.order = 2 * (c : Int) := by
    rcases hx.ord with h | h | h
    · exact ⟨1, by omega, by omega⟩
    · exact ⟨2, by omega, by omega⟩
    · exact ⟨3, by omega, by omega⟩
  have hg := hx.gn
  have hle := hx.len
  have hn := hx.sym
  obtain ⟨o, g, l⟩ := x
  simp only at hco hg hle hn
  subst hco
  have hq : (2 * (c : Int)).tdiv 2 = (c : Int) := by rw [Int.mul_comm]; exact Int.mul_tdiv_cancel _ (by decide)
  have hj : judgeAll hardS ⟨2 * (c : Int), g, l⟩ = judgedS c (hardS c) g l := by
    unfold judgeAll
    have e : (2 * (c : Int)).toNat / 2 = c := by omega
    simp only [e]
  rw [hj]
  refine fc_intro' is62 (by simp) (fun cx hl => S_run [] 800 ?_)
  delta c62
  simp (maxSteps := 4000000) -implicitDefEqProofs only [rv62, enc_recv, Ent.of0, Ent.of1, Ent.of2, Ent.of3, V, bV, bl, bu, bW, cM, cT, gt, lk, cb, cG, ce, bX, cg, cn, cn.subCs, cV, a3, bh, bO, ax, bH, bJ, aC, bK, bw, aV, bv, av, cC, cO, cQ, ag, aK, bQ, bS, b0, cU, cR, aD, au, bY, bo, zC, argS, bE, cI, cY, cN, ai, aw, aI, aU, co, leC, cm, bZ, cd, c7, bN, aM, aX, cW, an, cr, a7, a7.viewCs, a9, a9.flatCs, aG, aG.LensOks, Value.oneCell', ↓reduceIte, ite_true, ite_false, if_true, if_false, Nat.reduceAdd, Nat.reduceSub, Nat.reduceMul, Nat.reduceEqDiff, Nat.reduceLT, Nat.reduceLeDiff, reduceCtorEq, Int.reduceToNat, forall_const, implies_true, a5, Ent.mk3, bF, bp, bA, a8, br, bj, bL, bC, a6, a4, bm, bP, bz, cP, rn, cz, cz.renCs, aE, aF, aQ, aQ.viewOks, az, bq, bq.flatBs, ay, ar, aA, ah, aW, bM, bM.keysBs, aT, am, aZ, bR, be, cq, ae, ae.passKs, aN, aY, af, af.lendKs, cJ, cp, cu, bD, setInn, ap, cL, cS, aR, bn, cj, bT, aJ, aO, Glob.gl, aP, cF, bG, cc, bg, ak, cH, cZ, cB, c6, cK, aj, aj.ptrOnlys, aq, aB, cD, aH, bf, bI, ca, aL, bB, bU, Nat.reduceBEq, undef]
  refine S_forU l.length (fun i => [(4, .s (.int .i64 (i : Int)))]) (fun i => [(3, .row 1 3 ((judgedS c (hardS c) g (l.take i)).map cells))]) (fun _ => True) trivial ?_ (fun i hi _ => S_run [e120, e121] 800 ?_)
  · simp (maxSteps := 4000000) -implicitDefEqProofs only [judgedS, Ent.of0, Ent.of1, Ent.of2, Ent.of3, V, bV, bl, bu, bW, cM, cT, gt, lk, cb, cG, ce, bX, cg, cn, cn.subCs, cV, a3, bh, bO, ax, bH, bJ, aC, bK, bw, aV, bv, av, cC, cO, cQ, ag, aK, bQ, bS, b0, cU, cR, aD, au, bY, bo, zC, argS, bE, cI, cY, cN, ai, aw, aI, aU, co, leC, cm, bZ, cd, c7, bN, aM, aX, cW, an, cr, a7, a7.viewCs, a9, a9.flatCs, aG, aG.LensOks, Value.oneCell', ↓reduceIte, ite_true, ite_false, if_true, if_false, Nat.reduceAdd, Nat.reduceSub, Nat.reduceMul, Nat.reduceEqDiff, Nat.reduceLT, Nat.reduceLeDiff, reduceCtorEq, Int.reduceToNat, forall_const, implies_true, a5, Ent.mk3, bF, bp, bA, a8, br, bj, bL, bC, a6, a4, bm, bP, bz, cP, rn, cz, cz.renCs, aE, aF, aQ, aQ.viewOks, az, bq, bq.flatBs, ay, ar, aA, ah, aW, bM, bM.keysBs, aT, am, aZ, bR, be, cq, ae, ae.passKs, aN, aY, af, af.lendKs, cJ, cp, cu, bD, setInn, ap, cL, cS, aR, bn, cj, bT, aJ, aO, Glob.gl, aP, cF, bG, cc, bg, ak, cH, cZ, cB, c6, cK, aj, aj.ptrOnlys, aq, aB, cD, aH, bf, bI, ca, aL, bB, bU, Nat.reduceBEq, undef]; simp
  · by_cases h : i < l.length
    · have hi2 : (i : Int) < (l.length : Int) := by omega
      have hn1 := hn _ (getD_mem ⟨0, 0⟩ h)
      have hc2 : (c : Int) = 1 ∨ (c : Int) = 2 ∨ (c : Int) = 3 := by omega
      have hsql : ∀ n, (sqS c g n).length = 2 ^ c := fun n => by rw [sqS, List.length_map, lvls_length]
      have hX := hardS_length hc (hsql (l.getD i ⟨0, 0⟩).re)
      have hY := hardS_length hc (hsql (l.getD i ⟨0, 0⟩).im)
      have hjs := judged_take (c := c) (T := hardS c) (g := g) h
      have hjl := judged_len hc (hardS c) g (l.take i)
      rw [List.length_take] at hjl
      delta c62l2
      simp (maxSteps := 4000000) -implicitDefEqProofs only [hi2, h, e120, e121, hq, hc2, hg, hn1, Int.toNat_natCast, InR, Ent.of0, Ent.of1, Ent.of2, Ent.of3, V, bV, bl, bu, bW, cM, cT, gt, lk, cb, cG, ce, bX, cg, cn, cn.subCs, cV, a3, bh, bO, ax, bH, bJ, aC, bK, bw, aV, bv, av, cC, cO, cQ, ag, aK, bQ, bS, b0, cU, cR, aD, au, bY, bo, zC, argS, bE, cI, cY, cN, ai, aw, aI, aU, co, leC, cm, bZ, cd, c7, bN, aM, aX, cW, an, cr, a7, a7.viewCs, a9, a9.flatCs, aG, aG.LensOks, Value.oneCell', ↓reduceIte, ite_true, ite_false, if_true, if_false, Nat.reduceAdd, Nat.reduceSub, Nat.reduceMul, Nat.reduceEqDiff, Nat.reduceLT, Nat.reduceLeDiff, reduceCtorEq, Int.reduceToNat, forall_const, implies_true, a5, Ent.mk3, bF, bp, bA, a8, br, bj, bL, bC, a6, a4, bm, bP, bz, cP, rn, cz, cz.renCs, aE, aF, aQ, aQ.viewOks, az, bq, bq.flatBs, ay, ar, aA, ah, aW, bM, bM.keysBs, aT, am, aZ, bR, be, cq, ae, ae.passKs, aN, aY, af, af.lendKs, cJ, cp, cu, bD, setInn, ap, cL, cS, aR, bn, cj, bT, aJ, aO, Glob.gl, aP, cF, bG, cc, bg, ak, cH, cZ, cB, c6, cK, aj, aj.ptrOnlys, aq, aB, cD, aH, bf, bI, ca, aL, bB, bU, Nat.reduceBEq, undef]
      refine ⟨by omega, by omega, by omega, by omega, by omega, ?_⟩
      generalize hardS c (sqS c g (l.getD i ⟨0, 0⟩).re) = X at *
      generalize hardS c (sqS c g (l.getD i ⟨0, 0⟩).im) = Y at *
      generalize judgedS c (hardS c) g (l.take i) = J at *
      refine S_forU c (fun j => [(8, .s (.int .i64 (j : Int)))]) (fun j => [(3, .row 1 3 ((J ++ turnsS j X Y).map cells))]) (fun _ => True) trivial ?_ (fun j hj _ => S_run [] 800 ?_)
      · simp (maxSteps := 4000000) -implicitDefEqProofs only [Ent.of0, Ent.of1, Ent.of2, Ent.of3, V, bV, bl, bu, bW, cM, cT, gt, lk, cb, cG, ce, bX, cg, cn, cn.subCs, cV, a3, bh, bO, ax, bH, bJ, aC, bK, bw, aV, bv, av, cC, cO, cQ, ag, aK, bQ, bS, b0, cU, cR, aD, au, bY, bo, zC, argS, bE, cI, cY, cN, ai, aw, aI, aU, co, leC, cm, bZ, cd, c7, bN, aM, aX, cW, an, cr, a7, a7.viewCs, a9, a9.flatCs, aG, aG.LensOks, Value.oneCell', ↓reduceIte, ite_true, ite_false, if_true, if_false, Nat.reduceAdd, Nat.reduceSub, Nat.reduceMul, Nat.reduceEqDiff, Nat.reduceLT, Nat.reduceLeDiff, reduceCtorEq, Int.reduceToNat, forall_const, implies_true, a5, Ent.mk3, bF, bp, bA, a8, br, bj, bL, bC, a6, a4, bm, bP, bz, cP, rn, cz, cz.renCs, aE, aF, aQ, aQ.viewOks, az, bq, bq.flatBs, ay, ar, aA, ah, aW, bM, bM.keysBs, aT, am, aZ, bR, be, cq, ae, ae.passKs, aN, aY, af, af.lendKs, cJ, cp, cu, bD, setInn, ap, cL, cS, aR, bn, cj, bT, aJ, aO, Glob.gl, aP, cF, bG, cc, bg, ak, cH, cZ, cB, c6, cK, aj, aj.ptrOnlys, aq, aB, cD, aH, bf, bI, ca, aL, bB, bU, Nat.reduceBEq, undef]
        simp [turnsS]
      · have htl := turnsS_length X Y j
        by_cases hjc : j < c
        · have hj2 : (j : Int) < (c : Int) := by omega
          have hj3 : (j : Int) < (X.length : Int) := by omega
          have hj4 : (j : Int) < (Y.length : Int) := by omega
          have hj5 : j < X.length := by omega
          have hj6 : j < Y.length := by omega
          have htk : (J ++ turnsS j X Y).map cells ++ [[C.s (.int .i64 (X.getD j 0))], [C.s (.int .i64 (Y.getD j 0))]] = (J ++ turnsS (j + 1) X Y).map cells := by
            rw [turnsS_succ, ← List.append_assoc, List.map_append (l₁ := J ++ turnsS j X Y)]; rfl
          have hll : (J ++ turnsS j X Y).length ≤ 6012 := by rw [List.length_append]; omega
          delta c62l1
          simp (maxSteps := 4000000) -implicitDefEqProofs only [hq, hj2, hj3, hj4, hj5, hj6, htk, InR, Ent.of0, Ent.of1, Ent.of2, Ent.of3, V, bV, bl, bu, bW, cM, cT, gt, lk, cb, cG, ce, bX, cg, cn, cn.subCs, cV, a3, bh, bO, ax, bH, bJ, aC, bK, bw, aV, bv, av, cC, cO, cQ, ag, aK, bQ, bS, b0, cU, cR, aD, au, bY, bo, zC, argS, bE, cI, cY, cN, ai, aw, aI, aU, co, leC, cm, bZ, cd, c7, bN, aM, aX, cW, an, cr, a7, a7.viewCs, a9, a9.flatCs, aG, aG.LensOks, Value.oneCell', ↓reduceIte, ite_true, ite_false, if_true, if_false, Nat.reduceAdd, Nat.reduceSub, Nat.reduceMul, Nat.reduceEqDiff, Nat.reduceLT, Nat.reduceLeDiff, reduceCtorEq, Int.reduceToNat, forall_const, implies_true, a5, Ent.mk3, bF, bp, bA, a8, br, bj, bL, bC, a6, a4, bm, bP, bz, cP, rn, cz, cz.renCs, aE, aF, aQ, aQ.viewOks, az, bq, bq.flatBs, ay, ar, aA, ah, aW, bM, bM.keysBs, aT, am, aZ, bR, be, cq, ae, ae.passKs, aN, aY, af, af.lendKs, cJ, cp, cu, bD, setInn, ap, cL, cS, aR, bn, cj, bT, aJ, aO, Glob.gl, aP, cF, bG, cc, bg, ak, cH, cZ, cB, c6, cK, aj, aj.ptrOnlys, aq, aB, cD, aH, bf, bI, ca, aL, bB, bU, Nat.reduceBEq, undef]
          and_intros <;> first | omega | rfl | trivial
        · have hj2 : ¬ (j : Int) < (c : Int) := by omega
          have hjc : j = c := by omega
          subst hjc
          delta c62l1
          simp (maxSteps := 4000000) -implicitDefEqProofs only [hq, hj2, hjs, InR, Ent.of0, Ent.of1, Ent.of2, Ent.of3, V, bV, bl, bu, bW, cM, cT, gt, lk, cb, cG, ce, bX, cg, cn, cn.subCs, cV, a3, bh, bO, ax, bH, bJ, aC, bK, bw, aV, bv, av, cC, cO, cQ, ag, aK, bQ, bS, b0, cU, cR, aD, au, bY, bo, zC, argS, bE, cI, cY, cN, ai, aw, aI, aU, co, leC, cm, bZ, cd, c7, bN, aM, aX, cW, an, cr, a7, a7.viewCs, a9, a9.flatCs, aG, aG.LensOks, Value.oneCell', ↓reduceIte, ite_true, ite_false, if_true, if_false, Nat.reduceAdd, Nat.reduceSub, Nat.reduceMul, Nat.reduceEqDiff, Nat.reduceLT, Nat.reduceLeDiff, reduceCtorEq, Int.reduceToNat, forall_const, implies_true, a5, Ent.mk3, bF, bp, bA, a8, br, bj, bL, bC, a6, a4, bm, bP, bz, cP, rn, cz, cz.renCs, aE, aF, aQ, aQ.viewOks, az, bq, bq.flatBs, ay, ar, aA, ah, aW, bM, bM.keysBs, aT, am, aZ, bR, be, cq, ae, ae.passKs, aN, aY, af, af.lendKs, cJ, cp, cu, bD, setInn, ap, cL, cS, aR, bn, cj, bT, aJ, aO, Glob.gl, aP, cF, bG, cc, bg, ak, cH, cZ, cB, c6, cK, aj, aj.ptrOnlys, aq, aB, cD, aH, bf, bI, ca, aL, bB, bU, Nat.reduceBEq, undef]
          and_intros <;> first | omega | rfl | trivial
    · have hi2 : ¬ (i : Int) < (l.length : Int) := by omega
      have hie : i = l.length := by omega
      subst hie
      delta c62l2
      simp (maxSteps := 4000000) -implicitDefEqProofs only [rv62, hi2, List.take_length, InR, Ent.of0, Ent.of1, Ent.of2, Ent.of3, V, bV, bl, bu, bW, cM, cT, gt, lk, cb, cG, ce, bX, cg, cn, cn.subCs, cV, a3, bh, bO, ax, bH, bJ, aC, bK, bw, aV, bv, av, cC, cO, cQ, ag, aK, bQ, bS, b0, cU, cR, aD, au, bY, bo, zC, argS, bE, cI, cY, cN, ai, aw, aI, aU, co, leC, cm, bZ, cd, c7, bN, aM, aX, cW, an, cr, a7, a7.viewCs, a9, a9.flatCs, aG, aG.LensOks, Value.oneCell', ↓reduceIte, ite_true, ite_false, if_true, if_false, Nat.reduceAdd, Nat.reduceSub, Nat.reduceMul, Nat.reduceEqDiff, Nat.reduceLT, Nat.reduceLeDiff, reduceCtorEq, Int.reduceToNat, forall_const, implies_true, a5, Ent.mk3, bF, bp, bA, a8, br, bj, bL, bC, a6, a4, bm, bP, bz, cP, rn, cz, cz.renCs, aE, aF, aQ, aQ.viewOks, az, bq, bq.flatBs, ay, ar, aA, ah, aW, bM, bM.keysBs, aT, am, aZ, bR, be, cq, ae, ae.passKs, aN, aY, af, af.lendKs, cJ, cp, cu, bD, setInn, ap, cL, cS, aR, bn, cj, bT, aJ, aO, Glob.gl, aP, cF, bG, cc, bg, ak, cH, cZ, cB, c6, cK, aj, aj.ptrOnlys, aq, aB, cD, aH, bf, bI, ca, aL, bB, bU, Nat.reduceBEq, undef]
def e62 : Ent Try.prog := .of1 62 RecvOk (fun x : Recv => enc (judgeAll hardS x)) (fun _ => trivial) (fun x h => RHard_c x h)
def mixS (X Y : List Int) (k : Nat) : List Int := (List.range k).map fun k => if k % 2 = 0 then X.getD (k / 2) 0 else Y.getD (k / 2) 0
theorem mixS_succ (X Y : List Int) (k : Nat) : mixS X Y (k + 1) = mixS X Y k ++ [if k % 2 = 0 then X.getD (k / 2) 0 else Y.getD (k / 2) 0] := by simp [mixS, List.range_succ]
theorem mixS_length (X Y : List Int) (k : Nat) : (mixS X Y k).length = k := by simp [mixS]
theorem mix_turns {c : Nat} (hc : c = 1 ∨ c = 2 ∨ c = 3) (X Y : List Int) : mixS X Y (2 * c) = turnsS c X Y := by
  rcases hc with rfl | rfl | rfl <;> simp [mixS, turnsS, List.range_succ]
theorem RSoft_c (x : Recv) (hx : RecvOk x) : FC Try.prog 63 [enc x] [] (enc (judgeAll softS x)) [] := by
  obtain ⟨c, hc, hco⟩ : ∃ c : Nat, (c = 1 ∨ c = 2 ∨ c = 3) ∧ x.order = 2 * (c : Int) := by
    rcases hx.ord with h | h | h
    · exact ⟨1, by omega, by omega⟩
    · exact ⟨2, by omega, by omega⟩
    · exact ⟨3, by omega, by omega⟩
  have hg := hx.gn
  have hle := hx.len
  have hn := hx.sym
  obtain ⟨o, g, l⟩ := x
  simp only at hco hg hle hn
  subst hco
  have hq : (2 * (c : Int)).tdiv 2 = (c : Int) := by rw [Int.mul_comm]; exact Int.mul_tdiv_cancel _ (by decide)
  have hj : judgeAll softS ⟨2 * (c : Int), g, l⟩ = judgedS c (softS c) g l := by
    unfold judgeAll
    have e : (2 * (c : Int)).toNat / 2 = c := by omega
    simp only [e]
  rw [hj]
  refine fc_intro' is63 (by simp) (fun cx hl => S_run [] 800 ?_)
  delta c63
  simp (maxSteps := 4000000) -implicitDefEqProofs only [rv63, enc_recv, Ent.of0, Ent.of1, Ent.of2, Ent.of3, V, bV, bl, bu, bW, cM, cT, gt, lk, cb, cG, ce, bX, cg, cn, cn.subCs, cV, a3, bh, bO, ax, bH, bJ, aC, bK, bw, aV, bv, av, cC, cO, cQ, ag, aK, bQ, bS, b0, cU, cR, aD, au, bY, bo, zC, argS, bE, cI, cY, cN, ai, aw, aI, aU, co, leC, cm, bZ, cd, c7, bN, aM, aX, cW, an, cr, a7, a7.viewCs, a9, a9.flatCs, aG, aG.LensOks, Value.oneCell', ↓reduceIte, ite_true, ite_false, if_true, if_false, Nat.reduceAdd, Nat.reduceSub, Nat.reduceMul, Nat.reduceEqDiff, Nat.reduceLT, Nat.reduceLeDiff, reduceCtorEq, Int.reduceToNat, forall_const, implies_true, a5, Ent.mk3, bF, bp, bA, a8, br, bj, bL, bC, a6, a4, bm, bP, bz, cP, rn, cz, cz.renCs, aE, aF, aQ, aQ.viewOks, az, bq, bq.flatBs, ay, ar, aA, ah, aW, bM, bM.keysBs, aT, am, aZ, bR, be, cq, ae, ae.passKs, aN, aY, af, af.lendKs, cJ, cp, cu, bD, setInn, ap, cL, cS, aR, bn, cj, bT, aJ, aO, Glob.gl, aP, cF, bG, cc, bg, ak, cH, cZ, cB, c6, cK, aj, aj.ptrOnlys, aq, aB, cD, aH, bf, bI, ca, aL, bB, bU, Nat.reduceBEq, undef]
  refine S_forU l.length (fun i => [(4, .s (.int .i64 (i : Int)))]) (fun i => [(3, .row 1 3 ((judgedS c (softS c) g (l.take i)).map cells))]) (fun _ => True) trivial ?_ (fun i hi _ => S_run [e120] 800 ?_)
  · simp (maxSteps := 4000000) -implicitDefEqProofs only [judgedS, Ent.of0, Ent.of1, Ent.of2, Ent.of3, V, bV, bl, bu, bW, cM, cT, gt, lk, cb, cG, ce, bX, cg, cn, cn.subCs, cV, a3, bh, bO, ax, bH, bJ, aC, bK, bw, aV, bv, av, cC, cO, cQ, ag, aK, bQ, bS, b0, cU, cR, aD, au, bY, bo, zC, argS, bE, cI, cY, cN, ai, aw, aI, aU, co, leC, cm, bZ, cd, c7, bN, aM, aX, cW, an, cr, a7, a7.viewCs, a9, a9.flatCs, aG, aG.LensOks, Value.oneCell', ↓reduceIte, ite_true, ite_false, if_true, if_false, Nat.reduceAdd, Nat.reduceSub, Nat.reduceMul, Nat.reduceEqDiff, Nat.reduceLT, Nat.reduceLeDiff, reduceCtorEq, Int.reduceToNat, forall_const, implies_true, a5, Ent.mk3, bF, bp, bA, a8, br, bj, bL, bC, a6, a4, bm, bP, bz, cP, rn, cz, cz.renCs, aE, aF, aQ, aQ.viewOks, az, bq, bq.flatBs, ay, ar, aA, ah, aW, bM, bM.keysBs, aT, am, aZ, bR, be, cq, ae, ae.passKs, aN, aY, af, af.lendKs, cJ, cp, cu, bD, setInn, ap, cL, cS, aR, bn, cj, bT, aJ, aO, Glob.gl, aP, cF, bG, cc, bg, ak, cH, cZ, cB, c6, cK, aj, aj.ptrOnlys, aq, aB, cD, aH, bf, bI, ca, aL, bB, bU, Nat.reduceBEq, undef]; simp
  · by_cases h : i < l.length
    · have hi2 : (i : Int) < (l.length : Int) := by omega
      have hn1 := hn _ (getD_mem ⟨0, 0⟩ h)
      have hjs := judged_take (c := c) (T := softS c) (g := g) h
      have hjl := judged_len hc (softS c) g (l.take i)
      rw [List.length_take] at hjl
      delta c63l2
      simp (maxSteps := 4000000) -implicitDefEqProofs only [hi2, h, e120, InR, Ent.of0, Ent.of1, Ent.of2, Ent.of3, V, bV, bl, bu, bW, cM, cT, gt, lk, cb, cG, ce, bX, cg, cn, cn.subCs, cV, a3, bh, bO, ax, bH, bJ, aC, bK, bw, aV, bv, av, cC, cO, cQ, ag, aK, bQ, bS, b0, cU, cR, aD, au, bY, bo, zC, argS, bE, cI, cY, cN, ai, aw, aI, aU, co, leC, cm, bZ, cd, c7, bN, aM, aX, cW, an, cr, a7, a7.viewCs, a9, a9.flatCs, aG, aG.LensOks, Value.oneCell', ↓reduceIte, ite_true, ite_false, if_true, if_false, Nat.reduceAdd, Nat.reduceSub, Nat.reduceMul, Nat.reduceEqDiff, Nat.reduceLT, Nat.reduceLeDiff, reduceCtorEq, Int.reduceToNat, forall_const, implies_true, a5, Ent.mk3, bF, bp, bA, a8, br, bj, bL, bC, a6, a4, bm, bP, bz, cP, rn, cz, cz.renCs, aE, aF, aQ, aQ.viewOks, az, bq, bq.flatBs, ay, ar, aA, ah, aW, bM, bM.keysBs, aT, am, aZ, bR, be, cq, ae, ae.passKs, aN, aY, af, af.lendKs, cJ, cp, cu, bD, setInn, ap, cL, cS, aR, bn, cj, bT, aJ, aO, Glob.gl, aP, cF, bG, cc, bg, ak, cH, cZ, cB, c6, cK, aj, aj.ptrOnlys, aq, aB, cD, aH, bf, bI, ca, aL, bB, bU, Nat.reduceBEq, undef]
      refine ⟨by omega, ?_⟩
      generalize l.getD i ⟨0, 0⟩ = S at *
      rw [← mix_turns hc] at hjs
      have hcz : (c : Int) = 1 ∨ (c : Int) = 2 ∨ (c : Int) = 3 := by omega
      generalize hX : softS c (sqS c g S.re) = X at *
      generalize hY : softS c (sqS c g S.im) = Y at *
      generalize judgedS c (softS c) g (l.take i) = J at *
      refine S_forU (2 * c) (fun j => [(6, .s (.int .i64 (j : Int)))]) (fun j => [(3, .row 1 3 ((J ++ mixS X Y j).map cells))]) (fun _ => True) trivial ?_ (fun j hj _ => S_run [e122] 800 ?_)
      · simp (maxSteps := 4000000) -implicitDefEqProofs only [Ent.of0, Ent.of1, Ent.of2, Ent.of3, V, bV, bl, bu, bW, cM, cT, gt, lk, cb, cG, ce, bX, cg, cn, cn.subCs, cV, a3, bh, bO, ax, bH, bJ, aC, bK, bw, aV, bv, av, cC, cO, cQ, ag, aK, bQ, bS, b0, cU, cR, aD, au, bY, bo, zC, argS, bE, cI, cY, cN, ai, aw, aI, aU, co, leC, cm, bZ, cd, c7, bN, aM, aX, cW, an, cr, a7, a7.viewCs, a9, a9.flatCs, aG, aG.LensOks, Value.oneCell', ↓reduceIte, ite_true, ite_false, if_true, if_false, Nat.reduceAdd, Nat.reduceSub, Nat.reduceMul, Nat.reduceEqDiff, Nat.reduceLT, Nat.reduceLeDiff, reduceCtorEq, Int.reduceToNat, forall_const, implies_true, a5, Ent.mk3, bF, bp, bA, a8, br, bj, bL, bC, a6, a4, bm, bP, bz, cP, rn, cz, cz.renCs, aE, aF, aQ, aQ.viewOks, az, bq, bq.flatBs, ay, ar, aA, ah, aW, bM, bM.keysBs, aT, am, aZ, bR, be, cq, ae, ae.passKs, aN, aY, af, af.lendKs, cJ, cp, cu, bD, setInn, ap, cL, cS, aR, bn, cj, bT, aJ, aO, Glob.gl, aP, cF, bG, cc, bg, ak, cH, cZ, cB, c6, cK, aj, aj.ptrOnlys, aq, aB, cD, aH, bf, bI, ca, aL, bB, bU, Nat.reduceBEq, undef]
        simp [mixS]
      · have htl := mixS_length X Y j
        by_cases hjc : j < 2 * c
        · have hj2 : (j : Int) < 2 * (c : Int) := by omega
          have htk := mixS_succ X Y j
          have hll : (J ++ mixS X Y j).length ≤ 6012 := by rw [List.length_append]; omega
          have hb : (0 : Int) ≤ ((j / 2 : Nat) : Int) ∧ ((j / 2 : Nat) : Int) < (c : Int) := by omega
          rcases Nat.mod_two_eq_zero_or_one j with hp | hp
          · rw [if_pos hp] at htk
            have htk2 : (J ++ mixS X Y j).map cells ++ [[C.s (.int .i64 (X.getD (j / 2) 0))]] = (J ++ mixS X Y (j + 1)).map cells := by
              rw [htk, ← List.append_assoc, List.map_append (l₁ := J ++ mixS X Y j)]; rfl
            delta c63l1
            simp (maxSteps := 4000000) -implicitDefEqProofs only [hq, hj2, tmod2, tdiv2, hp, e122, hcz, hg, hn1, hb, hX, htk2, Int.toNat_natCast, InR, Int.cast_ofNat_Int, Int.natCast_one, Int.natCast_zero, Int.reduceAdd, Int.reduceSub, Int.reduceMul, Int.reduceLT, Int.reduceLE, Int.reduceTMod, Int.reduceTDiv, Int.reduceNeg, Int.reduceEq, Nat.reducePow, Int.reducePow, ne_eq, not_false_eq_true, Ent.of0, Ent.of1, Ent.of2, Ent.of3, V, bV, bl, bu, bW, cM, cT, gt, lk, cb, cG, ce, bX, cg, cn, cn.subCs, cV, a3, bh, bO, ax, bH, bJ, aC, bK, bw, aV, bv, av, cC, cO, cQ, ag, aK, bQ, bS, b0, cU, cR, aD, au, bY, bo, zC, argS, bE, cI, cY, cN, ai, aw, aI, aU, co, leC, cm, bZ, cd, c7, bN, aM, aX, cW, an, cr, a7, a7.viewCs, a9, a9.flatCs, aG, aG.LensOks, Value.oneCell', ↓reduceIte, ite_true, ite_false, if_true, if_false, Nat.reduceAdd, Nat.reduceSub, Nat.reduceMul, Nat.reduceEqDiff, Nat.reduceLT, Nat.reduceLeDiff, reduceCtorEq, Int.reduceToNat, forall_const, implies_true, a5, Ent.mk3, bF, bp, bA, a8, br, bj, bL, bC, a6, a4, bm, bP, bz, cP, rn, cz, cz.renCs, aE, aF, aQ, aQ.viewOks, az, bq, bq.flatBs, ay, ar, aA, ah, aW, bM, bM.keysBs, aT, am, aZ, bR, be, cq, ae, ae.passKs, aN, aY, af, af.lendKs, cJ, cp, cu, bD, setInn, ap, cL, cS, aR, bn, cj, bT, aJ, aO, Glob.gl, aP, cF, bG, cc, bg, ak, cH, cZ, cB, c6, cK, aj, aj.ptrOnlys, aq, aB, cD, aH, bf, bI, ca, aL, bB, bU, Nat.reduceBEq, undef]
            and_intros <;> first | omega | rfl | trivial
          · rw [if_neg (by omega)] at htk
            have htk2 : (J ++ mixS X Y j).map cells ++ [[C.s (.int .i64 (Y.getD (j / 2) 0))]] = (J ++ mixS X Y (j + 1)).map cells := by
              rw [htk, ← List.append_assoc, List.map_append (l₁ := J ++ mixS X Y j)]; rfl
            delta c63l1
            simp (maxSteps := 4000000) -implicitDefEqProofs only [hq, hj2, tmod2, tdiv2, hp, e122, hcz, hg, hn1, hb, hY, htk2, Int.toNat_natCast, InR, Int.cast_ofNat_Int, Int.natCast_one, Int.natCast_zero, Int.reduceAdd, Int.reduceSub, Int.reduceMul, Int.reduceLT, Int.reduceLE, Int.reduceTMod, Int.reduceTDiv, Int.reduceNeg, Int.reduceEq, Nat.reducePow, Int.reducePow, ne_eq, not_false_eq_true, Ent.of0, Ent.of1, Ent.of2, Ent.of3, V, bV, bl, bu, bW, cM, cT, gt, lk, cb, cG, ce, bX, cg, cn, cn.subCs, cV, a3, bh, bO, ax, bH, bJ, aC, bK, bw, aV, bv, av, cC, cO, cQ, ag, aK, bQ, bS, b0, cU, cR, aD, au, bY, bo, zC, argS, bE, cI, cY, cN, ai, aw, aI, aU, co, leC, cm, bZ, cd, c7, bN, aM, aX, cW, an, cr, a7, a7.viewCs, a9, a9.flatCs, aG, aG.LensOks, Value.oneCell', ↓reduceIte, ite_true, ite_false, if_true, if_false, Nat.reduceAdd, Nat.reduceSub, Nat.reduceMul, Nat.reduceEqDiff, Nat.reduceLT, Nat.reduceLeDiff, reduceCtorEq, Int.reduceToNat, forall_const, implies_true, a5, Ent.mk3, bF, bp, bA, a8, br, bj, bL, bC, a6, a4, bm, bP, bz, cP, rn, cz, cz.renCs, aE, aF, aQ, aQ.viewOks, az, bq, bq.flatBs, ay, ar, aA, ah, aW, bM, bM.keysBs, aT, am, aZ, bR, be, cq, ae, ae.passKs, aN, aY, af, af.lendKs, cJ, cp, cu, bD, setInn, ap, cL, cS, aR, bn, cj, bT, aJ, aO, Glob.gl, aP, cF, bG, cc, bg, ak, cH, cZ, cB, c6, cK, aj, aj.ptrOnlys, aq, aB, cD, aH, bf, bI, ca, aL, bB, bU, Nat.reduceBEq, undef]
            and_intros <;> first | omega | rfl | trivial
        · have hj2 : ¬ (j : Int) < 2 * (c : Int) := by omega
          have hjc : j = 2 * c := by omega
          subst hjc
          delta c63l1
          simp (maxSteps := 4000000) -implicitDefEqProofs only [hq, hj2, hjs, InR, Ent.of0, Ent.of1, Ent.of2, Ent.of3, V, bV, bl, bu, bW, cM, cT, gt, lk, cb, cG, ce, bX, cg, cn, cn.subCs, cV, a3, bh, bO, ax, bH, bJ, aC, bK, bw, aV, bv, av, cC, cO, cQ, ag, aK, bQ, bS, b0, cU, cR, aD, au, bY, bo, zC, argS, bE, cI, cY, cN, ai, aw, aI, aU, co, leC, cm, bZ, cd, c7, bN, aM, aX, cW, an, cr, a7, a7.viewCs, a9, a9.flatCs, aG, aG.LensOks, Value.oneCell', ↓reduceIte, ite_true, ite_false, if_true, if_false, Nat.reduceAdd, Nat.reduceSub, Nat.reduceMul, Nat.reduceEqDiff, Nat.reduceLT, Nat.reduceLeDiff, reduceCtorEq, Int.reduceToNat, forall_const, implies_true, a5, Ent.mk3, bF, bp, bA, a8, br, bj, bL, bC, a6, a4, bm, bP, bz, cP, rn, cz, cz.renCs, aE, aF, aQ, aQ.viewOks, az, bq, bq.flatBs, ay, ar, aA, ah, aW, bM, bM.keysBs, aT, am, aZ, bR, be, cq, ae, ae.passKs, aN, aY, af, af.lendKs, cJ, cp, cu, bD, setInn, ap, cL, cS, aR, bn, cj, bT, aJ, aO, Glob.gl, aP, cF, bG, cc, bg, ak, cH, cZ, cB, c6, cK, aj, aj.ptrOnlys, aq, aB, cD, aH, bf, bI, ca, aL, bB, bU, Nat.reduceBEq, undef]
          and_intros <;> first | omega | rfl | trivial
    · have hi2 : ¬ (i : Int) < (l.length : Int) := by omega
      have hie : i = l.length := by omega
      subst hie
      delta c63l2
      simp (maxSteps := 4000000) -implicitDefEqProofs only [rv63, hi2, List.take_length, InR, Ent.of0, Ent.of1, Ent.of2, Ent.of3, V, bV, bl, bu, bW, cM, cT, gt, lk, cb, cG, ce, bX, cg, cn, cn.subCs, cV, a3, bh, bO, ax, bH, bJ, aC, bK, bw, aV, bv, av, cC, cO, cQ, ag, aK, bQ, bS, b0, cU, cR, aD, au, bY, bo, zC, argS, bE, cI, cY, cN, ai, aw, aI, aU, co, leC, cm, bZ, cd, c7, bN, aM, aX, cW, an, cr, a7, a7.viewCs, a9, a9.flatCs, aG, aG.LensOks, Value.oneCell', ↓reduceIte, ite_true, ite_false, if_true, if_false, Nat.reduceAdd, Nat.reduceSub, Nat.reduceMul, Nat.reduceEqDiff, Nat.reduceLT, Nat.reduceLeDiff, reduceCtorEq, Int.reduceToNat, forall_const, implies_true, a5, Ent.mk3, bF, bp, bA, a8, br, bj, bL, bC, a6, a4, bm, bP, bz, cP, rn, cz, cz.renCs, aE, aF, aQ, aQ.viewOks, az, bq, bq.flatBs, ay, ar, aA, ah, aW, bM, bM.keysBs, aT, am, aZ, bR, be, cq, ae, ae.passKs, aN, aY, af, af.lendKs, cJ, cp, cu, bD, setInn, ap, cL, cS, aR, bn, cj, bT, aJ, aO, Glob.gl, aP, cF, bG, cc, bg, ak, cH, cZ, cB, c6, cK, aj, aj.ptrOnlys, aq, aB, cD, aH, bf, bI, ca, aL, bB, bU, Nat.reduceBEq, undef]
def e63 : Ent Try.prog := .of1 63 RecvOk (fun x : Recv => enc (judgeAll softS x)) (fun _ => trivial) (fun x h => RSoft_c x h)
end Go.Proofs.Ytfgpbmjmoobcnaa
end
section
open Go Go.Am
open Go.Am.Dat (cells)
namespace Go.Proofs.Ytfgpbmjmoobcnaa
set_option maxHeartbeats 4000000
set_option maxRecDepth 100000
set_option linter.unusedSimpArgs false
def errM (a b : Int) : Int := cQ true (if -a > a then -a else a) (if -b > b then -b else b)
theorem mx4 (a b : Int) : cQ true (cQ true (cQ true a (-a)) b) (-b) = errM a b := by
  simp only [cQ, errM, if_true]
  repeat' split
  all_goals omega
theorem mx2 (a b : Int) : cQ true (if -a > a then -a else a) (if -b > b then -b else b) = errM a b := rfl
theorem errM_bd {a b B : Int} (h1 : -B ≤ a ∧ a ≤ B) (h2 : -B ≤ b ∧ b ≤ B) : 0 ≤ errM a b ∧ errM a b ≤ B := by
  simp only [cQ, errM, if_true]
  repeat' split
  all_goals omega
def errAt (g : Int) (a s : Gs) : Int := errM (a.re - s.re * g) (a.im - s.im * g)
def geF (g : Int) (l sent : List Gs) : Nat → Int × Int
  | 0 => (-1, 0)
  | i + 1 => if errAt g (l.getD i ⟨0, 0⟩) (sent.getD i ⟨0, 0⟩) > (geF g l sent i).1 then (errAt g (l.getD i ⟨0, 0⟩) (sent.getD i ⟨0, 0⟩), (i : Int)) else geF g l sent i
def fitG (g : Int) (s : Gs) : Prop := (-100000000 ≤ s.re * g ∧ s.re * g ≤ 100000000) ∧ -100000000 ≤ s.im * g ∧ s.im * g ≤ 100000000
instance (g : Int) (s : Gs) : Decidable (fitG g s) := inferInstanceAs (Decidable (_ ∧ _))
def geR (x : Recv) (sent : List Gs) : Int := if sent.length ≠ x.symbols.length then 13 else if sent.all (fun s => decide (fitG x.gain s)) then 0 else 8
def geE (x : Recv) (sent : List Gs) : Int := if recvErr x ≠ 0 then recvErr x else if symErr sent ≠ 0 then symErr sent else geR x sent
theorem prod_bd {a g : Int} (ha : -100000000 ≤ a ∧ a ≤ 100000000) (hg : 1 ≤ g ∧ g ≤ 10000000) : -1000000000000000 ≤ a * g ∧ a * g ≤ 1000000000000000 := by
  have := mul_bd (a := a) (b := g) (A := 100000000) (B := 10000000) (by omega) (by omega)
  omega
theorem geF_bd (g : Int) (l sent : List Gs) (hl : ∀ s ∈ l, (-100000000 ≤ s.re ∧ s.re ≤ 100000000) ∧ -100000000 ≤ s.im ∧ s.im ≤ 100000000) : ∀ i, i ≤ l.length → (∀ j, j < i → fitG g (sent.getD j ⟨0, 0⟩)) → (-1 ≤ (geF g l sent i).1 ∧ (geF g l sent i).1 ≤ 200000000) ∧ 0 ≤ (geF g l sent i).2 ∧ (geF g l sent i).2 ≤ i
  | 0, _, _ => by simp [geF]
  | i + 1, hi, hf => by
    have ih := geF_bd g l sent hl i (by omega) (fun j hj => hf j (by omega))
    have h1 := hl _ (getD_mem ⟨0, 0⟩ (by omega : i < l.length))
    have h2 := hf i (by omega)
    simp only [fitG] at h2
    have h3 := errM_bd (a := (l.getD i ⟨0, 0⟩).re - (sent.getD i ⟨0, 0⟩).re * g) (b := (l.getD i ⟨0, 0⟩).im - (sent.getD i ⟨0, 0⟩).im * g) (B := 200000000) (by omega) (by omega)
    have e : geF g l sent (i + 1) = if errAt g (l.getD i ⟨0, 0⟩) (sent.getD i ⟨0, 0⟩) > (geF g l sent i).1 then (errAt g (l.getD i ⟨0, 0⟩) (sent.getD i ⟨0, 0⟩), (i : Int)) else geF g l sent i := rfl
    rw [e]
    by_cases hq : errAt g (l.getD i ⟨0, 0⟩) (sent.getD i ⟨0, 0⟩) > (geF g l sent i).1
    · rw [if_pos hq]; simp only [errAt]; omega
    · rw [if_neg hq]; omega
end Go.Proofs.Ytfgpbmjmoobcnaa
end
