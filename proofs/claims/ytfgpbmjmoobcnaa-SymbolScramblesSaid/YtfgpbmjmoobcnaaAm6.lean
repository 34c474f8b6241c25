/- SymbolScrambles returns true for every input and never panics: scrambled bits, or the errors, are as the reference says, and scrambled twice they are as they were; conditions: none beyond the given statement. -/
import Derived.Test.YtfgpbmjmoobcnaaRows
import Derived.ProofKit
import Derived.Test.YtfgpbmjmoobcnaaAm5
set_option linter.all false
section
open Go Go.Am
open Go.Am.Dat (cells)
namespace Go.Proofs.Ytfgpbmjmoobcnaa
set_option maxHeartbeats 4000000
set_option maxRecDepth 100000
set_option linter.unusedSimpArgs false
set_option linter.unusedVariables false
theorem RScrambled_c (r : Reg) (hr : RegOk r) (l : List Int) (hb : ∀ b ∈ l, b = 0 ∨ b = 1) (hn : l.length ≤ 1000000) : FC Try.prog 45 [enc r, enc l] [] (enc (scrS r l)) [] := by
  refine fc_intro' is45 (by simp) (fun cx hl => S_run [e76] 800 ?_)
  obtain ⟨qa, qb, qc⟩ := r
  have hn2 : (l.length : Int) ≤ 1000000 := by omega
  delta c45
  simp (maxSteps := 4000000) -implicitDefEqProofs only [rv45, enc_reg, decV_reg, e76, hr, hn2, Int.toNat_natCast, Ent.of0, Ent.of1, Ent.of2, Ent.of3, V, cD, bK, a5, ce, cU, cP, gt, lk, bV, cB, cG, bR, bY, bU, bU.subCs, cQ, bJ, a6, bX, aM, bk, bg, aO, bh, bq, aX, a8, aF, bO, cW, cZ, aj, aR, bM, cp, cb, cT, cK, av, ah, cg, bv, zC, argS, bG, cC, cY, cM, an, aH, aV, aw, cz, leC, bS, cu, cn, cV, bW, aB, aT, cJ, am, cc, aZ, aZ.viewCs, bC, bC.flatCs, ax, ax.LensOks, Value.oneCell', ↓reduceIte, ite_true, ite_false, if_true, if_false, Nat.reduceAdd, Nat.reduceSub, Nat.reduceMul, Nat.reduceEqDiff, Nat.reduceLT, Nat.reduceLeDiff, reduceCtorEq, Int.reduceToNat, forall_const, implies_true, bI, Ent.mk3, bF, bw, a9, bm, bp, bj, bA, bn, br, bl, bD, cr, bu, cL, rn, bP, bP.renCs, aQ, aL, aG, aG.viewOks, aP, a3, a3.flatBs, aK, ar, aN, ak, aA, a4, a4.keysBs, aE, ap, bf, bN, bo, ca, af, af.passKs, aY, aI, ae, ae.lendKs, cd, cj, b0, bH, setInn, aq, cO, cR, ay, a7, cm, cH, aU, aD, Glob.gl, az, cI, be, bL, bB, au, bZ, cN, co, cS, cq, ai, ai.ptrOnlys, ag, aC, bQ, aW, bt, bz, bT, aJ, bE, cF, Nat.reduceBEq, undef]
  refine ⟨by omega, ?_⟩
  have hz := scrL_zero ⟨qa, qb, qc⟩ l
  refine S_forU l.length (fun j => [(6, .s (.int .i64 (j : Int)))]) (fun j => [(10, .row 1 3 ((scrL ⟨qa, qb, qc⟩ l j).map cells))]) (fun _ => True) trivial ?_ (fun j hj _ => S_run [] 800 ?_)
  · simp (maxSteps := 4000000) -implicitDefEqProofs only [hz, Ent.of0, Ent.of1, Ent.of2, Ent.of3, V, cD, bK, a5, ce, cU, cP, gt, lk, bV, cB, cG, bR, bY, bU, bU.subCs, cQ, bJ, a6, bX, aM, bk, bg, aO, bh, bq, aX, a8, aF, bO, cW, cZ, aj, aR, bM, cp, cb, cT, cK, av, ah, cg, bv, zC, argS, bG, cC, cY, cM, an, aH, aV, aw, cz, leC, bS, cu, cn, cV, bW, aB, aT, cJ, am, cc, aZ, aZ.viewCs, bC, bC.flatCs, ax, ax.LensOks, Value.oneCell', ↓reduceIte, ite_true, ite_false, if_true, if_false, Nat.reduceAdd, Nat.reduceSub, Nat.reduceMul, Nat.reduceEqDiff, Nat.reduceLT, Nat.reduceLeDiff, reduceCtorEq, Int.reduceToNat, forall_const, implies_true, bI, Ent.mk3, bF, bw, a9, bm, bp, bj, bA, bn, br, bl, bD, cr, bu, cL, rn, bP, bP.renCs, aQ, aL, aG, aG.viewOks, aP, a3, a3.flatBs, aK, ar, aN, ak, aA, a4, a4.keysBs, aE, ap, bf, bN, bo, ca, af, af.passKs, aY, aI, ae, ae.lendKs, cd, cj, b0, bH, setInn, aq, cO, cR, ay, a7, cm, cH, aU, aD, Glob.gl, az, cI, be, bL, bB, au, bZ, cN, co, cS, cq, ai, ai.ptrOnlys, ag, aC, bQ, aW, bt, bz, bT, aJ, bE, cF, Nat.reduceBEq, undef]; simp
  · have hll := scrL_len ⟨qa, qb, qc⟩ l j
    by_cases h : j < l.length
    · have hi2 : (j : Int) < (l.length : Int) := by omega
      have hg := scrL_get ⟨qa, qb, qc⟩ l h
      have hs := seqR_bit hr l.length j
      have hbj := bits_getD hb j
      have hset := congrArg (List.map (cells (α := Int))) (scrL_set ⟨qa, qb, qc⟩ l j)
      rw [List.map_set, cells_int] at hset
      have hm2 : ((seqR ⟨qa, qb, qc⟩ l.length).getD j 0 + l.getD j 0).tmod 2 = ((seqR ⟨qa, qb, qc⟩ l.length).getD j 0 + l.getD j 0) % 2 := Int.tmod_eq_emod_of_nonneg (by omega)
      have hgr := getD_map' (cells (α := Int)) (scrL ⟨qa, qb, qc⟩ l j) j 0 [] (by rw [hll]; exact h)
      rw [hg, cells_int] at hgr
      delta c45l1
      simp (maxSteps := 4000000) -implicitDefEqProofs only [rv45, hi2, h, hll, hgr, hset, hm2, InR, Ent.of0, Ent.of1, Ent.of2, Ent.of3, V, cD, bK, a5, ce, cU, cP, gt, lk, bV, cB, cG, bR, bY, bU, bU.subCs, cQ, bJ, a6, bX, aM, bk, bg, aO, bh, bq, aX, a8, aF, bO, cW, cZ, aj, aR, bM, cp, cb, cT, cK, av, ah, cg, bv, zC, argS, bG, cC, cY, cM, an, aH, aV, aw, cz, leC, bS, cu, cn, cV, bW, aB, aT, cJ, am, cc, aZ, aZ.viewCs, bC, bC.flatCs, ax, ax.LensOks, Value.oneCell', ↓reduceIte, ite_true, ite_false, if_true, if_false, Nat.reduceAdd, Nat.reduceSub, Nat.reduceMul, Nat.reduceEqDiff, Nat.reduceLT, Nat.reduceLeDiff, reduceCtorEq, Int.reduceToNat, forall_const, implies_true, bI, Ent.mk3, bF, bw, a9, bm, bp, bj, bA, bn, br, bl, bD, cr, bu, cL, rn, bP, bP.renCs, aQ, aL, aG, aG.viewOks, aP, a3, a3.flatBs, aK, ar, aN, ak, aA, a4, a4.keysBs, aE, ap, bf, bN, bo, ca, af, af.passKs, aY, aI, ae, ae.lendKs, cd, cj, b0, bH, setInn, aq, cO, cR, ay, a7, cm, cH, aU, aD, Glob.gl, az, cI, be, bL, bB, au, bZ, cN, co, cS, cq, ai, ai.ptrOnlys, ag, aC, bQ, aW, bt, bz, bT, aJ, bE, cF, Nat.reduceBEq, undef]
      omega
    · have hi2 : ¬ (j : Int) < (l.length : Int) := by omega
      have hje : j = l.length := by omega
      subst hje
      have he := scrL_end ⟨qa, qb, qc⟩ l
      delta c45l1
      simp (maxSteps := 4000000) -implicitDefEqProofs only [rv45, hi2, he, InR, Ent.of0, Ent.of1, Ent.of2, Ent.of3, V, cD, bK, a5, ce, cU, cP, gt, lk, bV, cB, cG, bR, bY, bU, bU.subCs, cQ, bJ, a6, bX, aM, bk, bg, aO, bh, bq, aX, a8, aF, bO, cW, cZ, aj, aR, bM, cp, cb, cT, cK, av, ah, cg, bv, zC, argS, bG, cC, cY, cM, an, aH, aV, aw, cz, leC, bS, cu, cn, cV, bW, aB, aT, cJ, am, cc, aZ, aZ.viewCs, bC, bC.flatCs, ax, ax.LensOks, Value.oneCell', ↓reduceIte, ite_true, ite_false, if_true, if_false, Nat.reduceAdd, Nat.reduceSub, Nat.reduceMul, Nat.reduceEqDiff, Nat.reduceLT, Nat.reduceLeDiff, reduceCtorEq, Int.reduceToNat, forall_const, implies_true, bI, Ent.mk3, bF, bw, a9, bm, bp, bj, bA, bn, br, bl, bD, cr, bu, cL, rn, bP, bP.renCs, aQ, aL, aG, aG.viewOks, aP, a3, a3.flatBs, aK, ar, aN, ak, aA, a4, a4.keysBs, aE, ap, bf, bN, bo, ca, af, af.passKs, aY, aI, ae, ae.lendKs, cd, cj, b0, bH, setInn, aq, cO, cR, ay, a7, cm, cH, aU, aD, Glob.gl, az, cI, be, bL, bB, au, bZ, cN, co, cS, cq, ai, ai.ptrOnlys, ag, aC, bQ, aW, bt, bz, bT, aJ, bE, cF, Nat.reduceBEq, undef]
def e45 : Ent Try.prog := .of2 45 (fun r l => RegOk r ∧ (∀ b ∈ l, b = 0 ∨ b = 1) ∧ l.length ≤ 1000000) (fun (r : Reg) (l : List Int) => enc (scrS r l)) (fun _ _ => trivial) (fun r l h => RScrambled_c r h.1 l h.2.1 h.2.2)
end Go.Proofs.Ytfgpbmjmoobcnaa
end
section
open Go Go.Am
open Go.Am.Dat (cells)
namespace Go.Proofs.Ytfgpbmjmoobcnaa
set_option maxHeartbeats 4000000
set_option maxRecDepth 100000
set_option linter.unusedSimpArgs false
set_option linter.unusedVariables false
theorem bitsS_bit {l : List Int} (h : ∀ b ∈ l, b = 0 ∨ b = 1) : ∀ n i, (bitsS l n).testBit i = (decide (i < n) && decide (l.getD i 0 = 1))
  | 0, i => by simp [bitsS]
  | n + 1, i => by
    rw [bitsS, Nat.testBit_or, bitsS_bit h n i]
    have hb := bits_getD h n
    by_cases h1 : i = n
    · subst h1
      rcases hb with e | e <;> rw [e] <;> simp
    · have h2 : (i < n + 1) = (i < n) := propext (by omega)
      have h3 : ((l.getD n 0).toNat * 2 ^ n).testBit i = false := by
        rcases hb with e | e <;> rw [e] <;> simp [Nat.testBit_two_pow]
        omega
      rw [h3, Bool.or_false]
      simp only [h2]
theorem and_pow (n i : Nat) : n &&& 2 ^ i = (n.testBit i).toNat * 2 ^ i := by
  apply Nat.eq_of_testBit_eq
  intro j
  rw [Nat.testBit_and, Nat.testBit_two_pow]
  by_cases h : i = j
  · subst h
    cases hb : n.testBit i <;> simp
  · cases hb : n.testBit i <;> simp [h, Nat.testBit_two_pow]
theorem parS_add : ∀ t, t < 10 → ∀ a, a < 2 ^ t → parS (a ||| 2 ^ t) = 1 - parS a ∧ parS a ≤ 1 := by decide +kernel
theorem parS_lt (n : Nat) : parS n ≤ 1 := parF_le n n 0 (by omega)
theorem tapsS_lt2 {l : List Int} {m : Nat} : ∀ i, (∀ j, j < i → (l.getD j 0).toNat < m) → tapsS l i < 2 ^ m
  | 0, _ => by simp [tapsS]; exact Nat.pow_pos (by decide)
  | i + 1, h => Nat.or_lt_two_pow (tapsS_lt2 i fun j hj => h j (by omega)) (Nat.pow_lt_pow_right (by decide) (h i (by omega)))
theorem par_sum {r : Reg} (hr : RegOk r) : ∀ i, i ≤ r.taps.length → (parS (bitsS r.state r.state.length &&& tapsS r.taps i) : Int) = sumT r.state r.taps i % 2
  | 0, _ => by simp [tapsS, sumT]; rfl
  | i + 1, hi => by
    have ih := par_sum hr i (by omega)
    have hm : r.taps.getD i 0 ∈ r.taps := by rw [List.getD_eq_getElem?_getD, List.getElem?_eq_getElem (by omega)]; exact List.getElem_mem _
    have ht := hr.taps _ hm
    have hlen := hr.len
    have hst := hr.stl
    have hinc : ∀ j, j < i → (r.taps.getD j 0).toNat < (r.taps.getD i 0).toNat := fun j hj => by
      have h1 := List.pairwise_iff_getElem.1 hr.inc j i (by omega) (by omega) hj
      have hmj : r.taps.getD j 0 ∈ r.taps := by rw [List.getD_eq_getElem?_getD, List.getElem?_eq_getElem (by omega)]; exact List.getElem_mem _
      have htj := hr.taps _ hmj
      have e1 : r.taps.getD j 0 = r.taps[j] := by rw [List.getD_eq_getElem?_getD, List.getElem?_eq_getElem (by omega)]; rfl
      have e2 : r.taps.getD i 0 = r.taps[i] := by rw [List.getD_eq_getElem?_getD, List.getElem?_eq_getElem (by omega)]; rfl
      omega
    have hlt := tapsS_lt2 i hinc
    generalize htt : (r.taps.getD i 0).toNat = t at *
    have ht10 : t < 10 := by omega
    rw [tapsS, htt, Nat.and_or_distrib_left, and_pow, bitsS_bit hr.bits, sumT, htt]
    have hlt2 : bitsS r.state r.state.length &&& tapsS r.taps i < 2 ^ t := Nat.lt_of_le_of_lt Nat.and_le_right hlt
    have hb := bits_getD hr.bits t
    obtain ⟨g1, g2⟩ := parS_add t ht10 _ hlt2
    have htl : t < r.state.length := by omega
    rcases hb with e | e <;> rw [e]
    · simp [ih]
    · simp only [htl, decide_true, Bool.and_true, Bool.toNat_true, Nat.one_mul, g1]
      omega
theorem wire_next {r : Reg} (hr : RegOk r) : wireW (nextR r) = stepS (wireW r) := by
  have hp := par_sum hr _ (Nat.le_refl _)
  have hbits := hr.bits
  have hst := hr.stl
  have hlen := hr.len
  have hb2 := (nextR_ok hr).bits
  have hl2 : (nextR r).state.length = r.state.length := by
    have := (nextR_ok hr).stl
    have e : (nextR r).length = r.length := rfl
    omega
  unfold wireW stepS
  rw [Wire.mk.injEq]
  refine ⟨?_, rfl, rfl⟩
  show bitsS (nextR r).state (nextR r).state.length = bitsS r.state r.state.length / 2 ||| parS (bitsS r.state r.state.length &&& tapsS r.taps r.taps.length) * 2 ^ (r.length - 1).toNat
  rw [hl2]
  have hp1 := parS_lt (bitsS r.state r.state.length &&& tapsS r.taps r.taps.length)
  generalize parS (bitsS r.state r.state.length &&& tapsS r.taps r.taps.length) = p at hp hp1
  have htop : (r.length - 1).toNat = r.state.length - 1 := by omega
  rw [htop]
  apply Nat.eq_of_testBit_eq
  intro i
  rw [bitsS_bit hb2, Nat.testBit_or, ← Nat.testBit_succ, bitsS_bit hbits]
  have hg : (nextR r).state.getD i 0 = if i + 1 < r.state.length then r.state.getD (i + 1) 0 else if i + 1 = r.state.length then (p : Int) else 0 := by
    show (r.state.drop 1 ++ [sumT r.state r.taps r.taps.length % 2]).getD i 0 = _
    rw [← hp, List.getD_eq_getElem?_getD, List.getElem?_append, List.length_drop]
    by_cases h1 : i + 1 < r.state.length
    · rw [if_pos (by omega), if_pos h1, List.getElem?_drop, List.getD_eq_getElem?_getD, Nat.add_comm]
    · rw [if_neg (by omega), if_neg h1]
      by_cases h2 : i + 1 = r.state.length
      · rw [if_pos h2]
        have : i - (r.state.length - 1) = 0 := by omega
        rw [this]; rfl
      · rw [if_neg h2, List.getElem?_eq_none (by simp; omega)]; rfl
  rw [hg]
  have hp01 : p = 0 ∨ p = 1 := by omega
  by_cases h1 : i + 1 < r.state.length
  · have h3 : (p * 2 ^ (r.state.length - 1)).testBit i = false := by
      rcases hp01 with rfl | rfl <;> simp [Nat.testBit_two_pow]
      omega
    rw [h3, if_pos h1]
    simp [h1]
    omega
  · rw [if_neg h1]
    by_cases h2 : i + 1 = r.state.length
    · have e : r.state.length - 1 = i := by omega
      rw [if_pos h2, e]
      rcases hp01 with rfl | rfl <;> simp [h1] <;> omega
    · rw [if_neg h2]
      have h3 : (p * 2 ^ (r.state.length - 1)).testBit i = false := by
        rcases hp01 with rfl | rfl <;> simp [Nat.testBit_two_pow]
        omega
      rw [h3]
      simp [h1]
theorem wire_run {r : Reg} (hr : RegOk r) : ∀ i, runW (wireW r) i = wireW (runR r i)
  | 0 => rfl
  | i + 1 => by rw [runW, runR, wire_run hr i, wire_next (runR_ok hr i)]
theorem wire_out {r : Reg} (hr : RegOk r) : (outS (wireW r) : Int) = r.state.getD 0 0 := by
  have h := bitsS_bit hr.bits r.state.length 0
  have hl : 0 < r.state.length := by have := hr.len; have := hr.stl; omega
  rw [Nat.testBit_zero] at h
  have hb := bits_getD hr.bits 0
  show ((bitsS r.state r.state.length % 2 : Nat) : Int) = _
  rcases hb with e | e <;> rw [e] at h ⊢ <;> simp [hl] at h <;> omega
theorem out_run {r : Reg} (hr : RegOk r) (i : Nat) : (outS (runW (wireW r) i) : Int) = (runR r i).state.getD 0 0 := by
  rw [wire_run hr i, wire_out (runR_ok hr i)]
end Go.Proofs.Ytfgpbmjmoobcnaa
end
section
open Go Go.Am
open Go.Am.Dat (cells)
namespace Go.Proofs.Ytfgpbmjmoobcnaa
set_option maxHeartbeats 4000000
set_option maxRecDepth 100000
set_option linter.unusedSimpArgs false
set_option linter.unusedVariables false
theorem CloneO_c (l : List Int) (h : 0 < l.length ∧ l.length ≤ 1000000) : FC Try.prog 107 [enc l] [] (.own 5) [(5, .row 1 3 (l.map cells))] := by
  refine fc_introC [5] is107 (by simp) trivial trivial (by simp [aB, aT, bX]) trivial (fun cx _ hl _ => S_run [] 800 ?_)
  cases l with
  | nil => simp at h
  | cons a tl =>
    have h2 := h.2
    simp only [List.length_cons] at h2
    delta c107
    simp (maxSteps := 4000000) -implicitDefEqProofs only [rv107, List.map_cons, List.length_cons, Ent.of0, Ent.of1, Ent.of2, Ent.of3, V, cD, bK, a5, ce, cU, cP, gt, lk, bV, cB, cG, bR, bY, bU, bU.subCs, cQ, bJ, a6, bX, aM, bk, bg, aO, bh, bq, aX, a8, aF, bO, cW, cZ, aj, aR, bM, cp, cb, cT, cK, av, ah, cg, bv, zC, argS, bG, cC, cY, cM, an, aH, aV, aw, cz, leC, bS, cu, cn, cV, bW, aB, aT, cJ, am, cc, aZ, aZ.viewCs, bC, bC.flatCs, ax, ax.LensOks, Value.oneCell', ↓reduceIte, ite_true, ite_false, if_true, if_false, Nat.reduceAdd, Nat.reduceSub, Nat.reduceMul, Nat.reduceEqDiff, Nat.reduceLT, Nat.reduceLeDiff, reduceCtorEq, Int.reduceToNat, forall_const, implies_true, bI, Ent.mk3, bF, bw, a9, bm, bp, bj, bA, bn, br, bl, bD, cr, bu, cL, rn, bP, bP.renCs, aQ, aL, aG, aG.viewOks, aP, a3, a3.flatBs, aK, ar, aN, ak, aA, a4, a4.keysBs, aE, ap, bf, bN, bo, ca, af, af.passKs, aY, aI, ae, ae.lendKs, cd, cj, b0, bH, setInn, aq, cO, cR, ay, a7, cm, cH, aU, aD, Glob.gl, az, cI, be, bL, bB, au, bZ, cN, co, cS, cq, ai, ai.ptrOnlys, ag, aC, bQ, aW, bt, bz, bT, aJ, bE, cF, Nat.reduceBEq, undef]
    omega
def e107O : Ent Try.prog := .mk3 107 (fun args chs => match args, chs with
    | [.sl 1 t], [] => (decL t : Option (List Int)).bind fun l => some (0 < l.length ∧ l.length ≤ 1000000, .own 5, [(5, .row 1 3 (l.map cells))], [5])
    | _, _ => none) (by
  intro args chs p r chs' nk hs hp
  split at hs
  · simp only [Option.bind_eq_some_iff, Option.some.injEq, Prod.mk.injEq] at hs
    obtain ⟨w, hw, rfl, rfl, rfl, rfl⟩ := hs
    have := decL_ok hw
    subst this
    refine ⟨CloneO_c w hp, ⟨fun k c h => .inl ?_, fun k cs h => by simp at h, List.mem_singleton.2 rfl, fun k c h => ?_⟩⟩
    · simp only [List.mem_singleton, Prod.mk.injEq] at h; rw [h.1]; exact List.mem_singleton.2 rfl
    · simp only [List.mem_singleton, Prod.mk.injEq] at h; rw [h.2]; trivial
  · cases hs)
def zw : List C := [.s (.int .u16 0), .s (.int .u16 0), .s (.int .i64 0)]
def regB (r : Reg) : Ch := .box [.s (.int .i64 r.length), .sl 1 (r.taps.map cells), .sl 1 (r.state.map cells)]
def scCh (r : Reg) (l : List Int) (S : Nat → Bool) : Chs :=
  (if S 1 = true then [(20, .row 1 3 (l.map cells))] else []) ++ ((if S 4 = true then [(8, .box (if S 6 = true then wireC (wireW r) else zw))] else []) ++ [(2, regB r)])
theorem scCh_nd (r : Reg) (l : List Int) (S : Nat → Bool) : ((scCh r l S).map (·.1)).Nodup := by
  unfold scCh
  cases S 1 <;> cases S 4 <;> simp
def scOs : List AO := [⟨some 19, none, .mv (.tmp 1), false⟩, ⟨some 20, none, .call (.func 107) [(.tmp 19)], false⟩, ⟨some 21, none, .load true 3 (.tmp 2), false⟩, ⟨some 22, none, .call (.func 108) [(.tmp 21)], false⟩, ⟨some 8, none, .alloc [.int .u16 0, .int .u16 0, .int .i64 0], false⟩, ⟨some 7, none, .mv (.tmp 20), true⟩, ⟨none, none, .store false 3 (.tmp 8) (.tmp 22), true⟩]
def scRb : List Nat := [1, 3, 5, 6, 103, 105, 106, 203, 205, 206, 305, 306, 405, 406, 506]
def scWr (r : Reg) (l : List Int) : List (Nat × Nat × C) :=
  [(0, 19, .sl 1 (l.map cells)), (1, 20, .own 20), (2, 21, .agg [.s (.int .i64 r.length), .sl 1 (r.taps.map cells), .sl 1 (r.state.map cells)]), (3, 22, .agg (wireC (wireW r))), (4, 8, .ptr 8 0), (5, 7, .own 20)]
def scT0 (l : List Int) : Slots := [(1, .sl 1 (l.map cells)), (2, .ptr 2 0)]
theorem sc_draw {cx : Cx} {Q : ASt → Prop} {K : List It} {r : Reg} {l : List Int} (hr : RegOk r) (h1 : 0 < l.length) (h2 : l.length ≤ 1000000)
    (hend : SG Try.prog cx Q K ⟨famT (fun _ => true) (scT0 l) (scWr r l), [(20, .row 1 3 (l.map cells)), (8, .box (wireC (wireW r))), (2, regB r)]⟩) :
    SG Try.prog cx Q (.c (.draw 999 scRb scOs) :: K) ⟨scT0 l, [(2, regB r)]⟩ := by
  refine S_fam (scWr r l) (scCh r l) (by simp [dstsNd, scWr]) rfl (by simp) (fun S j ao hj hSj hp hs => ?_) (fun S hS => ?_)
  · have hs' : ∀ c ∈ scRb, S (c % 100) = true → S (c / 100) = true := hs
    rcases j with _|_|_|_|_|_|_|j <;> simp only [scOs, List.getElem?_cons_zero, List.getElem?_cons_succ, Nat.reduceAdd, List.getElem?_nil, reduceCtorEq, Option.some.injEq, Nat.zero_add] at hj
    · subst hj
      have hSj : S 0 = false := hSj
      simp [scRb] at hp hs'
      have hn : S 1 = false ∧ S 3 = false ∧ S 5 = false ∧ S 6 = false := by
        simp only [hSj] at hs'
        grind
      refine ⟨⟨True, .sl 1 (l.map cells), scCh r l (fun i => i == 0 || S i), []⟩, stepE_op rfl ?_, ⟨by simp [scWr], by simp [scWr]⟩, fun w _ _ _ => subC_nil _, fun x => subC_nil _, scCh_nd _ _ _, fun p hp => lk_of_mem (scCh_nd r l (fun i => i == 0 || S i)) hp⟩
      cases h4 : S 4 <;> cases h1 : S 1 <;> simp [opOk, cU, cP, famT, gt_cons, scWr, scT0, scCh, regB, wireC, hp, hn, hSj, h4, h1, lk, cR, av, aM, bk, Value.oneCell', aO, bV, cB, a8, bU, List.lookup, bh, zw, ay] <;> simp_all
    · subst hj
      have hSj : S 1 = false := hSj
      simp [scRb] at hp hs'
      have hn : S 3 = false ∧ S 5 = false ∧ S 6 = false := by
        simp only [hSj] at hs'
        grind
      refine ⟨⟨True, .own 20, scCh r l (fun i => i == 1 || S i), [(20, .c .any)]⟩, stepE_cal (L := [e107O]) rfl rfl ?_, ⟨by simp [scWr], by simp [scWr]⟩, by simp +contextual [scWr, bU, bU.subCs, List.lookup, wireC, hn], fun x => ?_, scCh_nd _ _ _, fun p hp => lk_of_mem (scCh_nd r l (fun i => i == 1 || S i)) hp⟩
      · have e1 : cP Try.prog (famT S (scT0 l) (scWr r l)) (.tmp 19) = .sl 1 (l.map cells) := by simp [cP, famT, scWr, scT0, gt_cons, hp]
        simp only [List.map_cons, List.map_nil, e1]
        simp only [scCh, hp, hn, hSj]
        cases h4 : S 4
        all_goals
          simp (maxSteps := 4000000) -implicitDefEqProofs only [calOk, e107O, h1, h2, zw, regB, wireC, Ent.of0, Ent.of1, Ent.of2, Ent.of3, V, cD, bK, a5, ce, cU, cP, gt, lk, bV, cB, cG, bR, bY, bU, bU.subCs, cQ, bJ, a6, bX, aM, bk, bg, aO, bh, bq, aX, a8, aF, bO, cW, cZ, aj, aR, bM, cp, cb, cT, cK, av, ah, cg, bv, zC, argS, bG, cC, cY, cM, an, aH, aV, aw, cz, leC, bS, cu, cn, cV, bW, aB, aT, cJ, am, cc, aZ, aZ.viewCs, bC, bC.flatCs, ax, ax.LensOks, Value.oneCell', ↓reduceIte, ite_true, ite_false, if_true, if_false, Nat.reduceAdd, Nat.reduceSub, Nat.reduceMul, Nat.reduceEqDiff, Nat.reduceLT, Nat.reduceLeDiff, reduceCtorEq, Int.reduceToNat, forall_const, implies_true, bI, Ent.mk3, bF, bw, a9, bm, bp, bj, bA, bn, br, bl, bD, cr, bu, cL, rn, bP, bP.renCs, aQ, aL, aG, aG.viewOks, aP, a3, a3.flatBs, aK, ar, aN, ak, aA, a4, a4.keysBs, aE, ap, bf, bN, bo, ca, af, af.passKs, aY, aI, ae, ae.lendKs, cd, cj, b0, bH, setInn, aq, cO, cR, ay, a7, cm, cH, aU, aD, Glob.gl, az, cI, be, bL, bB, au, bZ, cN, co, cS, cq, ai, ai.ptrOnlys, ag, aC, bQ, aW, bt, bz, bT, aJ, bE, cF, Nat.reduceBEq, undef]
      · simp only [scT0, gt_cons]
        repeat' split
        all_goals simp [bU, gt, lk, List.lookup]
    · subst hj
      have hSj : S 2 = false := hSj
      simp [scRb] at hp hs'
      have hn : S 3 = false ∧ S 5 = false ∧ S 6 = false := by
        simp only [hSj] at hs'
        grind
      refine ⟨⟨True, .agg [.s (.int .i64 r.length), .sl 1 (r.taps.map cells), .sl 1 (r.state.map cells)], scCh r l (fun i => i == 2 || S i), []⟩, stepE_op rfl ?_, ⟨by simp [scWr], by simp [scWr]⟩, fun w _ _ _ => subC_nil _, fun x => subC_nil _, scCh_nd _ _ _, fun p hp => lk_of_mem (scCh_nd r l (fun i => i == 2 || S i)) hp⟩
      cases h4 : S 4 <;> cases h1 : S 1 <;> simp [opOk, cU, cP, famT, gt_cons, scWr, scT0, scCh, regB, wireC, hp, hn, hSj, h4, h1, lk, cR, av, aM, bk, Value.oneCell', aO, bV, cB, a8, bU, List.lookup, bh, zw, ay] <;> simp_all
    · subst hj
      have hSj : S 3 = false := hSj
      simp [scRb] at hp hs'
      have hn : S 5 = false ∧ S 6 = false := by
        simp only [hSj] at hs'
        grind
      refine ⟨⟨True, .agg (wireC (wireW r)), scCh r l (fun i => i == 3 || S i), []⟩, stepE_cal (L := [e108]) rfl rfl ?_, ⟨by simp [scWr], by simp [scWr]⟩, fun w _ _ _ => subC_nil _, fun x => subC_nil _, scCh_nd _ _ _, fun p hp => lk_of_mem (scCh_nd r l (fun i => i == 3 || S i)) hp⟩
      · have e1 : cP Try.prog (famT S (scT0 l) (scWr r l)) (.tmp 21) = .agg [.s (.int .i64 r.length), .sl 1 (r.taps.map cells), .sl 1 (r.state.map cells)] := by simp [cP, famT, scWr, scT0, gt_cons, hp]
        have heta : ({ length := r.length, taps := r.taps, state := r.state } : Reg) = r := rfl
        simp only [List.map_cons, List.map_nil, e1]
        simp (maxSteps := 4000000) -implicitDefEqProofs only [calOk, e108, decV_reg, heta, hr, wireC, Ent.of0, Ent.of1, Ent.of2, Ent.of3, V, cD, bK, a5, ce, cU, cP, gt, lk, bV, cB, cG, bR, bY, bU, bU.subCs, cQ, bJ, a6, bX, aM, bk, bg, aO, bh, bq, aX, a8, aF, bO, cW, cZ, aj, aR, bM, cp, cb, cT, cK, av, ah, cg, bv, zC, argS, bG, cC, cY, cM, an, aH, aV, aw, cz, leC, bS, cu, cn, cV, bW, aB, aT, cJ, am, cc, aZ, aZ.viewCs, bC, bC.flatCs, ax, ax.LensOks, Value.oneCell', ↓reduceIte, ite_true, ite_false, if_true, if_false, Nat.reduceAdd, Nat.reduceSub, Nat.reduceMul, Nat.reduceEqDiff, Nat.reduceLT, Nat.reduceLeDiff, reduceCtorEq, Int.reduceToNat, forall_const, implies_true, bI, Ent.mk3, bF, bw, a9, bm, bp, bj, bA, bn, br, bl, bD, cr, bu, cL, rn, bP, bP.renCs, aQ, aL, aG, aG.viewOks, aP, a3, a3.flatBs, aK, ar, aN, ak, aA, a4, a4.keysBs, aE, ap, bf, bN, bo, ca, af, af.passKs, aY, aI, ae, ae.lendKs, cd, cj, b0, bH, setInn, aq, cO, cR, ay, a7, cm, cH, aU, aD, Glob.gl, az, cI, be, bL, bB, au, bZ, cN, co, cS, cq, ai, ai.ptrOnlys, ag, aC, bQ, aW, bt, bz, bT, aJ, bE, cF, Nat.reduceBEq, undef]
        rfl
    · subst hj
      have hSj : S 4 = false := hSj
      simp [scRb] at hp hs'
      have hn : S 5 = false ∧ S 6 = false := by
        simp only [hSj] at hs'
        grind
      refine ⟨⟨True, .ptr 8 0, (8, .box zw) :: scCh r l S, [(8, .c .any)]⟩, stepE_op rfl ?_, ⟨by simp [scWr], by simp [scWr]⟩, by simp +contextual [scWr, bU, bU.subCs, List.lookup, wireC, hn], fun x => ?_, scCh_nd _ _ _, ?_⟩
      · cases h4 : S 4 <;> cases h1 : S 1 <;> simp [opOk, cU, cP, famT, gt_cons, scWr, scT0, scCh, regB, wireC, hp, hn, hSj, h4, h1, lk, cR, av, aM, bk, Value.oneCell', aO, bV, cB, a8, bU, List.lookup, bh, zw, ay] <;> simp_all
      · simp only [scT0, gt_cons]
        repeat' split
        all_goals simp [bU, gt, lk, List.lookup]
      · cases h1 : S 1 <;> simp [scCh, hSj, h1, hn, lk, zw, regB]
    · subst hj
      have hSj : S 5 = false := hSj
      simp [scRb] at hp hs'
      have hn : S 6 = false := by
        simp only [hSj] at hs'
        grind
      refine ⟨⟨True, .own 20, scCh r l (fun i => i == 5 || S i), []⟩, stepE_op rfl ?_, ⟨by simp [scWr], by simp [scWr]⟩, fun w _ _ _ => subC_nil _, fun x => subC_nil _, scCh_nd _ _ _, fun p hp => lk_of_mem (scCh_nd r l (fun i => i == 5 || S i)) hp⟩
      cases h4 : S 4 <;> cases h1 : S 1 <;> simp [opOk, cU, cP, famT, gt_cons, scWr, scT0, scCh, regB, wireC, hp, hn, hSj, h4, h1, lk, cR, av, aM, bk, Value.oneCell', aO, bV, cB, a8, bU, List.lookup, bh, zw, ay] <;> simp_all
    · subst hj
      have hSj : S 6 = false := hSj
      simp [scRb] at hp hs'
      have hn : True := by
        simp only [hSj] at hs'
        grind
      refine ⟨⟨True, .s undef, scCh r l (fun i => i == 6 || S i), []⟩, stepE_op rfl ?_, by simp [scWr], fun w _ _ _ => subC_nil _, fun x => subC_nil _, scCh_nd _ _ _, fun p hp => lk_of_mem (scCh_nd r l (fun i => i == 6 || S i)) hp⟩
      cases h4 : S 4 <;> cases h1 : S 1 <;> simp [opOk, cU, cP, famT, gt_cons, scWr, scT0, scCh, regB, wireC, hp, hn, hSj, h4, h1, lk, cR, av, aM, bk, Value.oneCell', aO, bV, cB, a8, bU, List.lookup, bh, zw, ay] <;> simp_all
  · have e : famT S (scT0 l) (scWr r l) = famT (fun _ => true) (scT0 l) (scWr r l) := by
      simp [famT, scWr, hS, scOs]
    have e2 : scCh r l S = [(20, .row 1 3 (l.map cells)), (8, .box (wireC (wireW r))), (2, regB r)] := by
      simp [scCh, hS, scOs]
    rw [e2]
    exact e ▸ hend
end Go.Proofs.Ytfgpbmjmoobcnaa
end
section
open Go Go.Am
open Go.Am.Dat (cells)
namespace Go.Proofs.Ytfgpbmjmoobcnaa
set_option maxHeartbeats 4000000
set_option maxRecDepth 100000
set_option linter.unusedSimpArgs false
set_option linter.unusedVariables false
def xorL (r : Reg) (l : List Int) (j : Nat) : List Int := (List.range l.length).map fun i => if i < j then ((seqR r l.length).getD i 0 + l.getD i 0) % 2 else l.getD i 0
theorem xorL_set (r : Reg) (l : List Int) (j : Nat) : (xorL r l j).set j (((seqR r l.length).getD j 0 + l.getD j 0) % 2) = xorL r l (j + 1) := rng_set (f := fun i => ((seqR r l.length).getD i 0 + l.getD i 0) % 2) (g := fun i => l.getD i 0)
theorem xorL_zero (r : Reg) (l : List Int) : xorL r l 0 = l := by
  apply List.ext_getElem (by simp [xorL])
  intro i h1 h2
  simp only [xorL, List.getElem_map, List.getElem_range]
  rw [if_neg (by omega), List.getD_eq_getElem?_getD, List.getElem?_eq_getElem h2]; rfl
theorem xorL_len (r : Reg) (l : List Int) (j : Nat) : (xorL r l j).length = l.length := by simp [xorL]
theorem xorL_end (r : Reg) (l : List Int) : xorL r l l.length = scrS r l := by
  unfold xorL scrS
  refine List.map_congr_left fun i hi => ?_
  rw [if_pos (List.mem_range.1 hi)]
theorem xorL_get (r : Reg) (l : List Int) {j : Nat} (h : j < l.length) : (xorL r l j).getD j 0 = l.getD j 0 := by
  unfold xorL
  rw [rng_getD _ _ h, if_neg (by omega)]
theorem bits_of {l : List Int} (h : bitsErrS l = 0) : 0 < l.length ∧ l.length ≤ 400 ∧ ∀ b ∈ l, b = 0 ∨ b = 1 := by
  unfold bitsErrS at h
  split at h
  · cases h
  · split at h
    · cases h
    · split at h
      · rename_i h1 h2 h3
        exact ⟨by omega, by omega, fun b hb => by simpa using List.all_eq_true.1 h3 b hb⟩
      · cases h
theorem xor_bit (a b : Int) (ha : a = 0 ∨ a = 1) (hb : b = 0 ∨ b = 1) : bitF .xor .i64 a b = (b + a) % 2 := by
  rcases ha with rfl | rfl <;> rcases hb with rfl | rfl <;> decide +kernel
def scrErr (r : Reg) (l : List Int) : Int := if regErr r ≠ 0 then regErr r else bitsErrS l
theorem Scrambled_c (r : Reg) (l : List Int) : FC Try.prog 42 [enc r, enc l] [] (.tup [enc (if scrErr r l = 0 then scrS r l else []), enc (scrErr r l)]) [] := by
  have hfs : firstS [regErr r, bitsErrS l] = scrErr r l := by
    unfold scrErr
    simp only [firstS]
    grind
  refine fc_introC [] D.is42 (by simp) trivial trivial trivial trivial (fun cx _ hl _ => S_run [e70, e98, e80] 800 ?_)
  have heta : ({ length := r.length, taps := r.taps, state := r.state } : Reg) = r := rfl
  delta D.c42
  simp (maxSteps := 4000000) -implicitDefEqProofs only [D.rv42, e70, e98, e80, enc_reg, decV_reg, heta, hfs, InR, Ent.of0, Ent.of1, Ent.of2, Ent.of3, V, cD, bK, a5, ce, cU, cP, gt, lk, bV, cB, cG, bR, bY, bU, bU.subCs, cQ, bJ, a6, bX, aM, bk, bg, aO, bh, bq, aX, a8, aF, bO, cW, cZ, aj, aR, bM, cp, cb, cT, cK, av, ah, cg, bv, zC, argS, bG, cC, cY, cM, an, aH, aV, aw, cz, leC, bS, cu, cn, cV, bW, aB, aT, cJ, am, cc, aZ, aZ.viewCs, bC, bC.flatCs, ax, ax.LensOks, Value.oneCell', ↓reduceIte, ite_true, ite_false, if_true, if_false, Nat.reduceAdd, Nat.reduceSub, Nat.reduceMul, Nat.reduceEqDiff, Nat.reduceLT, Nat.reduceLeDiff, reduceCtorEq, Int.reduceToNat, forall_const, implies_true, bI, Ent.mk3, bF, bw, a9, bm, bp, bj, bA, bn, br, bl, bD, cr, bu, cL, rn, bP, bP.renCs, aQ, aL, aG, aG.viewOks, aP, a3, a3.flatBs, aK, ar, aN, ak, aA, a4, a4.keysBs, aE, ap, bf, bN, bo, ca, af, af.passKs, aY, aI, ae, ae.lendKs, cd, cj, b0, bH, setInn, aq, cO, cR, ay, a7, cm, cH, aU, aD, Glob.gl, az, cI, be, bL, bB, au, bZ, cN, co, cS, cq, ai, ai.ptrOnlys, ag, aC, bQ, aW, bt, bz, bT, aJ, bE, cF, Nat.reduceBEq, undef]
  by_cases he : scrErr r l = 0
  rotate_left
  · rw [if_pos he]
    simp (maxSteps := 4000000) -implicitDefEqProofs only [he, Ent.of0, Ent.of1, Ent.of2, Ent.of3, V, cD, bK, a5, ce, cU, cP, gt, lk, bV, cB, cG, bR, bY, bU, bU.subCs, cQ, bJ, a6, bX, aM, bk, bg, aO, bh, bq, aX, a8, aF, bO, cW, cZ, aj, aR, bM, cp, cb, cT, cK, av, ah, cg, bv, zC, argS, bG, cC, cY, cM, an, aH, aV, aw, cz, leC, bS, cu, cn, cV, bW, aB, aT, cJ, am, cc, aZ, aZ.viewCs, bC, bC.flatCs, ax, ax.LensOks, Value.oneCell', ↓reduceIte, ite_true, ite_false, if_true, if_false, Nat.reduceAdd, Nat.reduceSub, Nat.reduceMul, Nat.reduceEqDiff, Nat.reduceLT, Nat.reduceLeDiff, reduceCtorEq, Int.reduceToNat, forall_const, implies_true, bI, Ent.mk3, bF, bw, a9, bm, bp, bj, bA, bn, br, bl, bD, cr, bu, cL, rn, bP, bP.renCs, aQ, aL, aG, aG.viewOks, aP, a3, a3.flatBs, aK, ar, aN, ak, aA, a4, a4.keysBs, aE, ap, bf, bN, bo, ca, af, af.passKs, aY, aI, ae, ae.lendKs, cd, cj, b0, bH, setInn, aq, cO, cR, ay, a7, cm, cH, aU, aD, Glob.gl, az, cI, be, bL, bB, au, bZ, cN, co, cS, cq, ai, ai.ptrOnlys, ag, aC, bQ, aW, bt, bz, bT, aJ, bE, cF, Nat.reduceBEq, undef]
  rw [if_neg (fun h => h he), if_pos he]
  have hre : regErr r = 0 := by
    unfold scrErr at he
    split at he
    · contradiction
    · rename_i h; simpa using h
  have hbe : bitsErrS l = 0 := by
    unfold scrErr at he
    rwa [if_neg (by simpa using hre)] at he
  have hr := regOk_of hre
  obtain ⟨h0, h400, hb⟩ := bits_of hbe
  refine sc_draw (r := r) (l := l) hr h0 (by omega) ?_
  simp only [famT, scWr, scT0, regB, if_true]
  refine S_run [] 800 ?_
  simp (maxSteps := 4000000) -implicitDefEqProofs only [D.rv42, wireC, Ent.of0, Ent.of1, Ent.of2, Ent.of3, V, cD, bK, a5, ce, cU, cP, gt, lk, bV, cB, cG, bR, bY, bU, bU.subCs, cQ, bJ, a6, bX, aM, bk, bg, aO, bh, bq, aX, a8, aF, bO, cW, cZ, aj, aR, bM, cp, cb, cT, cK, av, ah, cg, bv, zC, argS, bG, cC, cY, cM, an, aH, aV, aw, cz, leC, bS, cu, cn, cV, bW, aB, aT, cJ, am, cc, aZ, aZ.viewCs, bC, bC.flatCs, ax, ax.LensOks, Value.oneCell', ↓reduceIte, ite_true, ite_false, if_true, if_false, Nat.reduceAdd, Nat.reduceSub, Nat.reduceMul, Nat.reduceEqDiff, Nat.reduceLT, Nat.reduceLeDiff, reduceCtorEq, Int.reduceToNat, forall_const, implies_true, bI, Ent.mk3, bF, bw, a9, bm, bp, bj, bA, bn, br, bl, bD, cr, bu, cL, rn, bP, bP.renCs, aQ, aL, aG, aG.viewOks, aP, a3, a3.flatBs, aK, ar, aN, ak, aA, a4, a4.keysBs, aE, ap, bf, bN, bo, ca, af, af.passKs, aY, aI, ae, ae.lendKs, cd, cj, b0, bH, setInn, aq, cO, cR, ay, a7, cm, cH, aU, aD, Glob.gl, az, cI, be, bL, bB, au, bZ, cN, co, cS, cq, ai, ai.ptrOnlys, ag, aC, bQ, aW, bt, bz, bT, aJ, bE, cF, Nat.reduceBEq, undef]
  have hz := xorL_zero r l
  have hll := xorL_len r l
  refine S_forU l.length (fun j => [(25, .s (.int .i64 (j : Int)))]) (fun j => [(20, .row 1 3 ((xorL r l j).map cells)), (8, .box (wireC (runW (wireW r) j)))]) (fun _ => True) trivial ?_ (fun j hj _ => S_run [] 800 ?_)
  · simp (maxSteps := 4000000) -implicitDefEqProofs only [hz, runW, wireC, Ent.of0, Ent.of1, Ent.of2, Ent.of3, V, cD, bK, a5, ce, cU, cP, gt, lk, bV, cB, cG, bR, bY, bU, bU.subCs, cQ, bJ, a6, bX, aM, bk, bg, aO, bh, bq, aX, a8, aF, bO, cW, cZ, aj, aR, bM, cp, cb, cT, cK, av, ah, cg, bv, zC, argS, bG, cC, cY, cM, an, aH, aV, aw, cz, leC, bS, cu, cn, cV, bW, aB, aT, cJ, am, cc, aZ, aZ.viewCs, bC, bC.flatCs, ax, ax.LensOks, Value.oneCell', ↓reduceIte, ite_true, ite_false, if_true, if_false, Nat.reduceAdd, Nat.reduceSub, Nat.reduceMul, Nat.reduceEqDiff, Nat.reduceLT, Nat.reduceLeDiff, reduceCtorEq, Int.reduceToNat, forall_const, implies_true, bI, Ent.mk3, bF, bw, a9, bm, bp, bj, bA, bn, br, bl, bD, cr, bu, cL, rn, bP, bP.renCs, aQ, aL, aG, aG.viewOks, aP, a3, a3.flatBs, aK, ar, aN, ak, aA, a4, a4.keysBs, aE, ap, bf, bN, bo, ca, af, af.passKs, aY, aI, ae, ae.lendKs, cd, cj, b0, bH, setInn, aq, cO, cR, ay, a7, cm, cH, aU, aD, Glob.gl, az, cI, be, bL, bB, au, bZ, cN, co, cS, cq, ai, ai.ptrOnlys, ag, aC, bQ, aW, bt, bz, bT, aJ, bE, cF, Nat.reduceBEq, undef]; simp
  · have hllj := hll j
    by_cases h : j < l.length
    · have hi2 : (j : Int) < (l.length : Int) := by omega
      have hw := runW_ok (wireW_ok hr) j
      have hsm := runW_same (wireW r) j
      have hout := out_run hr j
      have hs : (seqR r l.length).getD j 0 = (runR r j).state.getD 0 0 := by unfold seqR; rw [rng_getD _ _ h]
      have hsb := seqR_bit hr l.length j
      have hbj := bits_getD hb j
      have hgr := getD_map' (cells (α := Int)) (xorL r l j) j 0 [] (by rw [hllj]; exact h)
      rw [xorL_get r l h, cells_int] at hgr
      have hset := congrArg (List.map (cells (α := Int))) (xorL_set r l j)
      rw [List.map_set, cells_int] at hset
      have hx : bitF .xor .i64 (l.getD j 0) (outS (runW (wireW r) j) : Int) = ((seqR r l.length).getD j 0 + l.getD j 0) % 2 := by
        rw [hout, ← hs]; exact xor_bit _ _ hbj hsb
      delta D.c42l1
      simp (maxSteps := 4000000) -implicitDefEqProofs only [D.rv42, hi2, wireC, InR, Int.cast_ofNat_Int, Int.natCast_one, Int.natCast_zero, Int.reduceAdd, Int.reduceSub, Int.reduceMul, Int.reduceLT, Int.reduceLE, Int.reduceTMod, Int.reduceTDiv, Int.reduceNeg, Int.reduceEq, Nat.reducePow, Int.reducePow, ne_eq, not_false_eq_true, Ent.of0, Ent.of1, Ent.of2, Ent.of3, V, cD, bK, a5, ce, cU, cP, gt, lk, bV, cB, cG, bR, bY, bU, bU.subCs, cQ, bJ, a6, bX, aM, bk, bg, aO, bh, bq, aX, a8, aF, bO, cW, cZ, aj, aR, bM, cp, cb, cT, cK, av, ah, cg, bv, zC, argS, bG, cC, cY, cM, an, aH, aV, aw, cz, leC, bS, cu, cn, cV, bW, aB, aT, cJ, am, cc, aZ, aZ.viewCs, bC, bC.flatCs, ax, ax.LensOks, Value.oneCell', ↓reduceIte, ite_true, ite_false, if_true, if_false, Nat.reduceAdd, Nat.reduceSub, Nat.reduceMul, Nat.reduceEqDiff, Nat.reduceLT, Nat.reduceLeDiff, reduceCtorEq, Int.reduceToNat, forall_const, implies_true, bI, Ent.mk3, bF, bw, a9, bm, bp, bj, bA, bn, br, bl, bD, cr, bu, cL, rn, bP, bP.renCs, aQ, aL, aG, aG.viewOks, aP, a3, a3.flatBs, aK, ar, aN, ak, aA, a4, a4.keysBs, aE, ap, bf, bN, bo, ca, af, af.passKs, aY, aI, ae, ae.lendKs, cd, cj, b0, bH, setInn, aq, cO, cR, ay, a7, cm, cH, aU, aD, Glob.gl, az, cI, be, bL, bB, au, bZ, cN, co, cS, cq, ai, ai.ptrOnlys, ag, aC, bQ, aW, bt, bz, bT, aJ, bE, cF, Nat.reduceBEq, undef]
      have hweta : ({ bits := (runW (wireW r) j).bits, taps := (runW (wireW r) j).taps, top := (runW (wireW r) j).top } : Wire) = runW (wireW r) j := rfl
      refine S_draw [e109] 200 ?_
      simp (maxSteps := 4000000) -implicitDefEqProofs only [drS, robL, robC, reC, fixS, opSlots, AOp.reads, true_or, or_true, false_or, e109, wireI, hweta, Int.toNat_natCast, hllj, hgr, hw, hx, hset, InR, Int.cast_ofNat_Int, Int.natCast_one, Int.natCast_zero, Int.reduceAdd, Int.reduceSub, Int.reduceMul, Int.reduceLT, Int.reduceLE, Int.reduceTMod, Int.reduceTDiv, Int.reduceNeg, Int.reduceEq, Nat.reducePow, Int.reducePow, ne_eq, not_false_eq_true, Ent.of0, Ent.of1, Ent.of2, Ent.of3, V, cD, bK, a5, ce, cU, cP, gt, lk, bV, cB, cG, bR, bY, bU, bU.subCs, cQ, bJ, a6, bX, aM, bk, bg, aO, bh, bq, aX, a8, aF, bO, cW, cZ, aj, aR, bM, cp, cb, cT, cK, av, ah, cg, bv, zC, argS, bG, cC, cY, cM, an, aH, aV, aw, cz, leC, bS, cu, cn, cV, bW, aB, aT, cJ, am, cc, aZ, aZ.viewCs, bC, bC.flatCs, ax, ax.LensOks, Value.oneCell', ↓reduceIte, ite_true, ite_false, if_true, if_false, Nat.reduceAdd, Nat.reduceSub, Nat.reduceMul, Nat.reduceEqDiff, Nat.reduceLT, Nat.reduceLeDiff, reduceCtorEq, Int.reduceToNat, forall_const, implies_true, bI, Ent.mk3, bF, bw, a9, bm, bp, bj, bA, bn, br, bl, bD, cr, bu, cL, rn, bP, bP.renCs, aQ, aL, aG, aG.viewOks, aP, a3, a3.flatBs, aK, ar, aN, ak, aA, a4, a4.keysBs, aE, ap, bf, bN, bo, ca, af, af.passKs, aY, aI, ae, ae.lendKs, cd, cj, b0, bH, setInn, aq, cO, cR, ay, a7, cm, cH, aU, aD, Glob.gl, az, cI, be, bL, bB, au, bZ, cN, co, cS, cq, ai, ai.ptrOnlys, ag, aC, bQ, aW, bt, bz, bT, aJ, bE, cF, Nat.reduceBEq, undef]
      refine ⟨by omega, h, by omega, by omega, h, ⟨by omega, h⟩, S_run [] 400 ?_⟩
      have hr1 : runW (wireW r) (j + 1) = stepS (runW (wireW r) j) := rfl
      have hr2 : (stepS (runW (wireW r) j)).taps = (runW (wireW r) j).taps := rfl
      have hr3 : (stepS (runW (wireW r) j)).top = (runW (wireW r) j).top := rfl
      simp (maxSteps := 4000000) -implicitDefEqProofs only [hr1, hr2, hr3, InR, Int.cast_ofNat_Int, Int.natCast_one, Int.natCast_zero, Int.reduceAdd, Int.reduceSub, Int.reduceMul, Int.reduceLT, Int.reduceLE, Int.reduceTMod, Int.reduceTDiv, Int.reduceNeg, Int.reduceEq, Nat.reducePow, Int.reducePow, ne_eq, not_false_eq_true, Ent.of0, Ent.of1, Ent.of2, Ent.of3, V, cD, bK, a5, ce, cU, cP, gt, lk, bV, cB, cG, bR, bY, bU, bU.subCs, cQ, bJ, a6, bX, aM, bk, bg, aO, bh, bq, aX, a8, aF, bO, cW, cZ, aj, aR, bM, cp, cb, cT, cK, av, ah, cg, bv, zC, argS, bG, cC, cY, cM, an, aH, aV, aw, cz, leC, bS, cu, cn, cV, bW, aB, aT, cJ, am, cc, aZ, aZ.viewCs, bC, bC.flatCs, ax, ax.LensOks, Value.oneCell', ↓reduceIte, ite_true, ite_false, if_true, if_false, Nat.reduceAdd, Nat.reduceSub, Nat.reduceMul, Nat.reduceEqDiff, Nat.reduceLT, Nat.reduceLeDiff, reduceCtorEq, Int.reduceToNat, forall_const, implies_true, bI, Ent.mk3, bF, bw, a9, bm, bp, bj, bA, bn, br, bl, bD, cr, bu, cL, rn, bP, bP.renCs, aQ, aL, aG, aG.viewOks, aP, a3, a3.flatBs, aK, ar, aN, ak, aA, a4, a4.keysBs, aE, ap, bf, bN, bo, ca, af, af.passKs, aY, aI, ae, ae.lendKs, cd, cj, b0, bH, setInn, aq, cO, cR, ay, a7, cm, cH, aU, aD, Glob.gl, az, cI, be, bL, bB, au, bZ, cN, co, cS, cq, ai, ai.ptrOnlys, ag, aC, bQ, aW, bt, bz, bT, aJ, bE, cF, Nat.reduceBEq, undef]
      omega
    · have hi2 : ¬ (j : Int) < (l.length : Int) := by omega
      have hje : j = l.length := by omega
      subst hje
      have he2 := xorL_end r l
      delta D.c42l1
      simp (maxSteps := 4000000) -implicitDefEqProofs only [D.rv42, hi2, he, he2, InR, Ent.of0, Ent.of1, Ent.of2, Ent.of3, V, cD, bK, a5, ce, cU, cP, gt, lk, bV, cB, cG, bR, bY, bU, bU.subCs, cQ, bJ, a6, bX, aM, bk, bg, aO, bh, bq, aX, a8, aF, bO, cW, cZ, aj, aR, bM, cp, cb, cT, cK, av, ah, cg, bv, zC, argS, bG, cC, cY, cM, an, aH, aV, aw, cz, leC, bS, cu, cn, cV, bW, aB, aT, cJ, am, cc, aZ, aZ.viewCs, bC, bC.flatCs, ax, ax.LensOks, Value.oneCell', ↓reduceIte, ite_true, ite_false, if_true, if_false, Nat.reduceAdd, Nat.reduceSub, Nat.reduceMul, Nat.reduceEqDiff, Nat.reduceLT, Nat.reduceLeDiff, reduceCtorEq, Int.reduceToNat, forall_const, implies_true, bI, Ent.mk3, bF, bw, a9, bm, bp, bj, bA, bn, br, bl, bD, cr, bu, cL, rn, bP, bP.renCs, aQ, aL, aG, aG.viewOks, aP, a3, a3.flatBs, aK, ar, aN, ak, aA, a4, a4.keysBs, aE, ap, bf, bN, bo, ca, af, af.passKs, aY, aI, ae, ae.lendKs, cd, cj, b0, bH, setInn, aq, cO, cR, ay, a7, cm, cH, aU, aD, Glob.gl, az, cI, be, bL, bB, au, bZ, cN, co, cS, cq, ai, ai.ptrOnlys, ag, aC, bQ, aW, bt, bz, bT, aJ, bE, cF, Nat.reduceBEq, undef]
def e42 : Ent Try.prog := .of2 42 (fun _ _ => True) (fun (r : Reg) (l : List Int) => .tup [enc (if scrErr r l = 0 then scrS r l else []), enc (scrErr r l)]) (fun _ _ => ⟨trivial, trivial, trivial⟩) (fun r l _ => Scrambled_c r l)
end Go.Proofs.Ytfgpbmjmoobcnaa
end
section
open Go Go.Am
open Go.Am.Dat (cells)
namespace Go.Proofs.Ytfgpbmjmoobcnaa
set_option maxHeartbeats 4000000
set_option maxRecDepth 100000
set_option linter.unusedSimpArgs false
set_option linter.unusedVariables false
theorem scrS_len (r : Reg) (l : List Int) : (scrS r l).length = l.length := by simp [scrS]
theorem scrS_get (r : Reg) (l : List Int) {i : Nat} (h : i < l.length) : (scrS r l).getD i 0 = ((seqR r l.length).getD i 0 + l.getD i 0) % 2 := by
  unfold scrS
  rw [rng_getD _ _ h]
theorem scrS_bits (r : Reg) (l : List Int) : ∀ b ∈ scrS r l, b = 0 ∨ b = 1 := by
  intro b hb
  unfold scrS at hb
  obtain ⟨i, _, rfl⟩ := List.mem_map.1 hb
  omega
theorem scrS_back {r : Reg} (hr : RegOk r) {l : List Int} (hb : ∀ b ∈ l, b = 0 ∨ b = 1) : scrS r (scrS r l) = l := by
  apply List.ext_getElem (by rw [scrS_len, scrS_len])
  intro i h1 h2
  have e : ∀ (m : List Int) (h : i < m.length), m[i] = m.getD i 0 := fun m h => by rw [List.getD_eq_getElem?_getD, List.getElem?_eq_getElem h]; rfl
  rw [e _ h1, e _ h2, scrS_get r _ (by rw [scrS_len]; exact h2), scrS_get r l h2, scrS_len]
  have h3 := bits_getD hb i
  have h4 := seqR_bit hr l.length i
  omega
theorem bitsErr_of {l : List Int} (h0 : 0 < l.length) (h4 : l.length ≤ 400) (hb : ∀ b ∈ l, b = 0 ∨ b = 1) : bitsErrS l = 0 := by
  unfold bitsErrS
  rw [if_neg (by omega), if_neg (by omega), if_pos]
  rw [List.all_eq_true]
  intro b hbm
  simpa using hb b hbm
theorem SymbolScrambles_c (r : Reg) (l : List Int) : FC Try.prog 7 [enc r, enc l] [] (enc true) [] := by
  refine fc_intro' is7 (by simp) (fun cx hl => S_run [e15, e41, e22, e43, e25, e42, e44, e29, e37, e45] 1000 ?_)
  have heta : ({ length := r.length, taps := r.taps, state := r.state } : Reg) = r := rfl
  by_cases hs : shortS r = true
  rotate_left
  · have hs : shortS r = false := by simpa using hs
    delta c7
    simp (maxSteps := 4000000) -implicitDefEqProofs only [rv7, enc_reg, decV_reg, heta, e15, e41, hs, Int.cast_ofNat_Int, Int.natCast_one, Int.natCast_zero, Int.reduceAdd, Int.reduceSub, Int.reduceMul, Int.reduceLT, Int.reduceLE, Int.reduceTMod, Int.reduceTDiv, Int.reduceNeg, Int.reduceEq, Nat.reducePow, Int.reducePow, ne_eq, not_false_eq_true, Ent.of0, Ent.of1, Ent.of2, Ent.of3, V, cD, bK, a5, ce, cU, cP, gt, lk, bV, cB, cG, bR, bY, bU, bU.subCs, cQ, bJ, a6, bX, aM, bk, bg, aO, bh, bq, aX, a8, aF, bO, cW, cZ, aj, aR, bM, cp, cb, cT, cK, av, ah, cg, bv, zC, argS, bG, cC, cY, cM, an, aH, aV, aw, cz, leC, bS, cu, cn, cV, bW, aB, aT, cJ, am, cc, aZ, aZ.viewCs, bC, bC.flatCs, ax, ax.LensOks, Value.oneCell', ↓reduceIte, ite_true, ite_false, if_true, if_false, Nat.reduceAdd, Nat.reduceSub, Nat.reduceMul, Nat.reduceEqDiff, Nat.reduceLT, Nat.reduceLeDiff, reduceCtorEq, Int.reduceToNat, forall_const, implies_true, bI, Ent.mk3, bF, bw, a9, bm, bp, bj, bA, bn, br, bl, bD, cr, bu, cL, rn, bP, bP.renCs, aQ, aL, aG, aG.viewOks, aP, a3, a3.flatBs, aK, ar, aN, ak, aA, a4, a4.keysBs, aE, ap, bf, bN, bo, ca, af, af.passKs, aY, aI, ae, ae.lendKs, cd, cj, b0, bH, setInn, aq, cO, cR, ay, a7, cm, cH, aU, aD, Glob.gl, az, cI, be, bL, bB, au, bZ, cN, co, cS, cq, ai, ai.ptrOnlys, ag, aC, bQ, aW, bt, bz, bT, aJ, bE, cF, Nat.reduceBEq, undef]
  by_cases hf : ((l.length : Int) ≤ 40 ∨ 400 < (l.length : Int) ∧ (l.length : Int) ≤ 402)
  rotate_left
  · delta c7
    simp (maxSteps := 4000000) -implicitDefEqProofs only [rv7, enc_reg, decV_reg, heta, e15, e41, e22, hs, hf, Int.cast_ofNat_Int, Int.natCast_one, Int.natCast_zero, Int.reduceAdd, Int.reduceSub, Int.reduceMul, Int.reduceLT, Int.reduceLE, Int.reduceTMod, Int.reduceTDiv, Int.reduceNeg, Int.reduceEq, Nat.reducePow, Int.reducePow, ne_eq, not_false_eq_true, Ent.of0, Ent.of1, Ent.of2, Ent.of3, V, cD, bK, a5, ce, cU, cP, gt, lk, bV, cB, cG, bR, bY, bU, bU.subCs, cQ, bJ, a6, bX, aM, bk, bg, aO, bh, bq, aX, a8, aF, bO, cW, cZ, aj, aR, bM, cp, cb, cT, cK, av, ah, cg, bv, zC, argS, bG, cC, cY, cM, an, aH, aV, aw, cz, leC, bS, cu, cn, cV, bW, aB, aT, cJ, am, cc, aZ, aZ.viewCs, bC, bC.flatCs, ax, ax.LensOks, Value.oneCell', ↓reduceIte, ite_true, ite_false, if_true, if_false, Nat.reduceAdd, Nat.reduceSub, Nat.reduceMul, Nat.reduceEqDiff, Nat.reduceLT, Nat.reduceLeDiff, reduceCtorEq, Int.reduceToNat, forall_const, implies_true, bI, Ent.mk3, bF, bw, a9, bm, bp, bj, bA, bn, br, bl, bD, cr, bu, cL, rn, bP, bP.renCs, aQ, aL, aG, aG.viewOks, aP, a3, a3.flatBs, aK, ar, aN, ak, aA, a4, a4.keysBs, aE, ap, bf, bN, bo, ca, af, af.passKs, aY, aI, ae, ae.lendKs, cd, cj, b0, bH, setInn, aq, cO, cR, ay, a7, cm, cH, aU, aD, Glob.gl, az, cI, be, bL, bB, au, bZ, cN, co, cS, cq, ai, ai.ptrOnlys, ag, aC, bQ, aW, bt, bz, bT, aJ, bE, cF, Nat.reduceBEq, undef]
  have hsl : r.taps.length ≤ 1000000 ∧ r.state.length ≤ 1000000 := by
    unfold shortS at hs
    simp at hs
    omega
  have hll : l.length ≤ 1000000 := by omega
  by_cases he : scrErr r l = 0
  rotate_left
  · by_cases hr : regErr r = 0
    · have hb : scrErr r l = bitsErrS l := by unfold scrErr; rw [if_neg (by simpa using hr)]
      rw [hb] at he
      delta c7
      simp (maxSteps := 4000000) -implicitDefEqProofs only [rv7, enc_reg, decV_reg, heta, e15, e41, e22, e43, e25, e42, e44, e29, hs, hf, hsl, hll, hr, hb, he, Int.cast_ofNat_Int, Int.natCast_one, Int.natCast_zero, Int.reduceAdd, Int.reduceSub, Int.reduceMul, Int.reduceLT, Int.reduceLE, Int.reduceTMod, Int.reduceTDiv, Int.reduceNeg, Int.reduceEq, Nat.reducePow, Int.reducePow, ne_eq, not_false_eq_true, Ent.of0, Ent.of1, Ent.of2, Ent.of3, V, cD, bK, a5, ce, cU, cP, gt, lk, bV, cB, cG, bR, bY, bU, bU.subCs, cQ, bJ, a6, bX, aM, bk, bg, aO, bh, bq, aX, a8, aF, bO, cW, cZ, aj, aR, bM, cp, cb, cT, cK, av, ah, cg, bv, zC, argS, bG, cC, cY, cM, an, aH, aV, aw, cz, leC, bS, cu, cn, cV, bW, aB, aT, cJ, am, cc, aZ, aZ.viewCs, bC, bC.flatCs, ax, ax.LensOks, Value.oneCell', ↓reduceIte, ite_true, ite_false, if_true, if_false, Nat.reduceAdd, Nat.reduceSub, Nat.reduceMul, Nat.reduceEqDiff, Nat.reduceLT, Nat.reduceLeDiff, reduceCtorEq, Int.reduceToNat, forall_const, implies_true, bI, Ent.mk3, bF, bw, a9, bm, bp, bj, bA, bn, br, bl, bD, cr, bu, cL, rn, bP, bP.renCs, aQ, aL, aG, aG.viewOks, aP, a3, a3.flatBs, aK, ar, aN, ak, aA, a4, a4.keysBs, aE, ap, bf, bN, bo, ca, af, af.passKs, aY, aI, ae, ae.lendKs, cd, cj, b0, bH, setInn, aq, cO, cR, ay, a7, cm, cH, aU, aD, Glob.gl, az, cI, be, bL, bB, au, bZ, cN, co, cS, cq, ai, ai.ptrOnlys, ag, aC, bQ, aW, bt, bz, bT, aJ, bE, cF, Nat.reduceBEq, undef]
    · have hb : scrErr r l = regErr r := by unfold scrErr; rw [if_pos hr]
      delta c7
      simp (maxSteps := 4000000) -implicitDefEqProofs only [rv7, enc_reg, decV_reg, heta, e15, e41, e22, e43, e25, e42, e44, e29, hs, hf, hsl, hll, hr, hb, Int.cast_ofNat_Int, Int.natCast_one, Int.natCast_zero, Int.reduceAdd, Int.reduceSub, Int.reduceMul, Int.reduceLT, Int.reduceLE, Int.reduceTMod, Int.reduceTDiv, Int.reduceNeg, Int.reduceEq, Nat.reducePow, Int.reducePow, ne_eq, not_false_eq_true, Ent.of0, Ent.of1, Ent.of2, Ent.of3, V, cD, bK, a5, ce, cU, cP, gt, lk, bV, cB, cG, bR, bY, bU, bU.subCs, cQ, bJ, a6, bX, aM, bk, bg, aO, bh, bq, aX, a8, aF, bO, cW, cZ, aj, aR, bM, cp, cb, cT, cK, av, ah, cg, bv, zC, argS, bG, cC, cY, cM, an, aH, aV, aw, cz, leC, bS, cu, cn, cV, bW, aB, aT, cJ, am, cc, aZ, aZ.viewCs, bC, bC.flatCs, ax, ax.LensOks, Value.oneCell', ↓reduceIte, ite_true, ite_false, if_true, if_false, Nat.reduceAdd, Nat.reduceSub, Nat.reduceMul, Nat.reduceEqDiff, Nat.reduceLT, Nat.reduceLeDiff, reduceCtorEq, Int.reduceToNat, forall_const, implies_true, bI, Ent.mk3, bF, bw, a9, bm, bp, bj, bA, bn, br, bl, bD, cr, bu, cL, rn, bP, bP.renCs, aQ, aL, aG, aG.viewOks, aP, a3, a3.flatBs, aK, ar, aN, ak, aA, a4, a4.keysBs, aE, ap, bf, bN, bo, ca, af, af.passKs, aY, aI, ae, ae.lendKs, cd, cj, b0, bH, setInn, aq, cO, cR, ay, a7, cm, cH, aU, aD, Glob.gl, az, cI, be, bL, bB, au, bZ, cN, co, cS, cq, ai, ai.ptrOnlys, ag, aC, bQ, aW, bt, bz, bT, aJ, bE, cF, Nat.reduceBEq, undef]
  have hre : regErr r = 0 := by
    unfold scrErr at he
    split at he
    · contradiction
    · rename_i h; simpa using h
  have hbe : bitsErrS l = 0 := by
    unfold scrErr at he
    rwa [if_neg (by simpa using hre)] at he
  have hr := regOk_of hre
  obtain ⟨h0, h400, hb⟩ := bits_of hbe
  have hsc := scrS_len r l
  have hl2 : (scrS r l).length ≤ 1000000 := by omega
  have he2 : scrErr r (scrS r l) = 0 := by
    unfold scrErr
    rw [if_neg (by simpa using hre)]
    exact bitsErr_of (by omega) (by omega) (scrS_bits r l)
  have hback := scrS_back hr hb
  delta c7
  simp (maxSteps := 4000000) -implicitDefEqProofs only [rv7, enc_reg, decV_reg, heta, e15, e41, e22, e43, e25, e42, e44, e29, e37, e45, hs, hf, hsl, hll, hre, hbe, he, hr, hb, hl2, he2, hback, Int.cast_ofNat_Int, Int.natCast_one, Int.natCast_zero, Int.reduceAdd, Int.reduceSub, Int.reduceMul, Int.reduceLT, Int.reduceLE, Int.reduceTMod, Int.reduceTDiv, Int.reduceNeg, Int.reduceEq, Nat.reducePow, Int.reducePow, ne_eq, not_false_eq_true, Ent.of0, Ent.of1, Ent.of2, Ent.of3, V, cD, bK, a5, ce, cU, cP, gt, lk, bV, cB, cG, bR, bY, bU, bU.subCs, cQ, bJ, a6, bX, aM, bk, bg, aO, bh, bq, aX, a8, aF, bO, cW, cZ, aj, aR, bM, cp, cb, cT, cK, av, ah, cg, bv, zC, argS, bG, cC, cY, cM, an, aH, aV, aw, cz, leC, bS, cu, cn, cV, bW, aB, aT, cJ, am, cc, aZ, aZ.viewCs, bC, bC.flatCs, ax, ax.LensOks, Value.oneCell', ↓reduceIte, ite_true, ite_false, if_true, if_false, Nat.reduceAdd, Nat.reduceSub, Nat.reduceMul, Nat.reduceEqDiff, Nat.reduceLT, Nat.reduceLeDiff, reduceCtorEq, Int.reduceToNat, forall_const, implies_true, bI, Ent.mk3, bF, bw, a9, bm, bp, bj, bA, bn, br, bl, bD, cr, bu, cL, rn, bP, bP.renCs, aQ, aL, aG, aG.viewOks, aP, a3, a3.flatBs, aK, ar, aN, ak, aA, a4, a4.keysBs, aE, ap, bf, bN, bo, ca, af, af.passKs, aY, aI, ae, ae.lendKs, cd, cj, b0, bH, setInn, aq, cO, cR, ay, a7, cm, cH, aU, aD, Glob.gl, az, cI, be, bL, bB, au, bZ, cN, co, cS, cq, ai, ai.ptrOnlys, ag, aC, bQ, aW, bt, bz, bT, aJ, bE, cF, Nat.reduceBEq, undef]
  exact hb
end Go.Proofs.Ytfgpbmjmoobcnaa
end
section
open Go Go.Am
open Go.Am.Dat (cells)
namespace Go.Proofs.Ytfgpbmjmoobcnaa
open Go.ChangeShapes Go.WideShapes Go.ChangeAt Go.RowKit
set_option linter.unusedVariables false
theorem own : ownKnob Try.prog.godebug = none := by kernel_rfl
theorem laidOut : laidOutB Try.prog = true := by kernel_rfl
theorem glob0 : Glob.gl Try.prog = [] := rfl
theorem rInt : ReadsAs Try.prog 3 Int := ReadsAs.int Try.underlying3 (by kernel_rfl)
theorem rInts : ReadsAs Try.prog 33 (List Int) := ReadsAs.list rInt Try.underlying33 (by kernel_rfl)
theorem rReg : ReadsAs Try.prog 59 Reg := by
  refine ⟨by kernel_rfl, by decide, fun en w sp fuel cs x h => ?_⟩
  obtain ⟨l, a0, e0, h0⟩ := field_rd rInt Try.underlying59 h 0 rfl rfl
  obtain ⟨_, a1, e1, h1⟩ := field_rd rInts Try.underlying59 h 1 rfl rfl
  obtain ⟨_, a2, e2, h2⟩ := field_rd rInts Try.underlying59 h 2 rfl rfl
  refine ⟨⟨a0, a1, a2⟩, rfl, l.trans (by kernel_rfl), fun j c hj => ?_⟩
  match j, hj with
  | 0, hj => cases hj; exact h0 0 _ rfl
  | 1, hj => cases hj; exact h1 0 _ rfl
  | 2, hj => cases hj; exact h2 0 _ rfl
set_option maxRecDepth 100000 in
theorem lifted7 (os : Os) (started : os.Started) (H : Type) (en : TypeId × Value → H) :
    ReturnsInHanded {} Try.checked os 7 .any (Rows.symbolScramblesSpec.pre6 en Try.prog Try.f7 Rows.symbolScramblesRow.domain false) (Rows.symbolScramblesSpec.post en Try.prog Try.f7 false true false false) := by
  refine returnsInHanded_of_change (C := Try.checked) own started (by kernel_rfl) Try.func7
    (ChangeSpec.witness6 (enc := en) (C := Try.checked) false ⟨#[], #[.agg #[.int .i64 0, .slice none 0 0, .slice none 0 0], .slice none 0 0], []⟩ 8 (by kernel_rfl) (by kernel_rfl) (by kernel_rfl) (by kernel_rfl)) ?_
  intro W base args ds gs before hval0 hW hcnd _
  have hval : ∀ (j : Nat) t v, Try.f7.params[j]? = some t → args[j]? = some v → Value.okWide Try.prog W .any base t v := hval0
  have hW' := hW
  obtain ⟨p, q, hA0, hV, rfl, hfz, hnd⟩ := hW
  have hA : DataW.TrodAll en Try.prog W 0 (fun _ => true) true Try.f7.params.toList args.toList ds p := hA0
  rw [Try.params7] at hA hval
  obtain ⟨v0, vs0, d0, ds0, p0, q0, hargs, rfl, rfl, h0, r0⟩ := trodAll_cons hA
  obtain ⟨v1, vs1, d1, ds1, p1, q1, rfl, rfl, rfl, h1, r1⟩ := trodAll_cons r0
  obtain ⟨rfl, rfl, rfl⟩ := trodAll_nil r1
  obtain rfl : args = #[v0, v1] := by cases args; simp_all
  obtain ⟨rfl, rfl⟩ := trodVars_none hV
  have lt0 : ∀ x ∈ p0, x.block < W.heap.size := by obtain ⟨m, hm⟩ := h0; exact DataW.trod_lt m _ _ _ hm
  have lt1 : ∀ x ∈ p1, x.block < W.heap.size := by obtain ⟨m, hm⟩ := h1; exact DataW.trod_lt m _ _ _ hm
  obtain ⟨x0, hx0⟩ := rReg.argS rfl Try.underlying59 (hval 0 59 v0 rfl rfl) h0
  obtain ⟨x1, hx1⟩ := rInts.arg Try.underlying33 (hval 1 33 v1 rfl rfl) h1
  clear hA0 hval0
  refine (law_walk glob0 (SymbolScrambles_c x0 x1) (W := W) (vs := #[v0, v1]) rfl (fun j c hj E => ?_)).mono fun e W' ⟨he, bel⟩ => ?_
  · match j, hj with
    | 0, hj => cases hj; exact hx0 E
    | 1, hj => cases hj; exact hx1 E
  · subst he
    exact ⟨_, rfl, _, _, _, [], _, [], hW', trodAll_mk1 (shut_bool Try.underlying4 _), (trodAll_cons_mk (Below.trod laidOut (by kernel_rfl) (of_decide_eq_true (by kernel_rfl)) h0 bel lt0) (trodAll_cons_mk (Below.trod laidOut (by kernel_rfl) (of_decide_eq_true (by kernel_rfl)) h1 bel lt1) trodAll_mk0)), rfl, bel.frame _, fun h => by cases h⟩
theorem over7 : Rows.symbolScramblesRow.holds Try.pinned (OpenSpec.ofChange Rows.symbolScramblesSpec) :=
  OpenClaim.holds_of_wide 7 Try.f7 rfl rfl rfl rfl rfl rfl rfl ⟨rfl, rfl, rfl, rfl, rfl⟩ rfl rfl rfl rfl rfl (by kernel_rfl) Try.func7 (by kernel_rfl)
    (of_decide_eq_true (by kernel_rfl)) (by unfold Func.isWrapper; first | (rw [if_pos (by decide +kernel)]; kernel_rfl) | (rw [if_neg (by decide +kernel)]; exact ⟨rfl, rfl⟩))
    (fun os started H en _ => lifted7 os started H en)
theorem SymbolScrambles_holds : Rows.SymbolScramblesSaid := over7
#print axioms SymbolScrambles_holds
end Go.Proofs.Ytfgpbmjmoobcnaa
end
