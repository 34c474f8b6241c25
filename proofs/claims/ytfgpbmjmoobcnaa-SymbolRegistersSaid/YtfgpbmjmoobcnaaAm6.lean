/- SymbolRegisters returns true for every input and never panics: which registers are right, what a step and several steps give out, and the register behind many, or the errors, are as the reference says; conditions: none beyond the given statement. -/
import Derived.Test.YtfgpbmjmoobcnaaRows
import Derived.ProofKit
import Derived.Test.YtfgpbmjmoobcnaaAm5
set_option linter.all false
section
open Go Go.Am
open Go.Am.Dat (cells)
namespace Go.Proofs.Ytfgpbmjmoobcnaa
set_option maxHeartbeats 4000000
set_option maxRecDepth 100000
set_option linter.unusedSimpArgs false
set_option linter.unusedVariables false
def e76 : Ent Try.prog := .mk3 76 (fun args chs => match args, chs with
    | [.agg [.s (.int .i64 a), .sl 1 t, .sl 1 s], .s (.int .i64 n)], [] => (decL t : Option (List Int)).bind fun t' => (decL s : Option (List Int)).bind fun s' => some (RegOk ⟨a, t', s'⟩ ∧ 0 ≤ n ∧ n ≤ 1000000, .own 5, [(5, .row 1 3 ((seqR ⟨a, t', s'⟩ n.toNat).map cells))], [5])
    | _, _ => none) (by
  intro args chs p r chs' nk hs hp
  split at hs
  · simp only [Option.bind_eq_some_iff, Option.some.injEq, Prod.mk.injEq] at hs
    obtain ⟨t', ht, s', hs', rfl, rfl, rfl, rfl⟩ := hs
    have := decL_ok ht
    subst this
    have := decL_ok hs'
    subst this
    rename_i a n
    obtain ⟨h1, h2, h3⟩ := hp
    have := RSequence_c ⟨a, t', s'⟩ h1 n.toNat (by omega)
    rw [Int.toNat_of_nonneg h2] at this
    refine ⟨this, ⟨fun k c h => .inl ?_, fun k cs h => by simp at h, List.mem_singleton.2 rfl, fun k c h => ?_⟩⟩
    · simp only [List.mem_singleton, Prod.mk.injEq] at h; rw [h.1]; exact List.mem_singleton.2 rfl
    · simp only [List.mem_singleton, Prod.mk.injEq] at h; rw [h.2]; trivial
  · cases hs)
end Go.Proofs.Ytfgpbmjmoobcnaa
end
section
open Go Go.Am
open Go.Am.Dat (cells)
namespace Go.Proofs.Ytfgpbmjmoobcnaa
set_option maxHeartbeats 4000000
set_option maxRecDepth 100000
set_option linter.unusedSimpArgs false
set_option linter.unusedVariables false
theorem bitsS_bit {l : List Int} (h : ∀ b ∈ l, b = 0 ∨ b = 1) : ∀ n i, (bitsS l n).testBit i = (decide (i < n) && decide (l.getD i 0 = 1))
  | 0, i => by simp [bitsS]
  | n + 1, i => by
    rw [bitsS, Nat.testBit_or, bitsS_bit h n i]
    have hb := bits_getD h n
    by_cases h1 : i = n
    · subst h1
      rcases hb with e | e <;> rw [e] <;> simp
    · have h2 : (i < n + 1) = (i < n) := propext (by omega)
      have h3 : ((l.getD n 0).toNat * 2 ^ n).testBit i = false := by
        rcases hb with e | e <;> rw [e] <;> simp [Nat.testBit_two_pow]
        omega
      rw [h3, Bool.or_false]
      simp only [h2]
theorem and_pow (n i : Nat) : n &&& 2 ^ i = (n.testBit i).toNat * 2 ^ i := by
  apply Nat.eq_of_testBit_eq
  intro j
  rw [Nat.testBit_and, Nat.testBit_two_pow]
  by_cases h : i = j
  · subst h
    cases hb : n.testBit i <;> simp
  · cases hb : n.testBit i <;> simp [h, Nat.testBit_two_pow]
theorem parS_add : ∀ t, t < 10 → ∀ a, a < 2 ^ t → parS (a ||| 2 ^ t) = 1 - parS a ∧ parS a ≤ 1 := by decide +kernel
theorem parS_lt (n : Nat) : parS n ≤ 1 := parF_le n n 0 (by omega)
theorem tapsS_lt2 {l : List Int} {m : Nat} : ∀ i, (∀ j, j < i → (l.getD j 0).toNat < m) → tapsS l i < 2 ^ m
  | 0, _ => by simp [tapsS]; exact Nat.pow_pos (by decide)
  | i + 1, h => Nat.or_lt_two_pow (tapsS_lt2 i fun j hj => h j (by omega)) (Nat.pow_lt_pow_right (by decide) (h i (by omega)))
theorem par_sum {r : Reg} (hr : RegOk r) : ∀ i, i ≤ r.taps.length → (parS (bitsS r.state r.state.length &&& tapsS r.taps i) : Int) = sumT r.state r.taps i % 2
  | 0, _ => by simp [tapsS, sumT]; rfl
  | i + 1, hi => by
    have ih := par_sum hr i (by omega)
    have hm : r.taps.getD i 0 ∈ r.taps := by rw [List.getD_eq_getElem?_getD, List.getElem?_eq_getElem (by omega)]; exact List.getElem_mem _
    have ht := hr.taps _ hm
    have hlen := hr.len
    have hst := hr.stl
    have hinc : ∀ j, j < i → (r.taps.getD j 0).toNat < (r.taps.getD i 0).toNat := fun j hj => by
      have h1 := List.pairwise_iff_getElem.1 hr.inc j i (by omega) (by omega) hj
      have hmj : r.taps.getD j 0 ∈ r.taps := by rw [List.getD_eq_getElem?_getD, List.getElem?_eq_getElem (by omega)]; exact List.getElem_mem _
      have htj := hr.taps _ hmj
      have e1 : r.taps.getD j 0 = r.taps[j] := by rw [List.getD_eq_getElem?_getD, List.getElem?_eq_getElem (by omega)]; rfl
      have e2 : r.taps.getD i 0 = r.taps[i] := by rw [List.getD_eq_getElem?_getD, List.getElem?_eq_getElem (by omega)]; rfl
      omega
    have hlt := tapsS_lt2 i hinc
    generalize htt : (r.taps.getD i 0).toNat = t at *
    have ht10 : t < 10 := by omega
    rw [tapsS, htt, Nat.and_or_distrib_left, and_pow, bitsS_bit hr.bits, sumT, htt]
    have hlt2 : bitsS r.state r.state.length &&& tapsS r.taps i < 2 ^ t := Nat.lt_of_le_of_lt Nat.and_le_right hlt
    have hb := bits_getD hr.bits t
    obtain ⟨g1, g2⟩ := parS_add t ht10 _ hlt2
    have htl : t < r.state.length := by omega
    rcases hb with e | e <;> rw [e]
    · simp [ih]
    · simp only [htl, decide_true, Bool.and_true, Bool.toNat_true, Nat.one_mul, g1]
      omega
theorem wire_next {r : Reg} (hr : RegOk r) : wireW (nextR r) = stepS (wireW r) := by
  have hp := par_sum hr _ (Nat.le_refl _)
  have hbits := hr.bits
  have hst := hr.stl
  have hlen := hr.len
  have hb2 := (nextR_ok hr).bits
  have hl2 : (nextR r).state.length = r.state.length := by
    have := (nextR_ok hr).stl
    have e : (nextR r).length = r.length := rfl
    omega
  unfold wireW stepS
  rw [Wire.mk.injEq]
  refine ⟨?_, rfl, rfl⟩
  show bitsS (nextR r).state (nextR r).state.length = bitsS r.state r.state.length / 2 ||| parS (bitsS r.state r.state.length &&& tapsS r.taps r.taps.length) * 2 ^ (r.length - 1).toNat
  rw [hl2]
  have hp1 := parS_lt (bitsS r.state r.state.length &&& tapsS r.taps r.taps.length)
  generalize parS (bitsS r.state r.state.length &&& tapsS r.taps r.taps.length) = p at hp hp1
  have htop : (r.length - 1).toNat = r.state.length - 1 := by omega
  rw [htop]
  apply Nat.eq_of_testBit_eq
  intro i
  rw [bitsS_bit hb2, Nat.testBit_or, ← Nat.testBit_succ, bitsS_bit hbits]
  have hg : (nextR r).state.getD i 0 = if i + 1 < r.state.length then r.state.getD (i + 1) 0 else if i + 1 = r.state.length then (p : Int) else 0 := by
    show (r.state.drop 1 ++ [sumT r.state r.taps r.taps.length % 2]).getD i 0 = _
    rw [← hp, List.getD_eq_getElem?_getD, List.getElem?_append, List.length_drop]
    by_cases h1 : i + 1 < r.state.length
    · rw [if_pos (by omega), if_pos h1, List.getElem?_drop, List.getD_eq_getElem?_getD, Nat.add_comm]
    · rw [if_neg (by omega), if_neg h1]
      by_cases h2 : i + 1 = r.state.length
      · rw [if_pos h2]
        have : i - (r.state.length - 1) = 0 := by omega
        rw [this]; rfl
      · rw [if_neg h2, List.getElem?_eq_none (by simp; omega)]; rfl
  rw [hg]
  have hp01 : p = 0 ∨ p = 1 := by omega
  by_cases h1 : i + 1 < r.state.length
  · have h3 : (p * 2 ^ (r.state.length - 1)).testBit i = false := by
      rcases hp01 with rfl | rfl <;> simp [Nat.testBit_two_pow]
      omega
    rw [h3, if_pos h1]
    simp [h1]
    omega
  · rw [if_neg h1]
    by_cases h2 : i + 1 = r.state.length
    · have e : r.state.length - 1 = i := by omega
      rw [if_pos h2, e]
      rcases hp01 with rfl | rfl <;> simp [h1] <;> omega
    · rw [if_neg h2]
      have h3 : (p * 2 ^ (r.state.length - 1)).testBit i = false := by
        rcases hp01 with rfl | rfl <;> simp [Nat.testBit_two_pow]
        omega
      rw [h3]
      simp [h1]
theorem wire_run {r : Reg} (hr : RegOk r) : ∀ i, runW (wireW r) i = wireW (runR r i)
  | 0 => rfl
  | i + 1 => by rw [runW, runR, wire_run hr i, wire_next (runR_ok hr i)]
theorem wire_out {r : Reg} (hr : RegOk r) : (outS (wireW r) : Int) = r.state.getD 0 0 := by
  have h := bitsS_bit hr.bits r.state.length 0
  have hl : 0 < r.state.length := by have := hr.len; have := hr.stl; omega
  rw [Nat.testBit_zero] at h
  have hb := bits_getD hr.bits 0
  show ((bitsS r.state r.state.length % 2 : Nat) : Int) = _
  rcases hb with e | e <;> rw [e] at h ⊢ <;> simp [hl] at h <;> omega
theorem out_run {r : Reg} (hr : RegOk r) (i : Nat) : (outS (runW (wireW r) i) : Int) = (runR r i).state.getD 0 0 := by
  rw [wire_run hr i, wire_out (runR_ok hr i)]
theorem seq_eq {r : Reg} (hr : RegOk r) (n : Nat) : seqS (wireW r) n = seqR r n := List.map_congr_left fun i _ => out_run hr i
end Go.Proofs.Ytfgpbmjmoobcnaa
end
section
open Go Go.Am
open Go.Am.Dat (cells)
namespace Go.Proofs.Ytfgpbmjmoobcnaa
set_option maxHeartbeats 4000000
set_option maxRecDepth 100000
set_option linter.unusedSimpArgs false
set_option linter.unusedVariables false
theorem pigeon : ∀ (N : Nat) (f : Nat → Nat), (∀ i, i ≤ N → f i < N) → ∃ i j, i < j ∧ j ≤ N ∧ f i = f j
  | 0, f, h => absurd (h 0 (Nat.le_refl _)) (by omega)
  | N + 1, f, h => by
    by_cases hv : ∃ i, i ≤ N ∧ f i = f (N + 1)
    · obtain ⟨i, h1, h2⟩ := hv
      exact ⟨i, N + 1, by omega, Nat.le_refl _, h2⟩
    · have hv' : ∀ i, i ≤ N → f i ≠ f (N + 1) := fun i hi he => hv ⟨i, hi, he⟩
      have hN := h (N + 1) (Nat.le_refl _)
      obtain ⟨i, j, h1, h2, h3⟩ := pigeon N (fun i => if f i < f (N + 1) then f i else f i - 1) (fun i hi => by
        have h4 := h i (by omega)
        have h5 := hv' i hi
        show (if f i < f (N + 1) then f i else f i - 1) < N
        split <;> omega)
      refine ⟨i, j, h1, by omega, ?_⟩
      have h4 := hv' i (by omega)
      have h5 := hv' j h2
      have h3 : (if f i < f (N + 1) then f i else f i - 1) = if f j < f (N + 1) then f j else f j - 1 := h3
      split at h3 <;> split at h3 <;> omega
theorem bits_inj {a b : List Int} (ha : ∀ x ∈ a, x = 0 ∨ x = 1) (hb : ∀ x ∈ b, x = 0 ∨ x = 1) (hl : a.length = b.length) (h : bitsS a a.length = bitsS b b.length) : a = b := by
  apply List.ext_getElem hl
  intro i h1 h2
  have e : ∀ (m : List Int) (h : i < m.length), m[i] = m.getD i 0 := fun m h => by rw [List.getD_eq_getElem?_getD, List.getElem?_eq_getElem h]; rfl
  rw [e a h1, e b h2]
  have q1 := bitsS_bit ha a.length i
  have q2 := bitsS_bit hb b.length i
  rw [h, q2] at q1
  have g1 := bits_getD ha i
  have g2 := bits_getD hb i
  simp only [h1, h2, decide_true, Bool.true_and] at q1
  rcases g1 with g1 | g1 <;> rcases g2 with g2 | g2 <;> rw [g1, g2] at q1 ⊢ <;> simp at q1
theorem runR_same (r : Reg) : ∀ i, (runR r i).taps = r.taps ∧ (runR r i).length = r.length
  | 0 => ⟨rfl, rfl⟩
  | i + 1 => runR_same r i
theorem reg_ext {a b : Reg} (h1 : a.length = b.length) (h2 : a.taps = b.taps) (h3 : a.state = b.state) : a = b := by
  cases a; cases b; simp_all
theorem sum_diff {s1 s2 ts : List Int} (hd : s1.drop 1 = s2.drop 1) (hz : ts.getD 0 0 = 0) (hinc : ts.Pairwise (· < ·)) : ∀ n, n + 1 ≤ ts.length → sumT s1 ts (n + 1) - sumT s2 ts (n + 1) = s1.getD 0 0 - s2.getD 0 0
  | 0, h => by simp only [sumT, hz]; simp
  | n + 1, h => by
    have ih := sum_diff hd hz hinc n (by omega)
    have h1 := List.pairwise_iff_getElem.1 hinc 0 (n + 1) (by omega) (by omega) (by omega)
    have e1 : ts.getD 0 0 = ts[0] := by rw [List.getD_eq_getElem?_getD, List.getElem?_eq_getElem (by omega)]; rfl
    have e2 : ts.getD (n + 1) 0 = ts[n + 1] := by rw [List.getD_eq_getElem?_getD, List.getElem?_eq_getElem (by omega)]; rfl
    obtain ⟨t, ht⟩ : ∃ t, (ts.getD (n + 1) 0).toNat = t + 1 := ⟨(ts.getD (n + 1) 0).toNat - 1, by omega⟩
    have e : s1.getD (t + 1) 0 = s2.getD (t + 1) 0 := by
      have q : (s1.drop 1).getD t 0 = (s2.drop 1).getD t 0 := by rw [hd]
      rw [List.getD_eq_getElem?_getD, List.getD_eq_getElem?_getD, List.getElem?_drop, List.getElem?_drop, Nat.add_comm 1 t] at q
      rw [List.getD_eq_getElem?_getD, List.getD_eq_getElem?_getD]
      exact q
    have E1 : sumT s1 ts (n + 1 + 1) = sumT s1 ts (n + 1) + s1.getD (ts.getD (n + 1) 0).toNat 0 := rfl
    have E2 : sumT s2 ts (n + 1 + 1) = sumT s2 ts (n + 1) + s2.getD (ts.getD (n + 1) 0).toNat 0 := rfl
    rw [ht] at E1 E2
    omega
theorem next_inj {a b : Reg} (ha : RegOk a) (hb : RegOk b) (h1 : a.length = b.length) (h2 : a.taps = b.taps) (h : (nextR a).state = (nextR b).state) : a = b := by
  refine reg_ext h1 h2 ?_
  have hla := ha.stl
  have hlb := hb.stl
  have hl : a.state.length = b.state.length := by omega
  have hlen := ha.len
  have h' : a.state.drop 1 ++ [sumT a.state a.taps a.taps.length % 2] = b.state.drop 1 ++ [sumT b.state b.taps b.taps.length % 2] := h
  obtain ⟨hd, hs⟩ := List.append_inj h' (by simp [hl])
  have hs : sumT a.state a.taps a.taps.length % 2 = sumT b.state b.taps b.taps.length % 2 := by simpa using hs
  rw [← h2] at hs
  have hne := ha.ne
  obtain ⟨n, hn⟩ : ∃ n, a.taps.length = n + 1 := ⟨a.taps.length - 1, by omega⟩
  have hdiff := sum_diff hd ha.zero ha.inc n (by omega)
  rw [hn] at hs
  have ga := bits_getD ha.bits 0
  have gb := bits_getD hb.bits 0
  have g0 : a.state.getD 0 0 = b.state.getD 0 0 := by omega
  cases hA : a.state with
  | nil => rw [hA] at hla; simp at hla; omega
  | cons x xs =>
    cases hB : b.state with
    | nil => rw [hB] at hlb; simp at hlb; omega
    | cons y ys =>
      rw [hA, hB] at hd g0
      simp at hd g0
      rw [hd, g0]
theorem run_back {r : Reg} (hr : RegOk r) : ∀ i j, (runR r i).state = (runR r (i + j)).state → (runR r j).state = r.state
  | 0, j, h => by rw [Nat.zero_add] at h; exact h.symm
  | i + 1, j, h => by
    have h1 : (nextR (runR r i)).state = (nextR (runR r (i + j))).state := by
      have e : i + 1 + j = (i + j) + 1 := by omega
      rw [e] at h
      exact h
    have h2 := next_inj (runR_ok hr i) (runR_ok hr (i + j)) (by rw [(runR_same r i).2, (runR_same r (i + j)).2]) (by rw [(runR_same r i).1, (runR_same r (i + j)).1]) h1
    exact run_back hr i j (by rw [← h2])
def perR (r : Reg) : Nat := ((List.range 1024).find? fun i => decide ((runR r (i + 1)).state = r.state)).getD 0 + 1
theorem per_ex {r : Reg} (hr : RegOk r) : ∃ i, i < 1024 ∧ (runR r (i + 1)).state = r.state := by
  obtain ⟨i, j, h1, h2, h3⟩ := pigeon 1024 (fun i => bitsS (runR r i).state (runR r i).state.length) (fun i _ => by
    have ho := runR_ok hr i
    have := bitsS_lt ho.bits (runR r i).state.length
    have hl := ho.stl
    have hlen := ho.len
    exact Nat.lt_of_lt_of_le this (Nat.pow_le_pow_right (by decide) (show (runR r i).state.length ≤ 10 by omega)))
  have ho := runR_ok hr i
  have hp := runR_ok hr j
  have hs1 := ho.stl
  have hs2 := hp.stl
  have e1 := (runR_same r i).2
  have e2 := (runR_same r j).2
  have h4 := bits_inj ho.bits hp.bits (by omega) h3
  have e : j = i + (j - i) := by omega
  rw [e] at h4
  have := run_back hr i (j - i) h4
  refine ⟨j - i - 1, by omega, ?_⟩
  rw [show j - i - 1 + 1 = j - i by omega]
  exact this
theorem perR_spec {r : Reg} (hr : RegOk r) : (1 ≤ perR r ∧ perR r ≤ 1024) ∧ (runR r (perR r)).state = r.state ∧ ∀ m, 0 < m → m < perR r → (runR r m).state ≠ r.state := by
  unfold perR
  cases hq : (List.range 1024).find? fun i => decide ((runR r (i + 1)).state = r.state) with
  | none =>
    exfalso
    obtain ⟨i, h1, h2⟩ := per_ex hr
    rw [List.find?_eq_none] at hq
    exact hq i (List.mem_range.2 h1) (by simpa using h2)
  | some i =>
    rw [List.find?_range_eq_some] at hq
    obtain ⟨h1, h2, h3⟩ := hq
    have h2 := List.mem_range.1 h2
    refine ⟨⟨by omega, by simp; omega⟩, by simpa using h1, fun m hm0 hm => ?_⟩
    have h4 := h3 (m - 1) (by simp at hm; omega)
    rw [show m - 1 + 1 = m by omega] at h4
    simpa using h4
end Go.Proofs.Ytfgpbmjmoobcnaa
end
section
open Go Go.Am
open Go.Am.Dat (cells)
namespace Go.Proofs.Ytfgpbmjmoobcnaa
set_option maxHeartbeats 4000000
set_option maxRecDepth 100000
set_option linter.unusedSimpArgs false
set_option linter.unusedVariables false
theorem Clone_c (l : List Int) (h : 0 < l.length ∧ l.length ≤ 1000000) : FC Try.prog 107 [enc l] [] (enc l) [] := by
  refine fc_intro' is107 (by simp) (fun cx hl => S_run [] 800 ?_)
  cases l with
  | nil => simp at h
  | cons a tl =>
    have h2 := h.2
    simp only [List.length_cons] at h2
    delta c107
    simp (maxSteps := 4000000) -implicitDefEqProofs only [rv107, List.map_cons, List.length_cons, Ent.of0, Ent.of1, Ent.of2, Ent.of3, V, bS, bA, bB, ca, cL, cP, gt, lk, bR, cq, cg, cb, cF, bZ, bZ.subCs, cQ, a4, bj, b0, aO, bw, a3, aD, bI, a9, az, a8, aW, bX, cT, cZ, an, aH, cD, cc, cn, cV, cU, ay, ak, ce, bt, zC, argS, a7, cI, c6, cR, aj, aC, aI, aV, bP, leC, bT, cm, cp, cM, cG, aX, aP, cK, ap, cd, bm, bm.viewCs, bf, bf.flatCs, ax, ax.LensOks, Value.oneCell', ↓reduceIte, ite_true, ite_false, if_true, if_false, Nat.reduceAdd, Nat.reduceSub, Nat.reduceMul, Nat.reduceEqDiff, Nat.reduceLT, Nat.reduceLeDiff, reduceCtorEq, Int.reduceToNat, forall_const, implies_true, bv, Ent.mk3, bE, bC, be, a6, bL, a5, br, bK, bu, bh, bH, cu, bJ, cS, rn, co, co.renCs, aN, aT, aR, aR.viewOks, aJ, bz, bz.flatBs, aG, aq, aY, au, aA, bo, bo.keysBs, av, ar, bk, bM, bF, bW, af, af.passKs, aM, aU, ae, ae.lendKs, cr, bU, bV, bG, setInn, am, cW, cO, aB, aZ, bY, bN, aK, aw, Glob.gl, aQ, cj, bn, bQ, bD, ah, cC, cN, cz, cY, bO, ai, ai.ptrOnlys, ag, aL, cJ, aF, bp, bg, cH, aE, bq, cB, Nat.reduceBEq, undef]
    omega
def e107 : Ent Try.prog := .of1 107 (fun l => 0 < l.length ∧ l.length ≤ 1000000) (fun l : List Int => enc l) (fun _ => trivial) (fun l h => Clone_c l h)
def stateL (w : Wire) (n : Nat) : List Int := (List.range n).map fun i => ((w.bits / 2 ^ i % 2 : Nat) : Int)
theorem stateL_succ (w : Wire) (n : Nat) : stateL w (n + 1) = stateL w n ++ [((w.bits / 2 ^ n % 2 : Nat) : Int)] := by simp [stateL, List.range_succ]
theorem stateL_len (w : Wire) (n : Nat) : (stateL w n).length = n := by simp [stateL]
theorem state_c (w : Wire) (hw : w.Ok) : FC Try.prog 142 [.agg (wireC w)] [] (enc (stateL w (w.top + 1))) [] := by
  obtain ⟨b, tp, top⟩ := w
  obtain ⟨h1, h2, h3⟩ := hw
  simp only at h1 h2 h3
  have hb : b < 65536 := Nat.lt_of_lt_of_le h2 (Nat.pow_le_pow_right (by decide) (by omega : top + 1 ≤ 16))
  refine fc_intro' is142 (by simp) (fun cx hl => S_run [] 800 ?_)
  delta c142
  simp (maxSteps := 4000000) -implicitDefEqProofs only [rv142, wireC, InR, Ent.of0, Ent.of1, Ent.of2, Ent.of3, V, bS, bA, bB, ca, cL, cP, gt, lk, bR, cq, cg, cb, cF, bZ, bZ.subCs, cQ, a4, bj, b0, aO, bw, a3, aD, bI, a9, az, a8, aW, bX, cT, cZ, an, aH, cD, cc, cn, cV, cU, ay, ak, ce, bt, zC, argS, a7, cI, c6, cR, aj, aC, aI, aV, bP, leC, bT, cm, cp, cM, cG, aX, aP, cK, ap, cd, bm, bm.viewCs, bf, bf.flatCs, ax, ax.LensOks, Value.oneCell', ↓reduceIte, ite_true, ite_false, if_true, if_false, Nat.reduceAdd, Nat.reduceSub, Nat.reduceMul, Nat.reduceEqDiff, Nat.reduceLT, Nat.reduceLeDiff, reduceCtorEq, Int.reduceToNat, forall_const, implies_true, bv, Ent.mk3, bE, bC, be, a6, bL, a5, br, bK, bu, bh, bH, cu, bJ, cS, rn, co, co.renCs, aN, aT, aR, aR.viewOks, aJ, bz, bz.flatBs, aG, aq, aY, au, aA, bo, bo.keysBs, av, ar, bk, bM, bF, bW, af, af.passKs, aM, aU, ae, ae.lendKs, cr, bU, bV, bG, setInn, am, cW, cO, aB, aZ, bY, bN, aK, aw, Glob.gl, aQ, cj, bn, bQ, bD, ah, cC, cN, cz, cY, bO, ai, ai.ptrOnlys, ag, aL, cJ, aF, bp, bg, cH, aE, bq, cB, Nat.reduceBEq, undef]
  refine ⟨by omega, ?_⟩
  refine S_forU (top + 1) (fun i => [(8, .s (.int .i64 (i : Int)))]) (fun i => [(3, .row 1 3 ((stateL ⟨b, tp, top⟩ i).map cells))]) (fun _ => True) trivial ?_ (fun i hi _ => S_run [] 800 ?_)
  · simp (maxSteps := 4000000) -implicitDefEqProofs only [stateL, Ent.of0, Ent.of1, Ent.of2, Ent.of3, V, bS, bA, bB, ca, cL, cP, gt, lk, bR, cq, cg, cb, cF, bZ, bZ.subCs, cQ, a4, bj, b0, aO, bw, a3, aD, bI, a9, az, a8, aW, bX, cT, cZ, an, aH, cD, cc, cn, cV, cU, ay, ak, ce, bt, zC, argS, a7, cI, c6, cR, aj, aC, aI, aV, bP, leC, bT, cm, cp, cM, cG, aX, aP, cK, ap, cd, bm, bm.viewCs, bf, bf.flatCs, ax, ax.LensOks, Value.oneCell', ↓reduceIte, ite_true, ite_false, if_true, if_false, Nat.reduceAdd, Nat.reduceSub, Nat.reduceMul, Nat.reduceEqDiff, Nat.reduceLT, Nat.reduceLeDiff, reduceCtorEq, Int.reduceToNat, forall_const, implies_true, bv, Ent.mk3, bE, bC, be, a6, bL, a5, br, bK, bu, bh, bH, cu, bJ, cS, rn, co, co.renCs, aN, aT, aR, aR.viewOks, aJ, bz, bz.flatBs, aG, aq, aY, au, aA, bo, bo.keysBs, av, ar, bk, bM, bF, bW, af, af.passKs, aM, aU, ae, ae.lendKs, cr, bU, bV, bG, setInn, am, cW, cO, aB, aZ, bY, bN, aK, aw, Glob.gl, aQ, cj, bn, bQ, bD, ah, cC, cN, cz, cY, bO, ai, ai.ptrOnlys, ag, aL, cJ, aF, bp, bg, cH, aE, bq, cB, Nat.reduceBEq, undef]; simp
  · have hll := stateL_len ⟨b, tp, top⟩ i
    by_cases h : i < top + 1
    · have hi2 : (i : Int) < (top : Int) + 1 := by omega
      have hmin : min i IntKind.u16.bits = i := Nat.min_eq_left (by show i ≤ 16; omega)
      have hpc : (2 : Int) ^ i = ((2 ^ i : Nat) : Int) := by push_cast; rfl
      have hdiv : (b : Int).fdiv (2 ^ i) = ((b / 2 ^ i : Nat) : Int) := by
        rw [Int.fdiv_eq_ediv_of_nonneg _ (by rw [hpc]; exact Int.natCast_nonneg _), hpc]; push_cast; rfl
      have hle : b / 2 ^ i < 65536 := Nat.lt_of_le_of_lt (Nat.div_le_self _ _) hb
      have hone : ((1 : Nat) : Int) = 1 := rfl
      have hand := and16 hle (show 1 < 65536 by decide)
      rw [hone, Nat.and_one_is_mod] at hand
      have hsu : (stateL ⟨b, tp, top⟩ i).map cells ++ [[C.s (.int .i64 ((b / 2 ^ i % 2 : Nat) : Int))]] = (stateL ⟨b, tp, top⟩ (i + 1)).map cells := by rw [stateL_succ, List.map_append]; rfl
      delta c142l1
      simp (maxSteps := 4000000) -implicitDefEqProofs only [rv142, hi2, hmin, hdiv, hand, hsu, hll, InR, Ent.of0, Ent.of1, Ent.of2, Ent.of3, V, bS, bA, bB, ca, cL, cP, gt, lk, bR, cq, cg, cb, cF, bZ, bZ.subCs, cQ, a4, bj, b0, aO, bw, a3, aD, bI, a9, az, a8, aW, bX, cT, cZ, an, aH, cD, cc, cn, cV, cU, ay, ak, ce, bt, zC, argS, a7, cI, c6, cR, aj, aC, aI, aV, bP, leC, bT, cm, cp, cM, cG, aX, aP, cK, ap, cd, bm, bm.viewCs, bf, bf.flatCs, ax, ax.LensOks, Value.oneCell', ↓reduceIte, ite_true, ite_false, if_true, if_false, Nat.reduceAdd, Nat.reduceSub, Nat.reduceMul, Nat.reduceEqDiff, Nat.reduceLT, Nat.reduceLeDiff, reduceCtorEq, Int.reduceToNat, forall_const, implies_true, bv, Ent.mk3, bE, bC, be, a6, bL, a5, br, bK, bu, bh, bH, cu, bJ, cS, rn, co, co.renCs, aN, aT, aR, aR.viewOks, aJ, bz, bz.flatBs, aG, aq, aY, au, aA, bo, bo.keysBs, av, ar, bk, bM, bF, bW, af, af.passKs, aM, aU, ae, ae.lendKs, cr, bU, bV, bG, setInn, am, cW, cO, aB, aZ, bY, bN, aK, aw, Glob.gl, aQ, cj, bn, bQ, bD, ah, cC, cN, cz, cY, bO, ai, ai.ptrOnlys, ag, aL, cJ, aF, bp, bg, cH, aE, bq, cB, Nat.reduceBEq, undef]
      omega
    · have hi2 : ¬ (i : Int) < (top : Int) + 1 := by omega
      have hie : i = top + 1 := by omega
      subst hie
      delta c142l1
      simp (maxSteps := 4000000) -implicitDefEqProofs only [rv142, hi2, InR, Ent.of0, Ent.of1, Ent.of2, Ent.of3, V, bS, bA, bB, ca, cL, cP, gt, lk, bR, cq, cg, cb, cF, bZ, bZ.subCs, cQ, a4, bj, b0, aO, bw, a3, aD, bI, a9, az, a8, aW, bX, cT, cZ, an, aH, cD, cc, cn, cV, cU, ay, ak, ce, bt, zC, argS, a7, cI, c6, cR, aj, aC, aI, aV, bP, leC, bT, cm, cp, cM, cG, aX, aP, cK, ap, cd, bm, bm.viewCs, bf, bf.flatCs, ax, ax.LensOks, Value.oneCell', ↓reduceIte, ite_true, ite_false, if_true, if_false, Nat.reduceAdd, Nat.reduceSub, Nat.reduceMul, Nat.reduceEqDiff, Nat.reduceLT, Nat.reduceLeDiff, reduceCtorEq, Int.reduceToNat, forall_const, implies_true, bv, Ent.mk3, bE, bC, be, a6, bL, a5, br, bK, bu, bh, bH, cu, bJ, cS, rn, co, co.renCs, aN, aT, aR, aR.viewOks, aJ, bz, bz.flatBs, aG, aq, aY, au, aA, bo, bo.keysBs, av, ar, bk, bM, bF, bW, af, af.passKs, aM, aU, ae, ae.lendKs, cr, bU, bV, bG, setInn, am, cW, cO, aB, aZ, bY, bN, aK, aw, Glob.gl, aQ, cj, bn, bQ, bD, ah, cC, cN, cz, cY, bO, ai, ai.ptrOnlys, ag, aL, cJ, aF, bp, bg, cH, aE, bq, cB, Nat.reduceBEq, undef]
def e142 : Ent Try.prog := .mk3 142 (fun args chs => match args, chs with
    | [.agg [.s (.int .u16 b), .s (.int .u16 t), .s (.int .i64 p)]], [] => some ((0 ≤ b ∧ 0 ≤ t ∧ 0 ≤ p) ∧ (wireI b t p).Ok, enc (stateL (wireI b t p) ((wireI b t p).top + 1)), [], [])
    | _, _ => none) (by
  intro args chs p r chs' nk hs hp
  split at hs
  · simp only [Option.some.injEq, Prod.mk.injEq] at hs
    obtain ⟨rfl, rfl, rfl, rfl⟩ := hs
    obtain ⟨⟨h1, h2, h3⟩, hw⟩ := hp
    rename_i b t p
    have hc : wireC (wireI b t p) = [.s (.int .u16 b), .s (.int .u16 t), .s (.int .i64 p)] := by
      simp only [wireC, wireI, Int.toNat_of_nonneg h1, Int.toNat_of_nonneg h2, Int.toNat_of_nonneg h3]
    have := state_c (wireI b t p) hw
    rw [hc] at this
    exact ⟨this, .plain trivial⟩
  · cases hs)
theorem behind_c (r : Reg) (w : Wire) (hw : w.Ok) (hr : 0 < r.taps.length ∧ r.taps.length ≤ 1000000) : FC Try.prog 124 [enc r, .agg (wireC w)] [] (enc (⟨r.length, r.taps, stateL w (w.top + 1)⟩ : Reg)) [] := by
  refine fc_intro' is124 (by simp) (fun cx hl => S_run [e107, e142] 800 ?_)
  have hweta : ({ bits := w.bits, taps := w.taps, top := w.top } : Wire) = w := rfl
  delta c124
  simp (maxSteps := 4000000) -implicitDefEqProofs only [rv124, wireC, enc_reg, e107, e142, wireI, Int.toNat_natCast, hweta, hr, hw, Ent.of0, Ent.of1, Ent.of2, Ent.of3, V, bS, bA, bB, ca, cL, cP, gt, lk, bR, cq, cg, cb, cF, bZ, bZ.subCs, cQ, a4, bj, b0, aO, bw, a3, aD, bI, a9, az, a8, aW, bX, cT, cZ, an, aH, cD, cc, cn, cV, cU, ay, ak, ce, bt, zC, argS, a7, cI, c6, cR, aj, aC, aI, aV, bP, leC, bT, cm, cp, cM, cG, aX, aP, cK, ap, cd, bm, bm.viewCs, bf, bf.flatCs, ax, ax.LensOks, Value.oneCell', ↓reduceIte, ite_true, ite_false, if_true, if_false, Nat.reduceAdd, Nat.reduceSub, Nat.reduceMul, Nat.reduceEqDiff, Nat.reduceLT, Nat.reduceLeDiff, reduceCtorEq, Int.reduceToNat, forall_const, implies_true, bv, Ent.mk3, bE, bC, be, a6, bL, a5, br, bK, bu, bh, bH, cu, bJ, cS, rn, co, co.renCs, aN, aT, aR, aR.viewOks, aJ, bz, bz.flatBs, aG, aq, aY, au, aA, bo, bo.keysBs, av, ar, bk, bM, bF, bW, af, af.passKs, aM, aU, ae, ae.lendKs, cr, bU, bV, bG, setInn, am, cW, cO, aB, aZ, bY, bN, aK, aw, Glob.gl, aQ, cj, bn, bQ, bD, ah, cC, cN, cz, cY, bO, ai, ai.ptrOnlys, ag, aL, cJ, aF, bp, bg, cH, aE, bq, cB, Nat.reduceBEq, undef]
  omega
def e124 : Ent Try.prog := .mk3 124 (fun args chs => match args, chs with
    | [.agg [.s (.int .i64 a), .sl 1 t, .sl 1 s], .agg [.s (.int .u16 b), .s (.int .u16 tp), .s (.int .i64 p)]], [] => (decL t : Option (List Int)).bind fun t' => (decL s : Option (List Int)).bind fun s' => some ((0 ≤ b ∧ 0 ≤ tp ∧ 0 ≤ p) ∧ (wireI b tp p).Ok ∧ 0 < t'.length ∧ t'.length ≤ 1000000, enc (⟨a, t', stateL (wireI b tp p) ((wireI b tp p).top + 1)⟩ : Reg), [], [])
    | _, _ => none) (by
  intro args chs q r chs' nk hs hp
  split at hs
  · simp only [Option.bind_eq_some_iff, Option.some.injEq, Prod.mk.injEq] at hs
    obtain ⟨t', ht, s', hs', rfl, rfl, rfl, rfl⟩ := hs
    have := decL_ok ht
    subst this
    have := decL_ok hs'
    subst this
    obtain ⟨⟨h1, h2, h3⟩, hw, h4⟩ := hp
    rename_i a b tp p
    have hc : wireC (wireI b tp p) = [.s (.int .u16 b), .s (.int .u16 tp), .s (.int .i64 p)] := by
      simp only [wireC, wireI, Int.toNat_of_nonneg h1, Int.toNat_of_nonneg h2, Int.toNat_of_nonneg h3]
    have := behind_c ⟨a, t', s'⟩ (wireI b tp p) hw h4
    rw [hc] at this
    exact ⟨this, .plain ⟨trivial, trivial, trivial, trivial⟩⟩
  · cases hs)
theorem state_wire {r : Reg} (hr : RegOk r) : stateL (wireW r) ((wireW r).top + 1) = r.state := by
  have hl := hr.len
  have hs := hr.stl
  have htop : (wireW r).top + 1 = r.state.length := by show (r.length - 1).toNat + 1 = _; omega
  rw [htop]
  apply List.ext_getElem (by rw [stateL_len])
  intro i h1 h2
  have h3 := bitsS_bit hr.bits r.state.length i
  have hb := bits_getD hr.bits i
  have e : r.state[i] = r.state.getD i 0 := by rw [List.getD_eq_getElem?_getD, List.getElem?_eq_getElem h2]; rfl
  rw [e]
  simp only [stateL, List.getElem_map, List.getElem_range]
  rw [Nat.testBit_eq_decide_div_mod_eq] at h3
  show ((bitsS r.state r.state.length / 2 ^ i % 2 : Nat) : Int) = _
  have h4 := Nat.mod_lt (bitsS r.state r.state.length / 2 ^ i) (show 0 < 2 by decide)
  rcases hb with g | g <;> rw [g] at h3 ⊢ <;> simp [h2] at h3 <;> omega
theorem behind_run {r : Reg} (hr : RegOk r) (i : Nat) : (⟨r.length, r.taps, stateL (runW (wireW r) i) ((runW (wireW r) i).top + 1)⟩ : Reg) = runR r i := by
  rw [wire_run hr i, state_wire (runR_ok hr i)]
  exact reg_ext (runR_same r i).2.symm (runR_same r i).1.symm rfl
def zregC : C := .agg [.s (.int .i64 0), .s (.slice none 0 0), .s (.slice none 0 0)]
theorem Next_c (r : Reg) : FC Try.prog 71 [enc r] [] (.tup [enc (if regErr r = 0 then r.state.getD 0 0 else 0), if regErr r = 0 then enc (nextR r) else zregC, enc (regErr r)]) [] := by
  refine fc_introC [] is71 (by simp) trivial trivial trivial trivial (fun cx _ hl _ => S_run [e70, e108, e109, e124] 800 ?_)
  have heta : ({ length := r.length, taps := r.taps, state := r.state } : Reg) = r := rfl
  by_cases he : regErr r = 0
  rotate_left
  · delta c71
    simp (maxSteps := 4000000) -implicitDefEqProofs only [rv71, e70, enc_reg, decV_reg, heta, he, zregC, Ent.of0, Ent.of1, Ent.of2, Ent.of3, V, bS, bA, bB, ca, cL, cP, gt, lk, bR, cq, cg, cb, cF, bZ, bZ.subCs, cQ, a4, bj, b0, aO, bw, a3, aD, bI, a9, az, a8, aW, bX, cT, cZ, an, aH, cD, cc, cn, cV, cU, ay, ak, ce, bt, zC, argS, a7, cI, c6, cR, aj, aC, aI, aV, bP, leC, bT, cm, cp, cM, cG, aX, aP, cK, ap, cd, bm, bm.viewCs, bf, bf.flatCs, ax, ax.LensOks, Value.oneCell', ↓reduceIte, ite_true, ite_false, if_true, if_false, Nat.reduceAdd, Nat.reduceSub, Nat.reduceMul, Nat.reduceEqDiff, Nat.reduceLT, Nat.reduceLeDiff, reduceCtorEq, Int.reduceToNat, forall_const, implies_true, bv, Ent.mk3, bE, bC, be, a6, bL, a5, br, bK, bu, bh, bH, cu, bJ, cS, rn, co, co.renCs, aN, aT, aR, aR.viewOks, aJ, bz, bz.flatBs, aG, aq, aY, au, aA, bo, bo.keysBs, av, ar, bk, bM, bF, bW, af, af.passKs, aM, aU, ae, ae.lendKs, cr, bU, bV, bG, setInn, am, cW, cO, aB, aZ, bY, bN, aK, aw, Glob.gl, aQ, cj, bn, bQ, bD, ah, cC, cN, cz, cY, bO, ai, ai.ptrOnlys, ag, aL, cJ, aF, bp, bg, cH, aE, bq, cB, Nat.reduceBEq, undef]
  have hr := regOk_of he
  have hw := wireW_ok hr
  have hw1 := stepS_ok hw
  have hweta : ({ bits := (wireW r).bits, taps := (wireW r).taps, top := (wireW r).top } : Wire) = wireW r := rfl
  have hweta2 : ({ bits := (stepS (wireW r)).bits, taps := (wireW r).taps, top := (wireW r).top } : Wire) = stepS (wireW r) := rfl
  have hout := wire_out hr
  have hb := behind_run hr 1
  have ht := hr.ne
  have htl := hr.tl
  have htl2 : r.taps.length ≤ 1000000 := by omega
  have e1 : runW (wireW r) 1 = stepS (wireW r) := rfl
  have e2 : runR r 1 = nextR r := rfl
  rw [e1, e2] at hb
  delta c71
  simp (maxSteps := 4000000) -implicitDefEqProofs only [rv71, e70, e108, e109, e124, enc_reg, decV_reg, heta, he, hr, hw, hw1, wireI, hweta, hweta2, Int.toNat_natCast, hout, ht, htl2, zregC, Ent.of0, Ent.of1, Ent.of2, Ent.of3, V, bS, bA, bB, ca, cL, cP, gt, lk, bR, cq, cg, cb, cF, bZ, bZ.subCs, cQ, a4, bj, b0, aO, bw, a3, aD, bI, a9, az, a8, aW, bX, cT, cZ, an, aH, cD, cc, cn, cV, cU, ay, ak, ce, bt, zC, argS, a7, cI, c6, cR, aj, aC, aI, aV, bP, leC, bT, cm, cp, cM, cG, aX, aP, cK, ap, cd, bm, bm.viewCs, bf, bf.flatCs, ax, ax.LensOks, Value.oneCell', ↓reduceIte, ite_true, ite_false, if_true, if_false, Nat.reduceAdd, Nat.reduceSub, Nat.reduceMul, Nat.reduceEqDiff, Nat.reduceLT, Nat.reduceLeDiff, reduceCtorEq, Int.reduceToNat, forall_const, implies_true, bv, Ent.mk3, bE, bC, be, a6, bL, a5, br, bK, bu, bh, bH, cu, bJ, cS, rn, co, co.renCs, aN, aT, aR, aR.viewOks, aJ, bz, bz.flatBs, aG, aq, aY, au, aA, bo, bo.keysBs, av, ar, bk, bM, bF, bW, af, af.passKs, aM, aU, ae, ae.lendKs, cr, bU, bV, bG, setInn, am, cW, cO, aB, aZ, bY, bN, aK, aw, Glob.gl, aQ, cj, bn, bQ, bD, ah, cC, cN, cz, cY, bO, ai, ai.ptrOnlys, ag, aL, cJ, aF, bp, bg, cH, aE, bq, cB, Nat.reduceBEq, undef]
  refine ⟨by omega, by omega, ?_⟩
  rw [← hb]
  rfl
theorem wf_regC {p : Prop} [Decidable p] (r : Reg) : keysIn [] (if p then enc r else zregC) := by
  split
  · exact ⟨trivial, trivial, trivial, trivial⟩
  · exact ⟨trivial, trivial, trivial, trivial⟩
def e71 : Ent Try.prog := .of1 71 (fun _ => True) (fun r : Reg => .tup [enc (if regErr r = 0 then r.state.getD 0 0 else 0), if regErr r = 0 then enc (nextR r) else zregC, enc (regErr r)]) (fun r => ⟨trivial, wf_regC _, trivial, trivial⟩) (fun r _ => Next_c r)
end Go.Proofs.Ytfgpbmjmoobcnaa
end
section
open Go Go.Am
open Go.Am.Dat (cells)
namespace Go.Proofs.Ytfgpbmjmoobcnaa
set_option maxHeartbeats 4000000
set_option maxRecDepth 100000
set_option linter.unusedSimpArgs false
set_option linter.unusedVariables false
def perW (w : Wire) : Nat := ((List.range 1024).find? fun i => decide ((runW w (i + 1)).bits = w.bits)).getD 0 + 1
structure PerOk (w : Wire) : Prop where
  ok : w.Ok
  ex : ∃ i, i < 1024 ∧ (runW w (i + 1)).bits = w.bits
theorem perW_spec {w : Wire} (hw : PerOk w) : (1 ≤ perW w ∧ perW w ≤ 1024) ∧ (runW w (perW w)).bits = w.bits ∧ ∀ m, 0 < m → m < perW w → (runW w m).bits ≠ w.bits := by
  unfold perW
  cases hq : (List.range 1024).find? fun i => decide ((runW w (i + 1)).bits = w.bits) with
  | none =>
    exfalso
    obtain ⟨i, h1, h2⟩ := hw.ex
    rw [List.find?_eq_none] at hq
    exact hq i (List.mem_range.2 h1) (by simpa using h2)
  | some i =>
    rw [List.find?_range_eq_some] at hq
    obtain ⟨h1, h2, h3⟩ := hq
    have h2 := List.mem_range.1 h2
    refine ⟨⟨by omega, by simp; omega⟩, by simpa using h1, fun m hm0 hm => ?_⟩
    have h4 := h3 (m - 1) (by simp at hm; omega)
    rw [show m - 1 + 1 = m by omega] at h4
    simpa using h4
theorem bits_iff {r : Reg} (hr : RegOk r) (n : Nat) : (runW (wireW r) n).bits = (wireW r).bits ↔ (runR r n).state = r.state := by
  rw [wire_run hr]
  have ho := runR_ok hr n
  have h1 := ho.stl
  have h2 := hr.stl
  have h3 := (runR_same r n).2
  constructor
  · intro h
    exact bits_inj ho.bits hr.bits (by omega) h
  · intro h
    show bitsS (runR r n).state (runR r n).state.length = bitsS r.state r.state.length
    rw [h]
theorem perW_wire {r : Reg} (hr : RegOk r) : perW (wireW r) = perR r := by
  unfold perW perR
  have e : (fun i => decide ((runW (wireW r) (i + 1)).bits = (wireW r).bits)) = fun i => decide ((runR r (i + 1)).state = r.state) := by
    funext i
    rw [decide_eq_decide]
    exact bits_iff hr (i + 1)
  rw [e]
theorem perOk_wire {r : Reg} (hr : RegOk r) : PerOk (wireW r) := by
  refine ⟨wireW_ok hr, ?_⟩
  obtain ⟨i, h1, h2⟩ := per_ex hr
  exact ⟨i, h1, (bits_iff hr (i + 1)).2 h2⟩
theorem period_c (w : Wire) (hw : PerOk w) : FC Try.prog 126 [.agg (wireC w)] [] (enc (perW w : Int)) [] := by
  have hsp := perW_spec hw
  have hok := hw.ok
  have hok1 := runW_ok hok
  have hsm := runW_same w
  have hdr : ∀ i, runW w (i + 1) = stepS (runW w i) := fun i => rfl
  obtain ⟨⟨p1, p2⟩, p3, p4⟩ := hsp
  generalize hN : perW w = N at *
  obtain ⟨M, rfl⟩ : ∃ M, N = M + 1 := ⟨N - 1, by omega⟩
  have hweta : ({ bits := w.bits, taps := w.taps, top := w.top } : Wire) = w := rfl
  have hw1 : runW w 1 = stepS w := rfl
  refine fc_introC [] D.is126 (by simp) trivial trivial trivial trivial (fun cx _ hl _ => S_run [e109] 800 ?_)
  delta D.c126
  simp (maxSteps := 4000000) -implicitDefEqProofs only [D.rv126, wireC, Ent.of0, Ent.of1, Ent.of2, Ent.of3, V, bS, bA, bB, ca, cL, cP, gt, lk, bR, cq, cg, cb, cF, bZ, bZ.subCs, cQ, a4, bj, b0, aO, bw, a3, aD, bI, a9, az, a8, aW, bX, cT, cZ, an, aH, cD, cc, cn, cV, cU, ay, ak, ce, bt, zC, argS, a7, cI, c6, cR, aj, aC, aI, aV, bP, leC, bT, cm, cp, cM, cG, aX, aP, cK, ap, cd, bm, bm.viewCs, bf, bf.flatCs, ax, ax.LensOks, Value.oneCell', ↓reduceIte, ite_true, ite_false, if_true, if_false, Nat.reduceAdd, Nat.reduceSub, Nat.reduceMul, Nat.reduceEqDiff, Nat.reduceLT, Nat.reduceLeDiff, reduceCtorEq, Int.reduceToNat, forall_const, implies_true, bv, Ent.mk3, bE, bC, be, a6, bL, a5, br, bK, bu, bh, bH, cu, bJ, cS, rn, co, co.renCs, aN, aT, aR, aR.viewOks, aJ, bz, bz.flatBs, aG, aq, aY, au, aA, bo, bo.keysBs, av, ar, bk, bM, bF, bW, af, af.passKs, aM, aU, ae, ae.lendKs, cr, bU, bV, bG, setInn, am, cW, cO, aB, aZ, bY, bN, aK, aw, Glob.gl, aQ, cj, bn, bQ, bD, ah, cC, cN, cz, cY, bO, ai, ai.ptrOnlys, ag, aL, cJ, aF, bp, bg, cH, aE, bq, cB, Nat.reduceBEq, undef]
  refine S_draw [] 200 ?_
  simp (maxSteps := 4000000) -implicitDefEqProofs only [drS, robL, robC, reC, fixS, opSlots, AOp.reads, true_or, or_true, false_or, Ent.of0, Ent.of1, Ent.of2, Ent.of3, V, bS, bA, bB, ca, cL, cP, gt, lk, bR, cq, cg, cb, cF, bZ, bZ.subCs, cQ, a4, bj, b0, aO, bw, a3, aD, bI, a9, az, a8, aW, bX, cT, cZ, an, aH, cD, cc, cn, cV, cU, ay, ak, ce, bt, zC, argS, a7, cI, c6, cR, aj, aC, aI, aV, bP, leC, bT, cm, cp, cM, cG, aX, aP, cK, ap, cd, bm, bm.viewCs, bf, bf.flatCs, ax, ax.LensOks, Value.oneCell', ↓reduceIte, ite_true, ite_false, if_true, if_false, Nat.reduceAdd, Nat.reduceSub, Nat.reduceMul, Nat.reduceEqDiff, Nat.reduceLT, Nat.reduceLeDiff, reduceCtorEq, Int.reduceToNat, forall_const, implies_true, bv, Ent.mk3, bE, bC, be, a6, bL, a5, br, bK, bu, bh, bH, cu, bJ, cS, rn, co, co.renCs, aN, aT, aR, aR.viewOks, aJ, bz, bz.flatBs, aG, aq, aY, au, aA, bo, bo.keysBs, av, ar, bk, bM, bF, bW, af, af.passKs, aM, aU, ae, ae.lendKs, cr, bU, bV, bG, setInn, am, cW, cO, aB, aZ, bY, bN, aK, aw, Glob.gl, aQ, cj, bn, bQ, bD, ah, cC, cN, cz, cY, bO, ai, ai.ptrOnlys, ag, aL, cJ, aF, bp, bg, cH, aE, bq, cB, Nat.reduceBEq, undef]
  refine S_run [e109] 800 ?_
  simp (maxSteps := 4000000) -implicitDefEqProofs only [e109, wireI, Int.toNat_natCast, hweta, hok, Ent.of0, Ent.of1, Ent.of2, Ent.of3, V, bS, bA, bB, ca, cL, cP, gt, lk, bR, cq, cg, cb, cF, bZ, bZ.subCs, cQ, a4, bj, b0, aO, bw, a3, aD, bI, a9, az, a8, aW, bX, cT, cZ, an, aH, cD, cc, cn, cV, cU, ay, ak, ce, bt, zC, argS, a7, cI, c6, cR, aj, aC, aI, aV, bP, leC, bT, cm, cp, cM, cG, aX, aP, cK, ap, cd, bm, bm.viewCs, bf, bf.flatCs, ax, ax.LensOks, Value.oneCell', ↓reduceIte, ite_true, ite_false, if_true, if_false, Nat.reduceAdd, Nat.reduceSub, Nat.reduceMul, Nat.reduceEqDiff, Nat.reduceLT, Nat.reduceLeDiff, reduceCtorEq, Int.reduceToNat, forall_const, implies_true, bv, Ent.mk3, bE, bC, be, a6, bL, a5, br, bK, bu, bh, bH, cu, bJ, cS, rn, co, co.renCs, aN, aT, aR, aR.viewOks, aJ, bz, bz.flatBs, aG, aq, aY, au, aA, bo, bo.keysBs, av, ar, bk, bM, bF, bW, af, af.passKs, aM, aU, ae, ae.lendKs, cr, bU, bV, bG, setInn, am, cW, cO, aB, aZ, bY, bN, aK, aw, Glob.gl, aQ, cj, bn, bQ, bD, ah, cC, cN, cz, cY, bO, ai, ai.ptrOnlys, ag, aL, cJ, aF, bp, bg, cH, aE, bq, cB, Nat.reduceBEq, undef]
  refine ⟨by omega, ?_⟩
  refine S_forU M (fun i => [(3, .s (.int .i64 ((i : Int) + 1)))]) (fun i => [(4, .box (wireC (runW w (i + 1))))]) (fun _ => True) trivial ?_ (fun i hi _ => S_run [e109] 800 ?_)
  · simp (maxSteps := 4000000) -implicitDefEqProofs only [wireC, hw1, Ent.of0, Ent.of1, Ent.of2, Ent.of3, V, bS, bA, bB, ca, cL, cP, gt, lk, bR, cq, cg, cb, cF, bZ, bZ.subCs, cQ, a4, bj, b0, aO, bw, a3, aD, bI, a9, az, a8, aW, bX, cT, cZ, an, aH, cD, cc, cn, cV, cU, ay, ak, ce, bt, zC, argS, a7, cI, c6, cR, aj, aC, aI, aV, bP, leC, bT, cm, cp, cM, cG, aX, aP, cK, ap, cd, bm, bm.viewCs, bf, bf.flatCs, ax, ax.LensOks, Value.oneCell', ↓reduceIte, ite_true, ite_false, if_true, if_false, Nat.reduceAdd, Nat.reduceSub, Nat.reduceMul, Nat.reduceEqDiff, Nat.reduceLT, Nat.reduceLeDiff, reduceCtorEq, Int.reduceToNat, forall_const, implies_true, bv, Ent.mk3, bE, bC, be, a6, bL, a5, br, bK, bu, bh, bH, cu, bJ, cS, rn, co, co.renCs, aN, aT, aR, aR.viewOks, aJ, bz, bz.flatBs, aG, aq, aY, au, aA, bo, bo.keysBs, av, ar, bk, bM, bF, bW, af, af.passKs, aM, aU, ae, ae.lendKs, cr, bU, bV, bG, setInn, am, cW, cO, aB, aZ, bY, bN, aK, aw, Glob.gl, aQ, cj, bn, bQ, bD, ah, cC, cN, cz, cY, bO, ai, ai.ptrOnlys, ag, aL, cJ, aF, bp, bg, cH, aE, bq, cB, Nat.reduceBEq, undef]
    exact ⟨rfl, rfl⟩
  · have hok2 := hok1 (i + 1)
    have hsm2 := hsm (i + 1)
    have hne : (runW w (i + 1)).bits ≠ w.bits ∨ i = M := by
      by_cases h : i = M
      · exact .inr h
      · exact .inl (p4 (i + 1) (by omega) (by omega))
    by_cases h : i = M
    · subst h
      delta D.c126l1
      simp (maxSteps := 4000000) -implicitDefEqProofs only [D.rv126, wireC, p3, Ent.of0, Ent.of1, Ent.of2, Ent.of3, V, bS, bA, bB, ca, cL, cP, gt, lk, bR, cq, cg, cb, cF, bZ, bZ.subCs, cQ, a4, bj, b0, aO, bw, a3, aD, bI, a9, az, a8, aW, bX, cT, cZ, an, aH, cD, cc, cn, cV, cU, ay, ak, ce, bt, zC, argS, a7, cI, c6, cR, aj, aC, aI, aV, bP, leC, bT, cm, cp, cM, cG, aX, aP, cK, ap, cd, bm, bm.viewCs, bf, bf.flatCs, ax, ax.LensOks, Value.oneCell', ↓reduceIte, ite_true, ite_false, if_true, if_false, Nat.reduceAdd, Nat.reduceSub, Nat.reduceMul, Nat.reduceEqDiff, Nat.reduceLT, Nat.reduceLeDiff, reduceCtorEq, Int.reduceToNat, forall_const, implies_true, bv, Ent.mk3, bE, bC, be, a6, bL, a5, br, bK, bu, bh, bH, cu, bJ, cS, rn, co, co.renCs, aN, aT, aR, aR.viewOks, aJ, bz, bz.flatBs, aG, aq, aY, au, aA, bo, bo.keysBs, av, ar, bk, bM, bF, bW, af, af.passKs, aM, aU, ae, ae.lendKs, cr, bU, bV, bG, setInn, am, cW, cO, aB, aZ, bY, bN, aK, aw, Glob.gl, aQ, cj, bn, bQ, bD, ah, cC, cN, cz, cY, bO, ai, ai.ptrOnlys, ag, aL, cJ, aF, bp, bg, cH, aE, bq, cB, Nat.reduceBEq, undef]
      omega
    · have h2 : ¬ ((runW w (i + 1)).bits : Int) = (w.bits : Int) := by
        rcases hne with h3 | h3
        · omega
        · exact absurd h3 h
      have hweta2 : ({ bits := (runW w (i + 1)).bits, taps := (runW w (i + 1)).taps, top := (runW w (i + 1)).top } : Wire) = runW w (i + 1) := rfl
      delta D.c126l1
      simp (maxSteps := 4000000) -implicitDefEqProofs only [D.rv126, wireC, h2, e109, wireI, Int.toNat_natCast, hweta2, hok2, InR, Ent.of0, Ent.of1, Ent.of2, Ent.of3, V, bS, bA, bB, ca, cL, cP, gt, lk, bR, cq, cg, cb, cF, bZ, bZ.subCs, cQ, a4, bj, b0, aO, bw, a3, aD, bI, a9, az, a8, aW, bX, cT, cZ, an, aH, cD, cc, cn, cV, cU, ay, ak, ce, bt, zC, argS, a7, cI, c6, cR, aj, aC, aI, aV, bP, leC, bT, cm, cp, cM, cG, aX, aP, cK, ap, cd, bm, bm.viewCs, bf, bf.flatCs, ax, ax.LensOks, Value.oneCell', ↓reduceIte, ite_true, ite_false, if_true, if_false, Nat.reduceAdd, Nat.reduceSub, Nat.reduceMul, Nat.reduceEqDiff, Nat.reduceLT, Nat.reduceLeDiff, reduceCtorEq, Int.reduceToNat, forall_const, implies_true, bv, Ent.mk3, bE, bC, be, a6, bL, a5, br, bK, bu, bh, bH, cu, bJ, cS, rn, co, co.renCs, aN, aT, aR, aR.viewOks, aJ, bz, bz.flatBs, aG, aq, aY, au, aA, bo, bo.keysBs, av, ar, bk, bM, bF, bW, af, af.passKs, aM, aU, ae, ae.lendKs, cr, bU, bV, bG, setInn, am, cW, cO, aB, aZ, bY, bN, aK, aw, Glob.gl, aQ, cj, bn, bQ, bD, ah, cC, cN, cz, cY, bO, ai, ai.ptrOnlys, ag, aL, cJ, aF, bp, bg, cH, aE, bq, cB, Nat.reduceBEq, undef]
      exact ⟨by omega, by omega, by omega, by omega, rfl⟩
def e126 : Ent Try.prog := .mk3 126 (fun args chs => match args, chs with
    | [.agg [.s (.int .u16 b), .s (.int .u16 t), .s (.int .i64 p)]], [] => some ((0 ≤ b ∧ 0 ≤ t ∧ 0 ≤ p) ∧ PerOk (wireI b t p), enc (perW (wireI b t p) : Int), [], [])
    | _, _ => none) (by
  intro args chs p r chs' nk hs hp
  split at hs
  · simp only [Option.some.injEq, Prod.mk.injEq] at hs
    obtain ⟨rfl, rfl, rfl, rfl⟩ := hs
    obtain ⟨⟨h1, h2, h3⟩, hw⟩ := hp
    rename_i b t p
    have hc : wireC (wireI b t p) = [.s (.int .u16 b), .s (.int .u16 t), .s (.int .i64 p)] := by
      simp only [wireC, wireI, Int.toNat_of_nonneg h1, Int.toNat_of_nonneg h2, Int.toNat_of_nonneg h3]
    have := period_c (wireI b t p) hw
    rw [hc] at this
    exact ⟨this, .plain trivial⟩
  · cases hs)
def jumpErr (r : Reg) (n : Int) : Int := if regErr r ≠ 0 then regErr r else if 0 ≤ n ∧ n ≤ 1000000000 then 0 else 2
theorem Jumped_c (r : Reg) (n : Int) : FC Try.prog 73 [enc r, enc n] [] (.tup [if jumpErr r n = 0 then enc (runR r (n.toNat % perR r)) else zregC, enc (jumpErr r n)]) [] := by
  refine fc_introC [] is73 (by simp) trivial trivial trivial trivial (fun cx _ hl _ => S_run [e70, e103, e82, e80, e108, e126] 800 ?_)
  have hfs : firstS [regErr r, if 0 ≤ n ∧ n ≤ 1000000000 then 0 else 2] = jumpErr r n := by
    unfold jumpErr
    simp only [firstS]
    grind
  have heta : ({ length := r.length, taps := r.taps, state := r.state } : Reg) = r := rfl
  by_cases he : jumpErr r n = 0
  rotate_left
  · delta c73
    simp (maxSteps := 4000000) -implicitDefEqProofs only [rv73, e70, e103, e82, e80, enc_reg, decV_reg, heta, hfs, he, zregC, InR, Ent.of0, Ent.of1, Ent.of2, Ent.of3, V, bS, bA, bB, ca, cL, cP, gt, lk, bR, cq, cg, cb, cF, bZ, bZ.subCs, cQ, a4, bj, b0, aO, bw, a3, aD, bI, a9, az, a8, aW, bX, cT, cZ, an, aH, cD, cc, cn, cV, cU, ay, ak, ce, bt, zC, argS, a7, cI, c6, cR, aj, aC, aI, aV, bP, leC, bT, cm, cp, cM, cG, aX, aP, cK, ap, cd, bm, bm.viewCs, bf, bf.flatCs, ax, ax.LensOks, Value.oneCell', ↓reduceIte, ite_true, ite_false, if_true, if_false, Nat.reduceAdd, Nat.reduceSub, Nat.reduceMul, Nat.reduceEqDiff, Nat.reduceLT, Nat.reduceLeDiff, reduceCtorEq, Int.reduceToNat, forall_const, implies_true, bv, Ent.mk3, bE, bC, be, a6, bL, a5, br, bK, bu, bh, bH, cu, bJ, cS, rn, co, co.renCs, aN, aT, aR, aR.viewOks, aJ, bz, bz.flatBs, aG, aq, aY, au, aA, bo, bo.keysBs, av, ar, bk, bM, bF, bW, af, af.passKs, aM, aU, ae, ae.lendKs, cr, bU, bV, bG, setInn, am, cW, cO, aB, aZ, bY, bN, aK, aw, Glob.gl, aQ, cj, bn, bQ, bD, ah, cC, cN, cz, cY, bO, ai, ai.ptrOnlys, ag, aL, cJ, aF, bp, bg, cH, aE, bq, cB, Nat.reduceBEq, undef]
  have hre : regErr r = 0 := by
    unfold jumpErr at he
    split at he
    · contradiction
    · rename_i h; simpa using h
  have hn : 0 ≤ n ∧ n ≤ 1000000000 := by
    unfold jumpErr at he
    rw [if_neg (by simpa using hre)] at he
    split at he
    · assumption
    · cases he
  have hr := regOk_of hre
  obtain ⟨N, rfl⟩ : ∃ N : Nat, n = (N : Int) := ⟨n.toNat, by omega⟩
  have hp := perOk_wire hr
  have hpw := perW_wire hr
  have hsp := perR_spec hr
  have hok := runW_ok (wireW_ok hr)
  have hmod : (N : Int).tmod (perR r : Int) = ((N % perR r : Nat) : Int) := by
    rw [Int.tmod_eq_emod_of_nonneg (by omega)]; push_cast; rfl
  have hweta : ({ bits := (wireW r).bits, taps := (wireW r).taps, top := (wireW r).top } : Wire) = wireW r := rfl
  have hml : N % perR r < perR r := Nat.mod_lt _ (by omega)
  have htl := hr.tl
  have htl2 : r.taps.length ≤ 1000000 := by omega
  have ht := hr.ne
  delta c73
  simp (maxSteps := 4000000) -implicitDefEqProofs only [rv73, e70, e103, e82, e80, e108, e126, enc_reg, decV_reg, heta, hfs, he, hr, hp, hpw, hmod, wireI, hweta, Int.toNat_natCast, InR, Ent.of0, Ent.of1, Ent.of2, Ent.of3, V, bS, bA, bB, ca, cL, cP, gt, lk, bR, cq, cg, cb, cF, bZ, bZ.subCs, cQ, a4, bj, b0, aO, bw, a3, aD, bI, a9, az, a8, aW, bX, cT, cZ, an, aH, cD, cc, cn, cV, cU, ay, ak, ce, bt, zC, argS, a7, cI, c6, cR, aj, aC, aI, aV, bP, leC, bT, cm, cp, cM, cG, aX, aP, cK, ap, cd, bm, bm.viewCs, bf, bf.flatCs, ax, ax.LensOks, Value.oneCell', ↓reduceIte, ite_true, ite_false, if_true, if_false, Nat.reduceAdd, Nat.reduceSub, Nat.reduceMul, Nat.reduceEqDiff, Nat.reduceLT, Nat.reduceLeDiff, reduceCtorEq, Int.reduceToNat, forall_const, implies_true, bv, Ent.mk3, bE, bC, be, a6, bL, a5, br, bK, bu, bh, bH, cu, bJ, cS, rn, co, co.renCs, aN, aT, aR, aR.viewOks, aJ, bz, bz.flatBs, aG, aq, aY, au, aA, bo, bo.keysBs, av, ar, bk, bM, bF, bW, af, af.passKs, aM, aU, ae, ae.lendKs, cr, bU, bV, bG, setInn, am, cW, cO, aB, aZ, bY, bN, aK, aw, Glob.gl, aQ, cj, bn, bQ, bD, ah, cC, cN, cz, cY, bO, ai, ai.ptrOnlys, ag, aL, cJ, aF, bp, bg, cH, aE, bq, cB, Nat.reduceBEq, undef]
  generalize N % perR r = k at *
  refine ⟨by omega, by omega, ?_⟩
  refine S_forU k (fun i => [(25, .s (.int .i64 (i : Int)))]) (fun i => [(7, .box (wireC (runW (wireW r) i)))]) (fun _ => True) trivial ?_ (fun i hi _ => S_run [e109, e124] 800 ?_)
  · simp (maxSteps := 4000000) -implicitDefEqProofs only [wireC, runW, Ent.of0, Ent.of1, Ent.of2, Ent.of3, V, bS, bA, bB, ca, cL, cP, gt, lk, bR, cq, cg, cb, cF, bZ, bZ.subCs, cQ, a4, bj, b0, aO, bw, a3, aD, bI, a9, az, a8, aW, bX, cT, cZ, an, aH, cD, cc, cn, cV, cU, ay, ak, ce, bt, zC, argS, a7, cI, c6, cR, aj, aC, aI, aV, bP, leC, bT, cm, cp, cM, cG, aX, aP, cK, ap, cd, bm, bm.viewCs, bf, bf.flatCs, ax, ax.LensOks, Value.oneCell', ↓reduceIte, ite_true, ite_false, if_true, if_false, Nat.reduceAdd, Nat.reduceSub, Nat.reduceMul, Nat.reduceEqDiff, Nat.reduceLT, Nat.reduceLeDiff, reduceCtorEq, Int.reduceToNat, forall_const, implies_true, bv, Ent.mk3, bE, bC, be, a6, bL, a5, br, bK, bu, bh, bH, cu, bJ, cS, rn, co, co.renCs, aN, aT, aR, aR.viewOks, aJ, bz, bz.flatBs, aG, aq, aY, au, aA, bo, bo.keysBs, av, ar, bk, bM, bF, bW, af, af.passKs, aM, aU, ae, ae.lendKs, cr, bU, bV, bG, setInn, am, cW, cO, aB, aZ, bY, bN, aK, aw, Glob.gl, aQ, cj, bn, bQ, bD, ah, cC, cN, cz, cY, bO, ai, ai.ptrOnlys, ag, aL, cJ, aF, bp, bg, cH, aE, bq, cB, Nat.reduceBEq, undef]; simp
  · have hok2 := hok i
    have hweta2 : ({ bits := (runW (wireW r) i).bits, taps := (runW (wireW r) i).taps, top := (runW (wireW r) i).top } : Wire) = runW (wireW r) i := rfl
    by_cases h : i < k
    · have hi2 : (i : Int) < (k : Int) := by omega
      delta c73l1
      simp (maxSteps := 4000000) -implicitDefEqProofs only [rv73, wireC, hi2, e109, wireI, Int.toNat_natCast, hweta2, hok2, InR, Ent.of0, Ent.of1, Ent.of2, Ent.of3, V, bS, bA, bB, ca, cL, cP, gt, lk, bR, cq, cg, cb, cF, bZ, bZ.subCs, cQ, a4, bj, b0, aO, bw, a3, aD, bI, a9, az, a8, aW, bX, cT, cZ, an, aH, cD, cc, cn, cV, cU, ay, ak, ce, bt, zC, argS, a7, cI, c6, cR, aj, aC, aI, aV, bP, leC, bT, cm, cp, cM, cG, aX, aP, cK, ap, cd, bm, bm.viewCs, bf, bf.flatCs, ax, ax.LensOks, Value.oneCell', ↓reduceIte, ite_true, ite_false, if_true, if_false, Nat.reduceAdd, Nat.reduceSub, Nat.reduceMul, Nat.reduceEqDiff, Nat.reduceLT, Nat.reduceLeDiff, reduceCtorEq, Int.reduceToNat, forall_const, implies_true, bv, Ent.mk3, bE, bC, be, a6, bL, a5, br, bK, bu, bh, bH, cu, bJ, cS, rn, co, co.renCs, aN, aT, aR, aR.viewOks, aJ, bz, bz.flatBs, aG, aq, aY, au, aA, bo, bo.keysBs, av, ar, bk, bM, bF, bW, af, af.passKs, aM, aU, ae, ae.lendKs, cr, bU, bV, bG, setInn, am, cW, cO, aB, aZ, bY, bN, aK, aw, Glob.gl, aQ, cj, bn, bQ, bD, ah, cC, cN, cz, cY, bO, ai, ai.ptrOnlys, ag, aL, cJ, aF, bp, bg, cH, aE, bq, cB, Nat.reduceBEq, undef]
      exact ⟨by omega, by omega, h, by omega, rfl⟩
    · have hi2 : ¬ (i : Int) < (k : Int) := by omega
      have hie : i = k := by omega
      subst hie
      have hb := behind_run hr i
      delta c73l1
      simp (maxSteps := 4000000) -implicitDefEqProofs only [rv73, wireC, hi2, e109, e124, decV_reg, wireI, Int.toNat_natCast, hweta2, hok2, ht, htl2, hb, enc_reg, he, InR, Ent.of0, Ent.of1, Ent.of2, Ent.of3, V, bS, bA, bB, ca, cL, cP, gt, lk, bR, cq, cg, cb, cF, bZ, bZ.subCs, cQ, a4, bj, b0, aO, bw, a3, aD, bI, a9, az, a8, aW, bX, cT, cZ, an, aH, cD, cc, cn, cV, cU, ay, ak, ce, bt, zC, argS, a7, cI, c6, cR, aj, aC, aI, aV, bP, leC, bT, cm, cp, cM, cG, aX, aP, cK, ap, cd, bm, bm.viewCs, bf, bf.flatCs, ax, ax.LensOks, Value.oneCell', ↓reduceIte, ite_true, ite_false, if_true, if_false, Nat.reduceAdd, Nat.reduceSub, Nat.reduceMul, Nat.reduceEqDiff, Nat.reduceLT, Nat.reduceLeDiff, reduceCtorEq, Int.reduceToNat, forall_const, implies_true, bv, Ent.mk3, bE, bC, be, a6, bL, a5, br, bK, bu, bh, bH, cu, bJ, cS, rn, co, co.renCs, aN, aT, aR, aR.viewOks, aJ, bz, bz.flatBs, aG, aq, aY, au, aA, bo, bo.keysBs, av, ar, bk, bM, bF, bW, af, af.passKs, aM, aU, ae, ae.lendKs, cr, bU, bV, bG, setInn, am, cW, cO, aB, aZ, bY, bN, aK, aw, Glob.gl, aQ, cj, bn, bQ, bD, ah, cC, cN, cz, cY, bO, ai, ai.ptrOnlys, ag, aL, cJ, aF, bp, bg, cH, aE, bq, cB, Nat.reduceBEq, undef]
      refine ⟨by omega, ?_⟩
      rw [← hb]
def e73 : Ent Try.prog := .of2 73 (fun _ _ => True) (fun (r : Reg) (n : Int) => .tup [if jumpErr r n = 0 then enc (runR r (n.toNat % perR r)) else zregC, enc (jumpErr r n)]) (fun r n => ⟨wf_regC _, trivial, trivial⟩) (fun r n _ => Jumped_c r n)
theorem RPeriod_c (r : Reg) (hr : RegOk r) : FC Try.prog 127 [enc r] [] (enc (perR r : Int)) [] := by
  obtain ⟨⟨p1, p2⟩, p3, p4⟩ := perR_spec hr
  have hok := runR_ok hr
  generalize hN : perR r = N at *
  obtain ⟨M, rfl⟩ : ∃ M, N = M + 1 := ⟨N - 1, by omega⟩
  have heta : ({ length := r.length, taps := r.taps, state := r.state } : Reg) = r := rfl
  have hr1 : runR r 1 = nextR r := rfl
  refine fc_intro' is127 (by simp) (fun cx hl => S_run [e75] 800 ?_)
  delta c127
  simp (maxSteps := 4000000) -implicitDefEqProofs only [rv127, e75, enc_reg, decV_reg, heta, hr, Ent.of0, Ent.of1, Ent.of2, Ent.of3, V, bS, bA, bB, ca, cL, cP, gt, lk, bR, cq, cg, cb, cF, bZ, bZ.subCs, cQ, a4, bj, b0, aO, bw, a3, aD, bI, a9, az, a8, aW, bX, cT, cZ, an, aH, cD, cc, cn, cV, cU, ay, ak, ce, bt, zC, argS, a7, cI, c6, cR, aj, aC, aI, aV, bP, leC, bT, cm, cp, cM, cG, aX, aP, cK, ap, cd, bm, bm.viewCs, bf, bf.flatCs, ax, ax.LensOks, Value.oneCell', ↓reduceIte, ite_true, ite_false, if_true, if_false, Nat.reduceAdd, Nat.reduceSub, Nat.reduceMul, Nat.reduceEqDiff, Nat.reduceLT, Nat.reduceLeDiff, reduceCtorEq, Int.reduceToNat, forall_const, implies_true, bv, Ent.mk3, bE, bC, be, a6, bL, a5, br, bK, bu, bh, bH, cu, bJ, cS, rn, co, co.renCs, aN, aT, aR, aR.viewOks, aJ, bz, bz.flatBs, aG, aq, aY, au, aA, bo, bo.keysBs, av, ar, bk, bM, bF, bW, af, af.passKs, aM, aU, ae, ae.lendKs, cr, bU, bV, bG, setInn, am, cW, cO, aB, aZ, bY, bN, aK, aw, Glob.gl, aQ, cj, bn, bQ, bD, ah, cC, cN, cz, cY, bO, ai, ai.ptrOnlys, ag, aL, cJ, aF, bp, bg, cH, aE, bq, cB, Nat.reduceBEq, undef]
  refine S_forU M (fun i => [(5, .s (.int .i64 ((i : Int) + 1)))]) (fun i => [(4, .box [.s (.int .i64 (runR r (i + 1)).length), .sl 1 ((runR r (i + 1)).taps.map cells), .sl 1 ((runR r (i + 1)).state.map cells)])]) (fun _ => True) trivial ?_ (fun i hi _ => S_run [e75, e37] 800 ?_)
  · simp (maxSteps := 4000000) -implicitDefEqProofs only [hr1, Ent.of0, Ent.of1, Ent.of2, Ent.of3, V, bS, bA, bB, ca, cL, cP, gt, lk, bR, cq, cg, cb, cF, bZ, bZ.subCs, cQ, a4, bj, b0, aO, bw, a3, aD, bI, a9, az, a8, aW, bX, cT, cZ, an, aH, cD, cc, cn, cV, cU, ay, ak, ce, bt, zC, argS, a7, cI, c6, cR, aj, aC, aI, aV, bP, leC, bT, cm, cp, cM, cG, aX, aP, cK, ap, cd, bm, bm.viewCs, bf, bf.flatCs, ax, ax.LensOks, Value.oneCell', ↓reduceIte, ite_true, ite_false, if_true, if_false, Nat.reduceAdd, Nat.reduceSub, Nat.reduceMul, Nat.reduceEqDiff, Nat.reduceLT, Nat.reduceLeDiff, reduceCtorEq, Int.reduceToNat, forall_const, implies_true, bv, Ent.mk3, bE, bC, be, a6, bL, a5, br, bK, bu, bh, bH, cu, bJ, cS, rn, co, co.renCs, aN, aT, aR, aR.viewOks, aJ, bz, bz.flatBs, aG, aq, aY, au, aA, bo, bo.keysBs, av, ar, bk, bM, bF, bW, af, af.passKs, aM, aU, ae, ae.lendKs, cr, bU, bV, bG, setInn, am, cW, cO, aB, aZ, bY, bN, aK, aw, Glob.gl, aQ, cj, bn, bQ, bD, ah, cC, cN, cz, cY, bO, ai, ai.ptrOnlys, ag, aL, cJ, aF, bp, bg, cH, aE, bq, cB, Nat.reduceBEq, undef]
    rfl
  · have hok2 := hok (i + 1)
    by_cases h : i = M
    · subst h
      delta c127l1
      simp (maxSteps := 4000000) -implicitDefEqProofs only [rv127, p3, e37, e75, Ent.of0, Ent.of1, Ent.of2, Ent.of3, V, bS, bA, bB, ca, cL, cP, gt, lk, bR, cq, cg, cb, cF, bZ, bZ.subCs, cQ, a4, bj, b0, aO, bw, a3, aD, bI, a9, az, a8, aW, bX, cT, cZ, an, aH, cD, cc, cn, cV, cU, ay, ak, ce, bt, zC, argS, a7, cI, c6, cR, aj, aC, aI, aV, bP, leC, bT, cm, cp, cM, cG, aX, aP, cK, ap, cd, bm, bm.viewCs, bf, bf.flatCs, ax, ax.LensOks, Value.oneCell', ↓reduceIte, ite_true, ite_false, if_true, if_false, Nat.reduceAdd, Nat.reduceSub, Nat.reduceMul, Nat.reduceEqDiff, Nat.reduceLT, Nat.reduceLeDiff, reduceCtorEq, Int.reduceToNat, forall_const, implies_true, bv, Ent.mk3, bE, bC, be, a6, bL, a5, br, bK, bu, bh, bH, cu, bJ, cS, rn, co, co.renCs, aN, aT, aR, aR.viewOks, aJ, bz, bz.flatBs, aG, aq, aY, au, aA, bo, bo.keysBs, av, ar, bk, bM, bF, bW, af, af.passKs, aM, aU, ae, ae.lendKs, cr, bU, bV, bG, setInn, am, cW, cO, aB, aZ, bY, bN, aK, aw, Glob.gl, aQ, cj, bn, bQ, bD, ah, cC, cN, cz, cY, bO, ai, ai.ptrOnlys, ag, aL, cJ, aF, bp, bg, cH, aE, bq, cB, Nat.reduceBEq, undef]
      omega
    · have h2 := p4 (i + 1) (by omega) (by omega)
      cases hG : runR r (i + 1) with
      | mk qa qb qc =>
      rw [hG] at hok2 h2
      simp only at h2
      have hnx : runR r (i + 1 + 1) = nextR ⟨qa, qb, qc⟩ := by rw [← hG]; rfl
      delta c127l1
      simp (maxSteps := 4000000) -implicitDefEqProofs only [rv127, hG, hnx, h2, e75, e37, enc_reg, decV_reg, hok2, InR, Ent.of0, Ent.of1, Ent.of2, Ent.of3, V, bS, bA, bB, ca, cL, cP, gt, lk, bR, cq, cg, cb, cF, bZ, bZ.subCs, cQ, a4, bj, b0, aO, bw, a3, aD, bI, a9, az, a8, aW, bX, cT, cZ, an, aH, cD, cc, cn, cV, cU, ay, ak, ce, bt, zC, argS, a7, cI, c6, cR, aj, aC, aI, aV, bP, leC, bT, cm, cp, cM, cG, aX, aP, cK, ap, cd, bm, bm.viewCs, bf, bf.flatCs, ax, ax.LensOks, Value.oneCell', ↓reduceIte, ite_true, ite_false, if_true, if_false, Nat.reduceAdd, Nat.reduceSub, Nat.reduceMul, Nat.reduceEqDiff, Nat.reduceLT, Nat.reduceLeDiff, reduceCtorEq, Int.reduceToNat, forall_const, implies_true, bv, Ent.mk3, bE, bC, be, a6, bL, a5, br, bK, bu, bh, bH, cu, bJ, cS, rn, co, co.renCs, aN, aT, aR, aR.viewOks, aJ, bz, bz.flatBs, aG, aq, aY, au, aA, bo, bo.keysBs, av, ar, bk, bM, bF, bW, af, af.passKs, aM, aU, ae, ae.lendKs, cr, bU, bV, bG, setInn, am, cW, cO, aB, aZ, bY, bN, aK, aw, Glob.gl, aQ, cj, bn, bQ, bD, ah, cC, cN, cz, cY, bO, ai, ai.ptrOnlys, ag, aL, cJ, aF, bp, bg, cH, aE, bq, cB, Nat.reduceBEq, undef]
      omega
def e127 : Ent Try.prog := .of1 127 RegOk (fun r : Reg => enc (perR r : Int)) (fun _ => trivial) (fun r h => RPeriod_c r h)
theorem RJumped_c (r : Reg) (hr : RegOk r) (n : Nat) (hn : n ≤ 1000000000) : FC Try.prog 77 [enc r, enc (n : Int)] [] (enc (runR r (n % perR r))) [] := by
  have hsp := perR_spec hr
  have hok := runR_ok hr
  have heta : ({ length := r.length, taps := r.taps, state := r.state } : Reg) = r := rfl
  have hmod : (n : Int).tmod (perR r : Int) = ((n % perR r : Nat) : Int) := by
    rw [Int.tmod_eq_emod_of_nonneg (by omega)]; push_cast; rfl
  have hml : n % perR r < perR r := Nat.mod_lt _ (by omega)
  have htl := hr.tl
  have hst := hr.stl
  have hlen := hr.len
  have htl2 : r.taps.length ≤ 1000000 := by omega
  have hsl2 : r.state.length ≤ 1000000 := by omega
  refine fc_intro' is77 (by simp) (fun cx hl => S_run [e75, e43, e127] 800 ?_)
  delta c77
  simp (maxSteps := 4000000) -implicitDefEqProofs only [rv77, e75, e43, e127, enc_reg, decV_reg, heta, hr, hmod, htl2, hsl2, Ent.of0, Ent.of1, Ent.of2, Ent.of3, V, bS, bA, bB, ca, cL, cP, gt, lk, bR, cq, cg, cb, cF, bZ, bZ.subCs, cQ, a4, bj, b0, aO, bw, a3, aD, bI, a9, az, a8, aW, bX, cT, cZ, an, aH, cD, cc, cn, cV, cU, ay, ak, ce, bt, zC, argS, a7, cI, c6, cR, aj, aC, aI, aV, bP, leC, bT, cm, cp, cM, cG, aX, aP, cK, ap, cd, bm, bm.viewCs, bf, bf.flatCs, ax, ax.LensOks, Value.oneCell', ↓reduceIte, ite_true, ite_false, if_true, if_false, Nat.reduceAdd, Nat.reduceSub, Nat.reduceMul, Nat.reduceEqDiff, Nat.reduceLT, Nat.reduceLeDiff, reduceCtorEq, Int.reduceToNat, forall_const, implies_true, bv, Ent.mk3, bE, bC, be, a6, bL, a5, br, bK, bu, bh, bH, cu, bJ, cS, rn, co, co.renCs, aN, aT, aR, aR.viewOks, aJ, bz, bz.flatBs, aG, aq, aY, au, aA, bo, bo.keysBs, av, ar, bk, bM, bF, bW, af, af.passKs, aM, aU, ae, ae.lendKs, cr, bU, bV, bG, setInn, am, cW, cO, aB, aZ, bY, bN, aK, aw, Glob.gl, aQ, cj, bn, bQ, bD, ah, cC, cN, cz, cY, bO, ai, ai.ptrOnlys, ag, aL, cJ, aF, bp, bg, cH, aE, bq, cB, Nat.reduceBEq, undef]
  generalize n % perR r = k at *
  refine ⟨by show (perR r : Int) ≠ 0; omega, ?_⟩
  refine S_forU k (fun i => [(6, .s (.int .i64 ((k : Int) - (i : Int))))]) (fun i => [(5, .box [.s (.int .i64 (runR r i).length), .sl 1 ((runR r i).taps.map cells), .sl 1 ((runR r i).state.map cells)])]) (fun _ => True) trivial ?_ (fun i hi _ => S_run [e75] 800 ?_)
  · simp (maxSteps := 4000000) -implicitDefEqProofs only [runR, Ent.of0, Ent.of1, Ent.of2, Ent.of3, V, bS, bA, bB, ca, cL, cP, gt, lk, bR, cq, cg, cb, cF, bZ, bZ.subCs, cQ, a4, bj, b0, aO, bw, a3, aD, bI, a9, az, a8, aW, bX, cT, cZ, an, aH, cD, cc, cn, cV, cU, ay, ak, ce, bt, zC, argS, a7, cI, c6, cR, aj, aC, aI, aV, bP, leC, bT, cm, cp, cM, cG, aX, aP, cK, ap, cd, bm, bm.viewCs, bf, bf.flatCs, ax, ax.LensOks, Value.oneCell', ↓reduceIte, ite_true, ite_false, if_true, if_false, Nat.reduceAdd, Nat.reduceSub, Nat.reduceMul, Nat.reduceEqDiff, Nat.reduceLT, Nat.reduceLeDiff, reduceCtorEq, Int.reduceToNat, forall_const, implies_true, bv, Ent.mk3, bE, bC, be, a6, bL, a5, br, bK, bu, bh, bH, cu, bJ, cS, rn, co, co.renCs, aN, aT, aR, aR.viewOks, aJ, bz, bz.flatBs, aG, aq, aY, au, aA, bo, bo.keysBs, av, ar, bk, bM, bF, bW, af, af.passKs, aM, aU, ae, ae.lendKs, cr, bU, bV, bG, setInn, am, cW, cO, aB, aZ, bY, bN, aK, aw, Glob.gl, aQ, cj, bn, bQ, bD, ah, cC, cN, cz, cY, bO, ai, ai.ptrOnlys, ag, aL, cJ, aF, bp, bg, cH, aE, bq, cB, Nat.reduceBEq, undef]; simp
  · have hok2 := hok i
    by_cases h : i < k
    · have hi2 : (k : Int) - (i : Int) > 0 := by omega
      have hi3 : (0 : Int) < (k : Int) - (i : Int) := by omega
      cases hG : runR r i with
      | mk qa qb qc =>
      rw [hG] at hok2
      have hnx : runR r (i + 1) = nextR ⟨qa, qb, qc⟩ := by rw [← hG]; rfl
      delta c77l1
      simp (maxSteps := 4000000) -implicitDefEqProofs only [rv77, hG, hnx, hi2, hi3, e75, enc_reg, decV_reg, hok2, InR, Ent.of0, Ent.of1, Ent.of2, Ent.of3, V, bS, bA, bB, ca, cL, cP, gt, lk, bR, cq, cg, cb, cF, bZ, bZ.subCs, cQ, a4, bj, b0, aO, bw, a3, aD, bI, a9, az, a8, aW, bX, cT, cZ, an, aH, cD, cc, cn, cV, cU, ay, ak, ce, bt, zC, argS, a7, cI, c6, cR, aj, aC, aI, aV, bP, leC, bT, cm, cp, cM, cG, aX, aP, cK, ap, cd, bm, bm.viewCs, bf, bf.flatCs, ax, ax.LensOks, Value.oneCell', ↓reduceIte, ite_true, ite_false, if_true, if_false, Nat.reduceAdd, Nat.reduceSub, Nat.reduceMul, Nat.reduceEqDiff, Nat.reduceLT, Nat.reduceLeDiff, reduceCtorEq, Int.reduceToNat, forall_const, implies_true, bv, Ent.mk3, bE, bC, be, a6, bL, a5, br, bK, bu, bh, bH, cu, bJ, cS, rn, co, co.renCs, aN, aT, aR, aR.viewOks, aJ, bz, bz.flatBs, aG, aq, aY, au, aA, bo, bo.keysBs, av, ar, bk, bM, bF, bW, af, af.passKs, aM, aU, ae, ae.lendKs, cr, bU, bV, bG, setInn, am, cW, cO, aB, aZ, bY, bN, aK, aw, Glob.gl, aQ, cj, bn, bQ, bD, ah, cC, cN, cz, cY, bO, ai, ai.ptrOnlys, ag, aL, cJ, aF, bp, bg, cH, aE, bq, cB, Nat.reduceBEq, undef]
      omega
    · have hi2 : ¬ (k : Int) - (i : Int) > 0 := by omega
      have hi3 : ¬ (0 : Int) < (k : Int) - (i : Int) := by omega
      have hie : i = k := by omega
      subst hie
      delta c77l1
      simp (maxSteps := 4000000) -implicitDefEqProofs only [rv77, hi2, hi3, InR, Ent.of0, Ent.of1, Ent.of2, Ent.of3, V, bS, bA, bB, ca, cL, cP, gt, lk, bR, cq, cg, cb, cF, bZ, bZ.subCs, cQ, a4, bj, b0, aO, bw, a3, aD, bI, a9, az, a8, aW, bX, cT, cZ, an, aH, cD, cc, cn, cV, cU, ay, ak, ce, bt, zC, argS, a7, cI, c6, cR, aj, aC, aI, aV, bP, leC, bT, cm, cp, cM, cG, aX, aP, cK, ap, cd, bm, bm.viewCs, bf, bf.flatCs, ax, ax.LensOks, Value.oneCell', ↓reduceIte, ite_true, ite_false, if_true, if_false, Nat.reduceAdd, Nat.reduceSub, Nat.reduceMul, Nat.reduceEqDiff, Nat.reduceLT, Nat.reduceLeDiff, reduceCtorEq, Int.reduceToNat, forall_const, implies_true, bv, Ent.mk3, bE, bC, be, a6, bL, a5, br, bK, bu, bh, bH, cu, bJ, cS, rn, co, co.renCs, aN, aT, aR, aR.viewOks, aJ, bz, bz.flatBs, aG, aq, aY, au, aA, bo, bo.keysBs, av, ar, bk, bM, bF, bW, af, af.passKs, aM, aU, ae, ae.lendKs, cr, bU, bV, bG, setInn, am, cW, cO, aB, aZ, bY, bN, aK, aw, Glob.gl, aQ, cj, bn, bQ, bD, ah, cC, cN, cz, cY, bO, ai, ai.ptrOnlys, ag, aL, cJ, aF, bp, bg, cH, aE, bq, cB, Nat.reduceBEq, undef]
def e77 : Ent Try.prog := .of2 77 (fun r n => RegOk r ∧ 0 ≤ n ∧ n ≤ 1000000000) (fun (r : Reg) (n : Int) => enc (runR r (n.toNat % perR r))) (fun _ _ => ⟨trivial, trivial, trivial, trivial⟩) (fun r n h => by
  have := RJumped_c r h.1 n.toNat (by omega)
  rwa [Int.toNat_of_nonneg h.2.1] at this)
end Go.Proofs.Ytfgpbmjmoobcnaa
end
section
open Go Go.Am
open Go.Am.Dat (cells)
namespace Go.Proofs.Ytfgpbmjmoobcnaa
set_option maxHeartbeats 4000000
set_option maxRecDepth 100000
set_option linter.unusedSimpArgs false
set_option linter.unusedVariables false
theorem FC.leA2 {P : Program} [Glob P] {f : FuncId} {a b a' b' : C} {chs : Chs} {r : C} {chs' : Chs} (h1 : leC a a') (h2 : leC b b') (hf : FC P f [a', b'] chs r chs') : FC P f [a, b] chs r chs' :=
  ⟨hf.1, fun E U vs w hg ha hi => hf.2 E U vs w hg ⟨ha.1, fun j c hj => by
    match j, hj with
    | 0, hj => cases hj; exact leC_rep h1 (ha.2 0 a rfl)
    | 1, hj => cases hj; exact leC_rep h2 (ha.2 1 b rfl)⟩ hi⟩
theorem SameRegZ_c (a b : Int) : FC Try.prog 74 [.agg [.s (.int .i64 a), .s (.slice none 0 0), .s (.slice none 0 0)], .agg [.s (.int .i64 b), .s (.slice none 0 0), .s (.slice none 0 0)]] [] (enc (decide (a = b))) [] := by
  have h := SameReg_c' ⟨a, [], []⟩ ⟨b, [], []⟩
  have e : decide ((⟨a, [], []⟩ : Reg) = ⟨b, [], []⟩) = decide (a = b) := by rw [decide_eq_decide]; simp
  rw [e] at h
  exact FC.leA2 (a' := enc (⟨a, [], []⟩ : Reg)) (b' := enc (⟨b, [], []⟩ : Reg)) ⟨rfl, trivial, trivial, trivial⟩ ⟨rfl, trivial, trivial, trivial⟩ h
def e74Z : Ent Try.prog := .mk3 74 (fun args chs => match args, chs with
    | [.agg [.s (.int .i64 a), .s (.slice none 0 0), .s (.slice none 0 0)], .agg [.s (.int .i64 b), .s (.slice none 0 0), .s (.slice none 0 0)]], [] => some (True, enc (decide (a = b)), [], [])
    | [.agg [.s (.int .i64 a), .sl 1 t, .sl 1 s], .agg [.s (.int .i64 b), .sl 1 t2, .sl 1 s2]], [] => (decL t : Option (List Int)).bind fun t' => (decL s : Option (List Int)).bind fun s' => (decL t2 : Option (List Int)).bind fun t2' => (decL s2 : Option (List Int)).bind fun s2' => some (True, enc (decide ((⟨a, t', s'⟩ : Reg) = ⟨b, t2', s2'⟩)), [], [])
    | _, _ => none) (by
  intro args chs p r chs' nk hs hp
  split at hs
  · simp only [Option.some.injEq, Prod.mk.injEq] at hs
    obtain ⟨rfl, rfl, rfl, rfl⟩ := hs
    exact ⟨SameRegZ_c _ _, .plain trivial⟩
  · simp only [Option.bind_eq_some_iff, Option.some.injEq, Prod.mk.injEq] at hs
    obtain ⟨t', ht, s', hs', t2', ht2, s2', hs2', rfl, rfl, rfl, rfl⟩ := hs
    have := decL_ok ht
    subst this
    have := decL_ok hs'
    subst this
    have := decL_ok ht2
    subst this
    have := decL_ok hs2'
    subst this
    exact ⟨SameReg_c' ⟨_, t', s'⟩ ⟨_, t2', s2'⟩, .plain trivial⟩
  · cases hs)
theorem short_len {r : Reg} (hs : shortS r = true) : r.taps.length ≤ 1000000 ∧ r.state.length ≤ 1000000 := by
  unfold shortS at hs
  simp at hs
  omega
theorem SymbolRegisters_c (r : Reg) (count steps : Int) : FC Try.prog 13 [enc r, enc count, enc steps] [] (enc true) [] := by
  refine fc_intro' is13 (by simp) (fun cx hl => S_run [e15, e41, e32, e43, e70, e71, e72, e73, e44, e74Z, e75, e76, e37, e77] 1500 ?_)
  have heta : ({ length := r.length, taps := r.taps, state := r.state } : Reg) = r := rfl
  by_cases hs : shortS r = true
  rotate_left
  · have hs : shortS r = false := by simpa using hs
    delta c13
    simp (maxSteps := 4000000) -implicitDefEqProofs only [rv13, enc_reg, decV_reg, heta, e15, e41, hs, Int.cast_ofNat_Int, Int.natCast_one, Int.natCast_zero, Int.reduceAdd, Int.reduceSub, Int.reduceMul, Int.reduceLT, Int.reduceLE, Int.reduceTMod, Int.reduceTDiv, Int.reduceNeg, Int.reduceEq, Nat.reducePow, Int.reducePow, ne_eq, not_false_eq_true, Ent.of0, Ent.of1, Ent.of2, Ent.of3, V, bS, bA, bB, ca, cL, cP, gt, lk, bR, cq, cg, cb, cF, bZ, bZ.subCs, cQ, a4, bj, b0, aO, bw, a3, aD, bI, a9, az, a8, aW, bX, cT, cZ, an, aH, cD, cc, cn, cV, cU, ay, ak, ce, bt, zC, argS, a7, cI, c6, cR, aj, aC, aI, aV, bP, leC, bT, cm, cp, cM, cG, aX, aP, cK, ap, cd, bm, bm.viewCs, bf, bf.flatCs, ax, ax.LensOks, Value.oneCell', ↓reduceIte, ite_true, ite_false, if_true, if_false, Nat.reduceAdd, Nat.reduceSub, Nat.reduceMul, Nat.reduceEqDiff, Nat.reduceLT, Nat.reduceLeDiff, reduceCtorEq, Int.reduceToNat, forall_const, implies_true, bv, Ent.mk3, bE, bC, be, a6, bL, a5, br, bK, bu, bh, bH, cu, bJ, cS, rn, co, co.renCs, aN, aT, aR, aR.viewOks, aJ, bz, bz.flatBs, aG, aq, aY, au, aA, bo, bo.keysBs, av, ar, bk, bM, bF, bW, af, af.passKs, aM, aU, ae, ae.lendKs, cr, bU, bV, bG, setInn, am, cW, cO, aB, aZ, bY, bN, aK, aw, Glob.gl, aQ, cj, bn, bQ, bD, ah, cC, cN, cz, cY, bO, ai, ai.ptrOnlys, ag, aL, cJ, aF, bp, bg, cH, aE, bq, cB, Nat.reduceBEq, undef]
  by_cases h41 : 41 ≤ count ∧ count ≤ 400
  · delta c13
    simp (maxSteps := 4000000) -implicitDefEqProofs only [rv13, enc_reg, decV_reg, heta, e15, e41, e32, hs, h41, Int.cast_ofNat_Int, Int.natCast_one, Int.natCast_zero, Int.reduceAdd, Int.reduceSub, Int.reduceMul, Int.reduceLT, Int.reduceLE, Int.reduceTMod, Int.reduceTDiv, Int.reduceNeg, Int.reduceEq, Nat.reducePow, Int.reducePow, ne_eq, not_false_eq_true, Ent.of0, Ent.of1, Ent.of2, Ent.of3, V, bS, bA, bB, ca, cL, cP, gt, lk, bR, cq, cg, cb, cF, bZ, bZ.subCs, cQ, a4, bj, b0, aO, bw, a3, aD, bI, a9, az, a8, aW, bX, cT, cZ, an, aH, cD, cc, cn, cV, cU, ay, ak, ce, bt, zC, argS, a7, cI, c6, cR, aj, aC, aI, aV, bP, leC, bT, cm, cp, cM, cG, aX, aP, cK, ap, cd, bm, bm.viewCs, bf, bf.flatCs, ax, ax.LensOks, Value.oneCell', ↓reduceIte, ite_true, ite_false, if_true, if_false, Nat.reduceAdd, Nat.reduceSub, Nat.reduceMul, Nat.reduceEqDiff, Nat.reduceLT, Nat.reduceLeDiff, reduceCtorEq, Int.reduceToNat, forall_const, implies_true, bv, Ent.mk3, bE, bC, be, a6, bL, a5, br, bK, bu, bh, bH, cu, bJ, cS, rn, co, co.renCs, aN, aT, aR, aR.viewOks, aJ, bz, bz.flatBs, aG, aq, aY, au, aA, bo, bo.keysBs, av, ar, bk, bM, bF, bW, af, af.passKs, aM, aU, ae, ae.lendKs, cr, bU, bV, bG, setInn, am, cW, cO, aB, aZ, bY, bN, aK, aw, Glob.gl, aQ, cj, bn, bQ, bD, ah, cC, cN, cz, cY, bO, ai, ai.ptrOnlys, ag, aL, cJ, aF, bp, bg, cH, aE, bq, cB, Nat.reduceBEq, undef]
  have hsl := short_len hs
  by_cases hre : regErr r = 0
  rotate_left
  · have hse : sequenceErr r count = regErr r := by unfold sequenceErr; rw [if_pos hre]
    have hje : jumpErr r steps = regErr r := by unfold jumpErr; rw [if_pos hre]
    delta c13
    simp (maxSteps := 4000000) -implicitDefEqProofs only [rv13, enc_reg, decV_reg, heta, e15, e41, e32, e43, e70, e71, e72, e73, e44, e74Z, hs, h41, hsl, hre, hse, hje, zregC, Int.cast_ofNat_Int, Int.natCast_one, Int.natCast_zero, Int.reduceAdd, Int.reduceSub, Int.reduceMul, Int.reduceLT, Int.reduceLE, Int.reduceTMod, Int.reduceTDiv, Int.reduceNeg, Int.reduceEq, Nat.reducePow, Int.reducePow, ne_eq, not_false_eq_true, Ent.of0, Ent.of1, Ent.of2, Ent.of3, V, bS, bA, bB, ca, cL, cP, gt, lk, bR, cq, cg, cb, cF, bZ, bZ.subCs, cQ, a4, bj, b0, aO, bw, a3, aD, bI, a9, az, a8, aW, bX, cT, cZ, an, aH, cD, cc, cn, cV, cU, ay, ak, ce, bt, zC, argS, a7, cI, c6, cR, aj, aC, aI, aV, bP, leC, bT, cm, cp, cM, cG, aX, aP, cK, ap, cd, bm, bm.viewCs, bf, bf.flatCs, ax, ax.LensOks, Value.oneCell', ↓reduceIte, ite_true, ite_false, if_true, if_false, Nat.reduceAdd, Nat.reduceSub, Nat.reduceMul, Nat.reduceEqDiff, Nat.reduceLT, Nat.reduceLeDiff, reduceCtorEq, Int.reduceToNat, forall_const, implies_true, bv, Ent.mk3, bE, bC, be, a6, bL, a5, br, bK, bu, bh, bH, cu, bJ, cS, rn, co, co.renCs, aN, aT, aR, aR.viewOks, aJ, bz, bz.flatBs, aG, aq, aY, au, aA, bo, bo.keysBs, av, ar, bk, bM, bF, bW, af, af.passKs, aM, aU, ae, ae.lendKs, cr, bU, bV, bG, setInn, am, cW, cO, aB, aZ, bY, bN, aK, aw, Glob.gl, aQ, cj, bn, bQ, bD, ah, cC, cN, cz, cY, bO, ai, ai.ptrOnlys, ag, aL, cJ, aF, bp, bg, cH, aE, bq, cB, Nat.reduceBEq, undef]
  have hr := regOk_of hre
  have hdec : ∀ a : Reg, decide (a = a) = true := fun a => decide_eq_true rfl
  have hseq := seq_eq hr count.toNat
  by_cases hc : 1 ≤ count ∧ count ≤ 400
  · have hse : sequenceErr r count = 0 := by unfold sequenceErr; rw [if_neg (by simpa using hre), if_pos hc]
    have hc0 : 0 ≤ count ∧ count ≤ 1000000 := by omega
    by_cases hst : 0 ≤ steps ∧ steps ≤ 1000000000
    · have hje : jumpErr r steps = 0 := by unfold jumpErr; rw [if_neg (by simpa using hre), if_pos hst]
      delta c13
      simp (maxSteps := 4000000) -implicitDefEqProofs only [rv13, enc_reg, decV_reg, heta, e15, e41, e32, e43, e70, e71, e72, e73, e44, e74Z, e75, e76, e37, e77, hs, h41, hsl, hre, hr, hse, hje, hc, hc0, hst, hseq, hdec, zregC, Int.cast_ofNat_Int, Int.natCast_one, Int.natCast_zero, Int.reduceAdd, Int.reduceSub, Int.reduceMul, Int.reduceLT, Int.reduceLE, Int.reduceTMod, Int.reduceTDiv, Int.reduceNeg, Int.reduceEq, Nat.reducePow, Int.reducePow, ne_eq, not_false_eq_true, Ent.of0, Ent.of1, Ent.of2, Ent.of3, V, bS, bA, bB, ca, cL, cP, gt, lk, bR, cq, cg, cb, cF, bZ, bZ.subCs, cQ, a4, bj, b0, aO, bw, a3, aD, bI, a9, az, a8, aW, bX, cT, cZ, an, aH, cD, cc, cn, cV, cU, ay, ak, ce, bt, zC, argS, a7, cI, c6, cR, aj, aC, aI, aV, bP, leC, bT, cm, cp, cM, cG, aX, aP, cK, ap, cd, bm, bm.viewCs, bf, bf.flatCs, ax, ax.LensOks, Value.oneCell', ↓reduceIte, ite_true, ite_false, if_true, if_false, Nat.reduceAdd, Nat.reduceSub, Nat.reduceMul, Nat.reduceEqDiff, Nat.reduceLT, Nat.reduceLeDiff, reduceCtorEq, Int.reduceToNat, forall_const, implies_true, bv, Ent.mk3, bE, bC, be, a6, bL, a5, br, bK, bu, bh, bH, cu, bJ, cS, rn, co, co.renCs, aN, aT, aR, aR.viewOks, aJ, bz, bz.flatBs, aG, aq, aY, au, aA, bo, bo.keysBs, av, ar, bk, bM, bF, bW, af, af.passKs, aM, aU, ae, ae.lendKs, cr, bU, bV, bG, setInn, am, cW, cO, aB, aZ, bY, bN, aK, aw, Glob.gl, aQ, cj, bn, bQ, bD, ah, cC, cN, cz, cY, bO, ai, ai.ptrOnlys, ag, aL, cJ, aF, bp, bg, cH, aE, bq, cB, Nat.reduceBEq, undef]
      try (split <;> trivial)
    · have hje : jumpErr r steps = 2 := by unfold jumpErr; rw [if_neg (by simpa using hre), if_neg hst]
      delta c13
      simp (maxSteps := 4000000) -implicitDefEqProofs only [rv13, enc_reg, decV_reg, heta, e15, e41, e32, e43, e70, e71, e72, e73, e44, e74Z, e75, e76, e37, hs, h41, hsl, hre, hr, hse, hje, hc, hc0, hst, hseq, hdec, zregC, Int.cast_ofNat_Int, Int.natCast_one, Int.natCast_zero, Int.reduceAdd, Int.reduceSub, Int.reduceMul, Int.reduceLT, Int.reduceLE, Int.reduceTMod, Int.reduceTDiv, Int.reduceNeg, Int.reduceEq, Nat.reducePow, Int.reducePow, ne_eq, not_false_eq_true, Ent.of0, Ent.of1, Ent.of2, Ent.of3, V, bS, bA, bB, ca, cL, cP, gt, lk, bR, cq, cg, cb, cF, bZ, bZ.subCs, cQ, a4, bj, b0, aO, bw, a3, aD, bI, a9, az, a8, aW, bX, cT, cZ, an, aH, cD, cc, cn, cV, cU, ay, ak, ce, bt, zC, argS, a7, cI, c6, cR, aj, aC, aI, aV, bP, leC, bT, cm, cp, cM, cG, aX, aP, cK, ap, cd, bm, bm.viewCs, bf, bf.flatCs, ax, ax.LensOks, Value.oneCell', ↓reduceIte, ite_true, ite_false, if_true, if_false, Nat.reduceAdd, Nat.reduceSub, Nat.reduceMul, Nat.reduceEqDiff, Nat.reduceLT, Nat.reduceLeDiff, reduceCtorEq, Int.reduceToNat, forall_const, implies_true, bv, Ent.mk3, bE, bC, be, a6, bL, a5, br, bK, bu, bh, bH, cu, bJ, cS, rn, co, co.renCs, aN, aT, aR, aR.viewOks, aJ, bz, bz.flatBs, aG, aq, aY, au, aA, bo, bo.keysBs, av, ar, bk, bM, bF, bW, af, af.passKs, aM, aU, ae, ae.lendKs, cr, bU, bV, bG, setInn, am, cW, cO, aB, aZ, bY, bN, aK, aw, Glob.gl, aQ, cj, bn, bQ, bD, ah, cC, cN, cz, cY, bO, ai, ai.ptrOnlys, ag, aL, cJ, aF, bp, bg, cH, aE, bq, cB, Nat.reduceBEq, undef]
      try (split <;> trivial)
  · have hse : sequenceErr r count = 2 := by unfold sequenceErr; rw [if_neg (by simpa using hre), if_neg hc]
    by_cases hst : 0 ≤ steps ∧ steps ≤ 1000000000
    · have hje : jumpErr r steps = 0 := by unfold jumpErr; rw [if_neg (by simpa using hre), if_pos hst]
      delta c13
      simp (maxSteps := 4000000) -implicitDefEqProofs only [rv13, enc_reg, decV_reg, heta, e15, e41, e32, e43, e70, e71, e72, e73, e44, e74Z, e75, e76, e37, e77, hs, h41, hsl, hre, hr, hse, hje, hc, hst, hdec, zregC, Int.cast_ofNat_Int, Int.natCast_one, Int.natCast_zero, Int.reduceAdd, Int.reduceSub, Int.reduceMul, Int.reduceLT, Int.reduceLE, Int.reduceTMod, Int.reduceTDiv, Int.reduceNeg, Int.reduceEq, Nat.reducePow, Int.reducePow, ne_eq, not_false_eq_true, Ent.of0, Ent.of1, Ent.of2, Ent.of3, V, bS, bA, bB, ca, cL, cP, gt, lk, bR, cq, cg, cb, cF, bZ, bZ.subCs, cQ, a4, bj, b0, aO, bw, a3, aD, bI, a9, az, a8, aW, bX, cT, cZ, an, aH, cD, cc, cn, cV, cU, ay, ak, ce, bt, zC, argS, a7, cI, c6, cR, aj, aC, aI, aV, bP, leC, bT, cm, cp, cM, cG, aX, aP, cK, ap, cd, bm, bm.viewCs, bf, bf.flatCs, ax, ax.LensOks, Value.oneCell', ↓reduceIte, ite_true, ite_false, if_true, if_false, Nat.reduceAdd, Nat.reduceSub, Nat.reduceMul, Nat.reduceEqDiff, Nat.reduceLT, Nat.reduceLeDiff, reduceCtorEq, Int.reduceToNat, forall_const, implies_true, bv, Ent.mk3, bE, bC, be, a6, bL, a5, br, bK, bu, bh, bH, cu, bJ, cS, rn, co, co.renCs, aN, aT, aR, aR.viewOks, aJ, bz, bz.flatBs, aG, aq, aY, au, aA, bo, bo.keysBs, av, ar, bk, bM, bF, bW, af, af.passKs, aM, aU, ae, ae.lendKs, cr, bU, bV, bG, setInn, am, cW, cO, aB, aZ, bY, bN, aK, aw, Glob.gl, aQ, cj, bn, bQ, bD, ah, cC, cN, cz, cY, bO, ai, ai.ptrOnlys, ag, aL, cJ, aF, bp, bg, cH, aE, bq, cB, Nat.reduceBEq, undef]
      try (split <;> trivial)
    · have hje : jumpErr r steps = 2 := by unfold jumpErr; rw [if_neg (by simpa using hre), if_neg hst]
      delta c13
      simp (maxSteps := 4000000) -implicitDefEqProofs only [rv13, enc_reg, decV_reg, heta, e15, e41, e32, e43, e70, e71, e72, e73, e44, e74Z, e75, e76, e37, hs, h41, hsl, hre, hr, hse, hje, hc, hst, hdec, zregC, Int.cast_ofNat_Int, Int.natCast_one, Int.natCast_zero, Int.reduceAdd, Int.reduceSub, Int.reduceMul, Int.reduceLT, Int.reduceLE, Int.reduceTMod, Int.reduceTDiv, Int.reduceNeg, Int.reduceEq, Nat.reducePow, Int.reducePow, ne_eq, not_false_eq_true, Ent.of0, Ent.of1, Ent.of2, Ent.of3, V, bS, bA, bB, ca, cL, cP, gt, lk, bR, cq, cg, cb, cF, bZ, bZ.subCs, cQ, a4, bj, b0, aO, bw, a3, aD, bI, a9, az, a8, aW, bX, cT, cZ, an, aH, cD, cc, cn, cV, cU, ay, ak, ce, bt, zC, argS, a7, cI, c6, cR, aj, aC, aI, aV, bP, leC, bT, cm, cp, cM, cG, aX, aP, cK, ap, cd, bm, bm.viewCs, bf, bf.flatCs, ax, ax.LensOks, Value.oneCell', ↓reduceIte, ite_true, ite_false, if_true, if_false, Nat.reduceAdd, Nat.reduceSub, Nat.reduceMul, Nat.reduceEqDiff, Nat.reduceLT, Nat.reduceLeDiff, reduceCtorEq, Int.reduceToNat, forall_const, implies_true, bv, Ent.mk3, bE, bC, be, a6, bL, a5, br, bK, bu, bh, bH, cu, bJ, cS, rn, co, co.renCs, aN, aT, aR, aR.viewOks, aJ, bz, bz.flatBs, aG, aq, aY, au, aA, bo, bo.keysBs, av, ar, bk, bM, bF, bW, af, af.passKs, aM, aU, ae, ae.lendKs, cr, bU, bV, bG, setInn, am, cW, cO, aB, aZ, bY, bN, aK, aw, Glob.gl, aQ, cj, bn, bQ, bD, ah, cC, cN, cz, cY, bO, ai, ai.ptrOnlys, ag, aL, cJ, aF, bp, bg, cH, aE, bq, cB, Nat.reduceBEq, undef]
      try (split <;> trivial)
end Go.Proofs.Ytfgpbmjmoobcnaa
end
section
open Go Go.Am
open Go.Am.Dat (cells)
namespace Go.Proofs.Ytfgpbmjmoobcnaa
open Go.ChangeShapes Go.WideShapes Go.ChangeAt Go.RowKit
set_option linter.unusedVariables false
theorem own : ownKnob Try.prog.godebug = none := by kernel_rfl
theorem laidOut : laidOutB Try.prog = true := by kernel_rfl
theorem glob0 : Glob.gl Try.prog = [] := rfl
theorem rInt : ReadsAs Try.prog 3 Int := ReadsAs.int Try.underlying3 (by kernel_rfl)
theorem rInts : ReadsAs Try.prog 33 (List Int) := ReadsAs.list rInt Try.underlying33 (by kernel_rfl)
theorem rReg : ReadsAs Try.prog 59 Reg := by
  refine ⟨by kernel_rfl, by decide, fun en w sp fuel cs x h => ?_⟩
  obtain ⟨l, a0, e0, h0⟩ := field_rd rInt Try.underlying59 h 0 rfl rfl
  obtain ⟨_, a1, e1, h1⟩ := field_rd rInts Try.underlying59 h 1 rfl rfl
  obtain ⟨_, a2, e2, h2⟩ := field_rd rInts Try.underlying59 h 2 rfl rfl
  refine ⟨⟨a0, a1, a2⟩, rfl, l.trans (by kernel_rfl), fun j c hj => ?_⟩
  match j, hj with
  | 0, hj => cases hj; exact h0 0 _ rfl
  | 1, hj => cases hj; exact h1 0 _ rfl
  | 2, hj => cases hj; exact h2 0 _ rfl
set_option maxRecDepth 100000 in
theorem lifted13 (os : Os) (started : os.Started) (H : Type) (en : TypeId × Value → H) :
    ReturnsInHanded {} Try.checked os 13 .any (Rows.symbolRegistersSpec.pre6 en Try.prog Try.f13 Rows.symbolRegistersRow.domain false) (Rows.symbolRegistersSpec.post en Try.prog Try.f13 false true false false) := by
  refine returnsInHanded_of_change (C := Try.checked) own started (by kernel_rfl) Try.func13
    (ChangeSpec.witness6 (enc := en) (C := Try.checked) false ⟨#[], #[.agg #[.int .i64 0, .slice none 0 0, .slice none 0 0], .int .i64 0, .int .i64 0], []⟩ 8 (by kernel_rfl) (by kernel_rfl) (by kernel_rfl) (by kernel_rfl)) ?_
  intro W base args ds gs before hval0 hW hcnd _
  have hval : ∀ (j : Nat) t v, Try.f13.params[j]? = some t → args[j]? = some v → Value.okWide Try.prog W .any base t v := hval0
  have hW' := hW
  obtain ⟨p, q, hA0, hV, rfl, hfz, hnd⟩ := hW
  have hA : DataW.TrodAll en Try.prog W 0 (fun _ => true) true Try.f13.params.toList args.toList ds p := hA0
  rw [Try.params13] at hA hval
  obtain ⟨v0, vs0, d0, ds0, p0, q0, hargs, rfl, rfl, h0, r0⟩ := trodAll_cons hA
  obtain ⟨v1, vs1, d1, ds1, p1, q1, rfl, rfl, rfl, h1, r1⟩ := trodAll_cons r0
  obtain ⟨v2, vs2, d2, ds2, p2, q2, rfl, rfl, rfl, h2, r2⟩ := trodAll_cons r1
  obtain ⟨rfl, rfl, rfl⟩ := trodAll_nil r2
  obtain rfl : args = #[v0, v1, v2] := by cases args; simp_all
  obtain ⟨rfl, rfl⟩ := trodVars_none hV
  have lt0 : ∀ x ∈ p0, x.block < W.heap.size := by obtain ⟨m, hm⟩ := h0; exact DataW.trod_lt m _ _ _ hm
  obtain ⟨x0, hx0⟩ := rReg.argS rfl Try.underlying59 (hval 0 59 v0 rfl rfl) h0
  obtain ⟨x1, rfl, rfl, rfl, w1⟩ := open_int Try.underlying3 (hval 1 3 v1 rfl rfl) h1
  obtain ⟨x2, rfl, rfl, rfl, w2⟩ := open_int Try.underlying3 (hval 2 3 v2 rfl rfl) h2
  clear hA0 hval0
  refine (law_walk glob0 (SymbolRegisters_c x0 x1 x2) (W := W) (vs := #[v0, .int .i64 x1, .int .i64 x2]) rfl (fun j c hj E => ?_)).mono fun e W' ⟨he, bel⟩ => ?_
  · match j, hj with
    | 0, hj => cases hj; exact hx0 E
    | 1, hj => cases hj; exact .d (.s _)
    | 2, hj => cases hj; exact .d (.s _)
  · subst he
    exact ⟨_, rfl, _, _, _, [], _, [], hW', trodAll_mk1 (shut_bool Try.underlying4 _), (trodAll_cons_mk (Below.trod laidOut (by kernel_rfl) (of_decide_eq_true (by kernel_rfl)) h0 bel lt0) (trodAll_cons_mk (shut_int Try.underlying3 w1) (trodAll_cons_mk (shut_int Try.underlying3 w2) trodAll_mk0))), rfl, bel.frame _, fun h => by cases h⟩
theorem over13 : Rows.symbolRegistersRow.holds Try.pinned (OpenSpec.ofChange Rows.symbolRegistersSpec) :=
  OpenClaim.holds_of_wide 13 Try.f13 rfl rfl rfl rfl rfl rfl rfl ⟨rfl, rfl, rfl, rfl, rfl⟩ rfl rfl rfl rfl rfl (by kernel_rfl) Try.func13 (by kernel_rfl)
    (of_decide_eq_true (by kernel_rfl)) (by unfold Func.isWrapper; first | (rw [if_pos (by decide +kernel)]; kernel_rfl) | (rw [if_neg (by decide +kernel)]; exact ⟨rfl, rfl⟩))
    (fun os started H en _ => lifted13 os started H en)
theorem SymbolRegisters_holds : Rows.SymbolRegistersSaid := over13
#print axioms SymbolRegisters_holds
end Go.Proofs.Ytfgpbmjmoobcnaa
end
