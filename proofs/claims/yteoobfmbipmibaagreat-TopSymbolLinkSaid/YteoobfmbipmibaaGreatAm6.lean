/- TopSymbolLink returns true for every input and never panics: bits with their check, coded, scrambled, modulated, layered, with a matrix applied, are recovered behind equalizing by soft bits turned back by the register; conditions: none beyond the given statement. -/
import Derived.Test.YteoobfmbipmibaaGreatRows
import Derived.ProofKit
import Derived.Test.YteoobfmbipmibaaGreatAm5
set_option linter.all false
section
open Go Go.Am
open Go.Am.Dat (cells)
namespace Go.Proofs.YteoobfmbipmibaaGreat
set_option maxHeartbeats 4000000
set_option maxRecDepth 100000
theorem Sent_c (c : Chn) (l : List Int) (v : Int) (hc : fE c = 0) (hb : ft l = 0) (hl : (l.length : Int) + c.poly.re = (c.polar.info.length : Int)) (hv : 0 ≤ v ∧ v ≤ 3) : FC Tryz.prog 12 [enc c, enc l, enc v] [] (.tup [enc (jE c l v.toNat), enc (0 : Int)]) [] := by
 obtain ⟨h1, h2, h3, h4⟩ := jL hc
 obtain ⟨b1, b2, b3⟩ := oW hb
 have hd := h1.deg
 have hwl := tj c.polar (fY c l)
 have hcl := oh c l
 have hcb := oZ (k5 (c := c) b3)
 have hsent : jE c l v.toNat = f0 (nr c.polar (fY c l)) v.toNat c.count.toNat := rfl
 have hle : 2 ^ c.polar.power.toNat ≤ 2 ^ 6 := Nat.pow_le_pow_right (by decide) (by have := h2.pow; omega)
 have hge : 0 < 2 ^ c.polar.power.toNat := Nat.pow_pos (by decide)
 have hil : c.polar.info.length ≤ (fY c l).length := by omega
 rw [hsent]
 unfold fY at *
 obtain ⟨⟨d, t⟩, ⟨w, info⟩, n⟩ := c
 simp only at *
 have k1 : PolyOk ⟨d, t⟩ ∧ l.length ≤ 900000 := ⟨h1, by omega⟩
 refine dk is12 (by simp) (fun cx hl' => dj [so, rR, fV, rM, e8, ent53, ent52, ent51] 1600 ?_)
 delta c12 oO oN oA oM oT oG oR oQ oS oK
 simp (maxSteps := 4000000) -implicitDefEqProofs only [rv12, so, rR, fV, rM, e8, ent53, ent52, ent51, fk, ea, dY, hc, hb, hl, hv, h1, h2, k1, hcb, hwl, dl, Int.toNat_natCast, InR, Ent.of0, Ent.of1, Ent.of2, Ent.of3, V, W3, ↓reduceIte, Nat.reduceAdd, Nat.reduceSub, Nat.reduceMul, Nat.reduceEqDiff, Nat.reduceLT, Nat.reduceLeDiff, reduceCtorEq, Int.reduceToNat, Nat.reduceBEq]
 refine ⟨by omega, ?_⟩
 rw [if_neg (fun h => h (by simp))]
 exact ⟨hil, ⟨hge, by omega⟩, by omega, by omega⟩
def ent12 : Ent Tryz.prog := .mk3 12 (fun args chs => match args, chs with
 | [.agg cs, .sl 1 es, .s (.int .i64 v)], [] => (eW (.agg cs) : Option Chn).bind fun c => (eo es : Option (List Int)).bind fun l => some (fE c = 0 ∧ ft l = 0 ∧ (l.length : Int) + c.poly.re = (c.polar.info.length : Int) ∧ (0 ≤ v ∧ v ≤ 3), .tup [enc (jE c l v.toNat), enc (0 : Int)], [], [])
 | _, _ => none) (by
 intro args chs p r chs' nk hs hp
 split at hs
 · simp only [Option.bind_eq_some_iff, Option.some.injEq, Prod.mk.injEq] at hs
   obtain ⟨c, hc, l, hw, rfl, rfl, rfl, rfl⟩ := hs
   have := dV hw
   subst this
   exact ⟨(Sent_c c l _ hp.1 hp.2.1 hp.2.2.1 hp.2.2.2).le (args' := [_, _, _]) ⟨eB hc, et _, et _, trivial⟩, .plain ⟨trivial, trivial, trivial⟩⟩
 · cases hs)
theorem zD {l : List Int} (h : hZ l = 0) : 0 < l.length ∧ l.length ≤ 400 ∧ ∀ x ∈ l, -1000000 ≤ x ∧ x ≤ 1000000 := by
 have := pd (by decide) h
 exact ⟨this.1, by omega, fun x hx => by simpa [fe] using this.2.2 x hx⟩
theorem yo {l : List Int} (h : ic l = 0) : 0 < l.length ∧ l.length ≤ 200 ∧ ∀ x ∈ l, -1000000000 ≤ x ∧ x ≤ 1000000000 := by
 have := pd (by decide) h
 exact ⟨this.1, by omega, fun x hx => by simpa [fe] using this.2.2 x hx⟩
theorem vV (s : List Int) (v n : Int) (hs : hZ s = 0) (hv : 0 ≤ v ∧ v ≤ 3) (hn : 1 ≤ n ∧ n ≤ 200) : FC Tryz.prog 36 [enc s, enc v, enc n] [] (.tup [enc (dX n.toNat v.toNat s s.length), enc (0 : Int)]) [] := by
 obtain ⟨b1, b2, b3⟩ := zD hs
 have hB : leB 1000000000 s := to (by decide) (fun x hx => by have := b3 x hx; omega)
 refine dk is36 (by simp) (fun cx hl' => dj [r9, rM, fV, ent84, e8, ent85] 1600 ?_)
 delta c36 oO oN oA oM oT oG oR oQ oS oK
 simp (maxSteps := 4000000) -implicitDefEqProofs only [rv36, r9, rM, fV, ent84, e8, ent85, hs, hv, hn, hB, dl, InR, Ent.of0, Ent.of1, Ent.of2, Ent.of3, V, W3, ↓reduceIte, Nat.reduceAdd, Nat.reduceSub, Nat.reduceMul, Nat.reduceEqDiff, Nat.reduceLT, Nat.reduceLeDiff, reduceCtorEq, Int.reduceToNat, Nat.reduceBEq]
 rw [if_neg (fun h => h (by simp))]
 exact ⟨⟨b1, by omega⟩, by omega, by omega⟩
def ent36 : Ent Tryz.prog := .mk3 36 (fun args chs => match args, chs with
 | [.sl 1 es, .s (.int .i64 v), .s (.int .i64 n)], [] => (eo es : Option (List Int)).bind fun l => some (hZ l = 0 ∧ (0 ≤ v ∧ v ≤ 3) ∧ 1 ≤ n ∧ n ≤ 200, .tup [enc (dX n.toNat v.toNat l l.length), enc (0 : Int)], [], [])
 | _, _ => none) (by
 intro args chs p r chs' nk hs hp
 split at hs
 · simp only [Option.bind_eq_some_iff, Option.some.injEq, Prod.mk.injEq] at hs
   obtain ⟨l, hw, rfl, rfl, rfl, rfl⟩ := hs
   have := dV hw
   subst this
   exact ⟨vV l _ _ hp.1 hp.2.1 hp.2.2, .plain ⟨trivial, trivial, trivial⟩⟩
 · cases hs)
def recC (c : Chn) (s : List Int) : List Int := (gN c.polar s).take (c.polar.info.length - c.poly.re.toNat)
theorem ui (c : Chn) (s : List Int) (hc : fE c = 0) (hs : ic s = 0) (hl : s.length = 2 ^ c.polar.power.toNat) (hn : c.polar.info.length ≤ 900000) (hr : iS c.poly.re.toNat c.poly.im.toNat (gN c.polar s) = true) : FC Tryz.prog 38 [enc c, enc s] [] (.tup [enc (recC c s), enc (0 : Int)]) [] := by
 obtain ⟨h1, h2, h3, h4⟩ := jL hc
 obtain ⟨b1, b2, b3⟩ := yo hs
 have hB : leB 1000000000 s := to (by decide) b3
 have hd := h1.deg
 have hpw := h2.pow
 have hdl : (gN c.polar s).length = c.polar.info.length := by simp [gN]
 unfold recC
 obtain ⟨⟨d, t⟩, ⟨w, info⟩, n⟩ := c
 simp only at *
 obtain ⟨K, rfl⟩ : ∃ K : Nat, w = (K : Int) := ⟨w.toNat, by omega⟩
 obtain ⟨D, rfl⟩ : ∃ D : Nat, d = (D : Int) := ⟨d.toNat, by omega⟩
 simp only [Int.toNat_natCast] at *
 have hle : 2 ^ K ≤ 2 ^ 6 := Nat.pow_le_pow_right (by decide) (by omega)
 have hP : (2 : Int) ^ K = ((2 ^ K : Nat) : Int) := by push_cast; rfl
 have hmin : min K IntKind.i64.bits = K := Nat.min_eq_left (by show K ≤ 64; omega)
 have k1 : D ≤ info.length := by omega
 have k2 : info.length ≤ 1000000 := by omega
 have e1 : (info.length : Int) - (D : Int) = ((info.length - D : Nat) : Int) := by omega
 have m1 : List.take (info.length - D) ((gN ⟨(K : Int), info⟩ s).map cells) = ((gN ⟨(K : Int), info⟩ s).take (info.length - D)).map cells := List.map_take.symm
 refine dk is38 (by simp) (fun cx hl' => dj [so, ent87, e8, rQ, ent89] 1600 ?_)
 delta c38 oO oN oA oM oT oG oR oQ oS oK
 simp (maxSteps := 4000000) -implicitDefEqProofs only [rv38, so, ent87, e8, rQ, ent89, fk, ea, dY, hc, hs, hl, hP, hmin, h1, h2, hn, k2, hB, hr, hdl, k1, e1, m1, dl, Int.one_mul, Int.toNat_natCast, InR, Ent.of0, Ent.of1, Ent.of2, Ent.of3, V, W3, ↓reduceIte, Nat.reduceAdd, Nat.reduceSub, Nat.reduceMul, Nat.reduceEqDiff, Nat.reduceLT, Nat.reduceLeDiff, reduceCtorEq, Int.reduceToNat, Nat.reduceBEq]
 rw [if_neg (fun h => h (by simp))]
 have hpI : (0 : Int) ≤ ((2 ^ K : Nat) : Int) := Int.natCast_nonneg _
 have hleI : ((2 ^ K : Nat) : Int) ≤ ((2 ^ 6 : Nat) : Int) := Int.ofNat_le.2 hle
 generalize ((2 ^ K : Nat) : Int) = J at *
 and_intros <;> omega
def ent38 : Ent Tryz.prog := .mk3 38 (fun args chs => match args, chs with
 | [.agg cs, .sl 1 es], [] => (eW (.agg cs) : Option Chn).bind fun c => (eo es : Option (List Int)).bind fun l => some (fE c = 0 ∧ ic l = 0 ∧ l.length = 2 ^ c.polar.power.toNat ∧ c.polar.info.length ≤ 900000 ∧ iS c.poly.re.toNat c.poly.im.toNat (gN c.polar l) = true, .tup [enc (recC c l), enc (0 : Int)], [], [])
 | _, _ => none) (by
 intro args chs p r chs' nk hs hp
 split at hs
 · simp only [Option.bind_eq_some_iff, Option.some.injEq, Prod.mk.injEq] at hs
   obtain ⟨c, hc, l, hw, rfl, rfl, rfl, rfl⟩ := hs
   have := dV hw
   subst this
   exact ⟨(ui c l hp.1 hp.2.1 hp.2.2.1 hp.2.2.2.1 hp.2.2.2.2).le (args' := [_, _]) ⟨eB hc, et _, trivial⟩, .plain ⟨trivial, trivial, trivial⟩⟩
 · cases hs)
end Go.Proofs.YteoobfmbipmibaaGreat
end
section
open Go Go.Am
open Go.Am.Dat (cells)
namespace Go.Proofs.YteoobfmbipmibaaGreat
set_option maxHeartbeats 4000000
set_option maxRecDepth 100000
theorem zm (n : Int) (hn : n ≤ 16) : FC Tryz.prog 44 [enc n] [] (enc ((2 ^ n.toNat : Nat) : Int)) [] := by
 refine dk is44 (by simp) (fun cx hl => dj [] 800 ?_)
 delta c44 oO oN oA oM oT oG oR oQ oS oK
 simp (maxSteps := 4000000) -implicitDefEqProofs only [rv44, Ent.of0, Ent.of1, Ent.of2, Ent.of3, V, W3, ↓reduceIte, Nat.reduceAdd, Nat.reduceSub, Nat.reduceMul, Nat.reduceEqDiff, Nat.reduceLT, Nat.reduceLeDiff, reduceCtorEq, Int.reduceToNat, Nat.reduceBEq]
 refine dE n.toNat (fun i => [(3, .s (.int .i64 ((2 ^ i : Nat) : Int))), (4, .s (.int .i64 (i : Int)))]) (fun _ => []) (fun _ => True) trivial ?_ (fun i hi _ => dj [] 800 ?_)
 · simp (maxSteps := 4000000) -implicitDefEqProofs only [Ent.of0, Ent.of1, Ent.of2, Ent.of3, V, W3, ↓reduceIte, Nat.reduceAdd, Nat.reduceSub, Nat.reduceMul, Nat.reduceEqDiff, Nat.reduceLT, Nat.reduceLeDiff, reduceCtorEq, Int.reduceToNat, Nat.reduceBEq]; simp
 · by_cases h : i < n.toNat
   · have hi2 : (i : Int) < n := by omega
     have hle : 2 ^ (i + 1) ≤ 2 ^ 16 := Nat.pow_le_pow_right (by decide) (by omega)
     have e1 : (2 : Int) * ((2 ^ i : Nat) : Int) = ((2 ^ (i + 1) : Nat) : Int) := by rw [Nat.pow_succ]; push_cast; omega
     generalize 2 ^ (i + 1) = M at *
     delta c44l1 oO oN oA oM oT oG oR oQ oS oK
     simp (maxSteps := 4000000) -implicitDefEqProofs only [rv44, hi2, e1, InR, Ent.of0, Ent.of1, Ent.of2, Ent.of3, V, W3, ↓reduceIte, Nat.reduceAdd, Nat.reduceSub, Nat.reduceMul, Nat.reduceEqDiff, Nat.reduceLT, Nat.reduceLeDiff, reduceCtorEq, Int.reduceToNat, Nat.reduceBEq]
     and_intros <;> omega
   · have hi2 : ¬ (i : Int) < n := by omega
     have hie : i = n.toNat := by omega
     subst hie
     delta c44l1 oO oN oA oM oT oG oR oQ oS oK
     simp (maxSteps := 4000000) -implicitDefEqProofs only [rv44, hi2, Ent.of0, Ent.of1, Ent.of2, Ent.of3, V, W3, ↓reduceIte, Nat.reduceAdd, Nat.reduceSub, Nat.reduceMul, Nat.reduceEqDiff, Nat.reduceLT, Nat.reduceLeDiff, reduceCtorEq, Int.reduceToNat, Nat.reduceBEq]
def i5 : Ent Tryz.prog := .of1 44 (fun n => n ≤ 16) (fun n : Int => enc ((2 ^ n.toNat : Nat) : Int)) (fun _ => trivial) (fun n h => zm n h)
theorem yB (p : Pol) (h : p.power ≤ 16) : FC Tryz.prog 7 [enc p] [] (enc ((2 ^ p.power.toNat : Nat) : Int)) [] := by
 obtain ⟨w, l⟩ := p
 refine dk is7 (by simp) (fun cx hl => dj [i5] 800 ?_)
 simp only at h
 delta c7 oO oN oA oM oT oG oR oQ oS oK
 simp (maxSteps := 4000000) -implicitDefEqProofs only [rv7, i5, fJ, h, Ent.of0, Ent.of1, Ent.of2, Ent.of3, V, W3, ↓reduceIte, Nat.reduceAdd, Nat.reduceSub, Nat.reduceMul, Nat.reduceEqDiff, Nat.reduceLT, Nat.reduceLeDiff, reduceCtorEq, Int.reduceToNat, Nat.reduceBEq]
def jH : Ent Tryz.prog := .of1 7 (fun p => p.power ≤ 16) (fun p : Pol => enc ((2 ^ p.power.toNat : Nat) : Int)) (fun _ => trivial) (fun p h => yB p h)
theorem sx (n : Int) : FC Tryz.prog 8 [enc n] [] (enc (if 0 ≤ n ∧ n ≤ 3 then (0 : Int) else 15)) [] := by
 refine dk is8 (by simp) (fun cx hl => dj [dJ] 800 ?_)
 by_cases h : 0 ≤ n ∧ n ≤ 3
 · delta c8 oO oN oA oM oT oG oR oQ oS oK
   simp (maxSteps := 4000000) -implicitDefEqProofs only [rv8, dJ, h, WU, Int.reduceAdd, Int.reduceSub, Int.reduceMul, Int.reduceLT, Int.reduceLE, Int.reduceTMod, Int.reduceTDiv, Int.reduceNeg, Int.reduceEq, Nat.reducePow, Int.reducePow, Ent.of0, Ent.of1, Ent.of2, Ent.of3, V, W3, ↓reduceIte, Nat.reduceAdd, Nat.reduceSub, Nat.reduceMul, Nat.reduceEqDiff, Nat.reduceLT, Nat.reduceLeDiff, reduceCtorEq, Int.reduceToNat, Nat.reduceBEq]
 · delta c8 oO oN oA oM oT oG oR oQ oS oK
   simp (maxSteps := 4000000) -implicitDefEqProofs only [rv8, dJ, h, WU, Int.reduceAdd, Int.reduceSub, Int.reduceMul, Int.reduceLT, Int.reduceLE, Int.reduceTMod, Int.reduceTDiv, Int.reduceNeg, Int.reduceEq, Nat.reducePow, Int.reducePow, Ent.of0, Ent.of1, Ent.of2, Ent.of3, V, W3, ↓reduceIte, Nat.reduceAdd, Nat.reduceSub, Nat.reduceMul, Nat.reduceEqDiff, Nat.reduceLT, Nat.reduceLeDiff, reduceCtorEq, Int.reduceToNat, Nat.reduceBEq]
def kZ : Ent Tryz.prog := .of1 8 (fun _ => True) (fun n : Int => enc (if 0 ≤ n ∧ n ≤ 3 then (0 : Int) else 15)) (fun _ => trivial) (fun n _ => sx n)
theorem vJ (n : Int) : FC Tryz.prog 95 [enc n] [] (enc (if 1 ≤ n ∧ n ≤ 400 then (0 : Int) else 2)) [] := by
 refine dk is95 (by simp) (fun cx hl => dj [dJ] 800 ?_)
 by_cases h : 1 ≤ n ∧ n ≤ 400
 · delta c95 oO oN oA oM oT oG oR oQ oS oK
   simp (maxSteps := 4000000) -implicitDefEqProofs only [rv95, dJ, h, WU, Int.reduceAdd, Int.reduceSub, Int.reduceMul, Int.reduceLT, Int.reduceLE, Int.reduceTMod, Int.reduceTDiv, Int.reduceNeg, Int.reduceEq, Nat.reducePow, Int.reducePow, Ent.of0, Ent.of1, Ent.of2, Ent.of3, V, W3, ↓reduceIte, Nat.reduceAdd, Nat.reduceSub, Nat.reduceMul, Nat.reduceEqDiff, Nat.reduceLT, Nat.reduceLeDiff, reduceCtorEq, Int.reduceToNat, Nat.reduceBEq]
 · delta c95 oO oN oA oM oT oG oR oQ oS oK
   simp (maxSteps := 4000000) -implicitDefEqProofs only [rv95, dJ, h, WU, Int.reduceAdd, Int.reduceSub, Int.reduceMul, Int.reduceLT, Int.reduceLE, Int.reduceTMod, Int.reduceTDiv, Int.reduceNeg, Int.reduceEq, Nat.reducePow, Int.reducePow, Ent.of0, Ent.of1, Ent.of2, Ent.of3, V, W3, ↓reduceIte, Nat.reduceAdd, Nat.reduceSub, Nat.reduceMul, Nat.reduceEqDiff, Nat.reduceLT, Nat.reduceLeDiff, reduceCtorEq, Int.reduceToNat, Nat.reduceBEq]
def pM : Ent Tryz.prog := .of1 95 (fun _ => True) (fun n : Int => enc (if 1 ≤ n ∧ n ≤ 400 then (0 : Int) else 2)) (fun _ => trivial) (fun n _ => vJ n)
theorem x4 (l : List Int) : (l.all fun b => decide (b = 0 ∨ b = 1)) = l.all gq := by congr 1
theorem wK (l : List Int) : FC Tryz.prog 55 [enc l] [] (enc (if l.all gq then (0 : Int) else 15)) [] := by
 refine dk is55 (by simp) (fun cx hl => dj [iX] 800 ?_)
 have hb := x4 l
 cases hC : l.all gq with
 | true =>
  rw [hC] at hb
  delta c55 oO oN oA oM oT oG oR oQ oS oK
  simp (maxSteps := 4000000) -implicitDefEqProofs only [rv55, iX, hb, WU, Int.reduceAdd, Int.reduceSub, Int.reduceMul, Int.reduceLT, Int.reduceLE, Int.reduceTMod, Int.reduceTDiv, Int.reduceNeg, Int.reduceEq, Nat.reducePow, Int.reducePow, Ent.of0, Ent.of1, Ent.of2, Ent.of3, V, W3, ↓reduceIte, Nat.reduceAdd, Nat.reduceSub, Nat.reduceMul, Nat.reduceEqDiff, Nat.reduceLT, Nat.reduceLeDiff, reduceCtorEq, Int.reduceToNat, Nat.reduceBEq]
 | false =>
  rw [hC] at hb
  delta c55 oO oN oA oM oT oG oR oQ oS oK
  simp (maxSteps := 4000000) -implicitDefEqProofs only [rv55, iX, hb, WU, Int.reduceAdd, Int.reduceSub, Int.reduceMul, Int.reduceLT, Int.reduceLE, Int.reduceTMod, Int.reduceTDiv, Int.reduceNeg, Int.reduceEq, Nat.reducePow, Int.reducePow, Ent.of0, Ent.of1, Ent.of2, Ent.of3, V, W3, ↓reduceIte, Nat.reduceAdd, Nat.reduceSub, Nat.reduceMul, Nat.reduceEqDiff, Nat.reduceLT, Nat.reduceLeDiff, reduceCtorEq, Int.reduceToNat, Nat.reduceBEq]
def rW : Ent Tryz.prog := .of1 55 (fun _ => True) (fun l : List Int => enc (if l.all gq then (0 : Int) else 15)) (fun _ => trivial) (fun l _ => wK l)
theorem vY (l : List Int) : FC Tryz.prog 15 [enc l] [] (enc (ft l)) [] := by
 refine dk is15 (by simp) (fun cx hl => dj [rW] 800 ?_)
 unfold ft gv
 by_cases h0 : l.length = 0
 · have h0' : (l.length : Int) = 0 := by omega
   rw [if_pos h0]
   delta c15 oO oN oA oM oT oG oR oQ oS oK
   simp (maxSteps := 4000000) -implicitDefEqProofs only [rv15, rW, h0', WU, Int.reduceAdd, Int.reduceSub, Int.reduceMul, Int.reduceLT, Int.reduceLE, Int.reduceTMod, Int.reduceTDiv, Int.reduceNeg, Int.reduceEq, Nat.reducePow, Int.reducePow, Ent.of0, Ent.of1, Ent.of2, Ent.of3, V, W3, ↓reduceIte, Nat.reduceAdd, Nat.reduceSub, Nat.reduceMul, Nat.reduceEqDiff, Nat.reduceLT, Nat.reduceLeDiff, reduceCtorEq, Int.reduceToNat, Nat.reduceBEq]
 · have h0' : ¬ (l.length : Int) = 0 := by omega
   rw [if_neg h0]
   by_cases h1 : (l.length : Int) > 200
   · rw [if_pos h1]
     delta c15 oO oN oA oM oT oG oR oQ oS oK
     simp (maxSteps := 4000000) -implicitDefEqProofs only [rv15, rW, h0', h1, WU, Int.reduceAdd, Int.reduceSub, Int.reduceMul, Int.reduceLT, Int.reduceLE, Int.reduceTMod, Int.reduceTDiv, Int.reduceNeg, Int.reduceEq, Nat.reducePow, Int.reducePow, Ent.of0, Ent.of1, Ent.of2, Ent.of3, V, W3, ↓reduceIte, Nat.reduceAdd, Nat.reduceSub, Nat.reduceMul, Nat.reduceEqDiff, Nat.reduceLT, Nat.reduceLeDiff, reduceCtorEq, Int.reduceToNat, Nat.reduceBEq]
   · rw [if_neg h1]
     delta c15 oO oN oA oM oT oG oR oQ oS oK
     simp (maxSteps := 4000000) -implicitDefEqProofs only [rv15, rW, h0', h1, WU, Int.reduceAdd, Int.reduceSub, Int.reduceMul, Int.reduceLT, Int.reduceLE, Int.reduceTMod, Int.reduceTDiv, Int.reduceNeg, Int.reduceEq, Nat.reducePow, Int.reducePow, Ent.of0, Ent.of1, Ent.of2, Ent.of3, V, W3, ↓reduceIte, Nat.reduceAdd, Nat.reduceSub, Nat.reduceMul, Nat.reduceEqDiff, Nat.reduceLT, Nat.reduceLeDiff, reduceCtorEq, Int.reduceToNat, Nat.reduceBEq]
def kM : Ent Tryz.prog := .of1 15 (fun _ => True) (fun l : List Int => enc (ft l)) (fun _ => trivial) (fun l _ => vY l)
theorem vM (l : List Int) (m s : Int) (hs : 0 ≤ s ∧ s ≤ 1000000000) : FC Tryz.prog 86 [enc l, enc m, enc s] [] (enc (gv l m (fe s) 2)) [] := by
 refine dk is86 (by simp) (fun cx hl => dj [] 800 ?_)
 simp only [V, W3, ↓reduceIte, Nat.reduceAdd, Nat.reduceSub, Nat.reduceMul, Nat.reduceEqDiff, Nat.reduceLT, Nat.reduceLeDiff, reduceCtorEq, Int.reduceToNat, Nat.reduceBEq] at hl
 have hlen := hl.list
 unfold gv
 by_cases h0 : l.length = 0
 · have h0' : (l.length : Int) = 0 := by omega
   rw [if_pos h0]
   delta c86 oO oN oA oM oT oG oR oQ oS oK
   simp (maxSteps := 4000000) -implicitDefEqProofs only [rv86, h0', WU, Int.reduceAdd, Int.reduceSub, Int.reduceMul, Int.reduceLT, Int.reduceLE, Int.reduceTMod, Int.reduceTDiv, Int.reduceNeg, Int.reduceEq, Nat.reducePow, Int.reducePow, Ent.of0, Ent.of1, Ent.of2, Ent.of3, V, W3, ↓reduceIte, Nat.reduceAdd, Nat.reduceSub, Nat.reduceMul, Nat.reduceEqDiff, Nat.reduceLT, Nat.reduceLeDiff, reduceCtorEq, Int.reduceToNat, Nat.reduceBEq]
 · have h0' : ¬ (l.length : Int) = 0 := by omega
   rw [if_neg h0]
   by_cases h1 : (l.length : Int) > m
   · rw [if_pos h1]
     delta c86 oO oN oA oM oT oG oR oQ oS oK
     simp (maxSteps := 4000000) -implicitDefEqProofs only [rv86, h0', h1, WU, Int.reduceAdd, Int.reduceSub, Int.reduceMul, Int.reduceLT, Int.reduceLE, Int.reduceTMod, Int.reduceTDiv, Int.reduceNeg, Int.reduceEq, Nat.reducePow, Int.reducePow, Ent.of0, Ent.of1, Ent.of2, Ent.of3, V, W3, ↓reduceIte, Nat.reduceAdd, Nat.reduceSub, Nat.reduceMul, Nat.reduceEqDiff, Nat.reduceLT, Nat.reduceLeDiff, reduceCtorEq, Int.reduceToNat, Nat.reduceBEq]
   · rw [if_neg h1]
     delta c86 oO oN oA oM oT oG oR oQ oS oK
     simp (maxSteps := 4000000) -implicitDefEqProofs only [rv86, h0', h1, WU, Int.reduceAdd, Int.reduceSub, Int.reduceMul, Int.reduceLT, Int.reduceLE, Int.reduceTMod, Int.reduceTDiv, Int.reduceNeg, Int.reduceEq, Nat.reducePow, Int.reducePow, Ent.of0, Ent.of1, Ent.of2, Ent.of3, V, W3, ↓reduceIte, Nat.reduceAdd, Nat.reduceSub, Nat.reduceMul, Nat.reduceEqDiff, Nat.reduceLT, Nat.reduceLeDiff, reduceCtorEq, Int.reduceToNat, Nat.reduceBEq]
     refine dE l.length (fun i => [(7, .s (.int .i64 (i : Int)))]) (fun _ => []) (fun i => l.all (fe s) = (l.drop i).all (fe s)) (by simp) ?_ (fun i hi hv => dj [dJ] 800 ?_)
     · simp (maxSteps := 4000000) -implicitDefEqProofs only [Ent.of0, Ent.of1, Ent.of2, Ent.of3, V, W3, ↓reduceIte, Nat.reduceAdd, Nat.reduceSub, Nat.reduceMul, Nat.reduceEqDiff, Nat.reduceLT, Nat.reduceLeDiff, reduceCtorEq, Int.reduceToNat, Nat.reduceBEq]; simp
     · by_cases h : i < l.length
       · have hi2 : (i : Int) < (l.length : Int) := by omega
         rw [dT 0 h, List.all_cons] at hv
         by_cases hx : -s ≤ l.getD i 0 ∧ l.getD i 0 ≤ s
         · have hB : fe s (l.getD i 0) = true := by simp only [fe, decide_eq_true_eq]; exact hx
           rw [hB, Bool.true_and] at hv
           delta rF oO oN oA oM oT oG oR oQ oS oK
           simp (maxSteps := 4000000) -implicitDefEqProofs only [rv86, dJ, hi2, h, hx, InR, WU, Int.reduceAdd, Int.reduceSub, Int.reduceMul, Int.reduceLT, Int.reduceLE, Int.reduceTMod, Int.reduceTDiv, Int.reduceNeg, Int.reduceEq, Nat.reducePow, Int.reducePow, Ent.of0, Ent.of1, Ent.of2, Ent.of3, V, W3, ↓reduceIte, Nat.reduceAdd, Nat.reduceSub, Nat.reduceMul, Nat.reduceEqDiff, Nat.reduceLT, Nat.reduceLeDiff, reduceCtorEq, Int.reduceToNat, Nat.reduceBEq]
           and_intros <;> first | omega | exact hv
         · have hB : fe s (l.getD i 0) = false := by simp only [fe, decide_eq_false_iff_not]; exact hx
           rw [hB, Bool.false_and] at hv
           delta rF oO oN oA oM oT oG oR oQ oS oK
           simp (maxSteps := 4000000) -implicitDefEqProofs only [rv86, dJ, hi2, h, hx, hv, InR, WU, Int.reduceAdd, Int.reduceSub, Int.reduceMul, Int.reduceLT, Int.reduceLE, Int.reduceTMod, Int.reduceTDiv, Int.reduceNeg, Int.reduceEq, Nat.reducePow, Int.reducePow, Ent.of0, Ent.of1, Ent.of2, Ent.of3, V, W3, ↓reduceIte, Nat.reduceAdd, Nat.reduceSub, Nat.reduceMul, Nat.reduceEqDiff, Nat.reduceLT, Nat.reduceLeDiff, reduceCtorEq, Int.reduceToNat, Nat.reduceBEq]
           try (and_intros <;> omega)
       · have hi2 : ¬ (i : Int) < (l.length : Int) := by omega
         rw [List.drop_eq_nil_of_le (by omega)] at hv
         simp only [List.all_nil] at hv
         delta rF oO oN oA oM oT oG oR oQ oS oK
         simp (maxSteps := 4000000) -implicitDefEqProofs only [rv86, hi2, hv, WU, Int.reduceAdd, Int.reduceSub, Int.reduceMul, Int.reduceLT, Int.reduceLE, Int.reduceTMod, Int.reduceTDiv, Int.reduceNeg, Int.reduceEq, Nat.reducePow, Int.reducePow, Ent.of0, Ent.of1, Ent.of2, Ent.of3, V, W3, ↓reduceIte, Nat.reduceAdd, Nat.reduceSub, Nat.reduceMul, Nat.reduceEqDiff, Nat.reduceLT, Nat.reduceLeDiff, reduceCtorEq, Int.reduceToNat, Nat.reduceBEq]
def ent86 : Ent Tryz.prog := .of3 86 (fun _ _ s => 0 ≤ s ∧ s ≤ 1000000000) (fun (l : List Int) (m s : Int) => enc (gv l m (fe s) 2)) (fun _ _ _ => trivial) (fun l m s h => vM l m s h)
theorem vD (l : List Int) : FC Tryz.prog 37 [enc l] [] (enc (ic l)) [] := by
 refine dk is37 (by simp) (fun cx hl => dj [ent86] 800 ?_)
 unfold ic
 delta c37 oO oN oA oM oT oG oR oQ oS oK
 simp (maxSteps := 4000000) -implicitDefEqProofs only [rv37, ent86, Ent.of0, Ent.of1, Ent.of2, Ent.of3, V, W3, ↓reduceIte, Nat.reduceAdd, Nat.reduceSub, Nat.reduceMul, Nat.reduceEqDiff, Nat.reduceLT, Nat.reduceLeDiff, reduceCtorEq, Int.reduceToNat, Nat.reduceBEq]
 try decide
def ent37 : Ent Tryz.prog := .of1 37 (fun _ => True) (fun l : List Int => enc (ic l)) (fun _ => trivial) (fun l _ => vD l)
theorem RPoly_c (p : Gs) : FC Tryz.prog 93 [enc p] [] (enc (fK p)) [] := by
 obtain ⟨d, t⟩ := p
 refine dk is93 (by simp) (fun cx hl => dj [dJ, i5] 800 ?_)
 by_cases hd : 1 ≤ d ∧ d ≤ 16
 · have hd2 : d ≤ 16 := hd.2
   have hpw : (2 : Int) ^ d.toNat = ((2 ^ d.toNat : Nat) : Int) := by push_cast; rfl
   have hle : 2 ^ d.toNat ≤ 2 ^ 16 := Nat.pow_le_pow_right (by decide) (by omega)
   have hge : 1 ≤ 2 ^ d.toNat := Nat.pow_pos (by decide)
   have hE : fK ⟨d, t⟩ = if 1 ≤ t ∧ t ≤ ((2 ^ d.toNat : Nat) : Int) - 1 then (if t % 2 = 1 then 0 else 3) else 2 := by unfold fK; simp only [hpw]; rw [if_pos hd]
   rw [hE]
   generalize hN : 2 ^ d.toNat = N at *
   by_cases ht : 1 ≤ t ∧ t ≤ (N : Int) - 1
   · have e : t.tmod 2 = t % 2 := Int.tmod_eq_emod_of_nonneg (by omega)
     rw [if_pos ht]
     by_cases hm : t % 2 = 0
     · rw [if_neg (by omega)]
       delta c93 oO oN oA oM oT oG oR oQ oS oK
       simp (maxSteps := 4000000) -implicitDefEqProofs only [rv93, dJ, i5, hd, hd2, hN, ht, e, hm, InR, WU, Int.reduceAdd, Int.reduceSub, Int.reduceMul, Int.reduceLT, Int.reduceLE, Int.reduceTMod, Int.reduceTDiv, Int.reduceNeg, Int.reduceEq, Nat.reducePow, Int.reducePow, Ent.of0, Ent.of1, Ent.of2, Ent.of3, V, W3, ↓reduceIte, Nat.reduceAdd, Nat.reduceSub, Nat.reduceMul, Nat.reduceEqDiff, Nat.reduceLT, Nat.reduceLeDiff, reduceCtorEq, Int.reduceToNat, Nat.reduceBEq]
       try (and_intros <;> omega)
     · rw [if_pos (by omega)]
       delta c93 oO oN oA oM oT oG oR oQ oS oK
       simp (maxSteps := 4000000) -implicitDefEqProofs only [rv93, dJ, i5, hd, hd2, hN, ht, e, hm, InR, WU, Int.reduceAdd, Int.reduceSub, Int.reduceMul, Int.reduceLT, Int.reduceLE, Int.reduceTMod, Int.reduceTDiv, Int.reduceNeg, Int.reduceEq, Nat.reducePow, Int.reducePow, Ent.of0, Ent.of1, Ent.of2, Ent.of3, V, W3, ↓reduceIte, Nat.reduceAdd, Nat.reduceSub, Nat.reduceMul, Nat.reduceEqDiff, Nat.reduceLT, Nat.reduceLeDiff, reduceCtorEq, Int.reduceToNat, Nat.reduceBEq]
       try (and_intros <;> omega)
   · rw [if_neg ht]
     delta c93 oO oN oA oM oT oG oR oQ oS oK
     simp (maxSteps := 4000000) -implicitDefEqProofs only [rv93, dJ, i5, hd, hd2, hN, ht, InR, WU, Int.reduceAdd, Int.reduceSub, Int.reduceMul, Int.reduceLT, Int.reduceLE, Int.reduceTMod, Int.reduceTDiv, Int.reduceNeg, Int.reduceEq, Nat.reducePow, Int.reducePow, Ent.of0, Ent.of1, Ent.of2, Ent.of3, V, W3, ↓reduceIte, Nat.reduceAdd, Nat.reduceSub, Nat.reduceMul, Nat.reduceEqDiff, Nat.reduceLT, Nat.reduceLeDiff, reduceCtorEq, Int.reduceToNat, Nat.reduceBEq]
     try (and_intros <;> omega)
 · have hE : fK ⟨d, t⟩ = 2 := by unfold fK; rw [if_neg hd]
   rw [hE]
   delta c93 oO oN oA oM oT oG oR oQ oS oK
   simp (maxSteps := 4000000) -implicitDefEqProofs only [rv93, dJ, i5, hd, InR, WU, Int.reduceAdd, Int.reduceSub, Int.reduceMul, Int.reduceLT, Int.reduceLE, Int.reduceTMod, Int.reduceTDiv, Int.reduceNeg, Int.reduceEq, Nat.reducePow, Int.reducePow, Ent.of0, Ent.of1, Ent.of2, Ent.of3, V, W3, ↓reduceIte, Nat.reduceAdd, Nat.reduceSub, Nat.reduceMul, Nat.reduceEqDiff, Nat.reduceLT, Nat.reduceLeDiff, reduceCtorEq, Int.reduceToNat, Nat.reduceBEq]
def pm : Ent Tryz.prog := .of1 93 (fun _ => True) (fun p : Gs => enc (fK p)) (fun _ => trivial) (fun p _ => RPoly_c p)
theorem zx (p : Pol) : FC Tryz.prog 94 [enc p] [] (enc (eG p)) [] := by
 obtain ⟨pw, l⟩ := p
 refine dk is94 (by simp) (fun cx hl => dj [dJ] 800 ?_)
 simp only [fJ, V, W3, ↓reduceIte, Nat.reduceAdd, Nat.reduceSub, Nat.reduceMul, Nat.reduceEqDiff, Nat.reduceLT, Nat.reduceLeDiff, reduceCtorEq, Int.reduceToNat, Nat.reduceBEq] at hl
 have hlen := hl.list
 by_cases h0 : 0 ≤ pw ∧ pw ≤ 6
 rotate_left
 · have hr : eG ⟨pw, l⟩ = 2 := by unfold eG; rw [if_pos h0]
   rw [hr]
   delta c94 oO oN oA oM oT oG oR oQ oS oK
   simp (maxSteps := 4000000) -implicitDefEqProofs only [mF, dJ, fJ, h0, WU, Int.reduceAdd, Int.reduceSub, Int.reduceMul, Int.reduceLT, Int.reduceLE, Int.reduceTMod, Int.reduceTDiv, Int.reduceNeg, Int.reduceEq, Nat.reducePow, Int.reducePow, Ent.of0, Ent.of1, Ent.of2, Ent.of3, V, W3, ↓reduceIte, Nat.reduceAdd, Nat.reduceSub, Nat.reduceMul, Nat.reduceEqDiff, Nat.reduceLT, Nat.reduceLeDiff, reduceCtorEq, Int.reduceToNat, Nat.reduceBEq]
 by_cases h1 : l.length = 0
 · have hr : eG ⟨pw, l⟩ = 10 := by unfold eG; simp only; rw [if_neg (fun h => h h0), if_pos h1]
   have h1' : (l.length : Int) = 0 := by omega
   rw [hr]
   delta c94 oO oN oA oM oT oG oR oQ oS oK
   simp (maxSteps := 4000000) -implicitDefEqProofs only [mF, dJ, fJ, h0, h1', WU, Int.reduceAdd, Int.reduceSub, Int.reduceMul, Int.reduceLT, Int.reduceLE, Int.reduceTMod, Int.reduceTDiv, Int.reduceNeg, Int.reduceEq, Nat.reducePow, Int.reducePow, Ent.of0, Ent.of1, Ent.of2, Ent.of3, V, W3, ↓reduceIte, Nat.reduceAdd, Nat.reduceSub, Nat.reduceMul, Nat.reduceEqDiff, Nat.reduceLT, Nat.reduceLeDiff, reduceCtorEq, Int.reduceToNat, Nat.reduceBEq]
 have h1' : ¬ (l.length : Int) = 0 := by omega
 have hpw : (2 : Int) ^ pw.toNat = ((2 ^ pw.toNat : Nat) : Int) := by push_cast; rfl
 have hr : eG ⟨pw, l⟩ = dO ((2 ^ pw.toNat : Nat) : Int) (-1) l := by
  unfold eG
  simp only
  rw [if_neg (fun h => h h0), if_neg h1, hpw]
 rw [hr]
 have h16 : pw ≤ 16 := by omega
 have hle : 2 ^ pw.toNat ≤ 2 ^ 6 := Nat.pow_le_pow_right (by decide) (by omega)
 have hge : 1 ≤ 2 ^ pw.toNat := Nat.pow_pos (by decide)
 generalize hN : 2 ^ pw.toNat = N at *
 delta c94 oO oN oA oM oT oG oR oQ oS oK
 simp (maxSteps := 4000000) -implicitDefEqProofs only [mF, dJ, fJ, h0, h1', WU, Int.reduceAdd, Int.reduceSub, Int.reduceMul, Int.reduceLT, Int.reduceLE, Int.reduceTMod, Int.reduceTDiv, Int.reduceNeg, Int.reduceEq, Nat.reducePow, Int.reducePow, Ent.of0, Ent.of1, Ent.of2, Ent.of3, V, W3, ↓reduceIte, Nat.reduceAdd, Nat.reduceSub, Nat.reduceMul, Nat.reduceEqDiff, Nat.reduceLT, Nat.reduceLeDiff, reduceCtorEq, Int.reduceToNat, Nat.reduceBEq]
 refine dE l.length (fun i => [(3, .s (.int .i64 (i : Int)))]) (fun _ => []) (fun i => dO (N : Int) (-1) l = dO (N : Int) (if i = 0 then -1 else l.getD (i - 1) 0) (l.drop i)) (by simp) ?_ (fun i hi hv => dj [dJ, i5] 800 ?_)
 · simp (maxSteps := 4000000) -implicitDefEqProofs only [Ent.of0, Ent.of1, Ent.of2, Ent.of3, V, W3, ↓reduceIte, Nat.reduceAdd, Nat.reduceSub, Nat.reduceMul, Nat.reduceEqDiff, Nat.reduceLT, Nat.reduceLeDiff, reduceCtorEq, Int.reduceToNat, Nat.reduceBEq]; simp
 · by_cases h : i < l.length
   · have hi2 : (i : Int) < (l.length : Int) := by omega
     rw [dT 0 h, dO] at hv
     have hnext : (if i + 1 = 0 then (-1 : Int) else l.getD (i + 1 - 1) 0) = l.getD i 0 := by rw [if_neg (by omega), Nat.add_sub_cancel]
     by_cases ht : 0 ≤ l.getD i 0 ∧ l.getD i 0 ≤ (N : Int) - 1
     rotate_left
     · rw [if_pos ht] at hv
       delta nN oO oN oA oM oT oG oR oQ oS oK
       simp (maxSteps := 4000000) -implicitDefEqProofs only [mF, dJ, i5, h16, hN, hi2, h, ht, hv, InR, WU, Int.reduceAdd, Int.reduceSub, Int.reduceMul, Int.reduceLT, Int.reduceLE, Int.reduceTMod, Int.reduceTDiv, Int.reduceNeg, Int.reduceEq, Nat.reducePow, Int.reducePow, Ent.of0, Ent.of1, Ent.of2, Ent.of3, V, W3, ↓reduceIte, Nat.reduceAdd, Nat.reduceSub, Nat.reduceMul, Nat.reduceEqDiff, Nat.reduceLT, Nat.reduceLeDiff, reduceCtorEq, Int.reduceToNat, Nat.reduceBEq]
       try (and_intros <;> omega)
     rw [if_neg (fun h => h ht)] at hv
     by_cases hi0 : i = 0
     · subst hi0
       rw [if_pos rfl, if_neg (fun h => h (by omega))] at hv
       have hz : (0 : Int) < (l.length : Int) := by omega
       delta nN oO oN oA oM oT oG oR oQ oS oK
       simp (maxSteps := 4000000) -implicitDefEqProofs only [mF, dJ, i5, h16, hN, hi2, h, ht, hz, InR, WU, Int.reduceAdd, Int.reduceSub, Int.reduceMul, Int.reduceLT, Int.reduceLE, Int.reduceTMod, Int.reduceTDiv, Int.reduceNeg, Int.reduceEq, Nat.reducePow, Int.reducePow, Ent.of0, Ent.of1, Ent.of2, Ent.of3, V, W3, ↓reduceIte, Nat.reduceAdd, Nat.reduceSub, Nat.reduceMul, Nat.reduceEqDiff, Nat.reduceLT, Nat.reduceLeDiff, reduceCtorEq, Int.reduceToNat, Nat.reduceBEq]
       and_intros <;> first | omega | exact hv
     · rw [if_neg hi0] at hv
       have hz : (i : Int) > 0 := by omega
       have hz2 : (i : Int) - 1 = ((i - 1 : Nat) : Int) := by omega
       have hz3 : ((i - 1 : Nat) : Int) < (l.length : Int) := by omega
       have hz4 : i - 1 < l.length := by omega
       by_cases hlt : l.getD (i - 1) 0 < l.getD i 0
       · have hlx : ¬ l.getD i 0 ≤ l.getD (i - 1) 0 := by omega
         rw [if_neg (fun h => h hlt)] at hv
         delta nN oO oN oA oM oT oG oR oQ oS oK
         simp (maxSteps := 4000000) -implicitDefEqProofs only [mF, dJ, i5, h16, hN, hi2, h, ht, hz, hz2, hz3, hz4, hlx, Int.toNat_natCast, InR, WU, Int.reduceAdd, Int.reduceSub, Int.reduceMul, Int.reduceLT, Int.reduceLE, Int.reduceTMod, Int.reduceTDiv, Int.reduceNeg, Int.reduceEq, Nat.reducePow, Int.reducePow, Ent.of0, Ent.of1, Ent.of2, Ent.of3, V, W3, ↓reduceIte, Nat.reduceAdd, Nat.reduceSub, Nat.reduceMul, Nat.reduceEqDiff, Nat.reduceLT, Nat.reduceLeDiff, reduceCtorEq, Int.reduceToNat, Nat.reduceBEq]
         and_intros <;> first | omega | exact hv
       · have hlx : l.getD i 0 ≤ l.getD (i - 1) 0 := by omega
         rw [if_pos hlt] at hv
         delta nN oO oN oA oM oT oG oR oQ oS oK
         simp (maxSteps := 4000000) -implicitDefEqProofs only [mF, dJ, i5, h16, hN, hi2, h, ht, hz, hz2, hz3, hz4, hlx, hv, Int.toNat_natCast, InR, WU, Int.reduceAdd, Int.reduceSub, Int.reduceMul, Int.reduceLT, Int.reduceLE, Int.reduceTMod, Int.reduceTDiv, Int.reduceNeg, Int.reduceEq, Nat.reducePow, Int.reducePow, Ent.of0, Ent.of1, Ent.of2, Ent.of3, V, W3, ↓reduceIte, Nat.reduceAdd, Nat.reduceSub, Nat.reduceMul, Nat.reduceEqDiff, Nat.reduceLT, Nat.reduceLeDiff, reduceCtorEq, Int.reduceToNat, Nat.reduceBEq]
         try (and_intros <;> omega)
   · have hi2 : ¬ (i : Int) < (l.length : Int) := by omega
     rw [List.drop_eq_nil_of_le (by omega), dO] at hv
     delta nN oO oN oA oM oT oG oR oQ oS oK
     simp (maxSteps := 4000000) -implicitDefEqProofs only [mF, hi2, hv, WU, Int.reduceAdd, Int.reduceSub, Int.reduceMul, Int.reduceLT, Int.reduceLE, Int.reduceTMod, Int.reduceTDiv, Int.reduceNeg, Int.reduceEq, Nat.reducePow, Int.reducePow, Ent.of0, Ent.of1, Ent.of2, Ent.of3, V, W3, ↓reduceIte, Nat.reduceAdd, Nat.reduceSub, Nat.reduceMul, Nat.reduceEqDiff, Nat.reduceLT, Nat.reduceLeDiff, reduceCtorEq, Int.reduceToNat, Nat.reduceBEq]
def pC : Ent Tryz.prog := .of1 94 (fun _ => True) (fun p : Pol => enc (eG p)) (fun _ => trivial) (fun p _ => zx p)
theorem zA (c : Chn) : FC Tryz.prog 43 [enc c] [] (enc (fE c)) [] := by
 obtain ⟨⟨d, t⟩, ⟨w, l⟩, n⟩ := c
 refine dk is43 (by simp) (fun cx hl => dj [pm, pC, pM] 800 ?_)
 unfold fE
 simp only
 by_cases h1 : fK ⟨d, t⟩ = 0
 · rw [if_neg (fun h => h h1)]
   by_cases h2 : eG ⟨w, l⟩ = 0
   · rw [if_neg (fun h => h h2)]
     by_cases h3 : d < (l.length : Int)
     · have h3' : ¬ (l.length : Int) ≤ d := by omega
       rw [if_pos h3]
       delta c43 oO oN oA oM oT oG oR oQ oS oK
       simp (maxSteps := 4000000) -implicitDefEqProofs only [rv43, pm, pC, pM, fk, dY, h1, h2, h3', WU, Int.reduceAdd, Int.reduceSub, Int.reduceMul, Int.reduceLT, Int.reduceLE, Int.reduceTMod, Int.reduceTDiv, Int.reduceNeg, Int.reduceEq, Nat.reducePow, Int.reducePow, Ent.of0, Ent.of1, Ent.of2, Ent.of3, V, W3, ↓reduceIte, Nat.reduceAdd, Nat.reduceSub, Nat.reduceMul, Nat.reduceEqDiff, Nat.reduceLT, Nat.reduceLeDiff, reduceCtorEq, Int.reduceToNat, Nat.reduceBEq]
     · have h3' : (l.length : Int) ≤ d := by omega
       rw [if_neg h3]
       delta c43 oO oN oA oM oT oG oR oQ oS oK
       simp (maxSteps := 4000000) -implicitDefEqProofs only [rv43, pm, pC, pM, fk, dY, h1, h2, h3', WU, Int.reduceAdd, Int.reduceSub, Int.reduceMul, Int.reduceLT, Int.reduceLE, Int.reduceTMod, Int.reduceTDiv, Int.reduceNeg, Int.reduceEq, Nat.reducePow, Int.reducePow, Ent.of0, Ent.of1, Ent.of2, Ent.of3, V, W3, ↓reduceIte, Nat.reduceAdd, Nat.reduceSub, Nat.reduceMul, Nat.reduceEqDiff, Nat.reduceLT, Nat.reduceLeDiff, reduceCtorEq, Int.reduceToNat, Nat.reduceBEq]
   · rw [if_pos h2]
     delta c43 oO oN oA oM oT oG oR oQ oS oK
     simp (maxSteps := 4000000) -implicitDefEqProofs only [rv43, pm, pC, pM, fk, dY, h1, h2, WU, Int.reduceAdd, Int.reduceSub, Int.reduceMul, Int.reduceLT, Int.reduceLE, Int.reduceTMod, Int.reduceTDiv, Int.reduceNeg, Int.reduceEq, Nat.reducePow, Int.reducePow, Ent.of0, Ent.of1, Ent.of2, Ent.of3, V, W3, ↓reduceIte, Nat.reduceAdd, Nat.reduceSub, Nat.reduceMul, Nat.reduceEqDiff, Nat.reduceLT, Nat.reduceLeDiff, reduceCtorEq, Int.reduceToNat, Nat.reduceBEq]
 · rw [if_pos h1]
   delta c43 oO oN oA oM oT oG oR oQ oS oK
   simp (maxSteps := 4000000) -implicitDefEqProofs only [rv43, pm, pC, pM, fk, dY, h1, WU, Int.reduceAdd, Int.reduceSub, Int.reduceMul, Int.reduceLT, Int.reduceLE, Int.reduceTMod, Int.reduceTDiv, Int.reduceNeg, Int.reduceEq, Nat.reducePow, Int.reducePow, Ent.of0, Ent.of1, Ent.of2, Ent.of3, V, W3, ↓reduceIte, Nat.reduceAdd, Nat.reduceSub, Nat.reduceMul, Nat.reduceEqDiff, Nat.reduceLT, Nat.reduceLeDiff, reduceCtorEq, Int.reduceToNat, Nat.reduceBEq]
def mz : Ent Tryz.prog := .of1 43 (fun _ => True) (fun c : Chn => enc (fE c)) (fun _ => trivial) (fun c _ => zA c)
theorem uf (p : Pol) (h : p.info.length ≤ 1000000) : FC Tryz.prog 54 [enc p] [] (enc p) [] := by
 obtain ⟨w, l⟩ := p
 simp only at h
 refine dk is54 (by simp) (fun cx hl => dj [nI] 800 ?_)
 delta c54 oO oN oA oM oT oG oR oQ oS oK
 simp (maxSteps := 4000000) -implicitDefEqProofs only [rv54, nI, fJ, h, Ent.of0, Ent.of1, Ent.of2, Ent.of3, V, W3, ↓reduceIte, Nat.reduceAdd, Nat.reduceSub, Nat.reduceMul, Nat.reduceEqDiff, Nat.reduceLT, Nat.reduceLeDiff, reduceCtorEq, Int.reduceToNat, Nat.reduceBEq]
def ent54 : Ent Tryz.prog := .of1 54 (fun p => p.info.length ≤ 1000000) (fun p : Pol => enc p) (fun _ => ⟨trivial, trivial, trivial⟩) (fun p h => uf p h)
theorem ud (c : Chn) (h : c.polar.info.length ≤ 1000000) : FC Tryz.prog 13 [enc c] [] (enc c) [] := by
 obtain ⟨⟨d, t⟩, ⟨w, l⟩, n⟩ := c
 simp only at h
 refine dk is13 (by simp) (fun cx hl => dj [ent54] 800 ?_)
 delta c13 oO oN oA oM oT oG oR oQ oS oK
 simp (maxSteps := 4000000) -implicitDefEqProofs only [rv13, ent54, fk, fJ, dY, h, Ent.of0, Ent.of1, Ent.of2, Ent.of3, V, W3, ↓reduceIte, Nat.reduceAdd, Nat.reduceSub, Nat.reduceMul, Nat.reduceEqDiff, Nat.reduceLT, Nat.reduceLeDiff, reduceCtorEq, Int.reduceToNat, Nat.reduceBEq]
def rZ : Ent Tryz.prog := .of1 13 (fun c => c.polar.info.length ≤ 1000000) (fun c : Chn => enc c) (fun _ => ⟨trivial, trivial, trivial, trivial, trivial, trivial⟩) (fun c h => ud c h)
theorem uv (c : Chn) (l : List Int) : FC Tryz.prog 6 [enc c, enc l] [] (enc (decide (c.polar.info.length ≤ 66 ∧ fE c = 0 ∧ c.count ≤ 80 ∧ ft l = 0 ∧ (l.length : Int) + c.poly.re = (c.polar.info.length : Int)))) [] := by
 obtain ⟨⟨d, t⟩, ⟨w, info⟩, n⟩ := c
 refine dk is6 (by simp) (fun cx hl => dj [mz, kM] 800 ?_)
 simp only [fk, V, W3, ↓reduceIte, Nat.reduceAdd, Nat.reduceSub, Nat.reduceMul, Nat.reduceEqDiff, Nat.reduceLT, Nat.reduceLeDiff, reduceCtorEq, Int.reduceToNat, Nat.reduceBEq] at hl
 simp only
 by_cases h1 : info.length ≤ 66
 · have h1' : (info.length : Int) ≤ 66 := by omega
   by_cases h2 : fE ⟨⟨d, t⟩, ⟨w, info⟩, n⟩ = 0
   · by_cases h3 : n ≤ 80
     · by_cases h4 : ft l = 0
       · have := (oW h4).2.1
         have hd := (jL h2).poly.deg
         simp only at hd
         by_cases h5 : (l.length : Int) + d = (info.length : Int)
         · delta c6 oO oN oA oM oT oG oR oQ oS oK
           simp (maxSteps := 4000000) -implicitDefEqProofs only [rv6, mz, kM, fk, ea, h1', h1, h2, h3, h4, h5, InR, WU, Int.reduceAdd, Int.reduceSub, Int.reduceMul, Int.reduceLT, Int.reduceLE, Int.reduceTMod, Int.reduceTDiv, Int.reduceNeg, Int.reduceEq, Nat.reducePow, Int.reducePow, Ent.of0, Ent.of1, Ent.of2, Ent.of3, V, W3, ↓reduceIte, Nat.reduceAdd, Nat.reduceSub, Nat.reduceMul, Nat.reduceEqDiff, Nat.reduceLT, Nat.reduceLeDiff, reduceCtorEq, Int.reduceToNat, Nat.reduceBEq]
           try (and_intros <;> omega)
         · delta c6 oO oN oA oM oT oG oR oQ oS oK
           simp (maxSteps := 4000000) -implicitDefEqProofs only [rv6, mz, kM, fk, ea, h1', h1, h2, h3, h4, h5, InR, WU, Int.reduceAdd, Int.reduceSub, Int.reduceMul, Int.reduceLT, Int.reduceLE, Int.reduceTMod, Int.reduceTDiv, Int.reduceNeg, Int.reduceEq, Nat.reducePow, Int.reducePow, Ent.of0, Ent.of1, Ent.of2, Ent.of3, V, W3, ↓reduceIte, Nat.reduceAdd, Nat.reduceSub, Nat.reduceMul, Nat.reduceEqDiff, Nat.reduceLT, Nat.reduceLeDiff, reduceCtorEq, Int.reduceToNat, Nat.reduceBEq]
           try (and_intros <;> omega)
       · delta c6 oO oN oA oM oT oG oR oQ oS oK
         simp (maxSteps := 4000000) -implicitDefEqProofs only [rv6, mz, kM, fk, ea, h1', h1, h2, h3, h4, InR, WU, Int.reduceAdd, Int.reduceSub, Int.reduceMul, Int.reduceLT, Int.reduceLE, Int.reduceTMod, Int.reduceTDiv, Int.reduceNeg, Int.reduceEq, Nat.reducePow, Int.reducePow, Ent.of0, Ent.of1, Ent.of2, Ent.of3, V, W3, ↓reduceIte, Nat.reduceAdd, Nat.reduceSub, Nat.reduceMul, Nat.reduceEqDiff, Nat.reduceLT, Nat.reduceLeDiff, reduceCtorEq, Int.reduceToNat, Nat.reduceBEq]
     · delta c6 oO oN oA oM oT oG oR oQ oS oK
       simp (maxSteps := 4000000) -implicitDefEqProofs only [rv6, mz, kM, fk, ea, h1', h1, h2, h3, InR, WU, Int.reduceAdd, Int.reduceSub, Int.reduceMul, Int.reduceLT, Int.reduceLE, Int.reduceTMod, Int.reduceTDiv, Int.reduceNeg, Int.reduceEq, Nat.reducePow, Int.reducePow, Ent.of0, Ent.of1, Ent.of2, Ent.of3, V, W3, ↓reduceIte, Nat.reduceAdd, Nat.reduceSub, Nat.reduceMul, Nat.reduceEqDiff, Nat.reduceLT, Nat.reduceLeDiff, reduceCtorEq, Int.reduceToNat, Nat.reduceBEq]
   · delta c6 oO oN oA oM oT oG oR oQ oS oK
     simp (maxSteps := 4000000) -implicitDefEqProofs only [rv6, mz, kM, fk, ea, h1', h1, h2, InR, WU, Int.reduceAdd, Int.reduceSub, Int.reduceMul, Int.reduceLT, Int.reduceLE, Int.reduceTMod, Int.reduceTDiv, Int.reduceNeg, Int.reduceEq, Nat.reducePow, Int.reducePow, Ent.of0, Ent.of1, Ent.of2, Ent.of3, V, W3, ↓reduceIte, Nat.reduceAdd, Nat.reduceSub, Nat.reduceMul, Nat.reduceEqDiff, Nat.reduceLT, Nat.reduceLeDiff, reduceCtorEq, Int.reduceToNat, Nat.reduceBEq]
 · have h1' : ¬ (info.length : Int) ≤ 66 := by omega
   delta c6 oO oN oA oM oT oG oR oQ oS oK
   simp (maxSteps := 4000000) -implicitDefEqProofs only [rv6, mz, kM, fk, ea, h1', h1, InR, WU, Int.reduceAdd, Int.reduceSub, Int.reduceMul, Int.reduceLT, Int.reduceLE, Int.reduceTMod, Int.reduceTDiv, Int.reduceNeg, Int.reduceEq, Nat.reducePow, Int.reducePow, Ent.of0, Ent.of1, Ent.of2, Ent.of3, V, W3, ↓reduceIte, Nat.reduceAdd, Nat.reduceSub, Nat.reduceMul, Nat.reduceEqDiff, Nat.reduceLT, Nat.reduceLeDiff, reduceCtorEq, Int.reduceToNat, Nat.reduceBEq]
def jO : Ent Tryz.prog := .of2 6 (fun _ _ => True) (fun (c : Chn) (l : List Int) => enc (decide (c.polar.info.length ≤ 66 ∧ fE c = 0 ∧ c.count ≤ 80 ∧ ft l = 0 ∧ (l.length : Int) + c.poly.re = (c.polar.info.length : Int)))) (fun _ _ => trivial) (fun c l _ => uv c l)
end Go.Proofs.YteoobfmbipmibaaGreat
end
section
open Go Go.Am
open Go.Am.Dat (cells)
namespace Go.Proofs.YteoobfmbipmibaaGreat
set_option maxHeartbeats 1000000
theorem lf {n : Nat} {info bits : List Int} {q : Nat} : ∀ m, (∀ i, i < m → (info.getD i 0).toNat ≠ q) → (ed n info bits m).getD q 0 = 0
 | 0, _ => by
  rw [ed, List.getD_eq_getElem?_getD, List.getElem?_replicate]; split <;> rfl
 | m + 1, h => by
  rw [ed]
  by_cases hl : (info.getD m 0).toNat < (ed n info bits m).length
  · rw [eZ hl, if_neg (fun e => h m (by omega) e.symm)]
    exact lf m (fun i hi => h i (by omega))
  · rw [List.set_eq_of_length_le (by omega)]
    exact lf m (fun i hi => h i (by omega))
theorem qo {n : Nat} {info bits : List Int} : ∀ m, (∀ i, i < m → (info.getD i 0).toNat < n) → (∀ i j, i < j → j < m → (info.getD i 0).toNat ≠ (info.getD j 0).toNat) → ∀ i, i < m → (ed n info bits m).getD (info.getD i 0).toNat 0 = bits.getD i 0
 | 0, _, _, i, h => absurd h (by omega)
 | m + 1, hr, hd, i, h => by
  rw [ed, eZ (by rw [iU]; exact hr m (by omega))]
  by_cases hi : i = m
  · subst hi; rw [if_pos rfl]
  · rw [if_neg (hd i m (by omega) (by omega))]
    exact qo m (fun j hj => hr j (by omega)) (fun a b hab hb => hd a b hab (by omega)) i (by omega)
theorem pw_getD {l : List Int} (hs : l.Pairwise (· < ·)) {i j : Nat} (h : i < j) (hj : j < l.length) : l.getD i 0 < l.getD j 0 := by
 rw [List.getD_eq_getElem?_getD, List.getD_eq_getElem?_getD, List.getElem?_eq_getElem (by omega), List.getElem?_eq_getElem hj]
 exact List.pairwise_iff_getElem.1 hs i j (by omega) hj h
theorem mu {l : List Int} {i : Nat} (h : i < l.length) : l.getD i 0 ∈ l := by
 rw [List.getD_eq_getElem?_getD, List.getElem?_eq_getElem h]; exact List.getElem_mem h
theorem vg {l : List Int} {x : Int} (h : x ∈ l) : ∃ i, i < l.length ∧ l.getD i 0 = x := by
 obtain ⟨i, hi, rfl⟩ := List.mem_iff_getElem.1 h
 exact ⟨i, hi, by rw [List.getD_eq_getElem?_getD, List.getElem?_eq_getElem hi]; rfl⟩
theorem dec_ok {p : Pol} (hp : PolOk p) {bits s : List Int} (hb : jX bits) (hl : bits.length = p.info.length) (hs : s.length = 2 ^ p.power.toNat)
 (hg : ∀ i, i < 2 ^ p.power.toNat → fc ((nr p bits).getD i 0) (s.getD i 0)) : gN p s = bits := by
 have hrng : ∀ i, i < p.info.length → 0 ≤ p.info.getD i 0 ∧ (p.info.getD i 0).toNat < 2 ^ p.power.toNat := fun i hi => by
  have := hp.rng _ (mu hi)
  have e : (2 : Int) ^ p.power.toNat = ((2 ^ p.power.toNat : Nat) : Int) := by push_cast; rfl
  rw [e] at this
  omega
 have hdis : ∀ i j, i < j → j < p.info.length → (p.info.getD i 0).toNat ≠ (p.info.getD j 0).toNat := fun i j h hj => by
  have h1 := pw_getD hp.inc h hj
  have h2 := hrng i (by omega)
  have h3 := hrng j hj
  omega
 have hu := tN (isI p) p.power.toNat 0 (ed (2 ^ p.power.toNat) p.info bits p.info.length) s (iU _ _ _ _) hs (jI hb _) (fun i hi hn => by
  refine lf _ (fun k hk e => ?_)
  have h1 := hrng k hk
  unfold isI inB at hn
  rw [decide_eq_false_iff_not] at hn
  refine hn ?_
  have e2 : ((0 + i : Nat) : Int) = p.info.getD k 0 := by omega
  rw [e2]
  exact mu hk) hg
 unfold gN
 rw [hu]
 refine pc (by simp [hl]) (fun i hi => ?_)
 rw [List.length_map] at hi
 have e : (p.info.map fun t => (ed (2 ^ p.power.toNat) p.info bits p.info.length).getD t.toNat 0).getD i 0 = (ed (2 ^ p.power.toNat) p.info bits p.info.length).getD (p.info.getD i 0).toNat 0 := by
  rw [List.getD_eq_getElem?_getD, List.getElem?_map, List.getElem?_eq_getElem hi, List.getD_eq_getElem?_getD (l := p.info), List.getElem?_eq_getElem hi]; rfl
 rw [e]
 exact qo _ (fun j hj => (hrng j hj).2) hdis i hi
theorem sgn_add {x a b : Int} (h : fc x a) (hb : b = 0 ∨ fc x b) : fc x (b + a) := by
 unfold fc at *; omega
theorem tT {L v : Nat} {soft word : List Int} (hL : 0 < L) : ∀ m, (∀ i, i < m → fc (word.getD (er L v i) 0) (soft.getD i 0)) → ∀ q, q < L →
 ((∀ i, i < m → er L v i ≠ q) ∧ (dX L v soft m).getD q 0 = 0) ∨ fc (word.getD q 0) ((dX L v soft m).getD q 0)
 | 0, _, q, hq => .inl ⟨fun i h => absurd h (by omega), by rw [dX, List.getD_eq_getElem?_getD, List.getElem?_replicate]; split <;> rfl⟩
 | m + 1, h, q, hq => by
  have ih := tT hL m (fun i hi => h i (by omega)) q hq
  rw [dX, eZ (by rw [jT]; exact ly hL)]
  by_cases e : q = er L v m
  · rw [if_pos e]
    subst e
    right
    refine sgn_add (h m (by omega)) ?_
    rcases ih with ih | ih
    · exact .inl ih.2
    · exact .inr ih
  · rw [if_neg e]
    rcases ih with ih | ih
    · refine .inl ⟨fun i hi he => ?_, ih.2⟩
      by_cases h2 : i = m
      · subst h2; exact e he.symm
      · exact ih.1 i (by omega) he
    · exact .inr ih
theorem wC {L v q : Nat} (hq : q < L) : ∃ i, i < L ∧ er L v i = q := by
 have hL : 0 < L := by omega
 unfold er
 generalize v * L / 4 = A
 have hA := Nat.mod_lt A hL
 have hd := Nat.div_add_mod A L
 by_cases h : A % L ≤ q
 · refine ⟨q - A % L, by omega, ?_⟩
   have e : A + (q - A % L) = q + L * (A / L) := by omega
   rw [e, Nat.add_mul_mod_self_left, Nat.mod_eq_of_lt hq]
 · refine ⟨q + L - A % L, by omega, ?_⟩
   have e : A + (q + L - A % L) = q + L * (A / L + 1) := by rw [Nat.mul_add]; omega
   rw [e, Nat.add_mul_mod_self_left, Nat.mod_eq_of_lt hq]
theorem yX {L v N : Nat} {soft word : List Int} (hL : 0 < L) (hN : L ≤ N) (h : ∀ i, i < N → fc (word.getD (er L v i) 0) (soft.getD i 0)) : ∀ q, q < L → fc (word.getD q 0) ((dX L v soft N).getD q 0) := fun q hq => by
 rcases tT hL N h q hq with g | g
 · obtain ⟨i, hi, he⟩ := wC (v := v) hq
   exact absurd he (g.1 i (by omega))
 · exact g
theorem ry (d t : Nat) (l : List Int) : iS d t (l ++ jd d t l) = true := by
 unfold iS
 have e : (l ++ jd d t l).length - d = l.length := by rw [List.length_append, nL]; omega
 rw [e, List.take_left, List.drop_left]
 exact decide_eq_true rfl
theorem mD {l : List Int} {m e : Int} {p : Int → Bool} (h0 : 0 < l.length) (h1 : (l.length : Int) ≤ m) (h : ∀ i, i < l.length → p (l.getD i 0) = true) : gv l m p e = 0 := by
 unfold gv
 rw [if_neg (by omega), if_neg (by omega), if_pos]
 refine List.all_eq_true.2 (fun x hx => ?_)
 obtain ⟨i, hi, rfl⟩ := vg hx
 exact h i hi
theorem back_ok {c : Chn} (hc : ChnOk c) {l own : List Int} {v : Nat} (hlb : ∀ x ∈ l, x = 0 ∨ x = 1) (hl : (l.length : Int) + c.poly.re = (c.polar.info.length : Int))
 (hn : own.length = c.count.toNat) (hN : 2 ^ c.polar.power.toNat ≤ c.count.toNat)
 (hs : ∀ i, i < c.count.toNat → fc ((jE c l v).getD i 0) (own.getD i 0)) (hB : leB 1000 own) :
 hZ own = 0 ∧ ic (dX (2 ^ c.polar.power.toNat) v own own.length) = 0 ∧ gN c.polar (dX (2 ^ c.polar.power.toNat) v own own.length) = fY c l ∧
 iS c.poly.re.toNat c.poly.im.toNat (gN c.polar (dX (2 ^ c.polar.power.toNat) v own own.length)) = true ∧ recC c (dX (2 ^ c.polar.power.toNat) v own own.length) = l := by
 have hpos : 0 < 2 ^ c.polar.power.toNat := Nat.pow_pos (by decide)
 have hle : 2 ^ c.polar.power.toNat ≤ 2 ^ 6 := Nat.pow_le_pow_right (by decide) (by have := hc.polar.pow; omega)
 have hwl := tj c.polar (fY c l)
 have hcnt := hc.count
 have hd := hc.poly.deg
 have hsg : ∀ i, i < own.length → fc ((wordS c l).getD (er (2 ^ c.polar.power.toNat) v i) 0) (own.getD i 0) := fun i hi => by
  have := hs i (by omega)
  rw [jE, f0, List.getD_eq_getElem?_getD, List.getElem?_map, List.getElem?_range (by omega)] at this
  have e : (wordS c l).length = 2 ^ c.polar.power.toNat := hwl
  rw [e] at this
  exact this
 have hga := yX (v := v) hpos (by omega) hsg
 have hgl := jT (2 ^ c.polar.power.toNat) v own own.length
 have hgb := qp (v := v) hB hpos own.length
 have hdec : gN c.polar (dX (2 ^ c.polar.power.toNat) v own own.length) = fY c l := by
  refine dec_ok hc.polar (oZ (k5 hlb)) ?_ hgl hga
  have := oh c l
  omega
 refine ⟨mD (by omega) (by omega) (fun i hi => ?_), mD (by omega) (by omega) (fun i hi => ?_), hdec, ?_, ?_⟩
 · have := hB i
   simp only [fe, decide_eq_true_eq]
   omega
 · have := hgb i
   have h4 : (own.length : Int) ≤ 400 := by omega
   simp only [fe, decide_eq_true_eq]
   have : ((own.length : Int) * 1000) ≤ 400000 := by omega
   omega
 · rw [hdec]; exact ry _ _ _
 · unfold recC
   rw [hdec, fY]
   have e : c.polar.info.length - c.poly.re.toNat = l.length := by omega
   rw [e, List.take_left]
end Go.Proofs.YteoobfmbipmibaaGreat
end
section
open Go Go.Am
open Go.Am.Dat (cells)
namespace Go.Proofs.YteoobfmbipmibaaGreat
set_option maxHeartbeats 1000000
structure Lnk where
 chain : Chn
 version : Int
 reg : Reg
 order : Int
 matrix : List (List Gs)
 errs : List Gs
instance : DatL Lnk where
 sz := 12
 agg := true
 cells g := [.s (.int .i64 g.chain.poly.re), .s (.int .i64 g.chain.poly.im), .s (.int .i64 g.chain.polar.power), .sl 1 (g.chain.polar.info.map cells), .s (.int .i64 g.chain.count), .s (.int .i64 g.version), .s (.int .i64 g.reg.length), .sl 1 (g.reg.taps.map cells), .sl 1 (g.reg.state.map cells), .s (.int .i64 g.order), .sl 1 (g.matrix.map cells), .sl 2 (g.errs.map cells)]
 dec | [.s (.int .i64 a), .s (.int .i64 b), .s (.int .i64 c), .sl 1 t, .s (.int .i64 n), .s (.int .i64 v), .s (.int .i64 rl), .sl 1 rt, .sl 1 rs, .s (.int .i64 o), .sl 1 m, .sl 2 e] => (eo t).bind fun t' => (eo rt).bind fun rt' => (eo rs).bind fun rs' => (eo m).bind fun m' => (eo e).map fun e' => ⟨⟨⟨a, b⟩, ⟨c, t'⟩, n⟩, v, ⟨rl, rt', rs'⟩, o, m', e'⟩ | _ => none
 ok := by
  intro l a h
  split at h
  · simp only [Option.bind_eq_some_iff, Option.map_eq_some_iff] at h
    obtain ⟨t', h1, rt', h2, rs', h3, m', h4, e', h5, rfl⟩ := h
    rw [dV h1, dV h2, dV h3, dV h4, dV h5]
  · cases h
 data := fun a => rfl
 one := fun h => by cases h
 dec_cells := fun a => by simp [g0]
theorem gh (g : Lnk) : enc g = .agg [.s (.int .i64 g.chain.poly.re), .s (.int .i64 g.chain.poly.im), .s (.int .i64 g.chain.polar.power), .sl 1 (g.chain.polar.info.map cells), .s (.int .i64 g.chain.count), .s (.int .i64 g.version), .s (.int .i64 g.reg.length), .sl 1 (g.reg.taps.map cells), .sl 1 (g.reg.state.map cells), .s (.int .i64 g.order), .sl 1 (g.matrix.map cells), .sl 2 (g.errs.map cells)] := rfl
def gsc (G : Int) (g : Gs) : Gs := ⟨G * g.re, G * g.im⟩
theorem vq {l : List (List Gs)} {G : Int} (hl : dG l = 0) (hs : ∀ x ∈ (l.map fun r => r.map (gsc G)), ∀ g ∈ x, dw g 100000000 = true) : dG (l.map fun r => r.map (gsc G)) = 0 := by
 obtain ⟨l1, l2, l3⟩ := jv hl
 have h0 : ((l.map fun r => r.map (gsc G)).getD 0 []).length = (l.getD 0 []).length := by
  rw [e6 _ _ _ [] _ l1, List.length_map]
 unfold dG
 rw [List.length_map, if_neg (by omega), if_neg (by omega)]
 refine mJ fun e he => ?_
 obtain ⟨r, hr, rfl⟩ := List.mem_map.1 he
 obtain ⟨x, hx, rfl⟩ := List.mem_map.1 hr
 obtain ⟨q1, q2, q3, _⟩ := l3 x hx
 have hsy : d8 (x.map (gsc G)) = 0 := by
  unfold d8
  rw [List.length_map, if_neg (by omega), if_neg (by omega), if_pos (List.all_eq_true.2 (hs _ hr))]
 rw [if_neg (fun h => h hsy), h0, List.length_map, q1, if_neg (fun h => h rfl)]
theorem pG {l : List (List Gs)} {G : Int} {n : Nat} (h : ∀ r ∈ l, n ≤ r.length) : ∀ i, i ≤ n → ge (l.map fun r => r.map (gsc G)) i = (ge l i).map (gsc G)
 | 0, _ => by simp [ge]
 | i + 1, hi => by
  rw [kv, kv, List.map_append, pG h i (by omega)]
  congr 1
  rw [gp, gp, List.map_map, List.map_map]
  refine List.map_congr_left fun r hr => ?_
  have := h r hr
  show (r.map (gsc G)).getD i ⟨0, 0⟩ = gsc G (r.getD i ⟨0, 0⟩)
  exact e6 (gsc G) r i ⟨0, 0⟩ ⟨0, 0⟩ (by omega)
structure LnkOk (x : Lnk) (l : List Int) : Prop where
 chain : fE x.chain = 0
 cle : x.chain.count ≤ 80
 bits : ft l = 0
 len : (l.length : Int) + x.chain.poly.re = (x.chain.polar.info.length : Int)
 cnt : ((2 ^ x.chain.polar.power.toNat : Nat) : Int) ≤ x.chain.count
 ver : 0 ≤ x.version ∧ x.version ≤ 3
 reg : eA x.reg = 0
 ord : x.order = 2 ∨ x.order = 4 ∨ x.order = 6
 mat : dI x.matrix = 0
 mle : x.matrix.length ≤ 2
 sq : x.matrix.length = (x.matrix.getD 0 []).length
 div : x.chain.count.toNat % (x.order.toNat * x.matrix.length) = 0
def iq (x : Lnk) (l : List Int) : List Int := jE x.chain l x.version.toNat
def fq (x : Lnk) (l : List Int) : List Int := kw x.reg (iq x l)
def eU (x : Lnk) (l : List Int) : List Gs := fB x.order.toNat (fq x l) (x.chain.count.toNat / x.order.toNat)
def eR (x : Lnk) (l : List Int) : List (List Gs) := eQ x.matrix.length (eU x l) (eU x l).length
theorem vr {c : Chn} {l : List Int} (hlb : ∀ x ∈ l, x = 0 ∨ x = 1) (v : Nat) : ∀ x ∈ jE c l v, x = 0 ∨ x = 1 := fun x hx => by
 unfold jE f0 at hx
 obtain ⟨i, _, rfl⟩ := List.mem_map.1 hx
 exact kl _ _ (jI (oZ (k5 hlb)) _) _
structure LnkA (x : Lnk) (l : List Int) (N c P k : Nat) : Prop where
 hN : x.chain.count = (N : Int)
 hN0 : 0 < N ∧ N ≤ 80
 hc : c = 1 ∨ c = 2 ∨ c = 3
 ho : x.order = ((2 * c : Nat) : Int)
 hk : x.matrix.length = k
 hk2 : k = 1 ∨ k = 2
 hP : N = P * (2 * c)
 hP0 : 0 < P ∧ P ≤ 40
 hPk : P % k = 0
 chn : ChnOk x.chain
 lb : ∀ b ∈ l, b = 0 ∨ b = 1
 lle : 0 < l.length ∧ l.length ≤ 200
 reg : RegOk x.reg
 info : x.chain.polar.info.length ≤ 66 → x.chain.polar.info.length ≤ 66
 s1 : ft (iq x l) = 0
 s2 : (iq x l).length = N
 s3 : ∀ b ∈ iq x l, b = 0 ∨ b = 1
 m1 : eb (fq x l) = 0
 m2 : (fq x l).length = N
 m3 : ia x.reg (iq x l) = 0
 m4 : eg (fq x l)
 p0 : eU x l = fB (2 * c) (fq x l) P
 p1 : gz x.order (fq x l) = 0
 p2 : (eU x l).length = P
 p3 : d8 (eU x l) = 0
 y1 : iv (k : Int) (eU x l) = 0
 y2 : dG (eR x l) = 0
 y3 : (eR x l).length = k
 y4 : gi (eR x l)
 y5 : ge (eR x l) ((eR x l).getD 0 []).length = eU x l
theorem LnkOk.factsA {x : Lnk} {l : List Int} (h : LnkOk x l) : ∃ N c P k, LnkA x l N c P k := by
 have hch := jL h.chain
 have hcnt := hch.count
 obtain ⟨b1, b2, b3⟩ := oW h.bits
 obtain ⟨N, hN⟩ : ∃ N : Nat, x.chain.count = (N : Int) := ⟨x.chain.count.toNat, by omega⟩
 obtain ⟨c, hc, ho⟩ : ∃ c : Nat, (c = 1 ∨ c = 2 ∨ c = 3) ∧ x.order = ((2 * c : Nat) : Int) := by
  rcases h.ord with q | q | q
  · exact ⟨1, by omega, by omega⟩
  · exact ⟨2, by omega, by omega⟩
  · exact ⟨3, by omega, by omega⟩
 have hr := i7 h.mat
 obtain ⟨k, hk⟩ : ∃ k, x.matrix.length = k := ⟨_, rfl⟩
 have hk2 : k = 1 ∨ k = 2 := by have := hr.pos; have := h.mle; omega
 have hNt : x.chain.count.toNat = N := by omega
 have hot : x.order.toNat = 2 * c := by omega
 have hle := h.cle
 have hdv := h.div
 rw [hNt, hot, hk] at hdv
 obtain ⟨P, hPd⟩ : ∃ P, N / (2 * c) = P := ⟨_, rfl⟩
 have hdv2 : N % (2 * c) = 0 := by
  have := Nat.mod_mul_right_mod N (2 * c) k
  rw [hdv] at this; simpa using this.symm
 have hP : N = P * (2 * c) := by rw [← hPd]; exact (Nat.div_mul_cancel (Nat.dvd_of_mod_eq_zero hdv2)).symm
 have hPk : P % k = 0 := by
  rw [hP, Nat.mul_comm P, Nat.mul_mod_mul_left] at hdv
  rcases Nat.mul_eq_zero.1 hdv with q | q
  · omega
  · exact q
 have hP0 : 0 < P := by rcases Nat.eq_zero_or_pos P with e | e; (rw [e, Nat.zero_mul] at hP; omega); exact e
 have hP40 : P ≤ 40 := by
  have : P * 2 ≤ P * (2 * c) := Nat.mul_le_mul_left _ (by omega)
  omega
 have hreg := lh h.reg
 have s2 : (iq x l).length = N := by rw [iq, jE, mM, hNt]
 have s3 : ∀ b ∈ iq x l, b = 0 ∨ b = 1 := vr b3 _
 have s1 : ft (iq x l) = 0 := mD (by omega) (by omega) (fun i hi => by
  simp only [gq, decide_eq_true_eq]; exact s3 _ (mu hi))
 have m2 : (fq x l).length = N := by rw [fq, yu, s2]
 have m4 : eg (fq x l) := wJ _ _
 have m1 : eb (fq x l) = 0 := pv (by omega) (by omega) m4
 have m3 : ia x.reg (iq x l) = 0 := by
  unfold ia
  rw [if_neg (fun q => q h.reg)]
  exact pv (by omega) (by omega) s3
 have p0 : eU x l = fB (2 * c) (fq x l) P := by rw [eU, hot, hNt, hPd]
 have p2 : (eU x l).length = P := by rw [p0, lM]
 have p1 : gz x.order (fq x l) = 0 := by
  unfold gz
  have q : eu x.order = 0 := by unfold eu; rw [if_pos (by omega)]
  rw [if_neg (fun g => g q), if_neg (fun g => g m1), if_neg]
  intro g; apply g; rw [m2, ho]; omega
 have hp := fun j hj => pt7 (j := j) hc (m2.trans hP) m4 hj
 have hsm : ∀ i, i < (eU x l).length → dw ((eU x l).getD i ⟨0, 0⟩) 100000000 = true := fun i hi => by
  rw [p0]
  have := hp i (by omega)
  simp only [dw, Bool.and_eq_true, decide_eq_true_eq]; omega
 have p3 : d8 (eU x l) = 0 := wu (by omega) (by omega) (fun i hi => by
  rw [p0]; have := hp i (by omega); omega)
 have y1 : iv (k : Int) (eU x l) = 0 := by
  unfold iv
  have q : (k : Int).toNat = k := Int.toNat_natCast k
  rw [if_pos (by omega), q, p2, if_neg (by omega), if_neg (by have := Nat.div_le_self P k; omega), if_pos]
  refine List.all_eq_true.2 (fun g hg => ?_)
  obtain ⟨i, hi, rfl⟩ := List.getElem_of_mem hg
  have := hsm i hi
  rwa [List.getD_eq_getElem?_getD, List.getElem?_eq_getElem hi] at this
 obtain ⟨z1, z2, z3⟩ := xw y1 (by omega)
 rw [Int.toNat_natCast, ← hk] at z1 z2 z3
 exact ⟨N, c, P, k, ⟨hN, by omega, hc, ho, hk, hk2, hP, by omega, hPk, hch, b3, by omega, hreg, id, s1, s2, s3, m1, m2, m3, m4, p0, p1, p2, p3, y1, z1, by rw [eR, gE, hk], z2, z3⟩⟩
theorem LnkOk.apE {x : Lnk} {l : List Int} (h : LnkOk x l) {N c P k : Nat} (f : LnkA x l N c P k) : gf x.matrix (eR x l) = 0 ∨ gf x.matrix (eR x l) = 8 := by
 unfold gf
 rw [if_neg (fun q => q h.mat), if_neg (fun q => q f.y2)]
 unfold g9
 rw [if_neg (fun q => q (by rw [← h.sq, f.y3, f.hk]))]
 split
 · exact .inr rfl
 · exact .inl rfl
structure LnkB (x : Lnk) (l : List Int) (P k : Nat) : Prop where
 a1 : j6 x.matrix (eR x l) = dA x.matrix (eR x l)
 a2 : dG (dA x.matrix (eR x l)) = 0
 a3 : gi (dA x.matrix (eR x l))
 a4 : eqE x.matrix (dA x.matrix (eR x l)) = 0 ∨ eqE x.matrix (dA x.matrix (eR x l)) = 27 ∨ eqE x.matrix (dA x.matrix (eR x l)) = 8
theorem LnkOk.factsB {x : Lnk} {l : List Int} (h : LnkOk x l) {N c P k : Nat} (f : LnkA x l N c P k) (ha : gf x.matrix (eR x l) = 0) : LnkB x l P k := by
 have hr := i7 h.mat
 have hp : g9 x.matrix (eR x l) 100000000 = 0 := by
  unfold gf at ha
  rwa [if_neg (fun q => q h.mat), if_neg (fun q => q f.y2)] at ha
 obtain ⟨p1, p2⟩ := zr hp
 have hl := yd hr f.y2 p2
 obtain ⟨l1, l2, l3⟩ := jv f.y2
 have l0 := l3 _ (dD [] l1)
 refine ⟨by unfold j6; rw [if_pos ha], hl, sM (by have := hr.le; omega) (by omega), ?_⟩
 have hd : eC x.matrix = 0 := by
  unfold eC
  rw [if_neg (fun q => q h.mat)]
  unfold kW
  rw [if_neg (fun q => q h.sq), if_neg (by have := h.mle; omega)]
 have he : lz x.matrix (dA x.matrix (eR x l)) = if dt x.matrix = ⟨0, 0⟩ then 27 else 0 := by
  unfold lz
  simp only [dl]
  rw [hd, hl, if_pos (ld _ _)]
  simp
 unfold eqE
 rw [he]
 by_cases hs : dt x.matrix = ⟨0, 0⟩
 · rw [if_pos hs]; exact .inr (.inl rfl)
 · rw [if_neg hs, if_neg (fun q => q rfl)]
   split
   · exact .inr (.inr rfl)
   · split
     · exact .inl rfl
     · exact .inr (.inr rfl)
structure LnkC (x : Lnk) (l : List Int) (P k : Nat) (G : Int) (back : List (List Gs)) : Prop where
 g1 : 1 ≤ G ∧ G ≤ 10000000
 b1 : dG back = 0
 b2 : gi back
 b3 : back.length = k
 b4 : ge back (back.getD 0 []).length = (eU x l).map (gsc G)
 b5 : ∀ g ∈ (eU x l).map (gsc G), dw g 100000000 = true
theorem LnkOk.factsC {x : Lnk} {l : List Int} (h : LnkOk x l) {N c P k : Nat} (f : LnkA x l N c P k) (ha : gf x.matrix (eR x l) = 0) (he : eqE x.matrix (dA x.matrix (eR x l)) = 0) :
 LnkC x l P k (gA x.matrix) (i3 x.matrix (dA x.matrix (eR x l))) := by
 obtain ⟨g1, g2, g3⟩ := vB f.y2 he (by rw [← h.sq, f.y3, f.hk])
 have hs := uz he
 generalize hG : gA x.matrix = G at *
 have g3 : i3 x.matrix (dA x.matrix (eR x l)) = (eR x l).map fun r => r.map (gsc G) := g3
 rw [g3] at hs ⊢
 obtain ⟨l1, l2, l3⟩ := jv f.y2
 have hb1 := vq f.y2 hs
 have h0 : ((((eR x l).map fun r => r.map (gsc G))).getD 0 []).length = ((eR x l).getD 0 []).length := by
  rw [e6 _ _ _ [] _ l1, List.length_map]
 have hu : ge ((eR x l).map fun r => r.map (gsc G)) ((eR x l).getD 0 []).length = (eU x l).map (gsc G) := by
  rw [pG (n := ((eR x l).getD 0 []).length) (fun r hr => by rw [(l3 r hr).1]; exact Nat.le_refl _) _ (Nat.le_refl _), f.y5]
 refine ⟨⟨g1, g2⟩, hb1, ⟨by rw [List.length_map]; omega, fun r hr => ?_⟩, by rw [List.length_map, f.y3], by rw [h0, hu], fun g hg => ?_⟩
 · obtain ⟨r', hr', rfl⟩ := List.mem_map.1 hr
   rw [List.length_map]; have := (l3 r' hr').2.2.1; omega
 · rw [← hu] at hg
   unfold ge at hg
   obtain ⟨i, hi, hg⟩ := List.mem_flatMap.1 hg
   rw [List.mem_range] at hi
   unfold gp at hg
   obtain ⟨r, hr, rfl⟩ := List.mem_map.1 hg
   refine hs r hr _ (dD _ ?_)
   obtain ⟨r', hr', rfl⟩ := List.mem_map.1 hr
   rw [List.length_map, (l3 r' hr').1]; exact hi
def mI (G : Int) (errs : List Gs) (P : Nat) : List Gs := (List.range P).map fun i => if errs.length = 0 then ⟨G - 1, G - 1⟩ else errs.getD (i % errs.length) ⟨0, 0⟩
def fA (G : Int) (pts errs : List Gs) (P j : Nat) : List Gs := (List.range P).map fun i => if i < j then recV G (pts.getD i ⟨0, 0⟩) ((mI G errs P).getD i ⟨0, 0⟩) else gsc G (pts.getD i ⟨0, 0⟩)
theorem zQ {α : Type} {n j : Nat} {f g : Nat → α} : ((List.range n).map (fun i => if i < j then f i else g i)).set j (f j) = (List.range n).map (fun i => if i < j + 1 then f i else g i) := by
 apply List.ext_getElem
 · simp
 · intro i h1 h2
   simp only [List.length_map, List.length_range] at h2
   rw [List.getElem_set]
   simp only [List.getElem_map, List.getElem_range]
   by_cases e : j = i
   · subst e; rw [if_pos rfl, if_pos (by omega)]
   · rw [if_neg e]
     by_cases q : i < j
     · rw [if_pos q, if_pos (by omega)]
     · rw [if_neg q, if_neg (by omega)]
theorem yY (G : Int) (pts errs : List Gs) (P j : Nat) : (fA G pts errs P j).set j (recV G (pts.getD j ⟨0, 0⟩) ((mI G errs P).getD j ⟨0, 0⟩)) = fA G pts errs P (j + 1) :=
 zQ (f := fun i => recV G (pts.getD i ⟨0, 0⟩) ((mI G errs P).getD i ⟨0, 0⟩)) (g := fun i => gsc G (pts.getD i ⟨0, 0⟩))
theorem sF (G : Int) (pts errs : List Gs) (P j : Nat) : (fA G pts errs P j).length = P := by simp [fA]
theorem xt (G : Int) (pts errs : List Gs) {P : Nat} (h : pts.length = P) : fA G pts errs P 0 = pts.map (gsc G) := by
 unfold fA
 apply List.ext_getElem
 · simp [h]
 · intro i h1 h2
   simp only [List.length_map, List.length_range] at h1 h2
   simp [List.getD_eq_getElem?_getD, List.getElem?_eq_getElem h2]
theorem zH (G : Int) (pts errs : List Gs) {P j : Nat} (h : j < P) : (fA G pts errs P j).getD j ⟨0, 0⟩ = gsc G (pts.getD j ⟨0, 0⟩) := by
 rw [fA, eM _ _ h, if_neg (by omega)]
theorem yp (G : Int) (pts errs : List Gs) (P : Nat) : fA G pts errs P P = my G pts (mI G errs P) P := by
 unfold fA my
 refine List.map_congr_left fun i hi => ?_
 rw [if_pos (List.mem_range.1 hi)]
theorem wz (G : Int) (pts errs : List Gs) {P : Nat} (hG : 1 ≤ G) (h : errs.length = 0) : fA G pts errs P 0 = fA G pts errs P P := by
 unfold fA
 refine List.map_congr_left fun i hi => ?_
 have hi := List.mem_range.1 hi
 rw [if_neg (by omega), if_pos hi, mI, eM _ _ hi, if_pos h]
 have e : (G - 1) % (2 * G - 1) = G - 1 := Int.emod_eq_of_lt (by omega) (by omega)
 simp only [gsc, recV, e]
 congr 1 <;> omega
theorem yJ (G : Int) (errs : List Gs) {P j : Nat} (h : j < P) (hn : ¬ errs.length = 0) : (mI G errs P).getD j ⟨0, 0⟩ = errs.getD (j % errs.length) ⟨0, 0⟩ := by
 rw [mI, eM _ _ h, if_neg hn]
def iz (s : Int) : Int := cB false 1000 (cB true (-1000) s)
theorem vh (s : Int) : -1000 ≤ iz s ∧ iz s ≤ 1000 := by
 unfold iz cB; simp; split <;> split <;> omega
theorem yF (s : Int) : (s < 0 → iz s < 0) ∧ (0 < s → 0 < iz s) := by
 unfold iz cB; simp; split <;> split <;> omega
def iL (keys soft : List Int) (n : Nat) : List Int := (List.range n).map fun i => (1 - 2 * keys.getD i 0) * iz (soft.getD i 0)
theorem xx (keys soft : List Int) (n : Nat) : iL keys soft (n + 1) = iL keys soft n ++ [(1 - 2 * keys.getD n 0) * iz (soft.getD n 0)] := by simp [iL, List.range_succ]
theorem o5 (keys soft : List Int) (n : Nat) : (iL keys soft n).length = n := by simp [iL]
theorem tC (keys soft : List Int) {n i : Nat} (h : i < n) : (iL keys soft n).getD i 0 = (1 - 2 * keys.getD i 0) * iz (soft.getD i 0) := eM _ _ h
theorem own_le (keys soft : List Int) (n : Nat) (hk : ∀ i, keys.getD i 0 = 0 ∨ keys.getD i 0 = 1) : leB 1000 (iL keys soft n) := fun i => by
 by_cases h : i < n
 · rw [tC _ _ h]
   have := vh (soft.getD i 0)
   generalize iz (soft.getD i 0) = C at *
   rcases hk i with q | q <;> rw [q] <;> omega
 · rw [List.getD_eq_getElem?_getD, List.getElem?_eq_none (by rw [o5]; omega)]; simp
theorem own_sgn {k s x : Int} (hk : k = 0 ∨ k = 1) (hx : x = 0 ∨ x = 1) (h : sgn ((k + x) % 2) s) : fc x ((1 - 2 * k) * iz s) := by
 obtain ⟨h1, h2⟩ := h
 obtain ⟨c1, c2⟩ := yF s
 unfold fc
 rcases hk with rfl | rfl <;> rcases hx with rfl | rfl <;> simp at h2 ⊢ <;> omega
structure LnkD (x : Lnk) (l : List Int) (N : Nat) (G : Int) (soft own : List Int) : Prop where
 d1 : soft.length = N
 d2 : hZ own = 0
 d3 : ic (dX (2 ^ x.chain.polar.power.toNat) x.version.toNat own own.length) = 0
 d4 : iS x.chain.poly.re.toNat x.chain.poly.im.toNat (gN x.chain.polar (dX (2 ^ x.chain.polar.power.toNat) x.version.toNat own own.length)) = true
 d5 : recC x.chain (dX (2 ^ x.chain.polar.power.toNat) x.version.toNat own own.length) = l
theorem LnkOk.factsD {x : Lnk} {l : List Int} (h : LnkOk x l) {N c P k : Nat} (f : LnkA x l N c P k) {G : Int} (hG : 1 ≤ G) :
 LnkD x l N G (gC fm ⟨x.order, G, fA G (eU x l) x.errs P P⟩) (iL (il x.reg N) (gC fm ⟨x.order, G, fA G (eU x l) x.errs P P⟩) N) := by
 obtain ⟨a1, a2⟩ := t6 (mI G x.errs P) f.hc (f.m2.trans f.hP) f.m4 hG P (Nat.le_refl _)
 have htk : (fq x l).take (P * (2 * c)) = fq x l := by rw [← f.hP, ← f.m2]; exact List.take_length
 rw [htk] at a1 a2
 have ej : gC fm ⟨x.order, G, fA G (eU x l) x.errs P P⟩ = ec c (fm c) G (my G (fB (2 * c) (fq x l) P) (mI G x.errs P) P) := by
  unfold gC
  have e : x.order.toNat / 2 = c := by rw [f.ho]; omega
  simp only [e]
  rw [yp, f.p0]
 rw [← ej] at a2
 generalize gC fm ⟨x.order, G, fA G (eU x l) x.errs P P⟩ = S at *
 have hlen := qm a2
 have hm2 := f.m2
 have hS : S.length = N := by omega
 have hkb := fun i => oV f.reg N i
 have hsg : ∀ i, i < x.chain.count.toNat → fc ((jE x.chain l x.version.toNat).getD i 0) ((iL (il x.reg N) S N).getD i 0) := fun i hi => by
  have hiN : i < N := by have := f.hN; omega
  rw [tC _ _ hiN]
  have hs2 := f.s2
  have q := of a2 (i := i) (by omega)
  rw [fq, ym _ _ (by omega), hs2] at q
  exact own_sgn (hkb i) (f.s3 _ (mu (l := iq x l) (by omega))) q
 obtain ⟨b1, b2, _, b4, b5⟩ := back_ok (c := x.chain) f.chn (l := l) (own := iL (il x.reg N) S N) (v := x.version.toNat) f.lb h.len
  (by rw [o5, f.hN]; rfl) (by have := h.cnt; omega) hsg (own_le _ _ _ hkb)
 exact ⟨hS, b1, b2, b4, b5⟩
end Go.Proofs.YteoobfmbipmibaaGreat
end
section
open Go Go.Am
open Go.Am.Dat (cells)
namespace Go.Proofs.YteoobfmbipmibaaGreat
set_option maxHeartbeats 4000000
set_option maxRecDepth 100000
def ent40 : Ent Tryz.prog := .of2 40 (fun (p : Gs) (l : List Int) => PolyOk p ∧ fK p = 0 ∧ ft l = 0 ∧ l.length ≤ 900000) (fun (p : Gs) (l : List Int) => .tup [enc (jd p.re.toNat p.im.toNat l), enc (0 : Int)]) (fun _ _ => ⟨trivial, trivial, trivial⟩) (fun p l h => ux p l h.1 h.2.1 h.2.2.1 h.2.2.2)
def ent41 : Ent Tryz.prog := .of2 41 (fun (p : Pol) (s : List Int) => eG p = 0 ∧ hZ s = 0 ∧ p.info.length ≤ 1000000 ∧ s.length = 2 ^ p.power.toNat ∧ leB 1000000000 s) (fun (p : Pol) (s : List Int) => .tup [enc (gN p s), enc (0 : Int)]) (fun _ _ => ⟨trivial, trivial, trivial⟩) (fun p s h => zp p s h.1 h.2.1 h.2.2.1 h.2.2.2.1 h.2.2.2.2)
theorem coded_c : FC Tryz.prog 4 [] [] (enc true) [] := by
 have f1 : PolyOk ⟨3, 3⟩ := ⟨by decide, by decide⟩
 have f2 : fK ⟨3, 3⟩ = 0 := by decide
 have f3 : ft [1] = 0 := by decide
 have f4 : jd 3 3 [1] = [0, 1, 1] := by decide +kernel
 have f5 : eG ⟨2, [1, 2, 3]⟩ = 0 := by decide
 have f6 : hZ [4, 3, -2, -5] = 0 := by decide
 have f7 : leB 1000000000 [4, 3, -2, -5] := to (by decide) (by decide)
 have f8 : gN ⟨2, [1, 2, 3]⟩ [4, 3, -2, -5] = [1, 0, 1] := by decide +kernel
 refine dk is4 (by simp) (fun cx hl => dj [ent40, ent41, nX] 800 ?_)
 delta c4 oO oN oA oM oT oG oR oQ oS oK
 simp (maxSteps := 4000000) -implicitDefEqProofs only [rv4, ent40, ent41, nX, dY, f1, f2, f3, f4, f5, f6, f7, f8, Ent.of0, Ent.of1, Ent.of2, Ent.of3, V, W3, ↓reduceIte, Nat.reduceAdd, Nat.reduceSub, Nat.reduceMul, Nat.reduceEqDiff, Nat.reduceLT, Nat.reduceLeDiff, reduceCtorEq, Int.reduceToNat, Nat.reduceBEq]
def jU : Ent Tryz.prog := .mk3 4 (fun args chs => match args, chs with | [], [] => some (True, enc true, [], []) | _, _ => none) (by
 intro args chs p r chs' nk hs hp
 split at hs
 · simp only [Option.some.injEq, Prod.mk.injEq] at hs
   obtain ⟨rfl, rfl, rfl, rfl⟩ := hs
   exact ⟨coded_c, .plain trivial⟩
 · cases hs)
theorem rx : FC Tryz.prog 5 [] [] (enc true) [] := by
 have f1 : gz 4 [0, 1, 1, 0] = 0 := by decide
 have f2 : fB 4 [0, 1, 1, 0] (4 / 4) = [⟨3, -1⟩] := by decide +kernel
 have f3 : e9 ⟨4, 2, [⟨5, 1⟩]⟩ = 0 := by decide
 have f4 : gC fm ⟨4, 2, [⟨5, 1⟩]⟩ = [48, 8, -8, 24] := by decide +kernel
 refine dk is5 (by simp) (fun cx hl => dj [rL, sa, ent42, nX] 800 ?_)
 delta c5 oO oN oA oM oT oG oR oQ oS oK
 simp (maxSteps := 4000000) -implicitDefEqProofs only [rv5, rL, sa, ent42, nX, iA, f1, f2, f3, f4, Ent.of0, Ent.of1, Ent.of2, Ent.of3, V, W3, ↓reduceIte, Nat.reduceAdd, Nat.reduceSub, Nat.reduceMul, Nat.reduceEqDiff, Nat.reduceLT, Nat.reduceLeDiff, reduceCtorEq, Int.reduceToNat, Nat.reduceBEq]
def jM : Ent Tryz.prog := .mk3 5 (fun args chs => match args, chs with | [], [] => some (True, enc true, [], []) | _, _ => none) (by
 intro args chs p r chs' nk hs hp
 split at hs
 · simp only [Option.some.injEq, Prod.mk.injEq] at hs
   obtain ⟨rfl, rfl, rfl, rfl⟩ := hs
   exact ⟨rx, .plain trivial⟩
 · cases hs)
theorem qA (l : List Gs) (h : l.length ≤ 1000000) : FC Tryz.prog 22 [enc l] [] (.own 3) [(3, .row 2 62 (l.map cells))] := by
 refine dF [3] is22 (by simp) trivial trivial (by simp [an, ae, aq]) trivial (fun cx _ hl _ => dj [] 800 ?_)
 delta c22 oO oN oA oM oT oG oR oQ oS oK
 simp (maxSteps := 4000000) -implicitDefEqProofs only [rv22, Ent.of0, Ent.of1, Ent.of2, Ent.of3, V, W3, ↓reduceIte, Nat.reduceAdd, Nat.reduceSub, Nat.reduceMul, Nat.reduceEqDiff, Nat.reduceLT, Nat.reduceLeDiff, reduceCtorEq, Int.reduceToNat, Nat.reduceBEq]
 omega
def xz : Ent Tryz.prog := .mk3 22 (fun args chs => match args, chs with
 | [.sl 2 t], [] => (eo t : Option (List Gs)).bind fun l => some (l.length ≤ 1000000, .own 3, [(3, .row 2 62 (l.map cells))], [3])
 | _, _ => none) (by
 intro args chs p r chs' nk hs hp
 split at hs
 · simp only [Option.bind_eq_some_iff, Option.some.injEq, Prod.mk.injEq] at hs
   obtain ⟨w, hw, rfl, rfl, rfl, rfl⟩ := hs
   have := dV hw
   subst this
   refine ⟨qA w hp, ⟨fun k c h => .inl ?_, fun k cs h => by simp at h, by simp [dm], fun k c h => ?_⟩⟩
   · simp only [List.mem_singleton, Prod.mk.injEq] at h; rw [h.1]; exact List.mem_singleton.2 rfl
   · simp only [List.mem_singleton, Prod.mk.injEq] at h; rw [h.2]; trivial
 · cases hs)
end Go.Proofs.YteoobfmbipmibaaGreat
end
section
open Go Go.Am
open Go.Am.Dat (cells)
namespace Go.Proofs.YteoobfmbipmibaaGreat
set_option maxHeartbeats 4000000
set_option maxRecDepth 100000
def iM (x : Lnk) : Chs := [(5, .box [.s (.int .i64 x.chain.poly.re), .s (.int .i64 x.chain.poly.im), .s (.int .i64 x.chain.polar.power), .sl 1 (x.chain.polar.info.map cells), .s (.int .i64 x.chain.count)]),
 (2, .box [.s (.int .i64 x.chain.poly.re), .s (.int .i64 x.chain.poly.im), .s (.int .i64 x.chain.polar.power), .sl 1 (x.chain.polar.info.map cells), .s (.int .i64 x.chain.count), .s (.int .i64 x.version), .s (.int .i64 x.reg.length), .sl 1 (x.reg.taps.map cells), .sl 1 (x.reg.state.map cells), .s (.int .i64 x.order), .sl 1 (x.matrix.map cells), .sl 2 (x.errs.map cells)])]
theorem zN (x : Lnk) (l : List Int) (hR : ∀ cx, LnkOk x l → x.chain.polar.info.length ≤ 66 → x.reg.taps.length ≤ 12 → x.reg.state.length ≤ 12 →
 SG Tryz.prog cx (br D.rv3 [] (enc true) []) [.c (.cut D.c3k8)] ⟨[(1, enc l), (2, .ptr 2 0), (5, .ptr 5 0)], iM x⟩) : FC Tryz.prog 3 [enc x, enc l] [] (enc true) [] := by
 obtain ⟨⟨⟨d, t⟩, ⟨w, info⟩, n⟩, v, ⟨rl, rt, rs⟩, o, m, es⟩ := x
 refine dk D.is3 (by simp) (fun cx hl => dj [jU, jM, jO, jH, kZ, m9, js, pn] 800 ?_)
 simp only [gh, V, W3, ↓reduceIte, Nat.reduceAdd, Nat.reduceSub, Nat.reduceMul, Nat.reduceEqDiff, Nat.reduceLT, Nat.reduceLeDiff, reduceCtorEq, Int.reduceToNat, Nat.reduceBEq] at hl
 by_cases h1 : info.length ≤ 66 ∧ fE ⟨⟨d, t⟩, ⟨w, info⟩, n⟩ = 0 ∧ n ≤ 80 ∧ ft l = 0 ∧ (l.length : Int) + d = (info.length : Int)
 rotate_left
 · delta D.c3 oO oN oA oM oT oG oR oQ oS oK
   simp (maxSteps := 4000000) -implicitDefEqProofs only [D.rv3, jU, jM, jO, gh, ea, dY, h1, WU, Int.reduceAdd, Int.reduceSub, Int.reduceMul, Int.reduceLT, Int.reduceLE, Int.reduceTMod, Int.reduceTDiv, Int.reduceNeg, Int.reduceEq, Nat.reducePow, Int.reducePow, Ent.of0, Ent.of1, Ent.of2, Ent.of3, V, W3, ↓reduceIte, Nat.reduceAdd, Nat.reduceSub, Nat.reduceMul, Nat.reduceEqDiff, Nat.reduceLT, Nat.reduceLeDiff, reduceCtorEq, Int.reduceToNat, Nat.reduceBEq]
 obtain ⟨a1, a2, a3, a4, a5⟩ := id h1
 have hch := jL a2
 have hw := hch.polar.pow
 simp only at hw
 have hw16 : w ≤ 16 := by omega
 by_cases h2 : n < ((2 ^ w.toNat : Nat) : Int)
 · delta D.c3 oO oN oA oM oT oG oR oQ oS oK
   simp (maxSteps := 4000000) -implicitDefEqProofs only [D.rv3, jU, jM, jO, jH, gh, ea, dY, a1, a2, a3, a4, a5, hw16, h2, WU, Int.reduceAdd, Int.reduceSub, Int.reduceMul, Int.reduceLT, Int.reduceLE, Int.reduceTMod, Int.reduceTDiv, Int.reduceNeg, Int.reduceEq, Nat.reducePow, Int.reducePow, Ent.of0, Ent.of1, Ent.of2, Ent.of3, V, W3, ↓reduceIte, Nat.reduceAdd, Nat.reduceSub, Nat.reduceMul, Nat.reduceEqDiff, Nat.reduceLT, Nat.reduceLeDiff, reduceCtorEq, Int.reduceToNat, Nat.reduceBEq]
 by_cases h3 : 0 ≤ v ∧ v ≤ 3
 rotate_left
 · delta D.c3 oO oN oA oM oT oG oR oQ oS oK
   simp (maxSteps := 4000000) -implicitDefEqProofs only [D.rv3, jU, jM, jO, jH, kZ, gh, ea, dY, a1, a2, a3, a4, a5, hw16, h2, h3, WU, Int.reduceAdd, Int.reduceSub, Int.reduceMul, Int.reduceLT, Int.reduceLE, Int.reduceTMod, Int.reduceTDiv, Int.reduceNeg, Int.reduceEq, Nat.reducePow, Int.reducePow, Ent.of0, Ent.of1, Ent.of2, Ent.of3, V, W3, ↓reduceIte, Nat.reduceAdd, Nat.reduceSub, Nat.reduceMul, Nat.reduceEqDiff, Nat.reduceLT, Nat.reduceLeDiff, reduceCtorEq, Int.reduceToNat, Nat.reduceBEq]
 by_cases h4 : (rt.length : Int) > 12
 · delta D.c3 oO oN oA oM oT oG oR oQ oS oK
   simp (maxSteps := 4000000) -implicitDefEqProofs only [D.rv3, jU, jM, jO, jH, kZ, gh, ea, dY, a1, a2, a3, a4, a5, hw16, h2, h3, h4, WU, Int.reduceAdd, Int.reduceSub, Int.reduceMul, Int.reduceLT, Int.reduceLE, Int.reduceTMod, Int.reduceTDiv, Int.reduceNeg, Int.reduceEq, Nat.reducePow, Int.reducePow, Ent.of0, Ent.of1, Ent.of2, Ent.of3, V, W3, ↓reduceIte, Nat.reduceAdd, Nat.reduceSub, Nat.reduceMul, Nat.reduceEqDiff, Nat.reduceLT, Nat.reduceLeDiff, reduceCtorEq, Int.reduceToNat, Nat.reduceBEq]
 by_cases h5 : (rs.length : Int) > 12
 · delta D.c3 oO oN oA oM oT oG oR oQ oS oK
   simp (maxSteps := 4000000) -implicitDefEqProofs only [D.rv3, jU, jM, jO, jH, kZ, gh, ea, dY, a1, a2, a3, a4, a5, hw16, h2, h3, h4, h5, WU, Int.reduceAdd, Int.reduceSub, Int.reduceMul, Int.reduceLT, Int.reduceLE, Int.reduceTMod, Int.reduceTDiv, Int.reduceNeg, Int.reduceEq, Nat.reducePow, Int.reducePow, Ent.of0, Ent.of1, Ent.of2, Ent.of3, V, W3, ↓reduceIte, Nat.reduceAdd, Nat.reduceSub, Nat.reduceMul, Nat.reduceEqDiff, Nat.reduceLT, Nat.reduceLeDiff, reduceCtorEq, Int.reduceToNat, Nat.reduceBEq]
 by_cases h6 : eA ⟨rl, rt, rs⟩ = 0
 rotate_left
 · delta D.c3 oO oN oA oM oT oG oR oQ oS oK
   simp (maxSteps := 4000000) -implicitDefEqProofs only [D.rv3, jU, jM, jO, jH, kZ, m9, gh, ea, dY, fX, a1, a2, a3, a4, a5, hw16, h2, h3, h4, h5, h6, WU, Int.reduceAdd, Int.reduceSub, Int.reduceMul, Int.reduceLT, Int.reduceLE, Int.reduceTMod, Int.reduceTDiv, Int.reduceNeg, Int.reduceEq, Nat.reducePow, Int.reducePow, Ent.of0, Ent.of1, Ent.of2, Ent.of3, V, W3, ↓reduceIte, Nat.reduceAdd, Nat.reduceSub, Nat.reduceMul, Nat.reduceEqDiff, Nat.reduceLT, Nat.reduceLeDiff, reduceCtorEq, Int.reduceToNat, Nat.reduceBEq]
 by_cases h7 : eu o = 0
 rotate_left
 · delta D.c3 oO oN oA oM oT oG oR oQ oS oK
   simp (maxSteps := 4000000) -implicitDefEqProofs only [D.rv3, jU, jM, jO, jH, kZ, m9, js, gh, ea, dY, fX, ix, a1, a2, a3, a4, a5, hw16, h2, h3, h4, h5, h6, h7, WU, Int.reduceAdd, Int.reduceSub, Int.reduceMul, Int.reduceLT, Int.reduceLE, Int.reduceTMod, Int.reduceTDiv, Int.reduceNeg, Int.reduceEq, Nat.reducePow, Int.reducePow, Ent.of0, Ent.of1, Ent.of2, Ent.of3, V, W3, ↓reduceIte, Nat.reduceAdd, Nat.reduceSub, Nat.reduceMul, Nat.reduceEqDiff, Nat.reduceLT, Nat.reduceLeDiff, reduceCtorEq, Int.reduceToNat, Nat.reduceBEq]
 have ho : o = 2 ∨ o = 4 ∨ o = 6 := by unfold eu at h7; grind
 by_cases h8 : (m.length : Int) > 2
 · delta D.c3 oO oN oA oM oT oG oR oQ oS oK
   simp (maxSteps := 4000000) -implicitDefEqProofs only [D.rv3, jU, jM, jO, jH, kZ, m9, js, gh, ea, dY, fX, ix, a1, a2, a3, a4, a5, hw16, h2, h3, h4, h5, h6, h7, h8, WU, Int.reduceAdd, Int.reduceSub, Int.reduceMul, Int.reduceLT, Int.reduceLE, Int.reduceTMod, Int.reduceTDiv, Int.reduceNeg, Int.reduceEq, Nat.reducePow, Int.reducePow, Ent.of0, Ent.of1, Ent.of2, Ent.of3, V, W3, ↓reduceIte, Nat.reduceAdd, Nat.reduceSub, Nat.reduceMul, Nat.reduceEqDiff, Nat.reduceLT, Nat.reduceLeDiff, reduceCtorEq, Int.reduceToNat, Nat.reduceBEq]
 by_cases h9 : dI m = 0
 rotate_left
 · delta D.c3 oO oN oA oM oT oG oR oQ oS oK
   simp (maxSteps := 4000000) -implicitDefEqProofs only [D.rv3, jU, jM, jO, jH, kZ, m9, js, pn, gh, ea, dY, fX, ix, a1, a2, a3, a4, a5, hw16, h2, h3, h4, h5, h6, h7, h8, h9, WU, Int.reduceAdd, Int.reduceSub, Int.reduceMul, Int.reduceLT, Int.reduceLE, Int.reduceTMod, Int.reduceTDiv, Int.reduceNeg, Int.reduceEq, Nat.reducePow, Int.reducePow, Ent.of0, Ent.of1, Ent.of2, Ent.of3, V, W3, ↓reduceIte, Nat.reduceAdd, Nat.reduceSub, Nat.reduceMul, Nat.reduceEqDiff, Nat.reduceLT, Nat.reduceLeDiff, reduceCtorEq, Int.reduceToNat, Nat.reduceBEq]
 have hr := i7 h9
 have hm0 := hr.pos
 have hm0' : (0 : Int) < (m.length : Int) := by omega
 by_cases h10 : (m.length : Int) = ((m.getD 0 []).length : Int)
 rotate_left
 · delta D.c3 oO oN oA oM oT oG oR oQ oS oK
   simp (maxSteps := 4000000) -implicitDefEqProofs only [D.rv3, jU, jM, jO, jH, kZ, m9, js, pn, dM, gh, ea, dY, fX, ix, a1, a2, a3, a4, a5, hw16, h2, h3, h4, h5, h6, h7, h8, h9, hm0, hm0', h10, WU, Int.reduceAdd, Int.reduceSub, Int.reduceMul, Int.reduceLT, Int.reduceLE, Int.reduceTMod, Int.reduceTDiv, Int.reduceNeg, Int.reduceEq, Nat.reducePow, Int.reducePow, Ent.of0, Ent.of1, Ent.of2, Ent.of3, V, W3, ↓reduceIte, Nat.reduceAdd, Nat.reduceSub, Nat.reduceMul, Nat.reduceEqDiff, Nat.reduceLT, Nat.reduceLeDiff, reduceCtorEq, Int.reduceToNat, Nat.reduceBEq]
 obtain ⟨O, rfl⟩ : ∃ O : Nat, o = (O : Int) := ⟨o.toNat, by omega⟩
 obtain ⟨N, rfl⟩ : ∃ N : Nat, n = (N : Int) := ⟨n.toNat, by have := hch.count; simp only at this; omega⟩
 have hOm : (O : Int) * (m.length : Int) = ((O * m.length : Nat) : Int) := by push_cast; rfl
 have hO6 : O ≤ 6 := by omega
 have hOb : O * m.length ≤ 6 * m.length := Nat.mul_le_mul_right _ hO6
 have hOp : 0 < O * m.length := Nat.mul_pos (by omega) hm0
 have htm : (N : Int).tmod ((O * m.length : Nat) : Int) = ((N % (O * m.length) : Nat) : Int) := by
  rw [Int.tmod_eq_emod_of_nonneg (by omega)]; push_cast; rfl
 have hne : ¬ ((O * m.length : Nat) : Int) = 0 := by omega
 by_cases h11 : N % (O * m.length) = 0
 rotate_left
 · have h11' : ¬ ((N % (O * m.length) : Nat) : Int) = 0 := by omega
   generalize O * m.length = OM at *
   delta D.c3 oO oN oA oM oT oG oR oQ oS oK
   simp (maxSteps := 4000000) -implicitDefEqProofs only [D.rv3, jU, jM, jO, jH, kZ, m9, js, pn, dM, gh, ea, dY, fX, ix, a1, a2, a3, a4, a5, hw16, h2, h3, h4, h5, h6, h7, h8, h9, hm0, hm0', ← h10, hOm, htm, hne, h11', InR, WU, Int.reduceAdd, Int.reduceSub, Int.reduceMul, Int.reduceLT, Int.reduceLE, Int.reduceTMod, Int.reduceTDiv, Int.reduceNeg, Int.reduceEq, Nat.reducePow, Int.reducePow, Ent.of0, Ent.of1, Ent.of2, Ent.of3, V, W3, ↓reduceIte, Nat.reduceAdd, Nat.reduceSub, Nat.reduceMul, Nat.reduceEqDiff, Nat.reduceLT, Nat.reduceLeDiff, reduceCtorEq, Int.reduceToNat, Nat.reduceBEq]
   omega
 have h11' : ((N % (O * m.length) : Nat) : Int) = 0 := by omega
 have hok : LnkOk ⟨⟨⟨d, t⟩, ⟨w, info⟩, (N : Int)⟩, v, ⟨rl, rt, rs⟩, (O : Int), m, es⟩ l := ⟨a2, a3, a4, a5, by simp only; omega, h3, h6, ho, h9, by simp only; omega, by simp only; omega, by simpa using h11⟩
 have hR := hR cx hok a1 (by simp only; omega) (by simp only; omega)
 generalize O * m.length = OM at *
 delta D.c3 oO oN oA oM oT oG oR oQ oS oK
 simp (maxSteps := 4000000) -implicitDefEqProofs only [D.rv3, jU, jM, jO, jH, kZ, m9, js, pn, dM, gh, ea, dY, fX, ix, a1, a2, a3, a4, a5, hw16, h2, h3, h4, h5, h6, h7, h8, h9, hm0, hm0', ← h10, hOm, htm, hne, h11', InR, WU, Int.reduceAdd, Int.reduceSub, Int.reduceMul, Int.reduceLT, Int.reduceLE, Int.reduceTMod, Int.reduceTDiv, Int.reduceNeg, Int.reduceEq, Nat.reducePow, Int.reducePow, Ent.of0, Ent.of1, Ent.of2, Ent.of3, V, W3, ↓reduceIte, Nat.reduceAdd, Nat.reduceSub, Nat.reduceMul, Nat.reduceEqDiff, Nat.reduceLT, Nat.reduceLeDiff, reduceCtorEq, Int.reduceToNat, Nat.reduceBEq]
 refine ⟨by omega, ?_⟩
 exact hR
end Go.Proofs.YteoobfmbipmibaaGreat
end
section
open Go Go.Am
open Go.Am.Dat (cells)
namespace Go.Proofs.YteoobfmbipmibaaGreat
set_option maxHeartbeats 4000000
set_option maxRecDepth 100000
theorem lk_E (cx : Cx) (cs : List C) (x : Lnk) (l own : List Int) (h : LnkOk x l) (hi : x.chain.polar.info.length ≤ 66)
 (d2 : hZ own = 0) (d3 : ic (dX (2 ^ x.chain.polar.power.toNat) x.version.toNat own own.length) = 0)
 (d4 : iS x.chain.poly.re.toNat x.chain.poly.im.toNat (gN x.chain.polar (dX (2 ^ x.chain.polar.power.toNat) x.version.toNat own own.length)) = true)
 (d5 : recC x.chain (dX (2 ^ x.chain.polar.power.toNat) x.version.toNat own own.length) = l) :
 SG Tryz.prog cx (br D.rv3 [] (enc true) []) [.c (.cut D.c3k3)] ⟨[(1, enc l), (2, .ptr 2 0), (5, .ptr 5 0), (29, enc own)], (24, .box cs) :: iM x⟩ := by
 obtain ⟨⟨⟨d, t⟩, ⟨w, info⟩, n⟩, v, ⟨rl, rt, rs⟩, o, m, es⟩ := x
 obtain ⟨a2, a3, a4, a5, a6, a7, a8, a9, a10, a11, a12, a13⟩ := h
 have hch := jL a2
 have hw := hch.polar.pow
 simp only at hw a6 a7 hi d3 d4 d5 a2
 have hw16 : w ≤ 16 := by omega
 have hle : 2 ^ w.toNat ≤ 2 ^ 6 := Nat.pow_le_pow_right (by decide) (by omega)
 have hge : 1 ≤ 2 ^ w.toNat := Nat.pow_pos (by decide)
 have hL : 1 ≤ ((2 ^ w.toNat : Nat) : Int) ∧ ((2 ^ w.toNat : Nat) : Int) ≤ 200 := by omega
 have hgl := jT (2 ^ w.toNat) v.toNat own own.length
 have hi6 : info.length ≤ 1000000 := by omega
 have hi9 : info.length ≤ 900000 := by omega
 refine gQ (dj [jH, ent36, ent37, rZ, ent38, nX] 1000 ?_)
 generalize hG : dX (2 ^ w.toNat) v.toNat own own.length = sums at *
 delta D.c3k3 oO oN oA oM oT oG oR oQ oS oK
 simp (maxSteps := 4000000) -implicitDefEqProofs only [D.rv3, iM, jH, ent36, ent37, rZ, ent38, nX, ea, dY, fk, hw16, hL, a2, a7, hi6, hi9, hgl, hG, d2, d3, d4, d5, Int.toNat_natCast, WU, Int.reduceAdd, Int.reduceSub, Int.reduceMul, Int.reduceLT, Int.reduceLE, Int.reduceTMod, Int.reduceTDiv, Int.reduceNeg, Int.reduceEq, Nat.reducePow, Int.reducePow, Ent.of0, Ent.of1, Ent.of2, Ent.of3, V, W3, ↓reduceIte, Nat.reduceAdd, Nat.reduceSub, Nat.reduceMul, Nat.reduceEqDiff, Nat.reduceLT, Nat.reduceLeDiff, reduceCtorEq, Int.reduceToNat, Nat.reduceBEq]
end Go.Proofs.YteoobfmbipmibaaGreat
end
section
open Go Go.Am
open Go.Am.Dat (cells)
namespace Go.Proofs.YteoobfmbipmibaaGreat
set_option maxHeartbeats 4000000
set_option maxRecDepth 100000
theorem lk_D (cx : Cx) (x : Lnk) (l : List Int) (G : Int) (rec' : List Gs) (soft keys : List Int) (N : Nat) (h : LnkOk x l) (hi : x.chain.polar.info.length ≤ 66)
 (ht : x.reg.taps.length ≤ 12) (hs : x.reg.state.length ≤ 12) (hN : x.chain.count = (N : Int)) (hN2 : N ≤ 80)
 (hrl : rec'.length ≤ 1000000) (hre : e9 ⟨x.order, G, rec'⟩ = 0) (hsoft : gC fm ⟨x.order, G, rec'⟩ = soft) (hkeys : il x.reg N = keys) (hN1 : 1 ≤ N) (hd : LnkD x l N G soft (iL keys soft N)) :
 SG Tryz.prog cx (br D.rv3 [] (enc true) []) [.c (.cut D.c3k4)] ⟨[(1, enc l), (2, .ptr 2 0), (5, .ptr 5 0), (24, .ptr 24 0)], (24, .box [.s (.int .i64 x.order), .s (.int .i64 G), .sl 2 (rec'.map cells)]) :: iM x⟩ := by
 obtain ⟨d1, d2, d3, d4, d5⟩ := hd
 have hE := fun cx cs => lk_E cx cs x l (iL keys soft N) h hi d2 d3 d4 d5
 have hrok := lh h.reg
 have hrg := h.reg
 have hkl := oc x.reg N
 have hkb := fun i => oV hrok N i
 have hsq := seq_eq hrok N
 rw [hkeys] at hkl hkb hsq
 have hkall : (keys.all fun b => decide (b = 0 ∨ b = 1)) = true := by
  refine List.all_eq_true.2 (fun b hb => ?_)
  obtain ⟨i, _, rfl⟩ := vg hb
  exact decide_eq_true (hkb i)
 obtain ⟨⟨⟨d, t⟩, ⟨w, info⟩, n⟩, v, ⟨rl, rt, rs⟩, o, m, es⟩ := x
 simp only at *
 have ht6 : rt.length ≤ 1000000 := by omega
 have hs6 : rs.length ≤ 1000000 := by omega
 subst hN
 have hse : fb ⟨rl, rt, rs⟩ (N : Int) = 0 := by
  unfold fb
  rw [if_neg (fun q => q hrg), if_pos (by omega)]
 refine gQ (dj [ent33, sa, sj, ent34, iX] 1000 ?_)
 delta D.c3k4 oO oN oA oM oT oG oR oQ oS oK
 simp (maxSteps := 4000000) -implicitDefEqProofs only [D.rv3, iM, ent33, sa, sj, ent34, iX, iA, it, fX, gk, hrl, hre, hsoft, ht6, hs6, hrg, hsq, hkl, hkall, hse, d1, Int.toNat_natCast, WU, Int.reduceAdd, Int.reduceSub, Int.reduceMul, Int.reduceLT, Int.reduceLE, Int.reduceTMod, Int.reduceTDiv, Int.reduceNeg, Int.reduceEq, Nat.reducePow, Int.reducePow, Ent.of0, Ent.of1, Ent.of2, Ent.of3, V, W3, ↓reduceIte, Nat.reduceAdd, Nat.reduceSub, Nat.reduceMul, Nat.reduceEqDiff, Nat.reduceLT, Nat.reduceLeDiff, reduceCtorEq, Int.reduceToNat, Nat.reduceBEq]
 refine dE N (fun i => [(30, .s (.int .i64 (i : Int)))]) (fun i => [(29, .row 1 3 ((iL keys soft i).map cells))]) (fun _ => True) trivial ?_ (fun i hi _ => dj [] 1000 ?_)
 · simp (maxSteps := 4000000) -implicitDefEqProofs only [iL, Ent.of0, Ent.of1, Ent.of2, Ent.of3, V, W3, ↓reduceIte, Nat.reduceAdd, Nat.reduceSub, Nat.reduceMul, Nat.reduceEqDiff, Nat.reduceLT, Nat.reduceLeDiff, reduceCtorEq, Int.reduceToNat, Nat.reduceBEq]
   simp
 · have hlen := o5 keys soft i
   by_cases h : i < N
   · have hi2 : (i : Int) < (N : Int) := by omega
     have hi3 : (i : Int) < (soft.length : Int) := by omega
     have hi4 : i < soft.length := by omega
     have hi5 : (i : Int) < (keys.length : Int) := by omega
     have hi6 : i < keys.length := by omega
     have hsucc : (iL keys soft i).map cells ++ [[C.s (.int .i64 ((1 - 2 * keys.getD i 0) * iz (soft.getD i 0)))]] = (iL keys soft (i + 1)).map cells := by rw [xx, List.map_append]; rfl
     have hcb := vh (soft.getD i 0)
     have hkb' := hkb i
     have hcl : (if (if soft.getD i 0 > -1000 then soft.getD i 0 else -1000) < 1000 then (if soft.getD i 0 > -1000 then soft.getD i 0 else -1000) else 1000) = iz (soft.getD i 0) := by
      unfold iz cB; rfl
     have hown : -1000 ≤ (1 - 2 * keys.getD i 0) * iz (soft.getD i 0) ∧ (1 - 2 * keys.getD i 0) * iz (soft.getD i 0) ≤ 1000 := by
      generalize iz (soft.getD i 0) = C at *
      rcases hkb' with q | q <;> rw [q] <;> omega
     delta D.c3l2 oO oN oA oM oT oG oR oQ oS oK
     simp (maxSteps := 4000000) -implicitDefEqProofs only [hi2, hi3, hi4, hi5, hi6, hcl, hsucc, hlen, InR, WU, Int.reduceAdd, Int.reduceSub, Int.reduceMul, Int.reduceLT, Int.reduceLE, Int.reduceTMod, Int.reduceTDiv, Int.reduceNeg, Int.reduceEq, Nat.reducePow, Int.reducePow, Ent.of0, Ent.of1, Ent.of2, Ent.of3, V, W3, ↓reduceIte, Nat.reduceAdd, Nat.reduceSub, Nat.reduceMul, Nat.reduceEqDiff, Nat.reduceLT, Nat.reduceLeDiff, reduceCtorEq, Int.reduceToNat, Nat.reduceBEq]
     and_intros <;> first | omega | trivial
   · have hi2 : ¬ (i : Int) < (N : Int) := by omega
     have hiN : i = N := by omega
     subst hiN
     delta D.c3l2 oO oN oA oM oT oG oR oQ oS oK
     simp (maxSteps := 4000000) -implicitDefEqProofs only [hi2, hlen, WU, Int.reduceAdd, Int.reduceSub, Int.reduceMul, Int.reduceLT, Int.reduceLE, Int.reduceTMod, Int.reduceTDiv, Int.reduceNeg, Int.reduceEq, Nat.reducePow, Int.reducePow, Ent.of0, Ent.of1, Ent.of2, Ent.of3, V, W3, ↓reduceIte, Nat.reduceAdd, Nat.reduceSub, Nat.reduceMul, Nat.reduceEqDiff, Nat.reduceLT, Nat.reduceLeDiff, reduceCtorEq, Int.reduceToNat, Nat.reduceBEq]
     exact hE _ _
end Go.Proofs.YteoobfmbipmibaaGreat
end
section
open Go Go.Am
open Go.Am.Dat (cells)
namespace Go.Proofs.YteoobfmbipmibaaGreat
set_option maxHeartbeats 4000000
set_option maxRecDepth 100000
theorem ownG {xs : List Gs} {n : Nat} (h : n < xs.length) : List.getD (xs.map cells) n [] = [C.s (.int .i64 (xs.getD n ⟨0, 0⟩).re), C.s (.int .i64 (xs.getD n ⟨0, 0⟩).im)] := by
 rw [e6 _ _ _ (⟨0, 0⟩ : Gs) _ h]; rfl
theorem lk_C (cx : Cx) (x : Lnk) (l : List Int) (G : Int) (rcv : List Gs) {N c P k : Nat} (h : LnkOk x l) (f : LnkA x l N c P k) (hi : x.chain.polar.info.length ≤ 66)
 (ht : x.reg.taps.length ≤ 12) (hs : x.reg.state.length ≤ 12) (hG : 1 ≤ G ∧ G ≤ 10000000) (hr : rcv = (eU x l).map (gsc G)) (hsm : ∀ g ∈ (eU x l).map (gsc G), dw g 100000000 = true) :
 SG Tryz.prog cx (br D.rv3 [] (enc true) []) [.c (.cut D.c3k5)] ⟨[(1, enc l), (2, .ptr 2 0), (5, .ptr 5 0), (17, enc G), (19, enc rcv)], iM x⟩ := by
 have hD := fun cx (hre : e9 ⟨x.order, G, fA G (eU x l) x.errs P P⟩ = 0) => lk_D cx x l G (fA G (eU x l) x.errs P P) _ _ N h hi ht hs f.hN f.hN0.2 (by rw [sF]; have := f.hP0; omega) hre rfl rfl f.hN0.1 (h.factsD f hG.1)
 have hpl := f.p2
 have hP0 := f.hP0
 obtain ⟨⟨⟨d, t⟩, ⟨w, info⟩, n⟩, v, ⟨rl, rt, rs⟩, o, m, es⟩ := x
 simp only at hD hi ht hs
 generalize eU ⟨⟨⟨d, t⟩, ⟨w, info⟩, n⟩, v, ⟨rl, rt, rs⟩, o, m, es⟩ l = pts at *
 have hrl : rcv.length = P := by rw [hr, List.length_map, hpl]
 have hr0 : rcv.map cells = (fA G pts es P 0).map cells := by rw [hr, xt G pts es hpl]
 have hrb : rcv.length ≤ 1000000 := by omega
 clear hr
 have h2g : 0 < 2 * G - 1 ∧ 2 * G - 1 ≤ 4611686018427387904 := by omega
 have hll := fun j => sF G pts es P j
 have hl0 : (fA G pts es P 0).length ≤ 1000000 := by rw [hll]; omega
 refine gQ (dj [xz] 1000 ?_)
 delta D.c3k5 oO oN oA oM oT oG oR oQ oS oK
 simp (maxSteps := 4000000) -implicitDefEqProofs only [D.rv3, iM, xz, hl0, hr0, WU, Int.reduceAdd, Int.reduceSub, Int.reduceMul, Int.reduceLT, Int.reduceLE, Int.reduceTMod, Int.reduceTDiv, Int.reduceNeg, Int.reduceEq, Nat.reducePow, Int.reducePow, Ent.of0, Ent.of1, Ent.of2, Ent.of3, V, W3, ↓reduceIte, Nat.reduceAdd, Nat.reduceSub, Nat.reduceMul, Nat.reduceEqDiff, Nat.reduceLT, Nat.reduceLeDiff, reduceCtorEq, Int.reduceToNat, Nat.reduceBEq]
 by_cases he : es.length = 0
 · have he' : ¬ (es.length : Int) > 0 := by omega
   have hlP := hll P
   have hPi : (0 : Int) < (P : Int) := by omega
   have hn := wz G pts es (P := P) hG.1 he
   refine dE 0 (fun i => [(22, .s (.int .i64 (i : Int)))]) (fun i => [(283, .row 2 62 ((fA G pts es P 0).map cells))]) (fun _ => True) trivial ?_ (fun i hi _ => dj [nM] 1000 ?_)
   · simp (maxSteps := 4000000) -implicitDefEqProofs only [Ent.of0, Ent.of1, Ent.of2, Ent.of3, V, W3, ↓reduceIte, Nat.reduceAdd, Nat.reduceSub, Nat.reduceMul, Nat.reduceEqDiff, Nat.reduceLT, Nat.reduceLeDiff, reduceCtorEq, Int.reduceToNat, Nat.reduceBEq]
     simp
   · have hi0 : i = 0 := by omega
     subst hi0
     by_cases hre : e9 ⟨o, G, fA G pts es P P⟩ = 0
     · delta D.c3l1 oO oN oA oM oT oG oR oQ oS oK
       simp (maxSteps := 4000000) -implicitDefEqProofs only [D.rv3, nM, iA, he', hn, hlP, hPi, hre, WU, Int.reduceAdd, Int.reduceSub, Int.reduceMul, Int.reduceLT, Int.reduceLE, Int.reduceTMod, Int.reduceTDiv, Int.reduceNeg, Int.reduceEq, Nat.reducePow, Int.reducePow, Ent.of0, Ent.of1, Ent.of2, Ent.of3, V, W3, ↓reduceIte, Nat.reduceAdd, Nat.reduceSub, Nat.reduceMul, Nat.reduceEqDiff, Nat.reduceLT, Nat.reduceLeDiff, reduceCtorEq, Int.reduceToNat, Nat.reduceBEq]
       exact hD cx hre
     · delta D.c3l1 oO oN oA oM oT oG oR oQ oS oK
       simp (maxSteps := 4000000) -implicitDefEqProofs only [D.rv3, nM, iA, he', hn, hlP, hPi, hre, WU, Int.reduceAdd, Int.reduceSub, Int.reduceMul, Int.reduceLT, Int.reduceLE, Int.reduceTMod, Int.reduceTDiv, Int.reduceNeg, Int.reduceEq, Nat.reducePow, Int.reducePow, Ent.of0, Ent.of1, Ent.of2, Ent.of3, V, W3, ↓reduceIte, Nat.reduceAdd, Nat.reduceSub, Nat.reduceMul, Nat.reduceEqDiff, Nat.reduceLT, Nat.reduceLeDiff, reduceCtorEq, Int.reduceToNat, Nat.reduceBEq]
 · have he' : (es.length : Int) > 0 := by omega
   have hen : ¬ (es.length : Int) = 0 := by omega
   refine dE P (fun i => [(22, .s (.int .i64 (i : Int)))]) (fun i => [(283, .row 2 62 ((fA G pts es P i).map cells))]) (fun _ => True) trivial ?_ (fun i hi _ => dj [pY, pk, nM] 1000 ?_)
   · simp (maxSteps := 4000000) -implicitDefEqProofs only [Ent.of0, Ent.of1, Ent.of2, Ent.of3, V, W3, ↓reduceIte, Nat.reduceAdd, Nat.reduceSub, Nat.reduceMul, Nat.reduceEqDiff, Nat.reduceLT, Nat.reduceLeDiff, reduceCtorEq, Int.reduceToNat, Nat.reduceBEq]
     simp
   · have hlen := hll i
     by_cases h : i < P
     · have hi2 : (i : Int) < (P : Int) := by omega
       have htm : (i : Int).tmod (es.length : Int) = ((i % es.length : Nat) : Int) := by
        rw [Int.tmod_eq_emod_of_nonneg (by omega)]; push_cast; rfl
       have hlt := Nat.mod_lt i (show 0 < es.length by omega)
       have hlt2 : ((i % es.length : Nat) : Int) < (es.length : Int) := by omega
       have hget := ownG (xs := fA G pts es P i) (n := i) (by omega)
       rw [zH G pts es h] at hget
       have hset : ((fA G pts es P i).map cells).set i [C.s (.int .i64 (G * (pts.getD i ⟨0, 0⟩).re + ((es.getD (i % es.length) ⟨0, 0⟩).re % (2 * G - 1) - G + 1))), C.s (.int .i64 (G * (pts.getD i ⟨0, 0⟩).im + ((es.getD (i % es.length) ⟨0, 0⟩).im % (2 * G - 1) - G + 1)))] = (fA G pts es P (i + 1)).map cells := by
        rw [← yY, List.map_set, yJ G es h he]; rfl
       simp only [gsc] at hget
       have k1 := pS (e := (es.getD (i % es.length) ⟨0, 0⟩).re) hG.1
       have k2 := pS (e := (es.getD (i % es.length) ⟨0, 0⟩).im) hG.1
       have hsg := hsm (gsc G (pts.getD i ⟨0, 0⟩)) (List.mem_map.2 ⟨_, dD _ (by omega), rfl⟩)
       have hbd := jj (n := 100000000) hsg
       simp only [bd, gsc] at hbd
       have hadd : lF ⟨G * (pts.getD i ⟨0, 0⟩).re, G * (pts.getD i ⟨0, 0⟩).im⟩ ⟨(es.getD (i % es.length) ⟨0, 0⟩).re % (2 * G - 1) - G + 1, (es.getD (i % es.length) ⟨0, 0⟩).im % (2 * G - 1) - G + 1⟩ := by
        refine ⟨100000000, 10000000, ?_, ?_, by omega⟩
        · simp only [bd]; omega
        · simp only [bd]; omega
       delta D.c3l1 oO oN oA oM oT oG oR oQ oS oK
       simp (maxSteps := 4000000) -implicitDefEqProofs only [hlen, hi2, he', InR, WU, Int.reduceAdd, Int.reduceSub, Int.reduceMul, Int.reduceLT, Int.reduceLE, Int.reduceTMod, Int.reduceTDiv, Int.reduceNeg, Int.reduceEq, Nat.reducePow, Int.reducePow, Ent.of0, Ent.of1, Ent.of2, Ent.of3, V, W3, ↓reduceIte, Nat.reduceAdd, Nat.reduceSub, Nat.reduceMul, Nat.reduceEqDiff, Nat.reduceLT, Nat.reduceLeDiff, reduceCtorEq, Int.reduceToNat, Nat.reduceBEq]
       refine tw [] 200 ?_
       simp (maxSteps := 4000000) -implicitDefEqProofs only [drS, nc, robC, reC, fixS, jh, AOp.reads, true_or, or_true, false_or, he', hen, htm, hlt, hlt2, InR, WU, Int.reduceAdd, Int.reduceSub, Int.reduceMul, Int.reduceLT, Int.reduceLE, Int.reduceTMod, Int.reduceTDiv, Int.reduceNeg, Int.reduceEq, Nat.reducePow, Int.reducePow, Ent.of0, Ent.of1, Ent.of2, Ent.of3, V, W3, ↓reduceIte, Nat.reduceAdd, Nat.reduceSub, Nat.reduceMul, Nat.reduceEqDiff, Nat.reduceLT, Nat.reduceLeDiff, reduceCtorEq, Int.reduceToNat, Nat.reduceBEq]
       refine ⟨by omega, by omega, dj [pY, pk] 1000 ?_⟩
       simp (maxSteps := 4000000) -implicitDefEqProofs only [pY, pk, hlen, hi2, h, hget, hset, hadd, h2g, k6, InR, WU, Int.reduceAdd, Int.reduceSub, Int.reduceMul, Int.reduceLT, Int.reduceLE, Int.reduceTMod, Int.reduceTDiv, Int.reduceNeg, Int.reduceEq, Nat.reducePow, Int.reducePow, Ent.of0, Ent.of1, Ent.of2, Ent.of3, V, W3, ↓reduceIte, Nat.reduceAdd, Nat.reduceSub, Nat.reduceMul, Nat.reduceEqDiff, Nat.reduceLT, Nat.reduceLeDiff, reduceCtorEq, Int.reduceToNat, Nat.reduceBEq]
       and_intros <;> first | omega | exact hadd | exact congrArg (Ch.row 2 62) hset | trivial
     · have hi2 : ¬ (i : Int) < (P : Int) := by omega
       have hiP : i = P := by omega
       subst hiP
       by_cases hre : e9 ⟨o, G, fA G pts es i i⟩ = 0
       · delta D.c3l1 oO oN oA oM oT oG oR oQ oS oK
         simp (maxSteps := 4000000) -implicitDefEqProofs only [D.rv3, pY, pk, nM, iA, hlen, hi2, hre, WU, Int.reduceAdd, Int.reduceSub, Int.reduceMul, Int.reduceLT, Int.reduceLE, Int.reduceTMod, Int.reduceTDiv, Int.reduceNeg, Int.reduceEq, Nat.reducePow, Int.reducePow, Ent.of0, Ent.of1, Ent.of2, Ent.of3, V, W3, ↓reduceIte, Nat.reduceAdd, Nat.reduceSub, Nat.reduceMul, Nat.reduceEqDiff, Nat.reduceLT, Nat.reduceLeDiff, reduceCtorEq, Int.reduceToNat, Nat.reduceBEq]
         exact hD cx hre
       · delta D.c3l1 oO oN oA oM oT oG oR oQ oS oK
         simp (maxSteps := 4000000) -implicitDefEqProofs only [D.rv3, pY, pk, nM, iA, hlen, hi2, hre, WU, Int.reduceAdd, Int.reduceSub, Int.reduceMul, Int.reduceLT, Int.reduceLE, Int.reduceTMod, Int.reduceTDiv, Int.reduceNeg, Int.reduceEq, Nat.reducePow, Int.reducePow, Ent.of0, Ent.of1, Ent.of2, Ent.of3, V, W3, ↓reduceIte, Nat.reduceAdd, Nat.reduceSub, Nat.reduceMul, Nat.reduceEqDiff, Nat.reduceLT, Nat.reduceLeDiff, reduceCtorEq, Int.reduceToNat, Nat.reduceBEq]
end Go.Proofs.YteoobfmbipmibaaGreat
end
section
open Go Go.Am
open Go.Am.Dat (cells)
namespace Go.Proofs.YteoobfmbipmibaaGreat
set_option maxHeartbeats 4000000
set_option maxRecDepth 100000
theorem lk_B2 (cx : Cx) (x : Lnk) (l : List Int) (G : Int) (back : List (List Gs)) {N c P k : Nat} (h : LnkOk x l) (f : LnkA x l N c P k) (hi : x.chain.polar.info.length ≤ 66)
 (ht : x.reg.taps.length ≤ 12) (hs : x.reg.state.length ≤ 12) (hC : LnkC x l P k G back) :
 SG Tryz.prog cx (br D.rv3 [] (enc true) []) [.c (.cut D.c3k6)] ⟨[(1, enc l), (2, .ptr 2 0), (5, .ptr 5 0), (10, enc (eU x l)), (16, enc back), (17, enc G)], iM x⟩ := by
 obtain ⟨g1, b1, b2, b3, b4, b5⟩ := hC
 have hR := fun cx => lk_C cx x l G ((eU x l).map (gsc G)) h f hi ht hs g1 rfl b5
 have hlm : ((eU x l).map (gsc G)).length = (eU x l).length := List.length_map _
 clear h f b5
 obtain ⟨⟨⟨d, t⟩, ⟨w, info⟩, n⟩, v, ⟨rl, rt, rs⟩, o, m, es⟩ := x
 generalize eU ⟨⟨⟨d, t⟩, ⟨w, info⟩, n⟩, v, ⟨rl, rt, rs⟩, o, m, es⟩ l = pts at *
 generalize pts.map (gsc G) = rcv at *
 refine gQ (dj [kC, ent28] 1000 ?_)
 delta D.c3k6 oO oN oA oM oT oG oR oQ oS oK
 simp (maxSteps := 4000000) -implicitDefEqProofs only [D.rv3, iM, kC, ent28, b1, b2, b4, hlm, WU, Int.reduceAdd, Int.reduceSub, Int.reduceMul, Int.reduceLT, Int.reduceLE, Int.reduceTMod, Int.reduceTDiv, Int.reduceNeg, Int.reduceEq, Nat.reducePow, Int.reducePow, Ent.of0, Ent.of1, Ent.of2, Ent.of3, V, W3, ↓reduceIte, Nat.reduceAdd, Nat.reduceSub, Nat.reduceMul, Nat.reduceEqDiff, Nat.reduceLT, Nat.reduceLeDiff, reduceCtorEq, Int.reduceToNat, Nat.reduceBEq]
 exact hR _
theorem lk_B1 (cx : Cx) (x : Lnk) (l : List Int) {N c P k : Nat} (h : LnkOk x l) (f : LnkA x l N c P k) (hi : x.chain.polar.info.length ≤ 66)
 (ht : x.reg.taps.length ≤ 12) (hs : x.reg.state.length ≤ 12) :
 SG Tryz.prog cx (br D.rv3 [] (enc true) []) [.c (.cut D.c3k7)] ⟨[(1, enc l), (2, .ptr 2 0), (5, .ptr 5 0), (10, enc (eU x l)), (12, enc (eR x l))], iM x⟩ := by
 have hap := h.apE f
 have hB := h.factsB f
 have hC := h.factsC f
 have hR := fun cx G back hC => lk_B2 cx x l G back h f hi ht hs hC
 have hm := h.mat
 have hr := i7 hm
 have hmb : gi x.matrix := ⟨by have := hr.le; omega, fun r hr' => by have := (hr.row r hr').2.2.1; omega⟩
 have y3 := f.y3
 have y4 := f.y4
 clear h f
 obtain ⟨⟨⟨d, t⟩, ⟨w, info⟩, n⟩, v, ⟨rl, rt, rs⟩, o, m, es⟩ := x
 simp only at hap hB hC hm hmb
 by_cases ha : gf m (eR ⟨⟨⟨d, t⟩, ⟨w, info⟩, n⟩, v, ⟨rl, rt, rs⟩, o, m, es⟩ l) = 0
 rotate_left
 · have ha8 := hap.resolve_left ha
   refine gQ (dj [kC, mP, kL] 1000 ?_)
   generalize eR ⟨⟨⟨d, t⟩, ⟨w, info⟩, n⟩, v, ⟨rl, rt, rs⟩, o, m, es⟩ l = lay at *
   delta D.c3k7 oO oN oA oM oT oG oR oQ oS oK
   simp (maxSteps := 4000000) -implicitDefEqProofs only [D.rv3, iM, kC, mP, kL, hmb, y4, ha8, WU, Int.reduceAdd, Int.reduceSub, Int.reduceMul, Int.reduceLT, Int.reduceLE, Int.reduceTMod, Int.reduceTDiv, Int.reduceNeg, Int.reduceEq, Nat.reducePow, Int.reducePow, Ent.of0, Ent.of1, Ent.of2, Ent.of3, V, W3, ↓reduceIte, Nat.reduceAdd, Nat.reduceSub, Nat.reduceMul, Nat.reduceEqDiff, Nat.reduceLT, Nat.reduceLeDiff, reduceCtorEq, Int.reduceToNat, Nat.reduceBEq]
 obtain ⟨a1, a2, a3, a4⟩ := hB ha
 by_cases he : eqE m (dA m (eR ⟨⟨⟨d, t⟩, ⟨w, info⟩, n⟩, v, ⟨rl, rt, rs⟩, o, m, es⟩ l)) = 0
 rotate_left
 · refine gQ (dj [kC, mP, kL, qg] 1000 ?_)
   generalize eR ⟨⟨⟨d, t⟩, ⟨w, info⟩, n⟩, v, ⟨rl, rt, rs⟩, o, m, es⟩ l = lay at *
   simp only at a1 a2 a3 a4
   rcases a4.resolve_left he with e | e
   · delta D.c3k7 oO oN oA oM oT oG oR oQ oS oK
     simp (maxSteps := 4000000) -implicitDefEqProofs only [D.rv3, iM, kC, mP, kL, qg, hmb, y4, ha, a1, a2, a3, e, WU, Int.reduceAdd, Int.reduceSub, Int.reduceMul, Int.reduceLT, Int.reduceLE, Int.reduceTMod, Int.reduceTDiv, Int.reduceNeg, Int.reduceEq, Nat.reducePow, Int.reducePow, Ent.of0, Ent.of1, Ent.of2, Ent.of3, V, W3, ↓reduceIte, Nat.reduceAdd, Nat.reduceSub, Nat.reduceMul, Nat.reduceEqDiff, Nat.reduceLT, Nat.reduceLeDiff, reduceCtorEq, Int.reduceToNat, Nat.reduceBEq]
   · delta D.c3k7 oO oN oA oM oT oG oR oQ oS oK
     simp (maxSteps := 4000000) -implicitDefEqProofs only [D.rv3, iM, kC, mP, kL, qg, hmb, y4, ha, a1, a2, a3, e, WU, Int.reduceAdd, Int.reduceSub, Int.reduceMul, Int.reduceLT, Int.reduceLE, Int.reduceTMod, Int.reduceTDiv, Int.reduceNeg, Int.reduceEq, Nat.reducePow, Int.reducePow, Ent.of0, Ent.of1, Ent.of2, Ent.of3, V, W3, ↓reduceIte, Nat.reduceAdd, Nat.reduceSub, Nat.reduceMul, Nat.reduceEqDiff, Nat.reduceLT, Nat.reduceLeDiff, reduceCtorEq, Int.reduceToNat, Nat.reduceBEq]
 have hC := hC ha he
 have hR := fun cx => hR cx _ _ hC
 obtain ⟨g1, b1, b2, b3, -, -⟩ := hC
 simp only at a1 a2 a3 g1 b1 b2 b3
 generalize eR ⟨⟨⟨d, t⟩, ⟨w, info⟩, n⟩, v, ⟨rl, rt, rs⟩, o, m, es⟩ l = lay at *
 generalize hbk : i3 m (dA m lay) = back at *
 have hbl : back.length = lay.length := by omega
 refine gQ (dj [kC, mP, kL, qg, dJ] 1000 ?_)
 delta D.c3k7 oO oN oA oM oT oG oR oQ oS oK
 simp (maxSteps := 4000000) -implicitDefEqProofs only [D.rv3, iM, kC, mP, kL, qg, dJ, hmb, y4, ha, a1, a2, a3, he, hbk, b1, hbl, g1, WU, Int.reduceAdd, Int.reduceSub, Int.reduceMul, Int.reduceLT, Int.reduceLE, Int.reduceTMod, Int.reduceTDiv, Int.reduceNeg, Int.reduceEq, Nat.reducePow, Int.reducePow, Ent.of0, Ent.of1, Ent.of2, Ent.of3, V, W3, ↓reduceIte, Nat.reduceAdd, Nat.reduceSub, Nat.reduceMul, Nat.reduceEqDiff, Nat.reduceLT, Nat.reduceLeDiff, reduceCtorEq, Int.reduceToNat, Nat.reduceBEq]
 exact hR _
end Go.Proofs.YteoobfmbipmibaaGreat
end
section
open Go Go.Am
open Go.Am.Dat (cells)
namespace Go.Proofs.YteoobfmbipmibaaGreat
set_option maxHeartbeats 4000000
set_option maxRecDepth 100000
theorem lk_A (cx : Cx) (x : Lnk) (l : List Int) (h : LnkOk x l) (hi : x.chain.polar.info.length ≤ 66) (ht : x.reg.taps.length ≤ 12) (hs : x.reg.state.length ≤ 12) :
 SG Tryz.prog cx (br D.rv3 [] (enc true) []) [.c (.cut D.c3k8)] ⟨[(1, enc l), (2, .ptr 2 0), (5, .ptr 5 0)], iM x⟩ := by
 obtain ⟨N, c, P, k, f⟩ := h.factsA
 have hR := fun cx => lk_B1 cx x l h f hi ht hs
 obtain ⟨a2, a3, a4, a5, a6, a7, a8, a9, a10, a11, a12, a13⟩ := h
 obtain ⟨hN, hN0, hc, ho, hk, hk2, hP, hP0, hPk, chn, lb, lle, reg, info', s1, s2, s3, m1, m2, m3, m4, p0, p1, p2, p3, y1, y2, y3, y4, y5⟩ := f
 obtain ⟨⟨⟨d, t⟩, ⟨w, info⟩, n⟩, v, ⟨rl, rt, rs⟩, o, m, es⟩ := x
 simp only at a2 a3 a4 a5 a6 a7 a8 a9 a10 a11 a12 a13 hN ho hk hi ht hs m3 p1 p2
 subst hN ho
 have hi6 : info.length ≤ 1000000 := by omega
 have hl6 : l.length ≤ 1000000 := by omega
 have ht6 : rt.length ≤ 1000000 := by omega
 have hs6 : rs.length ≤ 1000000 := by omega
 have e1 : jE ⟨⟨d, t⟩, ⟨w, info⟩, (N : Int)⟩ l v.toNat = iq ⟨⟨⟨d, t⟩, ⟨w, info⟩, (N : Int)⟩, v, ⟨rl, rt, rs⟩, ((2 * c : Nat) : Int), m, es⟩ l := rfl
 have e2 : kw ⟨rl, rt, rs⟩ (iq ⟨⟨⟨d, t⟩, ⟨w, info⟩, (N : Int)⟩, v, ⟨rl, rt, rs⟩, ((2 * c : Nat) : Int), m, es⟩ l) = fq ⟨⟨⟨d, t⟩, ⟨w, info⟩, (N : Int)⟩, v, ⟨rl, rt, rs⟩, ((2 * c : Nat) : Int), m, es⟩ l := rfl
 have e3 : fB (2 * c) (fq ⟨⟨⟨d, t⟩, ⟨w, info⟩, (N : Int)⟩, v, ⟨rl, rt, rs⟩, ((2 * c : Nat) : Int), m, es⟩ l) (N / (2 * c)) = eU ⟨⟨⟨d, t⟩, ⟨w, info⟩, (N : Int)⟩, v, ⟨rl, rt, rs⟩, ((2 * c : Nat) : Int), m, es⟩ l := by
  show _ = fB (((2 * c : Nat) : Int)).toNat _ ((N : Int).toNat / (((2 * c : Nat) : Int)).toNat)
  rw [Int.toNat_natCast, Int.toNat_natCast]
 have e4 : eQ m.length (eU ⟨⟨⟨d, t⟩, ⟨w, info⟩, (N : Int)⟩, v, ⟨rl, rt, rs⟩, ((2 * c : Nat) : Int), m, es⟩ l) P = eR ⟨⟨⟨d, t⟩, ⟨w, info⟩, (N : Int)⟩, v, ⟨rl, rt, rs⟩, ((2 * c : Nat) : Int), m, es⟩ l := by rw [← p2]; rfl
 generalize eR ⟨⟨⟨d, t⟩, ⟨w, info⟩, (N : Int)⟩, v, ⟨rl, rt, rs⟩, ((2 * c : Nat) : Int), m, es⟩ l = lay at *
 generalize eU ⟨⟨⟨d, t⟩, ⟨w, info⟩, (N : Int)⟩, v, ⟨rl, rt, rs⟩, ((2 * c : Nat) : Int), m, es⟩ l = pts at *
 generalize fq ⟨⟨⟨d, t⟩, ⟨w, info⟩, (N : Int)⟩, v, ⟨rl, rt, rs⟩, ((2 * c : Nat) : Int), m, es⟩ l = mixed at *
 generalize iq ⟨⟨⟨d, t⟩, ⟨w, info⟩, (N : Int)⟩, v, ⟨rl, rt, rs⟩, ((2 * c : Nat) : Int), m, es⟩ l = sent at *
 have hs80 : sent.length ≤ 1000000 := by omega
 have hm80 : mixed.length ≤ 1000000 := by omega
 have hp80 : pts.length ≤ 1000000 := by omega
 have htd : (N : Int).tdiv ((2 * c : Nat) : Int) = (P : Int) := by
  rw [Int.tdiv_eq_ediv_of_nonneg (by omega), hP]
  push_cast
  rw [Int.mul_ediv_cancel _ (by omega)]
 have hN6 : N ≤ 1000000 := by omega
 have hP6 : P ≤ 1000000 := by omega
 have hPR : InR .i64 (P : Int) := by
  simp only [InR, V, W3, ↓reduceIte, Nat.reduceAdd, Nat.reduceSub, Nat.reduceMul, Nat.reduceEqDiff, Nat.reduceLT, Nat.reduceLeDiff, reduceCtorEq, Int.reduceToNat, Nat.reduceBEq]
  omega
 have hne : ¬ ((2 * c : Nat) : Int) = 0 := by omega
 rw [← hk] at y1 y3
 clear p0 hP y4 y5
 generalize 2 * c = O at *
 refine gQ (dj [rZ, nI, ent12, kM, sj, ent16, ent18, rL, lx, nV, ent21, kL] 1600 ?_)
 delta D.c3k8 oO oN oA oM oT oG oR oQ oS oK
 simp (maxSteps := 4000000) -implicitDefEqProofs only [D.rv3, iM, rZ, nI, ent12, kM, sj, ent16, ent18, rL, lx, nV, ent21, kL, ea, fk, fX, gk, hi6, hl6, ht6, hs6, hs80, hm80, hp80, a2, a4, a5, a7, e1, e2, e3, e4, s1, s2, m1, m2, m3, p1, p2, p3, y1, y2, y3, htd, hne, hN6, hP6, hPR, Int.toNat_natCast, WU, Int.reduceAdd, Int.reduceSub, Int.reduceMul, Int.reduceLT, Int.reduceLE, Int.reduceTMod, Int.reduceTDiv, Int.reduceNeg, Int.reduceEq, Nat.reducePow, Int.reducePow, Ent.of0, Ent.of1, Ent.of2, Ent.of3, V, W3, ↓reduceIte, Nat.reduceAdd, Nat.reduceSub, Nat.reduceMul, Nat.reduceEqDiff, Nat.reduceLT, Nat.reduceLeDiff, reduceCtorEq, Int.reduceToNat, Nat.reduceBEq]
 exact hR _
theorem py (x : Lnk) (l : List Int) : FC Tryz.prog 3 [enc x, enc l] [] (enc true) [] := zN x l fun cx h hi ht hs => lk_A cx x l h hi ht hs
end Go.Proofs.YteoobfmbipmibaaGreat
end
section
open Go Go.Am
open Go.Am.Dat (cells)
namespace Go.Proofs.YteoobfmbipmibaaGreat
open Go.ChangeShapes Go.WideShapes Go.ChangeAt Go.RowKit
theorem own : ownKnob Tryz.prog.godebug = none := by kernel_rfl
theorem u5 : laidOutB Tryz.prog = true := by kernel_rfl
theorem glob0 : Glob.gl Tryz.prog = [] := rfl
theorem lO : ReadsAs Tryz.prog 3 Int := ReadsAs.int Tryz.underlying3 (by kernel_rfl)
theorem sb : ReadsAs Tryz.prog 24 (List Int) := ReadsAs.list lO Tryz.underlying24 (by kernel_rfl)
theorem rGauss : ReadsAs Tryz.prog 62 Gs := by
 refine ⟨by kernel_rfl, by decide, fun en w sp fuel cs x h => ?_⟩
 obtain ⟨l, a0, e0, h0⟩ := eN lO Tryz.underlying62 h 0 rfl rfl
 obtain ⟨_, a1, e1, h1⟩ := eN lO Tryz.underlying62 h 1 rfl rfl
 refine ⟨⟨a0, a1⟩, rfl, l.trans (by kernel_rfl), fun j c hj => ?_⟩
 match j, hj with
 | 0, hj => cases hj; exact h0 0 _ rfl
 | 1, hj => cases hj; exact h1 0 _ rfl
theorem sL : ReadsAs Tryz.prog 32 (List Gs) := ReadsAs.list rGauss Tryz.underlying32 (by kernel_rfl)
theorem rGss : ReadsAs Tryz.prog 31 (List (List Gs)) := ReadsAs.list sL Tryz.underlying31 (by kernel_rfl)
theorem rReg : ReadsAs Tryz.prog 30 Reg := by
 refine ⟨by kernel_rfl, by decide, fun en w sp fuel cs x h => ?_⟩
 obtain ⟨l, a0, e0, h0⟩ := eN lO Tryz.underlying30 h 0 rfl rfl
 obtain ⟨_, a1, e1, h1⟩ := eN sb Tryz.underlying30 h 1 rfl rfl
 obtain ⟨_, a2, e2, h2⟩ := eN sb Tryz.underlying30 h 2 rfl rfl
 refine ⟨⟨a0, a1, a2⟩, rfl, l.trans (by kernel_rfl), fun j c hj => ?_⟩
 match j, hj with
 | 0, hj => cases hj; exact h0 0 _ rfl
 | 1, hj => cases hj; exact h1 0 _ rfl
 | 2, hj => cases hj; exact h2 0 _ rfl
theorem rPoly : ReadsAs Tryz.prog 23 Gs := by
 refine ⟨by kernel_rfl, by decide, fun en w sp fuel cs x h => ?_⟩
 obtain ⟨l, a0, e0, h0⟩ := eN lO Tryz.underlying23 h 0 rfl rfl
 obtain ⟨_, a1, e1, h1⟩ := eN lO Tryz.underlying23 h 1 rfl rfl
 refine ⟨⟨a0, a1⟩, rfl, l.trans (by kernel_rfl), fun j c hj => ?_⟩
 match j, hj with
 | 0, hj => cases hj; exact h0 0 _ rfl
 | 1, hj => cases hj; exact h1 0 _ rfl
theorem rPol : ReadsAs Tryz.prog 26 Pol := by
 refine ⟨by kernel_rfl, by decide, fun en w sp fuel cs x h => ?_⟩
 obtain ⟨l, a0, e0, h0⟩ := eN lO Tryz.underlying26 h 0 rfl rfl
 obtain ⟨_, a1, e1, h1⟩ := eN sb Tryz.underlying26 h 1 rfl rfl
 refine ⟨⟨a0, a1⟩, rfl, l.trans (by kernel_rfl), fun j c hj => ?_⟩
 match j, hj with
 | 0, hj => cases hj; exact h0 0 _ rfl
 | 1, hj => cases hj; exact h1 0 _ rfl
theorem rChn : ReadsAs Tryz.prog 28 Chn := by
 refine ⟨by kernel_rfl, by decide, fun en w sp fuel cs x h => ?_⟩
 obtain ⟨l, a0, e0, h0⟩ := eN rPoly Tryz.underlying28 h 0 rfl rfl
 obtain ⟨_, a1, e1, h1⟩ := eN rPol Tryz.underlying28 h 1 rfl rfl
 obtain ⟨_, a2, e2, h2⟩ := eN lO Tryz.underlying28 h 2 rfl rfl
 refine ⟨⟨a0, a1, a2⟩, rfl, l.trans (by kernel_rfl), fun j c hj => ?_⟩
 match j, hj with
 | 0, hj => cases hj; exact h0 0 _ rfl
 | 1, hj => cases hj; exact h0 1 _ rfl
 | 2, hj => cases hj; exact h1 0 _ rfl
 | 3, hj => cases hj; exact h1 1 _ rfl
 | 4, hj => cases hj; exact h2 0 _ rfl
theorem rLnk : ReadsAs Tryz.prog 34 Lnk := by
 refine ⟨by kernel_rfl, by decide, fun en w sp fuel cs x h => ?_⟩
 obtain ⟨l, a0, e0, h0⟩ := eN rChn Tryz.underlying34 h 0 rfl rfl
 obtain ⟨_, a1, e1, h1⟩ := eN lO Tryz.underlying34 h 1 rfl rfl
 obtain ⟨_, a2, e2, h2⟩ := eN rReg Tryz.underlying34 h 2 rfl rfl
 obtain ⟨_, a3, e3, h3⟩ := eN lO Tryz.underlying34 h 3 rfl rfl
 obtain ⟨_, a4, e4, h4⟩ := eN rGss Tryz.underlying34 h 4 rfl rfl
 obtain ⟨_, a5, e5, h5⟩ := eN sL Tryz.underlying34 h 5 rfl rfl
 refine ⟨⟨a0, a1, a2, a3, a4, a5⟩, rfl, l.trans (by kernel_rfl), fun j c hj => ?_⟩
 match j, hj with
 | 0, hj => cases hj; exact h0 0 _ rfl
 | 1, hj => cases hj; exact h0 1 _ rfl
 | 2, hj => cases hj; exact h0 2 _ rfl
 | 3, hj => cases hj; exact h0 3 _ rfl
 | 4, hj => cases hj; exact h0 4 _ rfl
 | 5, hj => cases hj; exact h1 0 _ rfl
 | 6, hj => cases hj; exact h2 0 _ rfl
 | 7, hj => cases hj; exact h2 1 _ rfl
 | 8, hj => cases hj; exact h2 2 _ rfl
 | 9, hj => cases hj; exact h3 0 _ rfl
 | 10, hj => cases hj; exact h4 0 _ rfl
 | 11, hj => cases hj; exact h5 0 _ rfl
set_option maxRecDepth 100000 in
theorem lifted3 (os : Os) (started : os.Started) (H : Type) (en : TypeId × Value → H) :
 ReturnsInHanded {} Tryz.checked os 3 .any (Rows.topSymbolLinkSpec.pre6 en Tryz.prog Tryz.f3 Rows.topSymbolLinkRow.domain false) (Rows.topSymbolLinkSpec.post en Tryz.prog Tryz.f3 false true false false) := by
 refine returnsInHanded_of_change (C := Tryz.checked) own started (by kernel_rfl) Tryz.func3
  (ChangeSpec.witness6 (enc := en) (C := Tryz.checked) false ⟨#[], #[.agg #[.int .i64 0, .int .i64 0, .int .i64 0, .slice none 0 0, .int .i64 0, .int .i64 0, .int .i64 0, .slice none 0 0, .slice none 0 0, .int .i64 0, .slice none 0 0, .slice none 0 0], .slice none 0 0], []⟩ 8 (by kernel_rfl) (by kernel_rfl) (by kernel_rfl) (by kernel_rfl)) ?_
 intro W base args ds gs before hval0 hW hcnd _
 have hval : ∀ (j : Nat) t v, Tryz.f3.params[j]? = some t → args[j]? = some v → Value.okWide Tryz.prog W .any base t v := hval0
 have hW' := hW
 obtain ⟨p, q, hA0, hV, rfl, hfz, hnd⟩ := hW
 have hA : DataW.TrodAll en Tryz.prog W 0 (fun _ => true) true Tryz.f3.params.toList args.toList ds p := hA0
 rw [Tryz.params3] at hA hval
 obtain ⟨v0, vs0, d0, ds0, p0, q0, hargs, rfl, rfl, h0, r0⟩ := trodAll_cons hA
 obtain ⟨v1, vs1, d1, ds1, p1, q1, rfl, rfl, rfl, h1, r1⟩ := trodAll_cons r0
 obtain ⟨rfl, rfl, rfl⟩ := trodAll_nil r1
 obtain rfl : args = #[v0, v1] := by cases args; simp_all
 obtain ⟨rfl, rfl⟩ := trodVars_none hV
 have lt0 : ∀ x ∈ p0, x.block < W.heap.size := by obtain ⟨m, hm⟩ := h0; exact DataW.trod_lt m _ _ _ hm
 have lt1 : ∀ x ∈ p1, x.block < W.heap.size := by obtain ⟨m, hm⟩ := h1; exact DataW.trod_lt m _ _ _ hm
 obtain ⟨x0, hx0⟩ := rLnk.argS rfl Tryz.underlying34 (hval 0 34 v0 rfl rfl) h0
 obtain ⟨x1, hx1⟩ := sb.arg Tryz.underlying24 (hval 1 24 v1 rfl rfl) h1
 clear hA0 hval0
 refine (yn glob0 (py x0 x1) (W := W) (vs := #[v0, v1]) rfl (fun j c hj E => ?_)).mono fun e W' ⟨he, bel⟩ => ?_
 · match j, hj with
   | 0, hj => cases hj; exact hx0 E
   | 1, hj => cases hj; exact hx1 E
 · subst he
   exact ⟨_, rfl, _, _, _, [], _, [], hW', trodAll_mk1 (shut_bool Tryz.underlying4 _), (trodAll_cons_mk (Below.trod u5 (by kernel_rfl) (of_decide_eq_true (by kernel_rfl)) h0 bel lt0) (trodAll_cons_mk (Below.trod u5 (by kernel_rfl) (of_decide_eq_true (by kernel_rfl)) h1 bel lt1) trodAll_mk0)), rfl, bel.frame _, fun h => by cases h⟩
theorem over3 : Rows.topSymbolLinkRow.holds Tryz.pinned (OpenSpec.ofChange Rows.topSymbolLinkSpec) :=
 OpenClaim.holds_of_wide 3 Tryz.f3 rfl rfl rfl rfl rfl rfl rfl ⟨rfl, rfl, rfl, rfl, rfl⟩ rfl rfl rfl rfl rfl (by kernel_rfl) Tryz.func3 (by kernel_rfl)
  (of_decide_eq_true (by kernel_rfl)) (by unfold Func.isWrapper; first | (rw [if_pos (by decide +kernel)]; kernel_rfl) | (rw [if_neg (by decide +kernel)]; exact ⟨rfl, rfl⟩))
  (fun os started H en _ => lifted3 os started H en)
theorem TopSymbolLink_holds : Rows.TopSymbolLinkSaid := over3
#print axioms TopSymbolLink_holds
end Go.Proofs.YteoobfmbipmibaaGreat
end
