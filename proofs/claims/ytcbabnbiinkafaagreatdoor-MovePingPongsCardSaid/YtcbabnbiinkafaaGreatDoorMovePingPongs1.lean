/- Part 1 of the proof of: MovePingPongs returns true for every input and never panics: the ping-pongs among stays are as the reference says; conditions: those of the given statement, that the package variables it lists hold what their initialisers lay. -/
import Derived.WideShapes
import Derived.ChangeArms
import Derived.OpenShut
import Derived.LaidLaws
import Derived.Lib.LaidTab
import Derived.Stop.LaidErr
import Derived.Test.YtcbabnbiinkafaaGreatDoorProg
import Derived.KernelRfl
import Derived.Test.YtcbabnbiinkafaaGreatDoorRows
import Derived.Test.YtcbabnbiinkafaaGreatDoorTie
import Derived.Test.YtcbabnbiinkafaaGreatDoorCards
import Derived.SevenTiedAt
import Derived.ProofKit
import Derived.Lay
import Derived.LaidMore
import Derived.LaidOnce
import Derived.LaidHandle
import Derived.Stop.Joined
import Derived.ChangeMaps5
import Derived.Test.YtcbabnbiinkafaaGreatDoorBm22
set_option linter.all false
section
namespace Go.Am
open Dat (cells)
variable {P : Program}
theorem ReadsAs.arg {t e : TypeId} {α : Type} [DatL α] (h : ReadsAs P t (List α)) (ht : P.underlying t = some (.slice e)) {H : Type} {en : TypeId × Value → H} {W : World} {r : Reach} {base : Nat} {sp : Nat → Bool} {v : Value} {d : DataW H} {ps : List MemPlace}
 (hval : Value.okWide P W r base t v) (hd : DataW.Trod en P W 0 sp true t v d ps) : ∃ l : List α, ∀ E, Rep E (fun b => b < W.heap.size) W.heap (enc l) v := by
 obtain ⟨a, len, cap, rfl⟩ := WideShapes.okWide_slice ht hval
 obtain ⟨fuel, hf⟩ := hd
 obtain ⟨l, _, _, h3⟩ := h.rd en W sp fuel _ _ hf
 exact ⟨l, fun E => .d (h3 0 _ rfl).1⟩
theorem ReadsP.arg {t e : TypeId} {α : Type} [DatL α] {p : List α → Prop} (h : ReadsP P t (List α) p) (ht : P.underlying t = some (.slice e)) {H : Type} {en : TypeId × Value → H} {W : World} {r : Reach} {base : Nat} {sp : Nat → Bool} {v : Value} {d : DataW H} {ps : List MemPlace}
 (hval : Value.okWide P W r base t v) (hd : DataW.Trod en P W 0 sp true t v d ps) : ∃ l : List α, p l ∧ ∀ E, Rep E (fun b => b < W.heap.size) W.heap (enc l) v := by
 obtain ⟨a, len, cap, rfl⟩ := WideShapes.okWide_slice ht hval
 obtain ⟨fuel, hf⟩ := hd
 obtain ⟨l, h0, _, _, h3⟩ := h.rd en W sp fuel _ _ hf
 exact ⟨l, h0, fun E => .d (h3 0 _ rfl).1⟩
end Go.Am
end
section
open Go Go.Am
open Go.Am.Dat (cells)
namespace Go.Proofs.YtcbabnbiinkafaaGreatDoor
set_option maxRecDepth 100000
def c6 : AC := oS (oR [oA 3 (.box (oO 0)), oA 6 (.mv (.const (.bool false)))]) (oK [1, 2, 3] (oS (oS (oR [oA 10 (.call (.func 21) []), oA 11 (.un .not (oO 10))]) (oK [1, 2, 3, 11] (.cond (oO 11) (oS (oR [oA 6 (.mv (.const (.bool false)))]) (oK [6] (.ret))) (.skip)))) (oK [1, 2, 3] (oS (oS (oR [oA 12 (.load true 3 (oO 3)), oA 13 (.call (.func 34) [(oO 12)]), oA 14 (.un .not (oO 13)), oM 15 14, oG 16 15 false (.mv (oO 1)), oG 17 15 false (.len false (oO 16)), oG 18 15 false (.bin .gtr 3 (oO 17) (oN 20)), oG 19 15 false (.mv (oO 18)), oG 20 19 true (.mv (oO 1)), oG 21 19 true (.len false (oO 20)), oG 22 19 true (.bin .leq 3 (oO 21) (oN 200)), oG 23 15 false (.pick (oO 19) (oO 22) (.const (.bool false))), oA 24 (.pick (oO 15) (.const (.bool true)) (oO 23)), oM 25 24, oG 26 25 false (.mv (oO 1)), oG 27 25 false (.len false (oO 26)), oG 28 25 false (.bin .gtr 3 (oO 27) (oN 202)), oA 29 (.pick (oO 25) (.const (.bool true)) (oO 28))]) (oK [1, 2, 3, 29] (.cond (oO 29) (oS (oR [oA 6 (.mv (.const (.bool true)))]) (oK [6] (.ret))) (.skip)))) (oK [1, 2, 3] (oS (oR [oA 31 (.load true 3 (oO 3)), oA 32 (.call (.func 37) [(oO 31)]), oM 33 1, oA 34 (.call (.func 45) [(oO 33)]), oM 35 2, oA 36 (.call (.func 44) [(oO 32), (oO 34), (oO 35)]), oM 30 36, oA 37 (.extr (oO 30) 0), oA 38 (.extr (oO 30) 1), oM 7 37, oM 8 38]) (oK [1, 2, 3, 7, 8] (oS (oR [oA 39 (.load true 3 (oO 3)), oA 40 (.call (.func 46) [(oO 39)]), oM 9 40]) (oK [1, 2, 3, 7, 8, 9] (oS (oS (oR [oM 41 9, oA 42 (.bin .eql 3 (oO 41) (oN 0))]) (oK [1, 2, 3, 7, 8, 9, 42] (.cond (oO 42) (oR [oA 43 (.load true 3 (oO 3)), oM 44 1, oA 45 (.call (.func 47) [(oO 43), (oO 44)]), oM 9 45]) (.skip)))) (oK [1, 2, 7, 8, 9] (oS (oS (oR [oM 46 9, oA 47 (.bin .eql 3 (oO 46) (oN 0)), oM 48 47, oG 49 48 true (.mv (oO 2)), oG 50 48 true (.call (.func 31) [(oO 49), (oN 0), (oN 1000000000)]), oG 51 48 true (.un .not (oO 50)), oA 52 (.pick (oO 48) (oO 51) (.const (.bool false)))]) (oK [1, 2, 7, 8, 9, 52] (.cond (oO 52) (oR [oA 9 (.mv (oN 2))]) (.skip)))) (oK [1, 2, 7, 8, 9] (oS (oS (oR [oM 53 9, oA 54 (.bin .neq 3 (oO 53) (oN 0))]) (oK [1, 2, 7, 8, 9, 54] (.cond (oO 54) (oS (oR [oM 55 8, oM 56 9, oA 57 (.bin .eql 3 (oO 55) (oO 56)), oM 58 57, oG 59 58 true (.mv (oO 7)), oG 60 58 true (.bin .eql 3 (oO 59) (oN 0)), oA 61 (.pick (oO 58) (oO 60) (.const (.bool false))), oM 6 61]) (oK [6] (.ret))) (.skip)))) (oK [1, 2, 7, 8] (oS (oR [oM 62 8, oA 63 (.bin .eql 27 (oO 62) (oN 0)), oM 64 63, oG 65 64 true (.mv (oO 7)), oG 66 64 true (.mv (oO 1)), oG 67 64 true (.mv (oO 2)), oG 68 64 true (.call (.func 48) [(oO 66), (oO 67)]), oG 69 64 true (.bin .eql 3 (oO 65) (oO 68)), oA 70 (.pick (oO 64) (oO 69) (.const (.bool false))), oM 6 70]) (oK [6] (.ret))))))))))))))))))
def rv6 : List RV := [.tmp 6]
theorem is6 : FnIs Tryz.prog 6 71 c6 rv6 := ⟨⟨Tryz.f6, _, Tryz.func6, by kernel_rfl, rfl, rfl, by kernel_rfl, by kernel_rfl⟩, by decide⟩
def c45 : AC := oS (oR [oA 2 (.mv (.const (.slice none 0 0)))]) (oK [0] (oS (oR [oA 3 (.mkSl true 138 3 [.int .i64 0, .int .i64 0, .int .i64 0] 0 []), oM 4 0, oA 5 (.app 65 138 3 24 [.int .i64 0, .int .i64 0, .int .i64 0] (oO 3) (oO 4)), oM 2 5]) (oK [2] (.ret))))
def rv45 : List RV := [.tmp 2]
theorem is45 : FnIs Tryz.prog 45 6 c45 rv45 := ⟨⟨Tryz.f45, _, Tryz.func45, by kernel_rfl, rfl, rfl, by kernel_rfl, by kernel_rfl⟩, by decide⟩
def wR : AC := oS (oS (oR [oM 10 5, oM 11 1, oA 12 (.len false (oO 11)), oA 13 (.bin .lss 3 (oO 10) (oO 12))]) (oK [1, 2, 5, 13] (.cond (oO 13) (.skip) (.exit 0)))) (oK [1, 2, 5] (oS (.block 1 (oS (oR [oM 16 1, oM 17 5, oA 18 (.iaddr 3 [.int .i64 0, .int .i64 0, .int .i64 0] (oO 16) (oO 17)), oA 19 (.load true 3 (oO 18)), oA 6 (.alloc [.int .i64 0, .int .i64 0, .int .i64 0]), ⟨none, none, .store false 3 (oO 6) (oO 19), false⟩]) (oK [1, 2, 5, 6] (oS (oS (oR [oA 20 (.load true 3 (oO 2)), oA 21 (.faddr 0 (oO 6)), oA 22 (.load false 1 (oO 21)), oA 23 (.call (.func 99) [(oO 20), (oO 22)]), oA 24 (.un .not (oO 23))]) (oK [1, 2, 5, 6, 24] (.cond (oO 24) (oS (oR [oA 4 (.mv (oN 6))]) (oK [4] (.ret))) (.skip)))) (oK [1, 2, 5, 6] (oS (oS (oR [oA 25 (.faddr 1 (oO 6)), oA 26 (.load false 1 (oO 25)), oA 27 (.call (.func 31) [(oO 26), (oN 0), (oN 1000000000)]), oA 28 (.un .not (oO 27)), oM 29 28, oG 30 29 false (.faddr 2 (oO 6)), oG 31 29 false (.load false 1 (oO 30)), oG 32 29 false (.call (.func 31) [(oO 31), (oN 0), (oN 1000000000)]), oG 33 29 false (.un .not (oO 32)), oA 34 (.pick (oO 29) (.const (.bool true)) (oO 33))]) (oK [1, 2, 5, 6, 34] (.cond (oO 34) (oS (oR [oA 4 (.mv (oN 2))]) (oK [4] (.ret))) (.skip)))) (oK [1, 2, 5, 6] (oS (oS (oQ [oA 35 (.faddr 2 (oO 6)), oA 36 (.load false 1 (oO 35)), oA 37 (.faddr 1 (oO 6)), oA 38 (.load false 1 (oO 37)), oT 39 (.bin .lss 3 (oO 36) (oO 38)), oT 40 (.mv (oO 39)), ⟨some 41, some (40, false), .mv (oO 5), true⟩, ⟨some 42, some (40, false), .bin .gtr 3 (oO 41) (oN 0), true⟩, ⟨some 43, some (40, false), .mv (oO 42), true⟩, oG 44 43 true (.faddr 1 (oO 6)), oG 45 43 true (.load false 1 (oO 44)), oG 46 43 true (.mv (oO 1)), oG 47 43 true (.mv (oO 5)), oG 48 43 true (.bin .sub 3 (oO 47) (oN 1)), oG 49 43 true (.iaddr 3 [.int .i64 0, .int .i64 0, .int .i64 0] (oO 46) (oO 48)), oG 50 43 true (.faddr 2 (oO 49)), oG 51 43 true (.load false 1 (oO 50)), ⟨some 52, some (43, true), .bin .neq 3 (oO 45) (oO 51), true⟩, ⟨some 53, some (40, false), .pick (oO 43) (oO 52) (.const (.bool false)), true⟩, oT 54 (.pick (oO 40) (.const (.bool true)) (oO 53))]) (oK [1, 2, 5, 6, 54] (.cond (oO 54) (oS (oR [oA 4 (.mv (oN 9))]) (oK [4] (.ret))) (.skip)))) (oK [1, 2, 5, 6] (oS (oQ [oT 55 (.mv (oO 5)), oT 56 (.bin .gtr 3 (oO 55) (oN 0)), oT 57 (.mv (oO 56)), oG 58 57 true (.faddr 0 (oO 6)), oG 59 57 true (.load false 1 (oO 58)), oG 60 57 true (.mv (oO 1)), oG 61 57 true (.mv (oO 5)), oG 62 57 true (.bin .sub 3 (oO 61) (oN 1)), oG 63 57 true (.iaddr 3 [.int .i64 0, .int .i64 0, .int .i64 0] (oO 60) (oO 62)), oG 64 57 true (.faddr 0 (oO 63)), oG 65 57 true (.load false 1 (oO 64)), ⟨some 66, some (57, true), .bin .eql 3 (oO 59) (oO 65), true⟩, oT 67 (.pick (oO 57) (oO 66) (.const (.bool false)))]) (oK [1, 2, 5, 67] (.cond (oO 67) (oS (oR [oA 4 (.mv (oN 26))]) (oK [4] (.ret))) (.skip))))))))))))) (oK [1, 2, 5] (oR [oM 14 5, oA 15 (.bin .add 3 (oO 14) (oN 1)), oM 5 15]))))
def c47 : AC := oS (oR [oA 2 (.box (oO 0)), oA 4 (.mv (oN 0))]) (oK [1, 2] (oS (oS (oR [oM 7 1, oA 8 (.len false (oO 7)), oA 9 (.bin .gtr 3 (oO 8) (oN 200))]) (oK [1, 2, 9] (.cond (oO 9) (oS (oR [oA 4 (.mv (oN 8))]) (oK [4] (.ret))) (.skip)))) (oK [1, 2] (oS (oS (oR [oA 5 (.mv (oN 0))]) (oK [1, 2, 5] (.block 0 (.loop wR)))) (oK [] (oS (oR [oA 4 (.mv (oN 0))]) (oK [4] (.ret))))))))
def rv47 : List RV := [.tmp 4]
theorem is47 : FnIs Tryz.prog 47 68 c47 rv47 := ⟨⟨Tryz.f47, _, Tryz.func47, by kernel_rfl, rfl, rfl, by kernel_rfl, by kernel_rfl⟩, by decide⟩
def c48l1 : AC := oS (oS (oR [oM 7 6, oA 8 (.bin .add 3 (oO 7) (oN 1)), oM 9 0, oA 10 (.len false (oO 9)), oA 11 (.bin .lss 3 (oO 8) (oO 10))]) (oK [0, 1, 5, 6, 11] (.cond (oO 11) (.skip) (.exit 0)))) (oK [0, 1, 5, 6] (oS (.block 1 (oS (oQ [oM 14 0, oA 15 (.mvs (oO 6)), oA 16 (.bin .sub 3 (oO 15) (oN 1)), oA 17 (.iaddr 3 [.int .i64 0, .int .i64 0, .int .i64 0] (oO 14) (oO 16)), oA 18 (.faddr 0 (oO 17)), oA 19 (.load false 1 (oO 18)), oM 20 0, oM 21 6, oA 22 (.bin .add 3 (oO 21) (oN 1)), oA 23 (.iaddr 3 [.int .i64 0, .int .i64 0, .int .i64 0] (oO 20) (oO 22)), oA 24 (.faddr 0 (oO 23)), oA 25 (.load false 1 (oO 24)), oT 26 (.bin .eql 3 (oO 19) (oO 25)), oT 27 (.mv (oO 26)), oG 28 27 true (.mv (oO 0)), oG 29 27 true (.mv (oO 6)), oG 30 27 true (.iaddr 3 [.int .i64 0, .int .i64 0, .int .i64 0] (oO 28) (oO 29)), oG 31 27 true (.faddr 2 (oO 30)), oG 32 27 true (.load false 1 (oO 31)), oG 33 27 true (.mv (oO 0)), oG 34 27 true (.mv (oO 6)), oG 35 27 true (.iaddr 3 [.int .i64 0, .int .i64 0, .int .i64 0] (oO 33) (oO 34)), oG 36 27 true (.faddr 1 (oO 35)), oG 37 27 true (.load false 1 (oO 36)), oG 38 27 true (.bin .sub 3 (oO 32) (oO 37)), oG 39 27 true (.mv (oO 1)), ⟨some 40, some (27, true), .bin .leq 3 (oO 38) (oO 39), true⟩, oT 41 (.pick (oO 27) (oO 40) (.const (.bool false)))]) (oK [0, 1, 5, 6, 41] (.cond (oO 41) (oR [oM 42 5, oA 43 (.bin .add 3 (oO 42) (oN 1)), oM 5 43]) (.skip))))) (oK [0, 1, 5, 6] (oR [oM 12 6, oA 13 (.bin .add 3 (oO 12) (oN 1)), oM 6 13]))))
def c48 : AC := oS (oR [oA 4 (.mv (oN 0))]) (oK [0, 1] (oS (oR [oA 5 (.mv (oN 0))]) (oK [0, 1, 5] (oS (oS (oR [oA 6 (.mv (oN 1))]) (oK [0, 1, 5, 6] (.block 0 (.loop c48l1)))) (oK [5] (oS (oR [oM 44 5, oM 4 44]) (oK [4] (.ret))))))))
def rv48 : List RV := [.tmp 4]
theorem is48 : FnIs Tryz.prog 48 45 c48 rv48 := ⟨⟨Tryz.f48, _, Tryz.func48, by kernel_rfl, rfl, rfl, by kernel_rfl, by kernel_rfl⟩, by decide⟩
end Go.Proofs.YtcbabnbiinkafaaGreatDoor
end
section
open Go Go.Am
open Go.Am.Dat (cells)
namespace Go.Proofs.YtcbabnbiinkafaaGreatDoor
set_option maxHeartbeats 4000000
set_option maxRecDepth 100000
def cnt (p : Nat → Bool) : Nat → Nat
 | 0 => 0
 | t + 1 => if p t then cnt p t + 1 else 0
theorem wO (p : Nat → Bool) : ∀ (t m : Nat), m < cnt p t ↔ (m < t ∧ ∀ k, k < t → t ≤ k + m + 1 → p k = true)
 | 0, m => by simp [cnt]
 | t + 1, m => by
  rw [cnt]
  cases hp : p t with
  | false =>
   simp only [Bool.false_eq_true, if_false, Nat.not_lt_zero, false_iff, not_and]
   intro h1 h2
   have := h2 t (by omega) (by omega)
   rw [hp] at this; cases this
  | true =>
   simp only [if_true]
   cases m with
   | zero =>
    constructor
    · intro _
      refine ⟨by omega, fun k h1 h2 => ?_⟩
      have : k = t := by omega
      rw [this]; exact hp
    · intro _; omega
   | succ m =>
    have ih := wO p t m
    constructor
    · intro h
      obtain ⟨g1, g2⟩ := ih.1 (by omega)
      refine ⟨by omega, fun k h1 h2 => ?_⟩
      by_cases hk : k = t
      · rw [hk]; exact hp
      · exact g2 k (by omega) (by omega)
    · intro h
      have := ih.2 ⟨by omega, fun k h1 h2 => h.2 k (by omega) (by omega)⟩
      omega
theorem wU (p : Nat → Bool) (t : Nat) : ((cnt p (t + 1) : Nat) : Int) = if p t then (cnt p t : Int) + 1 else 0 := by
 rw [cnt]; split <;> simp
def wK : Ent Tryz.prog := .of3 44 (fun n _ _ => NwS n) (fun (n : Nw) (l : List T3) (w : Int) => .tup [enc (ppR n l w), enc (ppE n l w)]) (fun _ _ _ => ⟨trivial, trivial, trivial⟩) (fun n l w h => rS n l w h)
def wJ (n : Nw) (l : List T3) : Int := if l.length > 200 then 8 else stE n l 0 l
theorem wW (n : Nw) (l : List T3) (h : NwS n) : FC Tryz.prog 47 [enc n, enc l] [] (enc (wJ n l)) [] := by
 have hbc := h.c
 have hdn := gN n
 generalize hE : wJ n l = e
 refine dC [] is47 (by simp) trivial trivial trivial trivial (fun cx _ hl _ => dB [] 800 ?_)
 by_cases h1 : 200 < l.length
 · have h1' : (200 : Int) < (l.length : Int) := by omega
   have he : e = 8 := by rw [← hE, wJ, if_pos (by omega)]
   delta c47 oO oN oA oM oT oG oR oQ oS oK
   simp (maxSteps := 4000000) -implicitDefEqProofs only [rv47, g9, gV, fJ, ec, h1', he, not_true_eq_false, WU, Ent.of0, Ent.of1, Ent.of2, Ent.of3, Ent.of4, V, W3, ↓reduceIte, seval, reduceCtorEq]
 have h1' : ¬ (200 : Int) < (l.length : Int) := by omega
 have he : e = stE n l 0 l := by rw [← hE, wJ, if_neg (by omega)]
 clear hE
 delta c47 oO oN oA oM oT oG oR oQ oS oK
 simp (maxSteps := 4000000) -implicitDefEqProofs only [rv47, g9, gV, fJ, ec, h1', not_true_eq_false, WU, Ent.of0, Ent.of1, Ent.of2, Ent.of3, Ent.of4, V, W3, ↓reduceIte, seval, reduceCtorEq]
 refine eM l.length (fun i => [(5, .s (.int .i64 (i : Int)))]) (fun _ => []) (fun i => e = stE n l i (l.drop i)) he ?_ (fun i hi hv => dB [mw, n9] 900 ?_)
 · simp (maxSteps := 4000000) -implicitDefEqProofs only [Ent.of0, Ent.of1, Ent.of2, Ent.of3, Ent.of4, V, W3, ↓reduceIte, seval, reduceCtorEq]
   all_goals simp
 · by_cases h4 : i < l.length
   · have hi2 : (i : Int) < (l.length : Int) := by omega
     have hi0 : (0 : Int) ≤ i := by omega
     rw [ee ⟨0, 0, 0⟩ h4, stE] at hv
     have hok : (-9223372036854775808 ≤ (i : Int) + 1 ∧ (i : Int) + 1 ≤ 9223372036854775807) := by omega
     have hok2 : (i : Int) + 1 = ((i + 1 : Nat) : Int) := by omega
     have htky : eL (l.getD i ⟨0, 0, 0⟩).y = decide (0 ≤ (l.getD i ⟨0, 0, 0⟩).y ∧ (l.getD i ⟨0, 0, 0⟩).y ≤ 1000000000) := rfl
     have htkz : eL (l.getD i ⟨0, 0, 0⟩).z = decide (0 ≤ (l.getD i ⟨0, 0, 0⟩).z ∧ (l.getD i ⟨0, 0, 0⟩).z ≤ 1000000000) := rfl
     unfold mI at hv
     rw [htky, htkz] at hv
     clear htky htkz
     cases i with
     | zero =>
      simp only [Nat.zero_sub, true_or, and_true, if_true] at hv
      delta wR oO oN oA oM oT oG oR oQ oS oK
      simp (maxSteps := 4000000) -implicitDefEqProofs only [mw, n9, hdn, h, g9, gV, fJ, hi2, hi0, h4, Int.toNat_natCast, Int.toNat_zero, InR, Int.natCast_zero, not_true_eq_false, WU, Ent.of0, Ent.of1, Ent.of2, Ent.of3, Ent.of4, V, W3, ↓reduceIte, seval, reduceCtorEq]
      have hpos : (0 : Int) < (l.length : Int) := by omega
      rw [if_pos hpos]
      refine ⟨hpos, ?_⟩
      generalize l.getD 0 ⟨0, 0, 0⟩ = s at *
      generalize stE n l (0 + 1) (List.drop (0 + 1) l) = X at *
      have hlt : (s.z < s.y) = ¬ (s.y ≤ s.z) := by rw [Int.not_le]
      cases hA : isC n s.x <;> rcases Classical.propComplete (0 ≤ s.y ∧ s.y ≤ 1000000000) with hY | hY <;> rcases Classical.propComplete (0 ≤ s.z ∧ s.z ≤ 1000000000) with hZ | hZ <;> rcases Classical.propComplete (s.y ≤ s.z) with hL | hL
      all_goals
       simp only [hA, hY, hZ, hlt, hL, decide_true, decide_false, Bool.not_true, Bool.not_false, Bool.and_true, Bool.and_false, Bool.true_and, Bool.false_and, if_true, if_false, not_true_eq_false, not_false_eq_true, Bool.false_eq_true, Bool.true_eq_false, ne_eq, Int.reduceEq, reduceCtorEq] at hv ⊢
       first | exact hv.symm | exact hv
     | succ j =>
      have hm0 : (0 : Int) ≤ (j : Int) := by omega
      have hm1 : (j : Int) < (l.length : Int) := by omega
      have hm2 : j < l.length := by omega
      have hm3 : ((j + 1 : Nat) : Int) - 1 = (j : Int) := by omega
      have hm4 : (0 : Int) < ((j + 1 : Nat) : Int) := by omega
      simp only [Nat.add_sub_cancel, Nat.succ_ne_zero, false_or, if_false] at hv
      delta wR oO oN oA oM oT oG oR oQ oS oK
      simp (maxSteps := 4000000) -implicitDefEqProofs only [mw, n9, hdn, h, g9, gV, fJ, hi2, hi0, h4, hm0, hm1, hm2, hm3, hm4, Int.toNat_natCast, InR, not_true_eq_false, WU, Ent.of0, Ent.of1, Ent.of2, Ent.of3, Ent.of4, V, W3, ↓reduceIte, seval, reduceCtorEq]
      have hj : (-9223372036854775808 ≤ (j : Int) ∧ (j : Int) ≤ 9223372036854775807) := by omega
      generalize l.getD (j + 1) ⟨0, 0, 0⟩ = s at *
      generalize l.getD j ⟨0, 0, 0⟩ = p at *
      generalize stE n l (j + 1 + 1) (List.drop (j + 1 + 1) l) = X at *
      have hlt : (s.z < s.y) = ¬ (s.y ≤ s.z) := by rw [Int.not_le]
      cases hA : isC n s.x <;> rcases Classical.propComplete (0 ≤ s.y ∧ s.y ≤ 1000000000) with hY | hY <;> rcases Classical.propComplete (0 ≤ s.z ∧ s.z ≤ 1000000000) with hZ | hZ <;> rcases Classical.propComplete (s.y ≤ s.z) with hL | hL <;> rcases Classical.propComplete (s.y = p.z) with hP | hP <;> rcases Classical.propComplete (s.x = p.x) with hQ | hQ
      all_goals
       simp only [hA, hY, hZ, hlt, hL, hP, hQ, decide_true, decide_false, Bool.not_true, Bool.not_false, Bool.and_true, Bool.and_false, Bool.true_and, Bool.false_and, and_true, true_and, and_false, false_and, if_true, if_false, not_true_eq_false, not_false_eq_true, Bool.false_eq_true, Bool.true_eq_false, ne_eq, Int.reduceEq, reduceCtorEq] at hv ⊢
       first | exact hv.symm | exact ⟨hj, hv.symm⟩ | exact ⟨hj, hj, hv.symm⟩ | exact ⟨hj, hj, hok, hv, hok2⟩
   · have hi2 : ¬ (i : Int) < (l.length : Int) := by omega
     rw [List.drop_eq_nil_of_le (by omega), stE] at hv
     delta wR oO oN oA oM oT oG oR oQ oS oK
     simp (maxSteps := 4000000) -implicitDefEqProofs only [mw, n9, hi2, WU, Ent.of0, Ent.of1, Ent.of2, Ent.of3, Ent.of4, V, W3, ↓reduceIte, seval, reduceCtorEq]
     try simp [hv]
def wM : Ent Tryz.prog := .of2 47 (fun n _ => NwS n) (fun (n : Nw) (l : List T3) => enc (wJ n l)) (fun _ _ => trivial) (fun n l h => wW n l h)
theorem wS (l : List T3) (w : Int) (hlen : l.length ≤ 200) (htb : ∀ j, j < l.length → 0 ≤ (l.getD j ⟨0, 0, 0⟩).y ∧ (l.getD j ⟨0, 0, 0⟩).y ≤ 1000000000 ∧ 0 ≤ (l.getD j ⟨0, 0, 0⟩).z ∧ (l.getD j ⟨0, 0, 0⟩).z ≤ 1000000000) :
 FC Tryz.prog 48 [enc l, enc w] [] (enc (ppN l w (l.length - 2) 1)) [] := by
 generalize hr : ppN l w (l.length - 2) 1 = r
 refine dC [] is48 (by simp) trivial trivial trivial trivial (fun cx _ hl _ => dB [] 800 ?_)
 delta c48 oO oN oA oM oT oG oR oQ oS oK
 simp (maxSteps := 4000000) -implicitDefEqProofs only [rv48, g9, gV, fJ, WU, Ent.of0, Ent.of1, Ent.of2, Ent.of3, Ent.of4, V, W3, ↓reduceIte, seval, reduceCtorEq]
 refine eM (l.length - 2) (fun i => [(5, .s (.int .i64 (r - ppN l w (l.length - 2 - i) (1 + i)))), (6, .s (.int .i64 ((1 + i : Nat) : Int)))]) (fun _ => []) (fun _ => True) trivial ?_ (fun i hi _ => dB [] 900 ?_)
 · simp (maxSteps := 4000000) -implicitDefEqProofs only [Ent.of0, Ent.of1, Ent.of2, Ent.of3, Ent.of4, V, W3, ↓reduceIte, seval, reduceCtorEq]
   all_goals simp [hr]
 · have hpl := rC l w (l.length - 2 - i) (1 + i)
   have hrl := rC l w (l.length - 2) 1
   rw [hr] at hrl
   by_cases h5 : i < l.length - 2
   · obtain ⟨k, hk⟩ : ∃ k, l.length - 2 - i = k + 1 := ⟨l.length - 2 - i - 1, by omega⟩
     have hk1 : l.length - 2 - (i + 1) = k := by omega
     have hk2 : 1 + (i + 1) = 1 + i + 1 := by omega
     rw [hk, ppN] at hpl
     have b1 := htb (1 + i) (by omega)
     have f0 : (0 : Int) ≤ ((1 + i : Nat) : Int) := by omega
     have c1' : ((1 + i : Nat) : Int) < (l.length : Int) := by omega
     have c2' : ((1 + i : Nat) : Int) + 1 < (l.length : Int) := by omega
     have c3' : ((1 + i : Nat) : Int) + 1 = ((1 + i + 1 : Nat) : Int) := by omega
     have c4' : ((1 + i : Nat) : Int) - 1 = ((i : Nat) : Int) := by omega
     have c5' : ((1 + i + 1 : Nat) : Int) < (l.length : Int) := by omega
     have c6' : (0 : Int) ≤ ((1 + i + 1 : Nat) : Int) := by omega
     have c7' : (i : Int) < (l.length : Int) := by omega
     have c8' : (0 : Int) ≤ (i : Int) := by omega
     have d1 : i < l.length := by omega
     have d2 : 1 + i < l.length := by omega
     have d3 : 1 + i + 1 < l.length := by omega
     have hpp : pp l w (1 + i) = (decide ((l.getD (1 + i) ⟨0, 0, 0⟩).z - (l.getD (1 + i) ⟨0, 0, 0⟩).y ≤ w) && decide ((l.getD i ⟨0, 0, 0⟩).x = (l.getD (1 + i + 1) ⟨0, 0, 0⟩).x)) := by
      rw [pp, show 1 + i - 1 = i by omega]
     delta c48l1 oO oN oA oM oT oG oR oQ oS oK
     simp (maxSteps := 4000000) -implicitDefEqProofs only [g9, gV, fJ, c3', c4', c5', c6', c7', c8', f0, c1', c2', d1, d2, d3, hk, hk1, hk2, ppN, Int.toNat_natCast, InR, not_true_eq_false, WU, Ent.of0, Ent.of1, Ent.of2, Ent.of3, Ent.of4, V, W3, ↓reduceIte, seval, reduceCtorEq]
     rcases Classical.propComplete ((l.getD (1 + i) ⟨0, 0, 0⟩).z - (l.getD (1 + i) ⟨0, 0, 0⟩).y ≤ w) with g1 | g1 <;> rcases Classical.propComplete ((l.getD i ⟨0, 0, 0⟩).x = (l.getD (1 + i + 1) ⟨0, 0, 0⟩).x) with g2 | g2
     all_goals
      simp only [g1, g2, decide_true, decide_false, Bool.and_true, Bool.and_false, Bool.true_and, Bool.false_and] at hpp
      simp only [g1, g2, hpp, if_true, if_false, Bool.false_eq_true, reduceCtorEq] at hpl ⊢
      omega
   · have c2' : ¬ ((1 + i : Nat) : Int) + 1 < (l.length : Int) := by omega
     have hk : l.length - 2 - i = 0 := by omega
     delta c48l1 oO oN oA oM oT oG oR oQ oS oK
     simp (maxSteps := 4000000) -implicitDefEqProofs only [rv48, c2', hk, ppN, InR, WU, Ent.of0, Ent.of1, Ent.of2, Ent.of3, Ent.of4, V, W3, ↓reduceIte, seval, reduceCtorEq]
     omega
theorem wV (l : List T3) (h : l.length ≤ 1000000) : FC Tryz.prog 45 [enc l] [] (enc l) [] := by
 refine eg is45 (by simp) (fun cx hl => dB [] 800 ?_)
 delta c45 oO oN oA oM oT oG oR oQ oS oK
 simp (maxSteps := 4000000) -implicitDefEqProofs only [rv45, g9, fJ, Ent.of0, Ent.of1, Ent.of2, Ent.of3, Ent.of4, V, W3, ↓reduceIte, seval, reduceCtorEq]
 omega
def wL : Ent Tryz.prog := .of1 45 (fun l => l.length ≤ 1000000) (fun l : List T3 => enc l) (fun _ => trivial) (fun l h => wV l h)
def ppOkB (n : Nw) (l : List T3) (w : Int) : Int := if (eV n).2 ≠ 0 then (eV n).2 else if wJ n l ≠ 0 then wJ n l else if eL w then 0 else 2
theorem ppOk_eq (n : Nw) (l : List T3) (w : Int) : ppOkB n l w = ppE n l w := by
 unfold ppOkB ppE jv wJ
 by_cases h1 : (eV n).2 = 0 <;> by_cases h2 : l.length > 200 <;> by_cases h3 : stE n l 0 l = 0 <;> simp [h1, h2, h3]
def wN : Ent Tryz.prog := .of2 48 (fun l _ => l.length ≤ 200 ∧ ∀ j, j < l.length → 0 ≤ (l.getD j ⟨0, 0, 0⟩).y ∧ (l.getD j ⟨0, 0, 0⟩).y ≤ 1000000000 ∧ 0 ≤ (l.getD j ⟨0, 0, 0⟩).z ∧ (l.getD j ⟨0, 0, 0⟩).z ≤ 1000000000) (fun (l : List T3) (w : Int) => enc (ppN l w (l.length - 2) 1)) (fun _ _ => trivial) (fun l w h => wS l w h.1 h.2)
theorem wY (n : Nw) (l : List T3) (w : Int) :
 if (eV n).snd = 0 then
  if wJ n l = 0 then
   if ¬(0 ≤ w ∧ w ≤ 1000000000) then if ppE n l w = 2 then ppR n l w = 0 else False
   else
    if ¬wJ n l = 0 then if ppE n l w = wJ n l then ppR n l w = 0 else False
    else
     if ppE n l w = 0 then
      (l.length ≤ 200 ∧
       ∀ (j : Nat),
        j < l.length →
         0 ≤ (l.getD j { x := 0, y := 0, z := 0 }).y ∧
          (l.getD j { x := 0, y := 0, z := 0 }).y ≤ 1000000000 ∧
           0 ≤ (l.getD j { x := 0, y := 0, z := 0 }).z ∧
            (l.getD j { x := 0, y := 0, z := 0 }).z ≤ 1000000000) ∧
       ppR n l w = ppN l w (l.length - 2) 1
     else False
  else
   if ¬wJ n l = 0 then if ppE n l w = wJ n l then ppR n l w = 0 else False
   else
    if ppE n l w = 0 then
     (l.length ≤ 200 ∧
      ∀ (j : Nat),
       j < l.length →
        0 ≤ (l.getD j { x := 0, y := 0, z := 0 }).y ∧
         (l.getD j { x := 0, y := 0, z := 0 }).y ≤ 1000000000 ∧
          0 ≤ (l.getD j { x := 0, y := 0, z := 0 }).z ∧
           (l.getD j { x := 0, y := 0, z := 0 }).z ≤ 1000000000) ∧
      ppR n l w = ppN l w (l.length - 2) 1
    else False
 else
  if (eV n).snd = 0 then
   if ¬(0 ≤ w ∧ w ≤ 1000000000) then if ppE n l w = 2 then ppR n l w = 0 else False
   else
    if ¬(eV n).snd = 0 then if ppE n l w = (eV n).snd then ppR n l w = 0 else False
    else
     if ppE n l w = 0 then
      (l.length ≤ 200 ∧
       ∀ (j : Nat),
        j < l.length →
         0 ≤ (l.getD j { x := 0, y := 0, z := 0 }).y ∧
          (l.getD j { x := 0, y := 0, z := 0 }).y ≤ 1000000000 ∧
           0 ≤ (l.getD j { x := 0, y := 0, z := 0 }).z ∧
            (l.getD j { x := 0, y := 0, z := 0 }).z ≤ 1000000000) ∧
       ppR n l w = ppN l w (l.length - 2) 1
     else False
  else
   if ¬(eV n).snd = 0 then if ppE n l w = (eV n).snd then ppR n l w = 0 else False
   else
    if ppE n l w = 0 then
     (l.length ≤ 200 ∧
      ∀ (j : Nat),
       j < l.length →
        0 ≤ (l.getD j { x := 0, y := 0, z := 0 }).y ∧
         (l.getD j { x := 0, y := 0, z := 0 }).y ≤ 1000000000 ∧
          0 ≤ (l.getD j { x := 0, y := 0, z := 0 }).z ∧
           (l.getD j { x := 0, y := 0, z := 0 }).z ≤ 1000000000) ∧
      ppR n l w = ppN l w (l.length - 2) 1
    else False := by
 have hE := ppOk_eq n l w
 have hR : ppR n l w = if ppE n l w = 0 then ppN l w (l.length - 2) 1 else 0 := rfl
 rw [← hE] at hR ⊢
 unfold ppOkB at hR ⊢
 by_cases h1 : (eV n).2 = 0
 · by_cases h2 : wJ n l = 0
   · have hst : l.length ≤ 200 ∧ stE n l 0 l = 0 := by
      unfold wJ at h2
      by_cases h4 : l.length > 200
      · rw [if_pos h4] at h2; cases h2
      · rw [if_neg h4] at h2; exact ⟨by omega, h2⟩
     have htk := pX n l l 0 hst.2
     have htb : ∀ j, j < l.length → 0 ≤ (l.getD j ⟨0, 0, 0⟩).y ∧ (l.getD j ⟨0, 0, 0⟩).y ≤ 1000000000 ∧ 0 ≤ (l.getD j ⟨0, 0, 0⟩).z ∧ (l.getD j ⟨0, 0, 0⟩).z ≤ 1000000000 := fun j hj => by
      rw [List.getD_eq_getElem?_getD, List.getElem?_eq_getElem hj]
      have := htk _ (List.getElem_mem hj)
      simp only [eL, decide_eq_true_eq] at this
      simp only [Option.getD_some]; omega
     by_cases h3 : 0 ≤ w ∧ w ≤ 1000000000
     · have h3' : eL w = true := decide_eq_true h3
       simp only [h1, h2, h3', ne_eq, not_true_eq_false, if_true, if_false] at hR ⊢
       rw [if_neg (not_not_intro h3)]
       exact ⟨⟨hst.1, htb⟩, hR⟩
     · have h3' : eL w = false := decide_eq_false h3
       simp only [h1, h2, h3', ne_eq, not_true_eq_false, if_true, if_false, Bool.false_eq_true] at hR ⊢
       rw [if_pos h3]
       simpa using hR
   · simp only [h1, h2, ne_eq, not_true_eq_false, not_false_eq_true, if_true, if_false] at hR ⊢
     exact hR
 · simp only [h1, ne_eq, not_true_eq_false, not_false_eq_true, if_true, if_false] at hR ⊢
   exact hR
theorem wP (haw : Awake) (n : Nw) (l : List T3) (w : Int) : FC Tryz.prog 6 [enc n, enc l, enc w] [] (enc true) [] := by
 have hdn := gN n
 refine dC [] is6 (by simp) trivial trivial trivial trivial (fun cx _ hl _ => dB [ent21 haw, ent34, ent37, wL, wK, ent46, wM, n9, wN] 1500 ?_)
 cases hfew : few n
 · delta c6 oO oN oA oM oT oG oR oQ oS oK
   simp (maxSteps := 4000000) -implicitDefEqProofs only [rv6, g9, fJ, ent21, ent34, ent37, wL, wK, ent46, wM, n9, wN, ec, hdn, hfew, not_true_eq_false, WU, Ent.of0, Ent.of1, Ent.of2, Ent.of3, Ent.of4, V, W3, ↓reduceIte, seval, reduceCtorEq]
 have h := few_nws hfew
 by_cases h1 : (20 < l.length ∧ l.length ≤ 200) ∨ 202 < l.length
 · rcases h1 with h1 | h1
   · have a1 : (20 : Int) < l.length := by omega
     have a2 : (l.length : Int) ≤ 200 := by omega
     delta c6 oO oN oA oM oT oG oR oQ oS oK
     simp (maxSteps := 4000000) -implicitDefEqProofs only [rv6, g9, fJ, ent21, ent34, ent37, wL, wK, ent46, wM, n9, wN, ec, hdn, h, hfew, a1, a2, not_true_eq_false, WU, Ent.of0, Ent.of1, Ent.of2, Ent.of3, Ent.of4, V, W3, ↓reduceIte, seval, reduceCtorEq]
   · have a1 : (20 : Int) < l.length := by omega
     have a2 : ¬ (l.length : Int) ≤ 200 := by omega
     have a3 : (202 : Int) < l.length := by omega
     delta c6 oO oN oA oM oT oG oR oQ oS oK
     simp (maxSteps := 4000000) -implicitDefEqProofs only [rv6, g9, fJ, ent21, ent34, ent37, wL, wK, ent46, wM, n9, wN, ec, hdn, h, hfew, a1, a2, a3, not_true_eq_false, WU, Ent.of0, Ent.of1, Ent.of2, Ent.of3, Ent.of4, V, W3, ↓reduceIte, seval, reduceCtorEq]
 have a0 : l.length ≤ 1000000 := by omega
 have a3 : ¬ (202 : Int) < l.length := by omega
 by_cases h2 : 20 < l.length
 · have a1 : (20 : Int) < l.length := by omega
   have a2 : ¬ (l.length : Int) ≤ 200 := by omega
   delta c6 oO oN oA oM oT oG oR oQ oS oK
   simp (maxSteps := 4000000) -implicitDefEqProofs only [rv6, g9, fJ, ent21, ent34, ent37, wL, wK, ent46, wM, n9, wN, ec, hdn, h, hfew, a0, a1, a2, a3, not_true_eq_false, WU, Ent.of0, Ent.of1, Ent.of2, Ent.of3, Ent.of4, V, W3, ↓reduceIte, seval, reduceCtorEq]
   exact wY n l w
 · have a1 : ¬ (20 : Int) < l.length := by omega
   delta c6 oO oN oA oM oT oG oR oQ oS oK
   simp (maxSteps := 4000000) -implicitDefEqProofs only [rv6, g9, fJ, ent21, ent34, ent37, wL, wK, ent46, wM, n9, wN, ec, hdn, h, hfew, a0, a1, a3, not_true_eq_false, WU, Ent.of0, Ent.of1, Ent.of2, Ent.of3, Ent.of4, V, W3, ↓reduceIte, seval, reduceCtorEq]
   exact wY n l w
def btr (r : Rul) (s n : List Int) (k : Nat) : Bool := nF r (s.getD k 0) (n.getD k 0)
def ovk (r : Rul) (s n : List Int) (k : Nat) : Bool := over r (s.getD k 0) (n.getD k 0)
def GoodT (r : Rul) (s n : List Int) : Option Int → List Int → Prop
 | _, [] => True
 | prev, v :: l => (r.trig ≤ v ∧ v ≤ (s.length : Int) - 1) ∧ (∀ k : Nat, v - r.trig ≤ (k : Int) → (k : Int) ≤ v → btr r s n k = true) ∧ (∀ u, prev = some u → u < v ∧ ∃ k : Nat, u ≤ (k : Int) ∧ (k : Int) < v ∧ ovk r s n k = true) ∧ GoodT r s n (some v) l
theorem cnt_gt {r : Rul} {s n : List Int} {t : Nat} {run : Int} (ht : 0 ≤ r.trig) (hrun : run = (cnt (btr r s n) (t + 1) : Int)) (h : r.trig < run) : r.trig ≤ t ∧ ∀ k : Nat, (t : Int) - r.trig ≤ k → (k : Int) ≤ t → btr r s n k = true := by
 obtain ⟨T, hT⟩ : ∃ T : Nat, r.trig = (T : Int) := ⟨r.trig.toNat, by omega⟩
 rw [hT] at h ⊢
 have h2 : T < cnt (btr r s n) (t + 1) := by omega
 rw [wO] at h2
 exact ⟨by omega, fun k h3 h4 => h2.2 k (by omega) (by omega)⟩
theorem goodT (r : Rul) (s n : List Int) (hl : n.length = s.length) (ht : 0 ≤ r.trig) (hh : 0 ≤ r.hyst) : ∀ (m t : Nat) (armed : Bool) (prev : Option Int), s.length - t = m →
 (∀ u, prev = some u → u < (t : Int) ∧ (armed = true → ∃ k : Nat, u ≤ (k : Int) ∧ (k : Int) < t ∧ ovk r s n k = true)) → GoodT r s n prev (trg r (s.drop t) (n.drop t) t (cnt (btr r s n) t) armed)
 | 0, t, armed, prev, hm, hp => by
  rw [List.drop_eq_nil_of_le (by omega : s.length ≤ t), sL]; trivial
 | m + 1, t, armed, prev, hm, hp => by
  have h1 : t < s.length := by omega
  have h2 : t < n.length := by omega
  rw [ee 0 h1, ee 0 h2, trg]
  have hc : (if nF r (s.getD t 0) (n.getD t 0) then (cnt (btr r s n) t : Int) + 1 else 0) = (cnt (btr r s n) (t + 1) : Int) := (wU (btr r s n) t).symm
  simp only [hc]
  by_cases hg : ((armed || over r (s.getD t 0) (n.getD t 0)) && decide (r.trig < (cnt (btr r s n) (t + 1) : Int))) = true
  · rw [if_pos hg]
    simp only [Bool.and_eq_true, Bool.or_eq_true, decide_eq_true_eq] at hg
    obtain ⟨g1, g2⟩ := hg
    obtain ⟨g3, g4⟩ := cnt_gt ht rfl g2
    have g5 := g4 t (by omega) (by omega)
    refine ⟨⟨g3, by omega⟩, g4, fun u hu => ?_, goodT r s n hl ht hh m (t + 1) false (some t) (by omega) (fun u hu => ?_)⟩
    · obtain ⟨q1, q2⟩ := hp u hu
      refine ⟨q1, ?_⟩
      rcases g1 with g1 | g1
      · exact q2 g1
      · exfalso
        simp only [btr, nF, decide_eq_true_eq] at g5
        simp only [over, decide_eq_true_eq] at g1
        omega
    · cases hu; exact ⟨by omega, fun h => by cases h⟩
  · rw [if_neg hg]
    refine goodT r s n hl ht hh m (t + 1) _ prev (by omega) (fun u hu => ?_)
    obtain ⟨q1, q2⟩ := hp u hu
    refine ⟨by omega, fun ha => ?_⟩
    simp only [Bool.or_eq_true] at ha
    rcases ha with ha | ha
    · obtain ⟨k, k1, k2, k3⟩ := q2 ha
      exact ⟨k, k1, by omega, k3⟩
    · exact ⟨t, by omega, by omega, ha⟩
theorem goodT0 {r : Rul} {s n : List Int} (h : TrgOk r s n) : GoodT r s n none (iu r s n) := by
 have h2 := h.hr
 simp only [j3, Bool.and_eq_true, decide_eq_true_eq] at h2
 have := goodT r s n h.hln h2.2.1 h2.1.2.1 s.length 0 true none (by omega) (fun u hu => by cases hu)
 simpa [cnt, iu] using this
theorem wQ (r : Rul) (s n : List Int) (hl : n.length = s.length) : ∀ (m t v : Nat), s.length - t = m → t ≤ v → v < s.length → r.trig < (cnt (btr r s n) (v + 1) : Int) →
 ∃ u l, trg r (s.drop t) (n.drop t) t (cnt (btr r s n) t) true = u :: l ∧ u ≤ (v : Int)
 | 0, t, v, hm, h1, h2, h3 => by omega
 | m + 1, t, v, hm, h1, h2, h3 => by
  have g1 : t < s.length := by omega
  have g2 : t < n.length := by omega
  rw [ee 0 g1, ee 0 g2, trg]
  have hc : (if nF r (s.getD t 0) (n.getD t 0) then (cnt (btr r s n) t : Int) + 1 else 0) = (cnt (btr r s n) (t + 1) : Int) := (wU (btr r s n) t).symm
  simp only [hc, Bool.true_or, Bool.true_and, decide_eq_true_eq]
  by_cases hg : r.trig < (cnt (btr r s n) (t + 1) : Int)
  · rw [if_pos hg]; exact ⟨_, _, rfl, by omega⟩
  · rw [if_neg hg]
    have : t ≠ v := fun e => hg (e ▸ h3)
    exact wQ r s n hl m (t + 1) v (by omega) (by omega) h2 h3
theorem wT {p q : Nat → Bool} (h : ∀ k, p k = true → q k = true) : ∀ t, cnt p t ≤ cnt q t
 | 0 => Nat.le_refl _
 | t + 1 => by
  have := wT h t
  rw [cnt, cnt]
  cases hp : p t with
  | false => simp
  | true => rw [h t hp]; simp; omega
theorem later {r r' : Rul} {s n : List Int} (h : TrgOk r s n) (h' : TrgOk r' s n) (h1 : r.trig ≤ r'.trig) (h2 : r.off ≤ r'.off) (h3 : r.hyst = r'.hyst) (hne : iu r' s n ≠ []) :
 iu r s n ≠ [] ∧ (iu r s n).getD 0 0 ≤ (iu r' s n).getD 0 0 := by
 cases hL : iu r' s n with
 | nil => exact absurd hL hne
 | cons v l =>
  have hg := goodT0 h'
  rw [hL] at hg
  obtain ⟨⟨g1, g2⟩, g3, _, _⟩ := hg
  have hr' := h'.hr
  simp only [j3, Bool.and_eq_true, decide_eq_true_eq] at hr'
  obtain ⟨V, rfl⟩ : ∃ V : Nat, v = (V : Int) := ⟨v.toNat, by omega⟩
  obtain ⟨T, hT⟩ : ∃ T : Nat, r'.trig = (T : Int) := ⟨r'.trig.toNat, by omega⟩
  have hc' : T < cnt (btr r' s n) (V + 1) := by
   rw [wO]
   exact ⟨by omega, fun k q1 q2 => g3 k (by omega) (by omega)⟩
  have hm := wT (p := btr r' s n) (q := btr r s n) (fun k hk => by
   simp only [btr, nF, decide_eq_true_eq] at hk ⊢
   omega) (V + 1)
  obtain ⟨u, l', e1, e2⟩ := wQ r s n h.hln s.length 0 V (by omega) (by omega) (by omega) (by omega)
  have e3 : iu r s n = u :: l' := by simpa [cnt, iu] using e1
  rw [e3]
  exact ⟨by simp, by simpa using e2⟩
end Go.Proofs.YtcbabnbiinkafaaGreatDoor
end
section
open Go Go.Am
open Go.Am.Dat (cells)
namespace Go.Proofs.YtcbabnbiinkafaaGreatDoor
open Go.ChangeShapes Go.WideShapes Go.ChangeAt Go.RowKit
open Go.ChangeMaps (open_string shut_string)
set_option maxRecDepth 100000
theorem rT3 : ReadsP Tryz.prog 138 T3 (fun _ => True) := by
 refine ⟨by kernel_rfl, by decide, fun en w sp fuel cs x h => ?_⟩
 obtain ⟨l, a0, p0, e0, h0⟩ := lX rInt Tryz.underlying138 h 0 rfl rfl
 obtain ⟨_, a1, p1, e1, h1⟩ := lX rInt Tryz.underlying138 h 1 rfl rfl
 obtain ⟨_, a2, p2, e2, h2⟩ := lX rInt Tryz.underlying138 h 2 rfl rfl
 refine ⟨⟨a0, a1, a2⟩, trivial, rfl, l.trans (by kernel_rfl), fun j c hj => ?_⟩
 match j, hj with
 | 0, hj => cases hj; exact h0 0 _ rfl
 | 1, hj => cases hj; exact h1 0 _ rfl
 | 2, hj => cases hj; exact h2 0 _ rfl
theorem rT3s : ReadsP Tryz.prog 65 (List T3) (fun l => ∀ a ∈ l, True) := ReadsP.list rT3 Tryz.underlying65 (by kernel_rfl)
theorem lifted6 (os : Os) (started : os.Started) (H : Type) (en : TypeId × Value → H) :
 ReturnsInHanded {} Tryz.checked os 6 .any (fun w args => (Rows.movePingPongsSpec.pre en Tryz.prog Tryz.f6 Rows.movePingPongsRow.domain false w args ∧ laidMetH Tryz.prog Rows.movePingPongsRow.laid w) ∧ sizedMet en Tryz.prog Tryz.f6 (OpenSpec.ofChange Rows.movePingPongsSpec) false w args)
  (Rows.movePingPongsSpec.post en Tryz.prog Tryz.f6 false true false false) := by
 refine returnsInHanded_of_change_and (C := Tryz.checked) (X := fun w _ => laidMetH Tryz.prog Rows.movePingPongsRow.laid w) (fun _ _ _ hh h => h.of_heap hh) ownOk started (by kernel_rfl) Tryz.func6
  (ChangeSpec.witness_shaped (enc := en) (C := Tryz.checked) (os := os) (X := fun w _ => laidMetH Tryz.prog Rows.movePingPongsRow.laid w) false (World.doorLaid Tryz.prog 89 os) #[.agg #[.slice none 0 0, .slice none 0 0, .int .i64 0], .slice none 0 0, .int .i64 0] 8 rfl (doorShaped os _) (by kernel_rfl) (by kernel_rfl) (by kernel_rfl) (door_met os _)) ?_
 intro W base args ds gs before hval0 hW hcnd hsz hL _
 have hval : ∀ (j : Nat) t v, Tryz.f6.params[j]? = some t → args[j]? = some v → Value.okWide Tryz.prog W .any base t v := hval0
 have hW' := hW
 obtain ⟨p, q, hA0, hV, rfl, hfz, hnd⟩ := hW
 have hA : DataW.TrodAll en Tryz.prog W 0 (fun _ => true) true Tryz.f6.params.toList args.toList ds p := hA0
 rw [Tryz.params6] at hA hval
 obtain ⟨v0, vs0, d0w, ds0, p0, q0, hargs, rfl, rfl, h0, r0w⟩ := trodAll_cons hA
 obtain ⟨v1, vs1, d1, ds1, p1, q1, rfl, rfl, rfl, h1, r1⟩ := trodAll_cons r0w
 obtain ⟨v2, vs2, d2, ds2, p2, q2, rfl, rfl, rfl, h2, r2⟩ := trodAll_cons r1
 obtain ⟨rfl, rfl, rfl⟩ := trodAll_nil r2
 obtain rfl : args = #[v0, v1, v2] := by cases args; simp_all
 obtain ⟨rfl, rfl⟩ := trodVars_none hV
 have lt0 : ∀ x ∈ p0, x.block < W.heap.size := by obtain ⟨m, hm⟩ := h0; exact DataW.trod_lt m _ _ _ hm
 have lt1 : ∀ x ∈ p1, x.block < W.heap.size := by obtain ⟨m, hm⟩ := h1; exact DataW.trod_lt m _ _ _ hm
 obtain ⟨x0, g0, hx0⟩ := rNw.argS rfl Tryz.underlying47 (hval 0 47 v0 rfl rfl) h0
 obtain ⟨x1, g1, hx1⟩ := rT3s.arg Tryz.underlying65 (hval 1 65 v1 rfl rfl) h1
 obtain ⟨x2, rfl, rfl, rfl, w2⟩ := open_int Tryz.underlying3 (hval 2 3 v2 rfl rfl) h2
 clear hA0 hval0
 refine (law_walkG (wP awake_c x0 x1 x2) (W := W) (vs := #[v0, v1, .int .i64 x2]) (glAll hL) rfl (fun j c hj E => ?_)).mono fun e W' ⟨he, bel⟩ => ?_
 · match j, hj with
   | 0, hj => cases hj; exact hx0 E
   | 1, hj => cases hj; exact hx1 E
   | 2, hj => cases hj; exact .d (.s _)
 · subst he
   exact ⟨_, rfl, _, _, _, [], _, [], hW', trodAll_mk1 (shut_bool Tryz.underlying4 _), (trodAll_cons_mk (Below.trod laidOut (by kernel_rfl) (of_decide_eq_true (by kernel_rfl)) h0 bel lt0) (trodAll_cons_mk (Below.trod laidOut (by kernel_rfl) (of_decide_eq_true (by kernel_rfl)) h1 bel lt1) (trodAll_cons_mk (shut_int Tryz.underlying3 w2) trodAll_mk0))), rfl, bel.frame _, fun h => by cases h⟩
theorem jPlace6 : (Rows.movePingPongsRow.inPlace == Tryz.prog.inPlace 6) = true := by kernel_rfl
theorem jUnf6 : (Rows.movePingPongsRow.unfollowed == Tryz.prog.unfollowed 6) = true := by kernel_rfl
theorem jRec6 : (Rows.movePingPongsRow.recurses == Tryz.prog.recurses 6) = true := by kernel_rfl
theorem jNamed6 : (Rows.movePingPongsRow.named == Tryz.prog.varsNamed 6) = true := by kernel_rfl
theorem jKeys6 : (Rows.movePingPongsRow.plainKeys == Tryz.prog.plainKeys) = true := jKeys
theorem jLift6 : (Rows.movePingPongsRow.lifted == Tryz.prog.liftsFinal) = true := jLift
theorem jMake6 : (Tryz.prog.make == some Rows.movePingPongsRow.make) = true := jMake
theorem jVeil6 : Rows.movePingPongsRow.veiledFits Tryz.prog Tryz.f6.params.toList (Tryz.f6.params.toList ++ Rows.movePingPongsSpec.plain.varTypes Tryz.prog ++ Tryz.f6.resultTypes.toList) = true := by kernel_rfl
end Go.Proofs.YtcbabnbiinkafaaGreatDoor
end
