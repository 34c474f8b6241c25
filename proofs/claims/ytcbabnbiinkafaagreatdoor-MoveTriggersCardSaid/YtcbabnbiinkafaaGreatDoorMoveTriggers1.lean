/- Part 1 of the proof of: MoveTriggers returns true for every input and never panics: what is measured triggers as the reference says; conditions: those of the given statement, that the package variables it lists hold what their initialisers lay. -/
import Derived.WideShapes
import Derived.ChangeArms
import Derived.OpenShut
import Derived.LaidLaws
import Derived.Lib.LaidTab
import Derived.Stop.LaidErr
import Derived.Test.YtcbabnbiinkafaaGreatDoorProg
import Derived.KernelRfl
import Derived.Test.YtcbabnbiinkafaaGreatDoorRows
import Derived.Test.YtcbabnbiinkafaaGreatDoorTie
import Derived.Test.YtcbabnbiinkafaaGreatDoorCards
import Derived.SevenTiedAt
import Derived.ProofKit
import Derived.Lay
import Derived.LaidMore
import Derived.LaidOnce
import Derived.LaidHandle
import Derived.Stop.Joined
import Derived.ChangeMaps5
import Derived.Test.YtcbabnbiinkafaaGreatDoorBm22
set_option linter.all false
section
namespace Go.Am
open Dat (cells)
variable {P : Program}
theorem ReadsAs.arg {t e : TypeId} {α : Type} [DatL α] (h : ReadsAs P t (List α)) (ht : P.underlying t = some (.slice e)) {H : Type} {en : TypeId × Value → H} {W : World} {r : Reach} {base : Nat} {sp : Nat → Bool} {v : Value} {d : DataW H} {ps : List MemPlace}
 (hval : Value.okWide P W r base t v) (hd : DataW.Trod en P W 0 sp true t v d ps) : ∃ l : List α, ∀ E, Rep E (fun b => b < W.heap.size) W.heap (enc l) v := by
 obtain ⟨a, len, cap, rfl⟩ := WideShapes.okWide_slice ht hval
 obtain ⟨fuel, hf⟩ := hd
 obtain ⟨l, _, _, h3⟩ := h.rd en W sp fuel _ _ hf
 exact ⟨l, fun E => .d (h3 0 _ rfl).1⟩
theorem ReadsP.arg {t e : TypeId} {α : Type} [DatL α] {p : List α → Prop} (h : ReadsP P t (List α) p) (ht : P.underlying t = some (.slice e)) {H : Type} {en : TypeId × Value → H} {W : World} {r : Reach} {base : Nat} {sp : Nat → Bool} {v : Value} {d : DataW H} {ps : List MemPlace}
 (hval : Value.okWide P W r base t v) (hd : DataW.Trod en P W 0 sp true t v d ps) : ∃ l : List α, p l ∧ ∀ E, Rep E (fun b => b < W.heap.size) W.heap (enc l) v := by
 obtain ⟨a, len, cap, rfl⟩ := WideShapes.okWide_slice ht hval
 obtain ⟨fuel, hf⟩ := hd
 obtain ⟨l, h0, _, _, h3⟩ := h.rd en W sp fuel _ _ hf
 exact ⟨l, h0, fun E => .d (h3 0 _ rfl).1⟩
end Go.Am
end
section
open Go Go.Am
open Go.Am.Dat (cells)
namespace Go.Proofs.YtcbabnbiinkafaaGreatDoor
set_option maxRecDepth 100000
def rv3 : List RV := [.tmp 6]
theorem is3 : FnIs Tryz.prog 3 103 c3 rv3 := ⟨⟨Tryz.f3, _, Tryz.func3, by kernel_rfl, rfl, rfl, by kernel_rfl, by kernel_rfl⟩, by decide⟩
def c22 : AC := oS (oR [oA 2 (.mv (.const (.bool false)))]) (oK [0] (oS (oR [oM 3 0, oA 4 (.len false (oO 3)), oA 5 (.bin .leq 3 (oO 4) (oN 62)), oM 2 5]) (oK [2] (.ret))))
def rv22 : List RV := [.tmp 2]
theorem is22 : FnIs Tryz.prog 22 6 c22 rv22 := ⟨⟨Tryz.f22, _, Tryz.func22, by kernel_rfl, rfl, rfl, by kernel_rfl, by kernel_rfl⟩, by decide⟩
def c24 : AC := oS (oR [oA 2 (.mv (.const (.slice none 0 0)))]) (oK [0] (oS (oR [oA 3 (.mkSl true 3 1 [.int .i64 0] 0 []), oM 4 0, oA 5 (.app 24 3 1 8 [.int .i64 0] (oO 3) (oO 4)), oM 2 5]) (oK [2] (.ret))))
def rv24 : List RV := [.tmp 2]
theorem is24 : FnIs Tryz.prog 24 6 c24 rv24 := ⟨⟨Tryz.f24, _, Tryz.func24, by kernel_rfl, rfl, rfl, by kernel_rfl, by kernel_rfl⟩, by decide⟩
def c27 : AC := oS (oR [oA 1 (.box (oO 0)), oA 2 (.mv (oN 0))]) (oK [1] (oS (oS (oR [oA 3 (.faddr 0 (oO 1)), oA 4 (.load false 1 (oO 3)), oA 5 (.call (.func 31) [(oO 4), (oN (-300)), (oN 300)]), oA 6 (.un .not (oO 5)), oM 7 6, oG 8 7 false (.faddr 1 (oO 1)), oG 9 7 false (.load false 1 (oO 8)), oG 10 7 false (.call (.func 31) [(oO 9), (oN 0), (oN 300)]), oG 11 7 false (.un .not (oO 10)), oA 12 (.pick (oO 7) (.const (.bool true)) (oO 11)), oM 13 12, oG 14 13 false (.faddr 2 (oO 1)), oG 15 13 false (.load false 1 (oO 14)), oG 16 13 false (.call (.func 31) [(oO 15), (oN 0), (oN 40)]), oG 17 13 false (.un .not (oO 16)), oA 18 (.pick (oO 13) (.const (.bool true)) (oO 17))]) (oK [18] (.cond (oO 18) (oS (oR [oA 2 (.mv (oN 2))]) (oK [2] (.ret))) (.skip)))) (oK [] (oS (oR [oA 2 (.mv (oN 0))]) (oK [2] (.ret))))))
def rv27 : List RV := [.tmp 2]
theorem is27 : FnIs Tryz.prog 27 19 c27 rv27 := ⟨⟨Tryz.f27, _, Tryz.func27, by kernel_rfl, rfl, rfl, by kernel_rfl, by kernel_rfl⟩, by decide⟩
def c28l1 : AC := oS (oS (oR [oM 14 5, oM 15 0, oA 16 (.len false (oO 15)), oA 17 (.bin .lss 3 (oO 14) (oO 16))]) (oK [0, 1, 5, 17] (.cond (oO 17) (.skip) (.exit 0)))) (oK [0, 1, 5] (oS (.block 1 (oS (oR [oM 20 0, oM 21 5, oA 22 (.iaddr 1 [.int .i64 0] (oO 20) (oO 21)), oA 23 (.load false 1 (oO 22)), oA 24 (.call (.func 31) [(oO 23), (oN (-2000)), (oN 1000)]), oA 25 (.un .not (oO 24)), oM 26 25, oG 27 26 false (.mv (oO 1)), oG 28 26 false (.mv (oO 5)), oG 29 26 false (.iaddr 1 [.int .i64 0] (oO 27) (oO 28)), oG 30 26 false (.load false 1 (oO 29)), oG 31 26 false (.call (.func 31) [(oO 30), (oN (-2000)), (oN 1000)]), oG 32 26 false (.un .not (oO 31)), oA 33 (.pick (oO 26) (.const (.bool true)) (oO 32))]) (oK [0, 1, 5, 33] (.cond (oO 33) (oS (oR [oA 4 (.mv (oN 2))]) (oK [4] (.ret))) (.skip))))) (oK [0, 1, 5] (oR [oM 18 5, oA 19 (.bin .add 3 (oO 18) (oN 1)), oM 5 19]))))
def c28 : AC := oS (oR [oA 4 (.mv (oN 0))]) (oK [0, 1] (oS (oS (oR [oM 6 1, oA 7 (.len false (oO 6)), oM 8 0, oA 9 (.len false (oO 8)), oA 10 (.bin .neq 3 (oO 7) (oO 9))]) (oK [0, 1, 10] (.cond (oO 10) (oS (oR [oA 4 (.mv (oN 10))]) (oK [4] (.ret))) (.skip)))) (oK [0, 1] (oS (oS (oR [oM 11 0, oA 12 (.len false (oO 11)), oA 13 (.bin .gtr 3 (oO 12) (oN 60))]) (oK [0, 1, 13] (.cond (oO 13) (oS (oR [oA 4 (.mv (oN 8))]) (oK [4] (.ret))) (.skip)))) (oK [0, 1] (oS (oS (oR [oA 5 (.mv (oN 0))]) (oK [0, 1, 5] (.block 0 (.loop c28l1)))) (oK [] (oS (oR [oA 4 (.mv (oN 0))]) (oK [4] (.ret))))))))))
def rv28 : List RV := [.tmp 4]
theorem is28 : FnIs Tryz.prog 28 34 c28 rv28 := ⟨⟨Tryz.f28, _, Tryz.func28, by kernel_rfl, rfl, rfl, by kernel_rfl, by kernel_rfl⟩, by decide⟩
def wN : AC := oS (oS (oR [oM 31 11, oA 32 (.bin .geq 3 (oO 31) (oN 0)), oM 33 32, oG 34 33 true (.mv (oO 11)), oG 35 33 true (.mv (oO 9)), oG 36 33 true (.faddr 2 (oO 3)), oG 37 33 true (.load false 1 (oO 36)), oG 38 33 true (.bin .sub 3 (oO 35) (oO 37)), oG 39 33 true (.bin .geq 3 (oO 34) (oO 38)), oA 40 (.pick (oO 33) (oO 39) (.const (.bool false)))]) (oK [1, 2, 3, 7, 8, 9, 10, 11, 40] (.cond (oO 40) (.skip) (.exit 2)))) (oK [1, 2, 3, 7, 8, 9, 10, 11] (oS (.block 3 (oR [oM 43 10, oM 44 43, oG 45 44 true (.load true 3 (oO 3)), oG 46 44 true (.mv (oO 1)), oG 47 44 true (.mv (oO 2)), oG 48 44 true (.mv (oO 11)), oG 49 44 true (.call (.func 32) [(oO 45), (oO 46), (oO 47), (oO 48)]), oA 50 (.pick (oO 44) (oO 49) (.const (.bool false))), oM 10 50])) (oK [1, 2, 3, 7, 8, 9, 10, 11] (oR [oM 41 11, oA 42 (.bin .sub 3 (oO 41) (oN 1)), oM 11 42]))))
def c29l2 : AC := oS (oS (oR [oM 12 9, oM 13 1, oA 14 (.len false (oO 13)), oA 15 (.bin .lss 3 (oO 12) (oO 14))]) (oK [1, 2, 3, 7, 8, 9, 15] (.cond (oO 15) (.skip) (.exit 0)))) (oK [1, 2, 3, 7, 8, 9] (oS (.block 1 (oS (oR [oM 18 8, oM 19 18, oG 20 19 false (.load true 3 (oO 3)), oG 21 19 false (.mv (oO 1)), oG 22 19 false (.mv (oO 2)), oG 23 19 false (.mv (oO 9)), oG 24 19 false (.call (.func 33) [(oO 20), (oO 21), (oO 22), (oO 23)]), oA 25 (.pick (oO 19) (.const (.bool true)) (oO 24)), oM 8 25]) (oK [1, 2, 3, 7, 8, 9] (oS (oR [oM 26 9, oA 27 (.faddr 2 (oO 3)), oA 28 (.load false 1 (oO 27)), oA 29 (.bin .geq 3 (oO 26) (oO 28)), oM 10 29]) (oK [1, 2, 3, 7, 8, 9, 10] (oS (oS (oR [oM 30 9, oM 11 30]) (oK [1, 2, 3, 7, 8, 9, 10, 11] (.block 2 (.loop wN)))) (oK [1, 2, 3, 7, 8, 9, 10] (oS (oR [oM 51 10, oM 52 51, oG 53 52 true (.mv (oO 8)), oA 54 (.pick (oO 52) (oO 53) (.const (.bool false)))]) (oK [1, 2, 3, 7, 8, 9, 54] (.cond (oO 54) (oR [oM 55 7, oM 56 9, oA 57 (.mkSl false 3 1 [.int .i64 0] 1 [(0, (oO 56))]), oA 58 (.app 24 3 1 8 [.int .i64 0] (oO 55) (oO 57)), oM 7 58, oA 8 (.mv (.const (.bool false)))]) (.skip))))))))))) (oK [1, 2, 3, 7, 8, 9] (oR [oM 16 9, oA 17 (.bin .add 3 (oO 16) (oN 1)), oM 9 17]))))
def c29 : AC := oS (oR [oA 3 (.box (oO 0)), oA 6 (.mv (.const (.slice none 0 0)))]) (oK [1, 2, 3] (oS (oR [oA 7 (.mv (.const (.slice none 0 0)))]) (oK [1, 2, 3, 7] (.nilrow 7 1 3 (oS (oR [oA 8 (.mv (.const (.bool true)))]) (oK [1, 2, 3, 7, 8] (oS (oS (oR [oA 9 (.mv (oN 0))]) (oK [1, 2, 3, 7, 8, 9] (.block 0 (.loop c29l2)))) (oK [7] (.fz [7] (oS (oR [oM 59 7, oM 6 59]) (oK [6] (.ret))))))))))))
def rv29 : List RV := [.tmp 6]
theorem is29 : FnIs Tryz.prog 29 60 c29 rv29 := ⟨⟨Tryz.f29, _, Tryz.func29, by kernel_rfl, rfl, rfl, by kernel_rfl, by kernel_rfl⟩, by decide⟩
def c32 : AC := oS (oR [oA 4 (.box (oO 0)), oA 8 (.mv (.const (.bool false)))]) (oK [1, 2, 3, 4] (oS (oQ [oM 9 2, oA 10 (.mvs (oO 3)), oA 11 (.iaddr 1 [.int .i64 0] (oO 9) (oO 10)), oA 12 (.load false 1 (oO 11)), oM 13 1, oA 14 (.mvs (oO 3)), oA 15 (.iaddr 1 [.int .i64 0] (oO 13) (oO 14)), oA 16 (.load false 1 (oO 15)), oA 17 (.faddr 0 (oO 4)), oA 18 (.load false 1 (oO 17)), oA 19 (.bin .add 3 (oO 16) (oO 18)), oA 20 (.faddr 1 (oO 4)), oA 21 (.load false 1 (oO 20)), oA 22 (.bin .add 3 (oO 19) (oO 21)), oT 23 (.bin .gtr 3 (oO 12) (oO 22)), oT 8 (.mv (oO 23))]) (oK [8] (.ret))))
def rv32 : List RV := [.tmp 8]
theorem is32 : FnIs Tryz.prog 32 24 c32 rv32 := ⟨⟨Tryz.f32, _, Tryz.func32, by kernel_rfl, rfl, rfl, by kernel_rfl, by kernel_rfl⟩, by decide⟩
def c33 : AC := oS (oR [oA 4 (.box (oO 0)), oA 8 (.mv (.const (.bool false)))]) (oK [1, 2, 3, 4] (oS (oQ [oM 9 2, oA 10 (.mvs (oO 3)), oA 11 (.iaddr 1 [.int .i64 0] (oO 9) (oO 10)), oA 12 (.load false 1 (oO 11)), oM 13 1, oA 14 (.mvs (oO 3)), oA 15 (.iaddr 1 [.int .i64 0] (oO 13) (oO 14)), oA 16 (.load false 1 (oO 15)), oA 17 (.faddr 0 (oO 4)), oA 18 (.load false 1 (oO 17)), oA 19 (.bin .add 3 (oO 16) (oO 18)), oA 20 (.faddr 1 (oO 4)), oA 21 (.load false 1 (oO 20)), oA 22 (.bin .sub 3 (oO 19) (oO 21)), oT 23 (.bin .lss 3 (oO 12) (oO 22)), oT 8 (.mv (oO 23))]) (oK [8] (.ret))))
def rv33 : List RV := [.tmp 8]
theorem is33 : FnIs Tryz.prog 33 24 c33 rv33 := ⟨⟨Tryz.f33, _, Tryz.func33, by kernel_rfl, rfl, rfl, by kernel_rfl, by kernel_rfl⟩, by decide⟩
end Go.Proofs.YtcbabnbiinkafaaGreatDoor
end
section
open Go Go.Am
open Go.Am.Dat (cells)
namespace Go.Proofs.YtcbabnbiinkafaaGreatDoor
set_option maxHeartbeats 4000000
set_option maxRecDepth 100000
theorem wX (l : List Int) (h : l.length ≤ 1000000) : FC Tryz.prog 24 [enc l] [] (enc l) [] := by
 refine eg is24 (by simp) (fun cx hl => dB [] 800 ?_)
 delta c24 oO oN oA oM oT oG oR oQ oS oK
 simp (maxSteps := 4000000) -implicitDefEqProofs only [rv24, Ent.of0, Ent.of1, Ent.of2, Ent.of3, Ent.of4, V, W3, ↓reduceIte, seval, reduceCtorEq]
 omega
def wP : Ent Tryz.prog := .of1 24 (fun l => l.length ≤ 1000000) (fun l : List Int => enc l) (fun _ => trivial) (fun l h => wX l h)
theorem wZ (r : Rul) : FC Tryz.prog 27 [enc r] [] (enc (kj r)) [] := by
 obtain ⟨a, b, c⟩ := r
 refine eg is27 (by simp) (fun cx hl => dB [n9] 800 ?_)
 delta c27 oO oN oA oM oT oG oR oQ oS oK
 simp (maxSteps := 4000000) -implicitDefEqProofs only [rv27, n9, iw, Ent.of0, Ent.of1, Ent.of2, Ent.of3, Ent.of4, V, W3, ↓reduceIte, seval, reduceCtorEq]
 unfold kj j3
 by_cases h1 : -300 ≤ a ∧ a ≤ 300 <;> by_cases h2 : 0 ≤ b ∧ b ≤ 300 <;> by_cases h3 : 0 ≤ c ∧ c ≤ 40 <;> simp [h1, h2, h3]
def wR : Ent Tryz.prog := .of1 27 (fun _ => True) (fun r : Rul => enc (kj r)) (fun _ => trivial) (fun r _ => wZ r)
theorem wV (s n : List Int) : FC Tryz.prog 28 [enc s, enc n] [] (enc (l9 s n)) [] := by
 refine eg is28 (by simp) (fun cx hl => dB [n9] 800 ?_)
 simp only [V, W3, ↓reduceIte, seval, reduceCtorEq] at hl
 have hl1 := hl.1.list
 have hl2 := hl.2.list
 unfold l9
 by_cases h1 : n.length = s.length
 · have h1' : (n.length : Int) = s.length := by omega
   rw [if_neg (by simp [h1])]
   by_cases h2 : s.length > 60
   · have h2' : (60 : Int) < s.length := by omega
     rw [if_pos h2]
     delta c28 oO oN oA oM oT oG oR oQ oS oK
     simp (maxSteps := 4000000) -implicitDefEqProofs only [rv28, h1', h2', WU, Ent.of0, Ent.of1, Ent.of2, Ent.of3, Ent.of4, V, W3, ↓reduceIte, seval, reduceCtorEq]
   · have h2' : ¬ (60 : Int) < s.length := by omega
     rw [if_neg h2]
     generalize hB : gO s n = B
     delta c28 oO oN oA oM oT oG oR oQ oS oK
     simp (maxSteps := 4000000) -implicitDefEqProofs only [rv28, h1', h2', WU, Ent.of0, Ent.of1, Ent.of2, Ent.of3, Ent.of4, V, W3, ↓reduceIte, seval, reduceCtorEq]
     refine eM s.length (fun i => [(5, .s (.int .i64 (i : Int)))]) (fun _ => []) (fun i => B = gO (s.drop i) (n.drop i)) (by simp [hB]) ?_ (fun i hi hv => dB [n9] 800 ?_)
     · simp (maxSteps := 4000000) -implicitDefEqProofs only [Ent.of0, Ent.of1, Ent.of2, Ent.of3, Ent.of4, V, W3, ↓reduceIte, seval, reduceCtorEq]
       all_goals simp
     · by_cases h : i < s.length
       · have hi2 : (i : Int) < (s.length : Int) := by omega
         have hi3 : (i : Int) < (n.length : Int) := by omega
         rw [ee 0 h, ee 0 (by omega : i < n.length), gO] at hv
         unfold kf at hv
         by_cases hx : -2000 ≤ s.getD i 0 ∧ s.getD i 0 ≤ 1000 <;> by_cases hy : -2000 ≤ n.getD i 0 ∧ n.getD i 0 ≤ 1000
         all_goals
          simp only [hx, hy, decide_true, decide_false, Bool.true_and, Bool.false_and, Bool.and_false] at hv
          delta c28l1 oO oN oA oM oT oG oR oQ oS oK
          simp (maxSteps := 4000000) -implicitDefEqProofs only [rv28, n9, hi2, hi3, h, hx, hy, InR, WU, Ent.of0, Ent.of1, Ent.of2, Ent.of3, Ent.of4, V, W3, ↓reduceIte, seval, reduceCtorEq]
          grind
       · have hi2 : ¬ (i : Int) < (s.length : Int) := by omega
         rw [List.drop_eq_nil_of_le (by omega)] at hv
         simp [gO] at hv
         delta c28l1 oO oN oA oM oT oG oR oQ oS oK
         simp (maxSteps := 4000000) -implicitDefEqProofs only [rv28, hi2, WU, Ent.of0, Ent.of1, Ent.of2, Ent.of3, Ent.of4, V, W3, ↓reduceIte, seval, reduceCtorEq]
         simp [hv]
 · have h1' : ¬ (n.length : Int) = s.length := by omega
   rw [if_pos h1]
   delta c28 oO oN oA oM oT oG oR oQ oS oK
   simp (maxSteps := 4000000) -implicitDefEqProofs only [rv28, h1', WU, Ent.of0, Ent.of1, Ent.of2, Ent.of3, Ent.of4, V, W3, ↓reduceIte, seval, reduceCtorEq]
def wS : Ent Tryz.prog := .of2 28 (fun _ _ => True) (fun s n : List Int => enc (l9 s n)) (fun _ _ => trivial) (fun s n _ => wV s n)
def wQ : Ent Tryz.prog := .of3 25 (fun _ _ _ => True) (fun (r : Rul) (s n : List Int) => .tup [enc (if ftE r s n = 0 then (iu r s n).getD 0 0 else 0), enc (ftE r s n)]) (fun r s n => ⟨trivial, trivial, trivial⟩) (fun r s n _ => o6 r s n)
def bett (r : Rul) (s n : List Int) (t : Int) : Bool := nF r (s.getD t.toNat 0) (n.getD t.toNat 0)
def ovr (r : Rul) (s n : List Int) (t : Int) : Bool := over r (s.getD t.toNat 0) (n.getD t.toNat 0)
theorem xc (r : Rul) (s n : List Int) (t : Int) (h : TickOk r s n t) : FC Tryz.prog 32 [enc r, enc s, enc n, enc t] [] (enc (bett r s n t)) [] := by
 obtain ⟨h, h0, h1⟩ := h
 have hi : t.toNat < s.length := by omega
 have hln := h.hln
 have h1' : t < n.length := by omega
 have hi2 : t.toNat < n.length := by omega
 have hb := h.get hi
 obtain ⟨off, hyst, trig⟩ := r
 simp only at hb
 refine dC [] is32 (by simp) trivial trivial trivial trivial (fun cx _ hl _ => dB [] 800 ?_)
 delta c32 oO oN oA oM oT oG oR oQ oS oK
 simp (maxSteps := 4000000) -implicitDefEqProofs only [rv32, iw, h0, h1, h1', hi, hi2, InR, bett, nF, WU, Ent.of0, Ent.of1, Ent.of2, Ent.of3, Ent.of4, V, W3, ↓reduceIte, seval, reduceCtorEq]
 omega
def ent32 : Ent Tryz.prog := .of4 32 (fun (r : Rul) (s n : List Int) (t : Int) => TickOk r s n t) (fun (r : Rul) (s n : List Int) (t : Int) => enc (bett r s n t)) (fun _ _ _ _ => trivial) (fun r s n t h => xc r s n t h)
theorem Over_c (r : Rul) (s n : List Int) (t : Int) (h : TickOk r s n t) : FC Tryz.prog 33 [enc r, enc s, enc n, enc t] [] (enc (ovr r s n t)) [] := by
 obtain ⟨h, h0, h1⟩ := h
 have hi : t.toNat < s.length := by omega
 have hln := h.hln
 have h1' : t < n.length := by omega
 have hi2 : t.toNat < n.length := by omega
 have hb := h.get hi
 obtain ⟨off, hyst, trig⟩ := r
 simp only at hb
 refine dC [] is33 (by simp) trivial trivial trivial trivial (fun cx _ hl _ => dB [] 800 ?_)
 delta c33 oO oN oA oM oT oG oR oQ oS oK
 simp (maxSteps := 4000000) -implicitDefEqProofs only [rv33, iw, h0, h1, h1', hi, hi2, InR, ovr, over, WU, Ent.of0, Ent.of1, Ent.of2, Ent.of3, Ent.of4, V, W3, ↓reduceIte, seval, reduceCtorEq]
 omega
def ent33 : Ent Tryz.prog := .of4 33 (fun (r : Rul) (s n : List Int) (t : Int) => TickOk r s n t) (fun (r : Rul) (s n : List Int) (t : Int) => enc (ovr r s n t)) (fun _ _ _ _ => trivial) (fun r s n t h => Over_c r s n t h)
def cnt (p : Nat → Bool) : Nat → Nat
 | 0 => 0
 | t + 1 => if p t then cnt p t + 1 else 0
theorem xa (p : Nat → Bool) : ∀ t, cnt p t ≤ t
 | 0 => Nat.le_refl _
 | t + 1 => by rw [cnt]; have := xa p t; split <;> omega
theorem wJ (p : Nat → Bool) : ∀ (t m : Nat), m < cnt p t ↔ (m < t ∧ ∀ k, k < t → t ≤ k + m + 1 → p k = true)
 | 0, m => by simp [cnt]
 | t + 1, m => by
  rw [cnt]
  cases hp : p t with
  | false =>
   simp only [Bool.false_eq_true, if_false, Nat.not_lt_zero, false_iff, not_and]
   intro h1 h2
   have := h2 t (by omega) (by omega)
   rw [hp] at this; cases this
  | true =>
   simp only [if_true]
   cases m with
   | zero =>
    constructor
    · intro _
      refine ⟨by omega, fun k h1 h2 => ?_⟩
      have : k = t := by omega
      rw [this]; exact hp
    · intro _; omega
   | succ m =>
    have ih := wJ p t m
    constructor
    · intro h
      obtain ⟨g1, g2⟩ := ih.1 (by omega)
      refine ⟨by omega, fun k h1 h2 => ?_⟩
      by_cases hk : k = t
      · rw [hk]; exact hp
      · exact g2 k (by omega) (by omega)
    · intro h
      have := ih.2 ⟨by omega, fun k h1 h2 => h.2 k (by omega) (by omega)⟩
      omega
theorem wK (p : Nat → Bool) (t : Nat) : ((cnt p (t + 1) : Nat) : Int) = if p t then (cnt p t : Int) + 1 else 0 := by
 rw [cnt]; split <;> simp
theorem wW (r : Rul) (s n : List Int) (h : TrgOk r s n) : FC Tryz.prog 29 [enc r, enc s, enc n] [] (enc (iu r s n)) [] := by
 have hln := h.hln
 have h60 := h.h60
 have hr0 := h.hr
 obtain ⟨off, hyst, trig⟩ := r
 simp only [j3, Bool.and_eq_true, decide_eq_true_eq] at hr0
 have hlv : (iu ⟨off, hyst, trig⟩ s n).length ≤ 60 := Nat.le_trans (mJ _ s n 0 0 true) h60
 refine dC [] is29 (by simp) trivial trivial trivial trivial (fun cx _ hl _ => dB [] 800 ?_)
 delta c29 oO oN oA oM oT oG oR oQ oS oK
 simp (maxSteps := 4000000) -implicitDefEqProofs only [rv29, iw, Ent.of0, Ent.of1, Ent.of2, Ent.of3, Ent.of4, V, W3, ↓reduceIte, seval, reduceCtorEq]
 generalize hr : (⟨off, hyst, trig⟩ : Rul) = r at *
 have hre : r.off = off ∧ r.hyst = hyst ∧ r.trig = trig := by rw [← hr]; exact ⟨rfl, rfl, rfl⟩
 generalize hp : (fun k : Nat => nF r (s.getD k 0) (n.getD k 0)) = p
 have hpk : ∀ k, p k = nF r (s.getD k 0) (n.getD k 0) := fun k => by rw [← hp]
 refine sk (α := Nat × List Int × Bool) (fun v => [(7, .own 7), (8, .s (.bool v.2.2)), (9, .s (.int .i64 (v.1 : Int)))]) (fun v => [(7, .row 1 3 (v.2.1.map cells))])
  (fun v => v.1 ≤ s.length ∧ iu r s n = v.2.1 ++ trg r (s.drop v.1) (n.drop v.1) v.1 (cnt p v.1) v.2.2) (fun v => s.length - v.1) (0, [], true)
  ⟨Nat.zero_le _, by simp [iu, cnt]⟩ ?_ (fun v hv => ?_)
 · simp (maxSteps := 4000000) -implicitDefEqProofs only [Ent.of0, Ent.of1, Ent.of2, Ent.of3, Ent.of4, V, W3, ↓reduceIte, seval, reduceCtorEq]
   all_goals simp
 · obtain ⟨i, out, ov⟩ := v
   simp only at hv
   obtain ⟨v1, v2⟩ := hv
   refine dB [ent33] 800 ?_
   have hcl := xa p i
   have hol : out.length ≤ 60 := by
    have := congrArg List.length v2
    rw [List.length_append] at this; omega
   by_cases h1 : i < s.length
   · have hi2 : (i : Int) < (s.length : Int) := by omega
     have hi4 : i < n.length := by omega
     have htk : TickOk r s n (i : Int) := ⟨h, by omega, hi2⟩
     rw [ee 0 h1, ee 0 hi4, trg] at v2
     have hob : ovr r s n (i : Int) = over r (s.getD i 0) (n.getD i 0) := by simp [ovr]
     have hcs := wK p i
     rw [hpk i] at hcs
     rw [← hcs] at v2
     rw [← hr] at htk hob
     obtain ⟨T, rfl⟩ : ∃ T : Nat, trig = (T : Int) := ⟨trig.toNat, by omega⟩
     have hlong : ∀ m : Nat, m ≤ i + 1 → m ≤ T + 1 → (i < m ∨ T < m) → (decide ((T : Int) ≤ (i : Int)) && (List.range m).all fun j => p (i - j)) = decide (T < cnt p (i + 1)) := fun m g1 g2 g3 => by
      rw [Bool.eq_iff_iff]
      simp only [Bool.and_eq_true, decide_eq_true_eq, List.all_eq_true, List.mem_range]
      rw [wJ]
      constructor
      · intro ⟨q1, q2⟩
        refine ⟨by omega, fun k q3 q4 => ?_⟩
        have := q2 (i - k) (by omega)
        rwa [show i - (i - k) = k by omega] at this
      · intro ⟨q1, q2⟩
        exact ⟨by omega, fun j q3 => q2 (i - j) (by omega) (by omega)⟩
     have hret : r.trig = (T : Int) := hre.2.2
     have htc : decide (r.trig < (cnt p (i + 1) : Int)) = decide (T < cnt p (i + 1)) := by rw [hret]; simp
     rw [htc] at v2
     cases ov
     all_goals
      delta c29l2 oO oN oA oM oT oG oR oQ oS oK
      simp (maxSteps := 4000000) -implicitDefEqProofs only [rv29, ent33, jT, hi2, htk, hob, h1, InR, Bool.true_or, Bool.false_or, WU, Ent.of0, Ent.of1, Ent.of2, Ent.of3, Ent.of4, V, W3, ↓reduceIte, seval, reduceCtorEq]
      simp only [Bool.true_or, Bool.false_or] at v2
      refine sk (α := Nat) (fun m => [(10, .s (.bool (decide ((T : Int) ≤ (i : Int)) && (List.range m).all fun j => p (i - j)))), (11, .s (.int .i64 ((i : Int) - m)))]) (fun _ => []) (fun m => m ≤ i + 1 ∧ m ≤ T + 1) (fun m => i + 1 - m) 0 ⟨Nat.zero_le _, Nat.zero_le _⟩ ?_ (fun m hm => dB [ent32] 800 ?_)
      · simp (maxSteps := 4000000) -implicitDefEqProofs only [Ent.of0, Ent.of1, Ent.of2, Ent.of3, Ent.of4, V, W3, ↓reduceIte, seval, reduceCtorEq]
        all_goals simp
      obtain ⟨m1, m2⟩ := hm
      by_cases h2 : m ≤ i ∧ m ≤ T
      · have e1 : (0 : Int) ≤ (i : Int) - m := by omega
        have e2 : (i : Int) - T ≤ (i : Int) - m := by omega
        have htk2 : TickOk ⟨off, hyst, T⟩ s n ((i : Int) - m) := by rw [hr]; exact ⟨h, e1, by omega⟩
        have hbb : bett ⟨off, hyst, T⟩ s n ((i : Int) - m) = p (i - m) := by
         rw [hr, hpk, bett]
         have : ((i : Int) - m).toNat = i - m := by omega
         rw [this]
        have hrs : (List.range (m + 1)).all (fun j => p (i - j)) = ((List.range m).all (fun j => p (i - j)) && p (i - m)) := by rw [List.range_succ, List.all_append]; simp
        generalize hA : (decide ((T : Int) ≤ (i : Int)) && (List.range m).all fun j => p (i - j)) = A
        cases A
        all_goals
         delta wN oO oN oA oM oT oG oR oQ oS oK
         simp (maxSteps := 4000000) -implicitDefEqProofs only [ent32, jT, e1, e2, htk2, hbb, InR, WU, Ent.of0, Ent.of1, Ent.of2, Ent.of3, Ent.of4, V, W3, ↓reduceIte, seval, reduceCtorEq]
         refine ⟨by omega, by omega, m + 1, ⟨by omega, by omega⟩, by omega, ?_, by push_cast; omega⟩
         rw [hrs, ← Bool.and_assoc, hA]
         simp
      · have hL := hlong m m1 m2 (by omega)
        rw [hL]
        have e0 : InR .i64 ((i : Int) - T) := by simp only [InR]; omega
        have e5 : InR .i64 ((i : Int) + 1) := by simp only [InR]; omega
        have e6 : (out.length + 1) * 8 ≤ 140737488355328 := by omega
        have e7 : out.length + 1 ≤ 9223372036854775807 := by omega
        have hmc : ∀ x : Int, List.map cells out ++ [[C.s (.int .i64 x)]] = List.map cells (out ++ [x]) := fun x => by rw [List.map_append]; rfl
        have hout : ∀ (B : Bool) (l : List Int), iu r s n = out ++ l → iu r s n = out ++ l := fun _ _ h => h
        simp only [hr] at *
        generalize hA : decide (T < cnt p (i + 1)) = A at *
        generalize hB : over r (s.getD i 0) (n.getD i 0) = B at *
        by_cases e1 : (0 : Int) ≤ (i : Int) - m
        · have e2 : ¬ (i : Int) - T ≤ (i : Int) - m := by omega
          cases A <;> cases B
          all_goals
           simp only [Bool.true_and, Bool.false_and, Bool.and_true, Bool.and_false, Bool.false_eq_true, if_true, if_false] at v2
           delta wN oO oN oA oM oT oG oR oQ oS oK
           simp (maxSteps := 4000000) -implicitDefEqProofs only [e1, e2, e0, e5, e6, e7, List.length_map, WU, Ent.of0, Ent.of1, Ent.of2, Ent.of3, Ent.of4, V, W3, ↓reduceIte, seval, reduceCtorEq]
           first
           | exact ⟨(i + 1, out, _), ⟨h1, v2⟩, by simp only; omega, ⟨rfl, by push_cast; rfl⟩, rfl⟩
           | exact ⟨(i + 1, out ++ [(i : Int)], _), ⟨h1, by rw [v2]; simp⟩, by simp only; omega, ⟨rfl, by push_cast; rfl⟩, by rw [hmc]⟩
        · cases A <;> cases B
          all_goals
           simp only [Bool.true_and, Bool.false_and, Bool.and_true, Bool.and_false, Bool.false_eq_true, if_true, if_false] at v2
           delta wN oO oN oA oM oT oG oR oQ oS oK
           simp (maxSteps := 4000000) -implicitDefEqProofs only [e1, e0, e5, e6, e7, List.length_map, WU, Ent.of0, Ent.of1, Ent.of2, Ent.of3, Ent.of4, V, W3, ↓reduceIte, seval, reduceCtorEq]
           first
           | exact ⟨(i + 1, out, _), ⟨h1, v2⟩, by simp only; omega, ⟨rfl, by push_cast; rfl⟩, rfl⟩
           | exact ⟨(i + 1, out ++ [(i : Int)], _), ⟨h1, by rw [v2]; simp⟩, by simp only; omega, ⟨rfl, by push_cast; rfl⟩, by rw [hmc]⟩
   · have hi2 : ¬ (i : Int) < (s.length : Int) := by omega
     have en : s.drop i = [] := List.drop_eq_nil_of_le (by omega)
     rw [en, sL, List.append_nil] at v2
     rw [v2]
     delta c29l2 oO oN oA oM oT oG oR oQ oS oK
     simp (maxSteps := 4000000) -implicitDefEqProofs only [rv29, hi2, WU, Ent.of0, Ent.of1, Ent.of2, Ent.of3, Ent.of4, V, W3, ↓reduceIte, seval, reduceCtorEq]
def wT : Ent Tryz.prog := .of3 29 (fun r s n => TrgOk r s n) (fun (r : Rul) (s n : List Int) => enc (iu r s n)) (fun _ _ _ => trivial) (fun r s n h => wW r s n h)
theorem ticks_c (l : List Int) : FC Tryz.prog 22 [enc l] [] (enc (decide (l.length ≤ 62))) [] := by
 refine eg is22 (by simp) (fun cx hl => dB [] 800 ?_)
 have hle : ((l.length : Int) ≤ 62) = (l.length ≤ 62) := by simp; omega
 delta c22 oO oN oA oM oT oG oR oQ oS oK
 simp (maxSteps := 4000000) -implicitDefEqProofs only [rv22, hle, Ent.of0, Ent.of1, Ent.of2, Ent.of3, Ent.of4, V, W3, ↓reduceIte, seval, reduceCtorEq]
def wO : Ent Tryz.prog := .of1 22 (fun _ => True) (fun l : List Int => enc (decide (l.length ≤ 62))) (fun _ => trivial) (fun l _ => ticks_c l)
theorem wY (a b : Int) : dL [a, b] = if a ≠ 0 then a else b := by
 simp only [dL]
 by_cases h : a = 0 <;> by_cases g : b = 0 <;> simp [h, g]
theorem wL (haw : Awake) (r : Rul) (s n : List Int) : FC Tryz.prog 3 [enc r, enc s, enc n] [] (enc true) [] := by
 have hE : iX r s n = if kj r ≠ 0 then kj r else l9 s n := by rw [iX, wY]
 have hF : ftE r s n = if iX r s n ≠ 0 then iX r s n else if iu r s n = [] then 12 else 0 := rfl
 obtain ⟨off, hyst, trig⟩ := r
 refine dC [] is3 (by simp) trivial trivial trivial trivial (fun cx _ hl _ => dB [ent21 haw, wO, wP, qm, wQ, ent26, wR, wS, wT, mu] 1500 ?_)
 by_cases h1 : s.length ≤ 62
 rotate_left
 · have d1 := decide_eq_false h1
   delta c3 oO oN oA oM oT oG oR oQ oS oK
   simp (maxSteps := 4000000) -implicitDefEqProofs only [rv3, ent21, wO, wP, qm, wQ, ent26, wR, wS, wT, mu, iw, jT, d1, not_true_eq_false, WU, Ent.of0, Ent.of1, Ent.of2, Ent.of3, Ent.of4, V, W3, ↓reduceIte, seval, reduceCtorEq]
 by_cases h2 : n.length ≤ 62
 rotate_left
 · have d1 := decide_eq_true h1
   have d2 := decide_eq_false h2
   delta c3 oO oN oA oM oT oG oR oQ oS oK
   simp (maxSteps := 4000000) -implicitDefEqProofs only [rv3, ent21, wO, wP, qm, wQ, ent26, wR, wS, wT, mu, iw, jT, d1, d2, not_true_eq_false, WU, Ent.of0, Ent.of1, Ent.of2, Ent.of3, Ent.of4, V, W3, ↓reduceIte, seval, reduceCtorEq]
 have d1 := decide_eq_true h1
 have d2 := decide_eq_true h2
 have h1' : s.length ≤ 1000000 := by omega
 have h2' : n.length ≤ 1000000 := by omega
 delta c3 oO oN oA oM oT oG oR oQ oS oK
 simp (maxSteps := 4000000) -implicitDefEqProofs only [rv3, ent21, wO, wP, qm, wQ, ent26, wR, wS, wT, mu, iw, jT, d1, d2, h1', h2', not_true_eq_false, WU, Ent.of0, Ent.of1, Ent.of2, Ent.of3, Ent.of4, V, W3, ↓reduceIte, seval, reduceCtorEq]
 generalize (⟨off, hyst, trig⟩ : Rul) = r at *
 by_cases hr : kj r = 0
 · rw [if_neg (fun g => g hr)] at hE
   rw [if_pos hr]
   by_cases hl2 : l9 s n = 0
   · rw [hl2] at hE
     have hok := rK hE
     rw [if_neg (fun g => g hE)] at hF
     by_cases hg : iu r s n = []
     · rw [if_pos hg] at hF
       simp [hl2, hE, hok, hg, hF]
     · rw [if_neg hg] at hF
       have hg2 : 0 < (iu r s n).length := List.length_pos_iff.2 hg
       have hg3 : ¬ ((iu r s n).length : Int) = 0 := by omega
       have hg4 : 0 < ((iu r s n).length : Int) := by omega
       simp [hl2, hE, hok, hg, hF, hg3, hg2]
   · have hne : iX r s n ≠ 0 := by rw [hE]; exact hl2
     rw [if_pos hne] at hF
     simp only [hF, hE, hl2, not_false_eq_true, if_true, if_false, List.length_nil]
     trivial
 · rw [if_pos hr] at hE
   rw [if_neg hr]
   have hne : iX r s n ≠ 0 := by rw [hE]; exact hr
   rw [if_pos hne] at hF
   simp only [hF, hE, hr, not_false_eq_true, if_true, if_false, List.length_nil]
   trivial
def btr (r : Rul) (s n : List Int) (k : Nat) : Bool := nF r (s.getD k 0) (n.getD k 0)
def ovk (r : Rul) (s n : List Int) (k : Nat) : Bool := over r (s.getD k 0) (n.getD k 0)
def GoodT (r : Rul) (s n : List Int) : Option Int → List Int → Prop
 | _, [] => True
 | prev, v :: l => (r.trig ≤ v ∧ v ≤ (s.length : Int) - 1) ∧ (∀ k : Nat, v - r.trig ≤ (k : Int) → (k : Int) ≤ v → btr r s n k = true) ∧ (∀ u, prev = some u → u < v ∧ ∃ k : Nat, u ≤ (k : Int) ∧ (k : Int) < v ∧ ovk r s n k = true) ∧ GoodT r s n (some v) l
theorem cnt_gt {r : Rul} {s n : List Int} {t : Nat} {run : Int} (ht : 0 ≤ r.trig) (hrun : run = (cnt (btr r s n) (t + 1) : Int)) (h : r.trig < run) : r.trig ≤ t ∧ ∀ k : Nat, (t : Int) - r.trig ≤ k → (k : Int) ≤ t → btr r s n k = true := by
 obtain ⟨T, hT⟩ : ∃ T : Nat, r.trig = (T : Int) := ⟨r.trig.toNat, by omega⟩
 rw [hT] at h ⊢
 have h2 : T < cnt (btr r s n) (t + 1) := by omega
 rw [wJ] at h2
 exact ⟨by omega, fun k h3 h4 => h2.2 k (by omega) (by omega)⟩
theorem goodT (r : Rul) (s n : List Int) (hl : n.length = s.length) (ht : 0 ≤ r.trig) (hh : 0 ≤ r.hyst) : ∀ (m t : Nat) (armed : Bool) (prev : Option Int), s.length - t = m →
 (∀ u, prev = some u → u < (t : Int) ∧ (armed = true → ∃ k : Nat, u ≤ (k : Int) ∧ (k : Int) < t ∧ ovk r s n k = true)) → GoodT r s n prev (trg r (s.drop t) (n.drop t) t (cnt (btr r s n) t) armed)
 | 0, t, armed, prev, hm, hp => by
  rw [List.drop_eq_nil_of_le (by omega : s.length ≤ t), sL]; trivial
 | m + 1, t, armed, prev, hm, hp => by
  have h1 : t < s.length := by omega
  have h2 : t < n.length := by omega
  rw [ee 0 h1, ee 0 h2, trg]
  have hc : (if nF r (s.getD t 0) (n.getD t 0) then (cnt (btr r s n) t : Int) + 1 else 0) = (cnt (btr r s n) (t + 1) : Int) := (wK (btr r s n) t).symm
  simp only [hc]
  by_cases hg : ((armed || over r (s.getD t 0) (n.getD t 0)) && decide (r.trig < (cnt (btr r s n) (t + 1) : Int))) = true
  · rw [if_pos hg]
    simp only [Bool.and_eq_true, Bool.or_eq_true, decide_eq_true_eq] at hg
    obtain ⟨g1, g2⟩ := hg
    obtain ⟨g3, g4⟩ := cnt_gt ht rfl g2
    have g5 := g4 t (by omega) (by omega)
    refine ⟨⟨g3, by omega⟩, g4, fun u hu => ?_, goodT r s n hl ht hh m (t + 1) false (some t) (by omega) (fun u hu => ?_)⟩
    · obtain ⟨q1, q2⟩ := hp u hu
      refine ⟨q1, ?_⟩
      rcases g1 with g1 | g1
      · exact q2 g1
      · exfalso
        simp only [btr, nF, decide_eq_true_eq] at g5
        simp only [over, decide_eq_true_eq] at g1
        omega
    · cases hu; exact ⟨by omega, fun h => by cases h⟩
  · rw [if_neg hg]
    refine goodT r s n hl ht hh m (t + 1) _ prev (by omega) (fun u hu => ?_)
    obtain ⟨q1, q2⟩ := hp u hu
    refine ⟨by omega, fun ha => ?_⟩
    simp only [Bool.or_eq_true] at ha
    rcases ha with ha | ha
    · obtain ⟨k, k1, k2, k3⟩ := q2 ha
      exact ⟨k, k1, by omega, k3⟩
    · exact ⟨t, by omega, by omega, ha⟩
theorem goodT0 {r : Rul} {s n : List Int} (h : TrgOk r s n) : GoodT r s n none (iu r s n) := by
 have h2 := h.hr
 simp only [j3, Bool.and_eq_true, decide_eq_true_eq] at h2
 have := goodT r s n h.hln h2.2.1 h2.1.2.1 s.length 0 true none (by omega) (fun u hu => by cases hu)
 simpa [cnt, iu] using this
theorem wM (r : Rul) (s n : List Int) (hl : n.length = s.length) : ∀ (m t v : Nat), s.length - t = m → t ≤ v → v < s.length → r.trig < (cnt (btr r s n) (v + 1) : Int) →
 ∃ u l, trg r (s.drop t) (n.drop t) t (cnt (btr r s n) t) true = u :: l ∧ u ≤ (v : Int)
 | 0, t, v, hm, h1, h2, h3 => by omega
 | m + 1, t, v, hm, h1, h2, h3 => by
  have g1 : t < s.length := by omega
  have g2 : t < n.length := by omega
  rw [ee 0 g1, ee 0 g2, trg]
  have hc : (if nF r (s.getD t 0) (n.getD t 0) then (cnt (btr r s n) t : Int) + 1 else 0) = (cnt (btr r s n) (t + 1) : Int) := (wK (btr r s n) t).symm
  simp only [hc, Bool.true_or, Bool.true_and, decide_eq_true_eq]
  by_cases hg : r.trig < (cnt (btr r s n) (t + 1) : Int)
  · rw [if_pos hg]; exact ⟨_, _, rfl, by omega⟩
  · rw [if_neg hg]
    have : t ≠ v := fun e => hg (e ▸ h3)
    exact wM r s n hl m (t + 1) v (by omega) (by omega) h2 h3
theorem wU {p q : Nat → Bool} (h : ∀ k, p k = true → q k = true) : ∀ t, cnt p t ≤ cnt q t
 | 0 => Nat.le_refl _
 | t + 1 => by
  have := wU h t
  rw [cnt, cnt]
  cases hp : p t with
  | false => simp
  | true => rw [h t hp]; simp; omega
theorem later {r r' : Rul} {s n : List Int} (h : TrgOk r s n) (h' : TrgOk r' s n) (h1 : r.trig ≤ r'.trig) (h2 : r.off ≤ r'.off) (h3 : r.hyst = r'.hyst) (hne : iu r' s n ≠ []) :
 iu r s n ≠ [] ∧ (iu r s n).getD 0 0 ≤ (iu r' s n).getD 0 0 := by
 cases hL : iu r' s n with
 | nil => exact absurd hL hne
 | cons v l =>
  have hg := goodT0 h'
  rw [hL] at hg
  obtain ⟨⟨g1, g2⟩, g3, _, _⟩ := hg
  have hr' := h'.hr
  simp only [j3, Bool.and_eq_true, decide_eq_true_eq] at hr'
  obtain ⟨V, rfl⟩ : ∃ V : Nat, v = (V : Int) := ⟨v.toNat, by omega⟩
  obtain ⟨T, hT⟩ : ∃ T : Nat, r'.trig = (T : Int) := ⟨r'.trig.toNat, by omega⟩
  have hc' : T < cnt (btr r' s n) (V + 1) := by
   rw [wJ]
   exact ⟨by omega, fun k q1 q2 => g3 k (by omega) (by omega)⟩
  have hm := wU (p := btr r' s n) (q := btr r s n) (fun k hk => by
   simp only [btr, nF, decide_eq_true_eq] at hk ⊢
   omega) (V + 1)
  obtain ⟨u, l', e1, e2⟩ := wM r s n h.hln s.length 0 V (by omega) (by omega) (by omega) (by omega)
  have e3 : iu r s n = u :: l' := by simpa [cnt, iu] using e1
  rw [e3]
  exact ⟨by simp, by simpa using e2⟩
end Go.Proofs.YtcbabnbiinkafaaGreatDoor
end
section
open Go Go.Am
open Go.Am.Dat (cells)
namespace Go.Proofs.YtcbabnbiinkafaaGreatDoor
open Go.ChangeShapes Go.WideShapes Go.ChangeAt Go.RowKit
open Go.ChangeMaps (open_string shut_string)
set_option maxRecDepth 100000
theorem rRul : ReadsP Tryz.prog 23 Rul (fun _ => True) := by
 refine ⟨by kernel_rfl, by decide, fun en w sp fuel cs x h => ?_⟩
 obtain ⟨l, a0, p0, e0, h0⟩ := lX rInt Tryz.underlying23 h 0 rfl rfl
 obtain ⟨_, a1, p1, e1, h1⟩ := lX rInt Tryz.underlying23 h 1 rfl rfl
 obtain ⟨_, a2, p2, e2, h2⟩ := lX rInt Tryz.underlying23 h 2 rfl rfl
 refine ⟨⟨a0, a1, a2⟩, trivial, rfl, l.trans (by kernel_rfl), fun j c hj => ?_⟩
 match j, hj with
 | 0, hj => cases hj; exact h0 0 _ rfl
 | 1, hj => cases hj; exact h1 0 _ rfl
 | 2, hj => cases hj; exact h2 0 _ rfl
theorem lifted3 (os : Os) (started : os.Started) (H : Type) (en : TypeId × Value → H) :
 ReturnsInHanded {} Tryz.checked os 3 .any (fun w args => (Rows.moveTriggersSpec.pre en Tryz.prog Tryz.f3 Rows.moveTriggersRow.domain false w args ∧ laidMetH Tryz.prog Rows.moveTriggersRow.laid w) ∧ sizedMet en Tryz.prog Tryz.f3 (OpenSpec.ofChange Rows.moveTriggersSpec) false w args)
  (Rows.moveTriggersSpec.post en Tryz.prog Tryz.f3 false true false false) := by
 refine returnsInHanded_of_change_and (C := Tryz.checked) (X := fun w _ => laidMetH Tryz.prog Rows.moveTriggersRow.laid w) (fun _ _ _ hh h => h.of_heap hh) ownOk started (by kernel_rfl) Tryz.func3
  (ChangeSpec.witness_shaped (enc := en) (C := Tryz.checked) (os := os) (X := fun w _ => laidMetH Tryz.prog Rows.moveTriggersRow.laid w) false (World.doorLaid Tryz.prog 89 os) #[.agg #[.int .i64 0, .int .i64 0, .int .i64 0], .slice none 0 0, .slice none 0 0] 8 rfl (doorShaped os _) (by kernel_rfl) (by kernel_rfl) (by kernel_rfl) (door_met os _)) ?_
 intro W base args ds gs before hval0 hW hcnd hsz hL _
 have hval : ∀ (j : Nat) t v, Tryz.f3.params[j]? = some t → args[j]? = some v → Value.okWide Tryz.prog W .any base t v := hval0
 have hW' := hW
 obtain ⟨p, q, hA0, hV, rfl, hfz, hnd⟩ := hW
 have hA : DataW.TrodAll en Tryz.prog W 0 (fun _ => true) true Tryz.f3.params.toList args.toList ds p := hA0
 rw [Tryz.params3] at hA hval
 obtain ⟨v0, vs0, d0w, ds0, p0, q0, hargs, rfl, rfl, h0, r0w⟩ := trodAll_cons hA
 obtain ⟨v1, vs1, d1, ds1, p1, q1, rfl, rfl, rfl, h1, r1⟩ := trodAll_cons r0w
 obtain ⟨v2, vs2, d2, ds2, p2, q2, rfl, rfl, rfl, h2, r2⟩ := trodAll_cons r1
 obtain ⟨rfl, rfl, rfl⟩ := trodAll_nil r2
 obtain rfl : args = #[v0, v1, v2] := by cases args; simp_all
 obtain ⟨rfl, rfl⟩ := trodVars_none hV
 have lt0 : ∀ x ∈ p0, x.block < W.heap.size := by obtain ⟨m, hm⟩ := h0; exact DataW.trod_lt m _ _ _ hm
 have lt1 : ∀ x ∈ p1, x.block < W.heap.size := by obtain ⟨m, hm⟩ := h1; exact DataW.trod_lt m _ _ _ hm
 have lt2 : ∀ x ∈ p2, x.block < W.heap.size := by obtain ⟨m, hm⟩ := h2; exact DataW.trod_lt m _ _ _ hm
 obtain ⟨x0, g0, hx0⟩ := rRul.argS rfl Tryz.underlying23 (hval 0 23 v0 rfl rfl) h0
 obtain ⟨x1, g1, hx1⟩ := rInts.arg Tryz.underlying24 (hval 1 24 v1 rfl rfl) h1
 obtain ⟨x2, g2, hx2⟩ := rInts.arg Tryz.underlying24 (hval 2 24 v2 rfl rfl) h2
 clear hA0 hval0
 refine (law_walkG (wL awake_c x0 x1 x2) (W := W) (vs := #[v0, v1, v2]) (glAll hL) rfl (fun j c hj E => ?_)).mono fun e W' ⟨he, bel⟩ => ?_
 · match j, hj with
   | 0, hj => cases hj; exact hx0 E
   | 1, hj => cases hj; exact hx1 E
   | 2, hj => cases hj; exact hx2 E
 · subst he
   exact ⟨_, rfl, _, _, _, [], _, [], hW', trodAll_mk1 (shut_bool Tryz.underlying4 _), (trodAll_cons_mk (Below.trod laidOut (by kernel_rfl) (of_decide_eq_true (by kernel_rfl)) h0 bel lt0) (trodAll_cons_mk (Below.trod laidOut (by kernel_rfl) (of_decide_eq_true (by kernel_rfl)) h1 bel lt1) (trodAll_cons_mk (Below.trod laidOut (by kernel_rfl) (of_decide_eq_true (by kernel_rfl)) h2 bel lt2) trodAll_mk0))), rfl, bel.frame _, fun h => by cases h⟩
theorem jPlace3 : (Rows.moveTriggersRow.inPlace == Tryz.prog.inPlace 3) = true := by kernel_rfl
theorem jUnf3 : (Rows.moveTriggersRow.unfollowed == Tryz.prog.unfollowed 3) = true := by kernel_rfl
theorem jRec3 : (Rows.moveTriggersRow.recurses == Tryz.prog.recurses 3) = true := by kernel_rfl
theorem jNamed3 : (Rows.moveTriggersRow.named == Tryz.prog.varsNamed 3) = true := by kernel_rfl
theorem jKeys3 : (Rows.moveTriggersRow.plainKeys == Tryz.prog.plainKeys) = true := jKeys
theorem jLift3 : (Rows.moveTriggersRow.lifted == Tryz.prog.liftsFinal) = true := jLift
theorem jMake3 : (Tryz.prog.make == some Rows.moveTriggersRow.make) = true := jMake
theorem jVeil3 : Rows.moveTriggersRow.veiledFits Tryz.prog Tryz.f3.params.toList (Tryz.f3.params.toList ++ Rows.moveTriggersSpec.plain.varTypes Tryz.prog ++ Tryz.f3.resultTypes.toList) = true := by kernel_rfl
end Go.Proofs.YtcbabnbiinkafaaGreatDoor
end
