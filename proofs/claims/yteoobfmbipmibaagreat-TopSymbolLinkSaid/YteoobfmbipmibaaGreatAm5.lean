/- Part 5 of the proof of: TopSymbolLink returns true for every input and never panics: bits with their check, coded, scrambled, modulated, layered, with a matrix applied, are recovered behind equalizing by soft bits turned back by the register; conditions: none beyond the given statement. -/
import Derived.WalkKit
import Derived.Lib.AppendZerosOnto
import Derived.Lib.Walk
import Derived.Lib.SliceRun
import Derived.Test.YteoobfmbipmibaaGreatAm4
set_option linter.all false
section
open Go Go.Am
open Go.Am.Dat (cells)
namespace Go.Proofs.YteoobfmbipmibaaGreat
set_option maxHeartbeats 4000000
set_option maxRecDepth 20000
theorem uq (m r : List (List Gs)) : FC Tryz.prog 26 [enc m, enc r] [] (.tup [enc (if eqE m r = 0 then i3 m r else []), enc (if eqE m r = 0 then gA m else 0), enc (eqE m r)]) [] := by
 refine dF [] D.is26 (by simp) trivial trivial trivial trivial (fun cx _ hl _ => dj [ent73, jV, ew, dQ, lu, si, ent76, rG, xy] 800 ?_)
 have hEq : dl [eC m, dG r, if (r.length : Int) = (m.length : Int) then 0 else 13, if (decide ((dt m).re = 0) && decide ((dt m).im = 0)) = false then 0 else 27] = lz m r := by
  have e1 : (if (r.length : Int) = (m.length : Int) then (0 : Int) else 13) = if r.length = m.length then 0 else 13 := by
   by_cases h : r.length = m.length
   · simp [h]
   · rw [if_neg h, if_neg (by omega)]
  have e2 : (if (decide ((dt m).re = 0) && decide ((dt m).im = 0)) = false then (0 : Int) else 27) = if dt m = ⟨0, 0⟩ then 27 else 0 := by
   by_cases h : dt m = ⟨0, 0⟩
   · rw [h]; simp
   · rw [if_neg h, if_pos]
     rw [Bool.and_eq_false_iff]
     by_cases h1 : (dt m).re = 0
     · right
       simp only [decide_eq_false_iff_not]
       intro h2
       apply h
       cases hq : dt m
       rw [hq] at h1 h2
       simp only at h1 h2
       rw [h1, h2]
     · left; simpa using h1
  rw [e1, e2]; rfl
 by_cases he : lz m r = 0
 · have hz := ig he
   have z1 : eC m = 0 := hz _ (by simp)
   have z2 : dG r = 0 := hz _ (by simp)
   have z3 : r.length = m.length := by
    have : (if r.length = m.length then (0 : Int) else 13) = 0 := hz _ (by simp)
    split at this
    · assumption
    · cases this
   obtain ⟨d1, d2, d3, d4⟩ := xv z1
   have hf := za d1 d2 z2 z3
   obtain ⟨l1, l2, l3⟩ := jv z2
   have hga : ik (fL (gR m)) (gR m) := mU fun x hx g hg => by
    have := hf.ma x hx g hg
    simp only [bd] at *; omega
   have hgr : ik (fL r) r := mU fun x hx g hg => by
    have := hf.mb x hx g hg
    simp only [bd] at *; omega
   have hrep := qS hf (by omega) hga hgr
   have hO := ofM_c hrep
   have hOl : (dA (gR m) r).length = m.length := by simp [dA, (lR d1).1]
   rw [he] at hEq
   delta D.c26 oO oN oA oM oT oG oR oQ oS oK
   simp (maxSteps := 4000000) -implicitDefEqProofs only [D.rv26, ent73, jV, ew, dQ, lu, si, ent76, rG, xy, hEq, hO, Ent.of0, Ent.of1, Ent.of2, Ent.of3, V, W3, ↓reduceIte, Nat.reduceAdd, Nat.reduceSub, Nat.reduceMul, Nat.reduceEqDiff, Nat.reduceLT, Nat.reduceLeDiff, reduceCtorEq, Int.reduceToNat, Nat.reduceBEq]
   have hbd : bd (dt m) 4000000 := by
    have e : dt m = eT m := by unfold dt eC at *; split at z1 <;> simp_all
    rw [e]
    rcases d1 with ⟨a, rfl⟩ | ⟨a, b, c, d, rfl, _, _⟩
    · have := (d2 [a] (by simp)).2 a (by simp)
      simp only [eT, bd] at *; omega
    · have ha := (d2 [a, b] (by simp)).2 a (by simp)
      have hb := (d2 [a, b] (by simp)).2 b (by simp)
      have hc := (d2 [c, d] (by simp)).2 c (by simp)
      have hd := (d2 [c, d] (by simp)).2 d (by simp)
      have q1 := kO ha hd
      have q2 := kO hb hc
      simp only [eT, bd, lS] at *
      omega
   have hgc : jl (dt m) = ⟨(dt m).re, -(dt m).im⟩ := rfl
   have hgain : gA m = (fW (dt m) ⟨(dt m).re, -(dt m).im⟩).re := rfl
   have hgain2 : gA m = (dt m).re * (dt m).re + (dt m).im * (dt m).im := by
    rw [hgain]; simp only [fW]; rw [Int.mul_neg]; omega
   have heE : eqE m r = if gA m > 10000000 then 8 else if (i3 m r).all fun x => x.all (dw · 100000000) then 0 else 8 := by unfold eqE; rw [if_neg (by simpa using he)]
   have hout : i3 m r = (dA (gR m) r).map fun x => x.map (fW (jl (dt m))) := rfl
   refine ⟨by simp only [bd, InR] at *; omega, ⟨4000000, 4000000, hbd, by simp only [bd] at *; omega, by omega⟩, ?_⟩
   rw [← hgain]
   by_cases hG : gA m > 10000000
   · rw [if_pos hG, heE, if_pos hG]
     exact ⟨trivial, rfl, rfl⟩
   · rw [if_neg hG]
     rw [if_neg hG] at heE
     have hal := lR d1
     have hrows : ∀ x ∈ dA (gR m) r, x.length ≤ 1000000 ∧ ∀ g ∈ x, bd g 800000000000 := fun x hx => by
      obtain ⟨row, hrow, rfl⟩ := List.mem_map.1 hx
      refine ⟨by simp only [iG, List.length_map, List.length_range]; exact hf.short, fun g hg => ?_⟩
      obtain ⟨k, hk, rfl⟩ := List.mem_map.1 hg
      have := p9 hf hrow (by simpa using hk) r.length (Nat.le_refl _)
      have h4 : r.length * (2 * (1000 * 100000000)) ≤ 4 * (2 * (1000 * 100000000)) := Nat.mul_le_mul_right _ l2
      simp only [bd] at *; omega
     refine ⟨d1, ⟨by omega, fun x hx => by rw [hal.2 x hx]; omega⟩, ⟨by omega, fun x hx => by have := (l3 x hx).2.2.1; omega⟩, ⟨_, _, _, _, hf, by omega, hga, hgr⟩, ⟨hrep, by omega, fun x hx => (hrows x hx).1, fun x hx g hg => by have := (hrows x hx).2 g hg; simp only [bd] at *; omega⟩, ?_⟩
     have hback : bd (jl (dt m)) 4000 := by
      have sq : ∀ a b : Int, a * a + b * b ≤ 10000000 → a.natAbs ≤ 4000 := fun a b h => by
       rcases Nat.lt_or_ge 4000 a.natAbs with h1 | h1
       · have h2 : 4001 * 4001 ≤ a.natAbs * a.natAbs := Nat.mul_le_mul h1 h1
         have h3 : ((a.natAbs * a.natAbs : Nat) : Int) = a * a := by rw [← Int.natAbs_mul_self]
         have h4 : (0 : Int) ≤ b * b := by rw [← Int.natAbs_mul_self]; omega
         omega
       · exact h1
      have q1 := sq (dt m).re (dt m).im (by omega)
      have q2 := sq (dt m).im (dt m).re (by omega)
      simp only [bd, jl] at *; omega
     generalize hF : fW (jl (dt m)) = F at *
     generalize hOO : dA (gR m) r = O at *
     rw [hgc] at hF hback
     have hFg : ∀ g, fW ⟨(dt m).re, -(dt m).im⟩ g = F g := fun g => by rw [← hF]
     generalize hB : (⟨(dt m).re, -(dt m).im⟩ : Gs) = B at *
     generalize (dt m).re = Dr at *
     generalize (dt m).im = Di at *
     generalize eqE m r = E at *
     generalize i3 m r = Out at *
     generalize gA m = n at *
     clear hF hgain hgain2 hgc hbd hEq he hz z1 z2 z3 d1 d2 hf l3 hga hgr hrep hO hal hOO hG
     subst hB
     refine dE O.length (fun i => [(60, .s (.int .i64 (i : Int)))]) (fun i => [(57, .deep 2 62 32 none (riC F O i))]) (fun i => ((O.take i).all fun x => x.all fun g => dw (F g) 100000000) = true) (by simp) ?_ (fun i hi hv => dj [lu, jp] 800 ?_)
     · simp (maxSteps := 4000000) -implicitDefEqProofs only [yK, Ent.of0, Ent.of1, Ent.of2, Ent.of3, V, W3, ↓reduceIte, Nat.reduceAdd, Nat.reduceSub, Nat.reduceMul, Nat.reduceEqDiff, Nat.reduceLT, Nat.reduceLeDiff, reduceCtorEq, Int.reduceToNat, Nat.reduceBEq]
       rfl
     · delta D.c26l2 oO oN oA oM oT oG oR oQ oS oK
       by_cases h : i < O.length
       · have hi2 : (i : Int) < (O.length : Int) := by omega
         have r1 : (rjC F O i 0).length = O.length := pN h
         have r2 : (rjC F O i 0).getD i [] = xjC F (O.getD i []) 0 := uQ h []
         have r3 : (xjC F (O.getD i []) 0).length = (O.getD i []).length := kF (by omega)
         rw [riC_rj h]
         simp (maxSteps := 4000000) -implicitDefEqProofs only [hi2, r1, r2, r3, h, InR, Ent.of0, Ent.of1, Ent.of2, Ent.of3, V, W3, ↓reduceIte, Nat.reduceAdd, Nat.reduceSub, Nat.reduceMul, Nat.reduceEqDiff, Nat.reduceLT, Nat.reduceLeDiff, reduceCtorEq, Int.reduceToNat, Nat.reduceBEq]
         refine ⟨by omega, by simp, by simp, ?_⟩
         have hXm := hrows _ (dD [] h)
         have htk : O.take (i + 1) = O.take i ++ [O.getD i []] := eL [] h
         have hXmem : O.getD i [] ∈ O := dD [] h
         have rn := rjC_ri (F := F) h
         have g1 : ∀ j, (rjC F O i j).length = O.length := fun j => pN h
         have g2 : ∀ j, (rjC F O i j).getD i [] = xjC F (O.getD i []) j := fun j => uQ h []
         have g3 : ∀ j, (rjC F O i j).set i (xjC F (O.getD i []) (j + 1)) = rjC F O i (j + 1) := fun j => rjC_set h
         generalize hX : O.getD i [] = X at *
         refine dE X.length (fun j => [(66, .s (.int .i64 (j : Int)))]) (fun j => [(57, .deep 2 62 32 none (rjC F O i j))]) (fun j => ((X.take j).all fun g => dw (F g) 100000000) = true) (by simp) ?_ (fun j hj hw => dj [lu, jp] 800 ?_)
         · simp (maxSteps := 4000000) -implicitDefEqProofs only [Ent.of0, Ent.of1, Ent.of2, Ent.of3, V, W3, ↓reduceIte, Nat.reduceAdd, Nat.reduceSub, Nat.reduceMul, Nat.reduceEqDiff, Nat.reduceLT, Nat.reduceLeDiff, reduceCtorEq, Int.reduceToNat, Nat.reduceBEq]; rfl
         · delta D.c26l1 oO oN oA oM oT oG oR oQ oS oK
           by_cases hjl : j < X.length
           · have hj2 : (j : Int) < (X.length : Int) := by omega
             have g4 : (xjC F X j).length = X.length := kF (by omega)
             have g4' : (xjC F X (j + 1)).length = X.length := kF (by omega)
             have g5 : (xjC F X j).getD j [] = [.s (.int .i64 (X.getD j ⟨0, 0⟩).re), .s (.int .i64 (X.getD j ⟨0, 0⟩).im)] := xjC_get hjl []
             have g6 : (xjC F X (j + 1)).getD j [] = [.s (.int .i64 (F (X.getD j ⟨0, 0⟩)).re), .s (.int .i64 (F (X.getD j ⟨0, 0⟩)).im)] := yZ hjl []
             have g7 : (xjC F X j).set j [.s (.int .i64 (F (X.getD j ⟨0, 0⟩)).re), .s (.int .i64 (F (X.getD j ⟨0, 0⟩)).im)] = xjC F X (j + 1) := u3 hjl
             have hgm := dD ⟨0, 0⟩ hjl
             have hm1 : nK ⟨Dr, -Di⟩ (X.getD j ⟨0, 0⟩) := ⟨4000, 800000000000, hback, hXm.2 _ hgm, by omega⟩
             have htk2 : X.take (j + 1) = X.take j ++ [X.getD j ⟨0, 0⟩] := eL _ hjl
             simp (maxSteps := 4000000) -implicitDefEqProofs only [hj2, g1, g2, g3, g4, g4', g5, g6, g7, h, hjl, sP, hFg, hm1, lu, jp, ay, D.rv26, InR, Ent.of0, Ent.of1, Ent.of2, Ent.of3, V, W3, ↓reduceIte, Nat.reduceAdd, Nat.reduceSub, Nat.reduceMul, Nat.reduceEqDiff, Nat.reduceLT, Nat.reduceLeDiff, reduceCtorEq, Int.reduceToNat, Nat.reduceBEq]
             have hne : (none : Option Nat) ≠ some i := by simp
             have hj0 : (0 : Int) ≤ (j : Int) := by omega
             refine ⟨⟨hne, hj0⟩, hne, ⟨hne, hj0⟩, hne, ⟨hne, hj0⟩, hne, by omega, ?_⟩
             by_cases hs : dw (F (X.getD j ⟨0, 0⟩)) 100000000 = false
             · rw [if_pos hs]
               have hE8 : E = 8 := by
                rw [heE, if_neg]
                rw [hout]
                intro ha
                have h1 := List.all_eq_true.1 ha _ (List.mem_map.2 ⟨X, hXmem, rfl⟩)
                have h2 := List.all_eq_true.1 h1 _ (List.mem_map.2 ⟨_, hgm, rfl⟩)
                rw [hs] at h2; cases h2
               rw [hE8]
               exact ⟨trivial, rfl, rfl⟩
             · rw [if_neg hs]
               refine ⟨by omega, ?_, by omega⟩
               rw [htk2, List.all_append, hw]
               simpa using hs
           · have hje : j = X.length := by omega
             subst hje
             have hj2 : ¬ (X.length : Int) < (X.length : Int) := by omega
             simp (maxSteps := 4000000) -implicitDefEqProofs only [hj2, rn, h, htk, InR, Ent.of0, Ent.of1, Ent.of2, Ent.of3, V, W3, ↓reduceIte, Nat.reduceAdd, Nat.reduceSub, Nat.reduceMul, Nat.reduceEqDiff, Nat.reduceLT, Nat.reduceLeDiff, reduceCtorEq, Int.reduceToNat, Nat.reduceBEq]
             rw [List.take_length] at hw
             refine ⟨by omega, ?_, by omega⟩
             rw [List.all_append, hv]
             simp only [List.all_cons, List.all_nil, Bool.and_true, Bool.true_and]
             exact hw
       · have hie : i = O.length := by omega
         subst hie
         have hi2 : ¬ (O.length : Int) < (O.length : Int) := by omega
         rw [riC_all]
         simp (maxSteps := 4000000) -implicitDefEqProofs only [hi2, D.rv26, InR, Ent.of0, Ent.of1, Ent.of2, Ent.of3, V, W3, ↓reduceIte, Nat.reduceAdd, Nat.reduceSub, Nat.reduceMul, Nat.reduceEqDiff, Nat.reduceLT, Nat.reduceLeDiff, reduceCtorEq, Int.reduceToNat, Nat.reduceBEq]
         rw [List.take_length] at hv
         have hE0 : E = 0 := by
          rw [heE, if_pos]
          rw [hout, List.all_map]
          simpa [Function.comp_def, List.all_map] using hv
         rw [hE0, if_pos rfl, if_pos rfl, hout]
         refine ⟨?_, rfl, rfl⟩
         simp only [List.map_map]
         rfl
 · have hE : eqE m r = lz m r := by unfold eqE; rw [if_pos he]
   delta D.c26 oO oN oA oM oT oG oR oQ oS oK
   simp (maxSteps := 4000000) -implicitDefEqProofs only [D.rv26, ent73, jV, ew, dQ, lu, Ent.of0, Ent.of1, Ent.of2, Ent.of3, V, W3, ↓reduceIte, Nat.reduceAdd, Nat.reduceSub, Nat.reduceMul, Nat.reduceEqDiff, Nat.reduceLT, Nat.reduceLeDiff, reduceCtorEq, Int.reduceToNat, Nat.reduceBEq]
   rw [hEq, if_pos he, hE, if_neg he, if_neg he]
   exact ⟨trivial, rfl, rfl⟩
def qg : Ent Tryz.prog := .of2 26 (fun _ _ => True) (fun m r : List (List Gs) => .tup [enc (if eqE m r = 0 then i3 m r else []), enc (if eqE m r = 0 then gA m else 0), enc (eqE m r)]) (fun _ _ => ⟨trivial, trivial, trivial, trivial⟩) (fun m r _ => uq m r)
end Go.Proofs.YteoobfmbipmibaaGreat
end
section
open Go Go.Am
open Go.Am.Dat (cells)
namespace Go.Proofs.YteoobfmbipmibaaGreat
set_option maxHeartbeats 4000000
set_option maxRecDepth 100000
def blE (c n : Int) : Int := if 1 ≤ c ∧ c ≤ 3 then (if (fG c.toNat n).isSome then 0 else 3) else 2
def blS (c n : Int) : List Int := if 1 ≤ c ∧ c ≤ 3 then (match fG c.toNat n with | some i => dZ i c.toNat c.toNat | none => []) else []
end Go.Proofs.YteoobfmbipmibaaGreat
end
section
open Go Go.Am
open Go.Am.Dat (cells)
namespace Go.Proofs.YteoobfmbipmibaaGreat
set_option maxHeartbeats 4000000
set_option maxRecDepth 100000
theorem bits3 {l : List Int} (h0 : 0 < l.length) (h3 : l.length ≤ 3) (hb : eg l) : blS (l.length : Int) (eI l) = l ∧ blE (l.length : Int) (eI l) = 0 := by
 have : l.length = 1 ∨ l.length = 2 ∨ l.length = 3 := by omega
 rcases this with h | h | h
 · match l, h with
   | [a], _ =>
    have ha := hb a (by simp)
    rcases ha with rfl | rfl <;> decide +kernel
 · match l, h with
   | [a, b], _ =>
    have ha := hb a (by simp)
    have hb' := hb b (by simp)
    rcases ha with rfl | rfl <;> rcases hb' with rfl | rfl <;> decide +kernel
 · match l, h with
   | [a, b, c], _ =>
    have ha := hb a (by simp)
    have hb' := hb b (by simp)
    have hc := hb c (by simp)
    rcases ha with rfl | rfl <;> rcases hb' with rfl | rfl <;> rcases hc with rfl | rfl <;> decide +kernel
end Go.Proofs.YteoobfmbipmibaaGreat
end
section
open Go Go.Am
open Go.Am.Dat (cells)
namespace Go.Proofs.YteoobfmbipmibaaGreat
set_option maxHeartbeats 4000000
set_option maxRecDepth 100000
def pts (n k : Nat) : List Gs := (List.range k).map fun i => fM (dZ i n n)
end Go.Proofs.YteoobfmbipmibaaGreat
end
section
open Go Go.Am
open Go.Am.Dat (cells)
namespace Go.Proofs.YteoobfmbipmibaaGreat
set_option maxHeartbeats 4000000
set_option maxRecDepth 100000
theorem ix (n : Int) : kq n = eu n := by unfold kq eu; split <;> split <;> first | rfl | omega
end Go.Proofs.YteoobfmbipmibaaGreat
end
section
open Go Go.Am
open Go.Am.Dat (cells)
namespace Go.Proofs.YteoobfmbipmibaaGreat
set_option maxHeartbeats 4000000
set_option maxRecDepth 100000
theorem tX (m : Int) (hm : InR .i64 (-m)) (g : Gs) : FC Tryz.prog 111 [enc g, .ptr 100000 0] [(100000, .box [.s (.int .i64 m)])] (enc (!dw g m)) [(100000, .box [.s (.int .i64 m)])] := by
 refine dF [] is111 (by simp) (by simp [bf]) (by simp [an, ae, aq]) (by simp [an, ae, aq]) (by simp [aF, lk]) (fun cx _ _ _ => dj [jp] 800 ?_)
 delta c111 oO oN oA oM oT oG oR oQ oS oK
 simp (maxSteps := 4000000) -implicitDefEqProofs only [rv111, jp, hm, Ent.of0, Ent.of1, Ent.of2, Ent.of3, V, W3, ↓reduceIte, Nat.reduceAdd, Nat.reduceSub, Nat.reduceMul, Nat.reduceEqDiff, Nat.reduceLT, Nat.reduceLeDiff, reduceCtorEq, Int.reduceToNat, Nat.reduceBEq]
def tb (m : Int) (hm : InR .i64 (-m)) : Ent Tryz.prog where
 id := 111
 sp := fun _ _ => none
 ok := by intro _ _ _ _ _ _ h; cases h
 kp := fun args chs => match args, chs with
  | [x, .ptr k o], [(k', .box [.s (.int .i64 m')])] => (eW x).bind fun g => some (k = 100000 ∧ o = 0 ∧ k' = 100000 ∧ m' = m, enc (!dw g m))
  | _, _ => none
 kpok := by
  intro args chs p r hs hp
  split at hs
  · simp only [Option.bind_eq_some_iff, Option.some.injEq, Prod.mk.injEq] at hs
    obtain ⟨g, hg, rfl, rfl⟩ := hs
    obtain ⟨rfl, rfl, rfl, rfl⟩ := hp
    exact ⟨(tX _ hm g).le (args' := [_, _]) ⟨eB hg, et _, trivial⟩, rfl, trivial⟩
  · cases hs
theorem td (m : Int) (hm : InR .i64 (-m)) (l : List Gs) : FC Tryz.prog 107 [enc l, .fn (.func 111) [] [.ptr 100000 0]] [(100000, .box [.s (.int .i64 m)])] (enc (jF l fun g => !dw g m)) [(100000, .box [.s (.int .i64 m)])] := by
 refine dF [] is107 (by simp) (by simp [bf]) (by simp [an, ae, aq]) (by simp [an, ae, aq]) (by simp [aF, lk]) (fun cx _ hl _ => dj [] 800 ?_)
 simp only [V, W3, ↓reduceIte, Nat.reduceAdd, Nat.reduceSub, Nat.reduceMul, Nat.reduceEqDiff, Nat.reduceLT, Nat.reduceLeDiff, reduceCtorEq, Int.reduceToNat, Nat.reduceBEq] at hl
 have hlen := hl.list (l := l)
 delta c107 oO oN oA oM oT oG oR oQ oS oK
 simp (maxSteps := 4000000) -implicitDefEqProofs only [n8, Ent.of0, Ent.of1, Ent.of2, Ent.of3, V, W3, ↓reduceIte, Nat.reduceAdd, Nat.reduceSub, Nat.reduceMul, Nat.reduceEqDiff, Nat.reduceLT, Nat.reduceLeDiff, reduceCtorEq, Int.reduceToNat, Nat.reduceBEq]
 refine dE l.length (fun i => [(8, .s (.int .i64 i))]) (fun _ => []) (fun i => ∀ j, j < i → (!dw (l.getD j ⟨0, 0⟩) m) = false) (by omega) ?_ (fun i hi hv => dj [tb m hm] 800 ?_)
 · simp (maxSteps := 4000000) -implicitDefEqProofs only [Ent.of0, Ent.of1, Ent.of2, Ent.of3, V, W3, ↓reduceIte, Nat.reduceAdd, Nat.reduceSub, Nat.reduceMul, Nat.reduceEqDiff, Nat.reduceLT, Nat.reduceLeDiff, reduceCtorEq, Int.reduceToNat, Nat.reduceBEq]; simp
 · by_cases h : i < l.length
   · have hi2 : (i : Int) < (l.length : Int) := by omega
     cases hp : dw (l.getD i ⟨0, 0⟩) m with
     | false =>
      have : l.findIdx? (fun g => !dw g m) = some i := by
       rw [List.findIdx?_eq_some_iff_getElem]
       rw [List.getD_eq_getElem?_getD, List.getElem?_eq_getElem h] at hp
       refine ⟨h, by simpa using hp, fun j hj => ?_⟩
       have := hv j hj
       rw [List.getD_eq_getElem?_getD, List.getElem?_eq_getElem (by omega)] at this
       simpa using this
      delta ny oO oN oA oM oT oG oR oQ oS oK
      simp (maxSteps := 4000000) -implicitDefEqProofs only [n8, hi2, h, tb, hp, jF, this, InR, Ent.of0, Ent.of1, Ent.of2, Ent.of3, V, W3, ↓reduceIte, Nat.reduceAdd, Nat.reduceSub, Nat.reduceMul, Nat.reduceEqDiff, Nat.reduceLT, Nat.reduceLeDiff, reduceCtorEq, Int.reduceToNat, Nat.reduceBEq]
      try omega
     | true =>
      delta ny oO oN oA oM oT oG oR oQ oS oK
      simp (maxSteps := 4000000) -implicitDefEqProofs only [n8, hi2, h, tb, hp, InR, Ent.of0, Ent.of1, Ent.of2, Ent.of3, V, W3, ↓reduceIte, Nat.reduceAdd, Nat.reduceSub, Nat.reduceMul, Nat.reduceEqDiff, Nat.reduceLT, Nat.reduceLeDiff, reduceCtorEq, Int.reduceToNat, Nat.reduceBEq]
      refine ⟨by omega, by omega, fun j hj => ?_, by omega⟩
      by_cases hj2 : j = i
      · rw [hj2, hp]; rfl
      · exact hv j (by omega)
   · have hi2 : ¬ (i : Int) < (l.length : Int) := by omega
     have : l.findIdx? (fun g => !dw g m) = none := by
      rw [List.findIdx?_eq_none_iff]
      intro x hx
      obtain ⟨j, hj, rfl⟩ := List.getElem_of_mem hx
      have := hv j (by omega)
      rwa [List.getD_eq_getElem?_getD, List.getElem?_eq_getElem hj] at this
     delta ny oO oN oA oM oT oG oR oQ oS oK
     simp (maxSteps := 4000000) -implicitDefEqProofs only [n8, hi2, jF, this, InR, Ent.of0, Ent.of1, Ent.of2, Ent.of3, V, W3, ↓reduceIte, Nat.reduceAdd, Nat.reduceSub, Nat.reduceMul, Nat.reduceEqDiff, Nat.reduceLT, Nat.reduceLeDiff, reduceCtorEq, Int.reduceToNat, Nat.reduceBEq]
def ve (m : Int) (hm : InR .i64 (-m)) : Ent Tryz.prog where
 id := 107
 sp := fun _ _ => none
 ok := by intro _ _ _ _ _ _ h; cases h
 kp := fun args chs => match args, chs with
  | [x, .fn (.func f) [] [.ptr k o]], [(k', .box [.s (.int .i64 m')])] => (eW x).bind fun l => some (f = 111 ∧ k = 100000 ∧ o = 0 ∧ k' = 100000 ∧ m' = m, enc (jF l fun g => !dw g m))
  | _, _ => none
 kpok := by
  intro args chs p r hs hp
  split at hs
  · simp only [Option.bind_eq_some_iff, Option.some.injEq, Prod.mk.injEq] at hs
    obtain ⟨g, hg, rfl, rfl⟩ := hs
    obtain ⟨rfl, rfl, rfl, rfl, rfl⟩ := hp
    exact ⟨(td _ hm g).le (args' := [_, _]) ⟨eB hg, et _, trivial⟩, rfl, trivial⟩
  · cases hs
theorem xY (l : List Gs) (p : Gs → Bool) : decide (0 ≤ jF l p) = l.any p := by
 unfold jF
 cases hq : l.findIdx? p with
 | none =>
  rw [List.findIdx?_eq_none_iff] at hq
  have : l.any p = false := by simpa using hq
  simp [this]
 | some i =>
  rw [List.findIdx?_eq_some_iff_getElem] at hq
  obtain ⟨h1, h2, _⟩ := hq
  have : l.any p = true := List.any_eq_true.2 ⟨_, List.getElem_mem h1, h2⟩
  simp [this]
theorem pE (m : Int) (hm : InR .i64 (-m)) (l : List Gs) : FC Tryz.prog 66 [enc l, .fn (.func 111) [] [.ptr 100000 0]] [(100000, .box [.s (.int .i64 m)])] (enc (l.any fun g => !dw g m)) [(100000, .box [.s (.int .i64 m)])] := by
 refine dF [] is66 (by simp) (by simp [bf]) (by simp [an, ae, aq]) (by simp [an, ae, aq]) (by simp [aF, lk]) (fun cx _ hl _ => dj [ve m hm] 800 ?_)
 rw [← xY]
 delta c66 oO oN oA oM oT oG oR oQ oS oK
 simp (maxSteps := 4000000) -implicitDefEqProofs only [rv66, ve, Ent.of0, Ent.of1, Ent.of2, Ent.of3, V, W3, ↓reduceIte, Nat.reduceAdd, Nat.reduceSub, Nat.reduceMul, Nat.reduceEqDiff, Nat.reduceLT, Nat.reduceLeDiff, reduceCtorEq, Int.reduceToNat, Nat.reduceBEq]
def tQ (m : Int) (hm : InR .i64 (-m)) : Ent Tryz.prog where
 id := 66
 sp := fun _ _ => none
 ok := by intro _ _ _ _ _ _ h; cases h
 kp := fun args chs => match args, chs with
  | [x, .fn (.func f) [] [.ptr k o]], [(k', .box [.s (.int .i64 m')])] => (eW x).bind fun (l : List Gs) => some (f = 111 ∧ k = 100000 ∧ o = 0 ∧ k' = 100000 ∧ m' = m, enc (l.any fun g => !dw g m))
  | _, _ => none
 kpok := by
  intro args chs p r hs hp
  split at hs
  · simp only [Option.bind_eq_some_iff, Option.some.injEq, Prod.mk.injEq] at hs
    obtain ⟨g, hg, rfl, rfl⟩ := hs
    obtain ⟨rfl, rfl, rfl, rfl, rfl⟩ := hp
    exact ⟨(pE _ hm g).le (args' := [_, _]) ⟨eB hg, et _, trivial⟩, rfl, trivial⟩
  · cases hs
structure ProdOk (a b : List (List Gs)) : Prop where
 apos : 0 < a.length
 ale : a.length ≤ 4
 arow : ∀ r ∈ a, r.length = (a.getD 0 []).length ∧ ∀ g ∈ r, bd g 1000
 bpos : 0 < b.length
 ble : b.length ≤ 4
 brow : ∀ r ∈ b, r.length = (b.getD 0 []).length ∧ r.length ≤ 200 ∧ ∀ g ∈ r, bd g 100000000
theorem ProdOk.fits {a b : List (List Gs)} (h : ProdOk a b) (e : (a.getD 0 []).length = b.length) : Fits a b 1000 100000000 := by
 obtain ⟨h1, h2, h3, h4, h5, h6⟩ := h
 refine ⟨h4, h5, by omega, fun r hr => (h6 r hr).1, ?_, fun r hr => by rw [(h3 r hr).1, e], fun r hr => (h3 r hr).2, fun r hr => (h6 r hr).2.2, by omega⟩
 have := (h6 _ (dD [] h4)).2.1; omega
theorem vF {a b : List (List Gs)} (h1 : dI a = 0) (h2 : dG b = 0) : ProdOk a b := by
 have hr := i7 h1
 obtain ⟨l1, l2, l3⟩ := jv h2
 exact ⟨hr.pos, hr.le, fun r h => ⟨(hr.row r h).1, fun g hg => jj ((hr.row r h).2.2.2 g hg)⟩, l1, l2, fun r h => ⟨(l3 r h).1, (l3 r h).2.2.1, (l3 r h).2.2.2⟩⟩
def g9 (a b : List (List Gs)) (most : Int) : Int := if (a.getD 0 []).length ≠ b.length then 13 else if iP (dA a b) most then 8 else 0
theorem wl (a b : List (List Gs)) (most : Int) (hp : ProdOk a b) (hm : InR .i64 (-most)) : FC Tryz.prog 72 [enc a, enc b, enc most] [] (.tup [enc (if g9 a b most = 0 then dA a b else []), enc (g9 a b most)]) [] := by
 have ha0 := hp.apos
 have ha4 := hp.ale
 have hb4 := hp.ble
 refine dk is72 (by simp) (fun cx hl => dj [si, rG, ent78] 800 ?_)
 by_cases he : (a.getD 0 []).length = b.length
 · have he2 : ((a.getD 0 []).length : Int) = (b.length : Int) := by omega
   have hf := hp.fits he
   have hga : ik (fL a) a := mU fun x hx g hg => by
    have := hf.ma x hx g hg
    simp only [bd] at *; omega
   have hgb : ik (fL b) b := mU fun x hx g hg => by
    have := hf.mb x hx g hg
    simp only [bd] at *; omega
   have hrep := qS hf (by omega) hga hgb
   have hO := ofM_c hrep
   have hOl : (dA a b).length = a.length := by simp [dA]
   have hshort : ∀ r ∈ dA a b, r.length ≤ 1000000 := fun r hr => by
    obtain ⟨x, hx, rfl⟩ := List.mem_map.1 hr
    have := hf.short
    simpa [iG] using this
   have hsm : ∀ r ∈ dA a b, ∀ g ∈ r, bd g 9007199254740991 := fun r hr g hg => by
    obtain ⟨x, hx, rfl⟩ := List.mem_map.1 hr
    obtain ⟨i, hi, rfl⟩ := List.mem_map.1 hg
    have := p9 hf hx (List.mem_range.1 hi) b.length (Nat.le_refl _)
    have h4 : b.length * (2 * (1000 * 100000000)) ≤ 4 * (2 * (1000 * 100000000)) := Nat.mul_le_mul_right _ hb4
    simp only [bd] at *; omega
   have hro : RowsOk (gy (fL a) (fL b)) (dA a b) := ⟨hrep, by omega, hshort, hsm⟩
   have c1 : a.length ≤ 1000 ∧ ∀ r ∈ a, r.length ≤ 1000000 := ⟨by omega, fun r hr => by have := hf.cols r hr; omega⟩
   have c2 : b.length ≤ 1000 ∧ ∀ r ∈ b, r.length ≤ 1000000 := ⟨by omega, fun r hr => by have := (hp.brow r hr).2.1; omega⟩
   have c3 : u9 (fL a) (fL b) := ⟨a, b, 1000, 100000000, hf, by omega, hga, hgb⟩
   have c1a := c1.1
   have c1b := c1.2
   have c2a := c2.1
   have c2b := c2.2
   delta c72 c3 oO oN oA oM oT oG oR oQ oS oK
   simp (maxSteps := 4000000) -implicitDefEqProofs only [rv72, dM, ha0, he2, si, rG, ent78, c1a, c1b, c2a, c2b, hO, hro, Ent.of0, Ent.of1, Ent.of2, Ent.of3, V, W3, ↓reduceIte, Nat.reduceAdd, Nat.reduceSub, Nat.reduceMul, Nat.reduceEqDiff, Nat.reduceLT, Nat.reduceLeDiff, reduceCtorEq, Int.reduceToNat, Nat.reduceBEq]
   refine ⟨by omega, c1b, c2b, c3, ?_⟩
   generalize hO' : dA a b = O at *
   have hE : g9 a b most = if iP O most then 8 else 0 := by unfold g9; rw [if_neg (by simpa using he), hO']
   refine dE O.length (fun i => [(26, .s (.int .i64 i))]) (fun _ => []) (fun i => ∀ j, j < i → (O.getD j []).all (dw · most) = true) (by omega) ?_ (fun i hi hv => dj [tQ most hm] 800 ?_)
   · simp (maxSteps := 4000000) -implicitDefEqProofs only [Ent.of0, Ent.of1, Ent.of2, Ent.of3, V, W3, ↓reduceIte, Nat.reduceAdd, Nat.reduceSub, Nat.reduceMul, Nat.reduceEqDiff, Nat.reduceLT, Nat.reduceLeDiff, reduceCtorEq, Int.reduceToNat, Nat.reduceBEq]; simp
   · by_cases h : i < O.length
     · have hi2 : (i : Int) < (O.length : Int) := by omega
       cases hq : (O.getD i []).all (dw · most) with
       | true =>
        have ha : (O.getD i []).any (fun g => !dw g most) = false := by
         rw [List.any_eq_false]
         intro x hx
         have := List.all_eq_true.1 hq x hx
         simp only [this]; decide
        delta rO oO oN oA oM oT oG oR oQ oS oK
        simp (maxSteps := 4000000) -implicitDefEqProofs only [rv72, dM, hi2, h, tQ, ha, InR, Ent.of0, Ent.of1, Ent.of2, Ent.of3, V, W3, ↓reduceIte, Nat.reduceAdd, Nat.reduceSub, Nat.reduceMul, Nat.reduceEqDiff, Nat.reduceLT, Nat.reduceLeDiff, reduceCtorEq, Int.reduceToNat, Nat.reduceBEq]
        refine ⟨by omega, by omega, fun j hj => ?_, by omega⟩
        by_cases hj2 : j = i
        · rw [hj2]; exact hq
        · exact hv j (by omega)
       | false =>
        have ha : (O.getD i []).any (fun g => !dw g most) = true := by
         rw [List.all_eq_false] at hq
         obtain ⟨x, hx, hx2⟩ := hq
         exact List.any_eq_true.2 ⟨x, hx, by simpa using hx2⟩
        have hL : iP O most = true := by
         unfold iP
         rw [Bool.not_eq_true', List.all_eq_false]
         exact ⟨_, dD [] h, by rw [hq]; decide⟩
        rw [hE, hL]
        delta rO oO oN oA oM oT oG oR oQ oS oK
        simp (maxSteps := 4000000) -implicitDefEqProofs only [rv72, dM, hi2, h, tQ, ha, InR, WU, Int.reduceAdd, Int.reduceSub, Int.reduceMul, Int.reduceLT, Int.reduceLE, Int.reduceTMod, Int.reduceTDiv, Int.reduceNeg, Int.reduceEq, Nat.reducePow, Int.reducePow, Ent.of0, Ent.of1, Ent.of2, Ent.of3, V, W3, ↓reduceIte, Nat.reduceAdd, Nat.reduceSub, Nat.reduceMul, Nat.reduceEqDiff, Nat.reduceLT, Nat.reduceLeDiff, reduceCtorEq, Int.reduceToNat, Nat.reduceBEq]
        try omega
     · have hi2 : ¬ (i : Int) < (O.length : Int) := by omega
       have hL : iP O most = false := by
        unfold iP
        rw [Bool.not_eq_false', List.all_eq_true]
        intro x hx
        obtain ⟨j, hj, rfl⟩ := List.getElem_of_mem hx
        have := hv j (by omega)
        rwa [List.getD_eq_getElem?_getD, List.getElem?_eq_getElem hj] at this
       rw [hE, hL]
       delta rO oO oN oA oM oT oG oR oQ oS oK
       simp (maxSteps := 4000000) -implicitDefEqProofs only [rv72, hi2, InR, WU, Int.reduceAdd, Int.reduceSub, Int.reduceMul, Int.reduceLT, Int.reduceLE, Int.reduceTMod, Int.reduceTDiv, Int.reduceNeg, Int.reduceEq, Nat.reducePow, Int.reducePow, Ent.of0, Ent.of1, Ent.of2, Ent.of3, V, W3, ↓reduceIte, Nat.reduceAdd, Nat.reduceSub, Nat.reduceMul, Nat.reduceEqDiff, Nat.reduceLT, Nat.reduceLeDiff, reduceCtorEq, Int.reduceToNat, Nat.reduceBEq]
 · have he2 : ¬ ((a.getD 0 []).length : Int) = (b.length : Int) := by omega
   have hE : g9 a b most = 13 := by unfold g9; rw [if_pos he]
   rw [hE]
   delta c72 oO oN oA oM oT oG oR oQ oS oK
   simp (maxSteps := 4000000) -implicitDefEqProofs only [rv72, dM, ha0, he2, WU, Int.reduceAdd, Int.reduceSub, Int.reduceMul, Int.reduceLT, Int.reduceLE, Int.reduceTMod, Int.reduceTDiv, Int.reduceNeg, Int.reduceEq, Nat.reducePow, Int.reducePow, Ent.of0, Ent.of1, Ent.of2, Ent.of3, V, W3, ↓reduceIte, Nat.reduceAdd, Nat.reduceSub, Nat.reduceMul, Nat.reduceEqDiff, Nat.reduceLT, Nat.reduceLeDiff, reduceCtorEq, Int.reduceToNat, Nat.reduceBEq]
   omega
def rS : Ent Tryz.prog := .of3 72 (fun a b most => ProdOk a b ∧ InR .i64 (-most)) (fun (a b : List (List Gs)) (most : Int) => .tup [enc (if g9 a b most = 0 then dA a b else []), enc (g9 a b most)]) (fun _ _ _ => ⟨trivial, trivial, trivial⟩) (fun a b most h => wl a b most h.1 h.2)
def gf (m ls : List (List Gs)) : Int := if dI m ≠ 0 then dI m else if dG ls ≠ 0 then dG ls else g9 m ls 100000000
def j6 (m ls : List (List Gs)) : List (List Gs) := if gf m ls = 0 then dA m ls else []
theorem xa (m ls : List (List Gs)) : FC Tryz.prog 24 [enc m, enc ls] [] (.tup [enc (j6 m ls), enc (gf m ls)]) [] := by
 refine dk is24 (by simp) (fun cx hl => dj [jY, jV, dQ, rS] 800 ?_)
 by_cases h1 : dI m = 0
 · by_cases h2 : dG ls = 0
   · have hp := vF h1 h2
     have hf : dl [dI m, dG ls] = 0 := by simp [dl, h1, h2]
     have hE : gf m ls = g9 m ls 100000000 := by unfold gf; rw [if_neg (by simpa using h1), if_neg (by simpa using h2)]
     unfold j6
     rw [hE]
     delta c24 oO oN oA oM oT oG oR oQ oS oK
     simp (maxSteps := 4000000) -implicitDefEqProofs only [rv24, jY, jV, dQ, rS, hf, hp, InR, WU, Int.reduceAdd, Int.reduceSub, Int.reduceMul, Int.reduceLT, Int.reduceLE, Int.reduceTMod, Int.reduceTDiv, Int.reduceNeg, Int.reduceEq, Nat.reducePow, Int.reducePow, Ent.of0, Ent.of1, Ent.of2, Ent.of3, V, W3, ↓reduceIte, Nat.reduceAdd, Nat.reduceSub, Nat.reduceMul, Nat.reduceEqDiff, Nat.reduceLT, Nat.reduceLeDiff, reduceCtorEq, Int.reduceToNat, Nat.reduceBEq]
   · have hf : dl [dI m, dG ls] = dG ls := by simp [dl, h1, h2]
     have hE : gf m ls = dG ls := by unfold gf; rw [if_neg (by simpa using h1), if_pos h2]
     unfold j6
     rw [hE, if_neg h2]
     delta c24 oO oN oA oM oT oG oR oQ oS oK
     simp (maxSteps := 4000000) -implicitDefEqProofs only [rv24, jY, jV, dQ, rS, hf, h2, InR, List.map_nil, WU, Int.reduceAdd, Int.reduceSub, Int.reduceMul, Int.reduceLT, Int.reduceLE, Int.reduceTMod, Int.reduceTDiv, Int.reduceNeg, Int.reduceEq, Nat.reducePow, Int.reducePow, Ent.of0, Ent.of1, Ent.of2, Ent.of3, V, W3, ↓reduceIte, Nat.reduceAdd, Nat.reduceSub, Nat.reduceMul, Nat.reduceEqDiff, Nat.reduceLT, Nat.reduceLeDiff, reduceCtorEq, Int.reduceToNat, Nat.reduceBEq]
 · have hf : dl [dI m, dG ls] = dI m := by simp [dl, h1]
   have hE : gf m ls = dI m := by unfold gf; rw [if_pos h1]
   unfold j6
   rw [hE, if_neg h1]
   delta c24 oO oN oA oM oT oG oR oQ oS oK
   simp (maxSteps := 4000000) -implicitDefEqProofs only [rv24, jY, jV, dQ, rS, hf, h1, InR, List.map_nil, WU, Int.reduceAdd, Int.reduceSub, Int.reduceMul, Int.reduceLT, Int.reduceLE, Int.reduceTMod, Int.reduceTDiv, Int.reduceNeg, Int.reduceEq, Nat.reducePow, Int.reducePow, Ent.of0, Ent.of1, Ent.of2, Ent.of3, V, W3, ↓reduceIte, Nat.reduceAdd, Nat.reduceSub, Nat.reduceMul, Nat.reduceEqDiff, Nat.reduceLT, Nat.reduceLeDiff, reduceCtorEq, Int.reduceToNat, Nat.reduceBEq]
def mP : Ent Tryz.prog := .of2 24 (fun _ _ => True) (fun m ls : List (List Gs) => .tup [enc (j6 m ls), enc (gf m ls)]) (fun _ _ => ⟨trivial, trivial, trivial⟩) (fun m ls _ => xa m ls)
def rV (a b : List (List Gs)) : Int := if dI a ≠ 0 then dI a else if dI b ≠ 0 then dI b else g9 a b 1000
def prOut (a b : List (List Gs)) : List (List Gs) := if rV a b = 0 then dA a b else []
end Go.Proofs.YteoobfmbipmibaaGreat
end
section
open Go Go.Am
open Go.Am.Dat (cells)
namespace Go.Proofs.YteoobfmbipmibaaGreat
set_option maxHeartbeats 4000000
set_option maxRecDepth 100000
theorem xR {a : List (List Gs)} (h : dI a = 0) : eC a = kW a ∧ dt a = eT a := by
 unfold eC dt
 rw [if_neg (by simpa using h), if_neg (by simpa using h)]; exact ⟨rfl, rfl⟩
theorem vv {a : List (List Gs)} (h : ¬ dI a = 0) : eC a = dI a ∧ dt a = ⟨0, 0⟩ := by
 unfold eC dt
 rw [if_pos h, if_pos h]; exact ⟨rfl, rfl⟩
end Go.Proofs.YteoobfmbipmibaaGreat
end
section
open Go Go.Am
open Go.Am.Dat (cells)
namespace Go.Proofs.YteoobfmbipmibaaGreat
theorem mh {a b : Gs} (h1 : a.re = b.re) (h2 : a.im = b.im) : a = b := by cases a; cases b; simp_all
theorem vm {m ls : List (List Gs)} {j : Nat} (h : j < m.length) : (dA m ls).getD j [] = iG ls (m.getD j []) := e6 _ _ _ _ _ h
theorem jZ (ls : List (List Gs)) (row : List Gs) : (iG ls row).length = (ls.getD 0 []).length := by simp [iG]
theorem ld (m ls : List (List Gs)) : (dA m ls).length = m.length := by simp [dA]
theorem ug {m ls : List (List Gs)} (h : 0 < m.length) : ((dA m ls).getD 0 []).length = (ls.getD 0 []).length := by rw [vm h, jZ]
theorem tM {m : List (List Gs)} {n : Int} (h : iP m n = false) : ∀ r ∈ m, ∀ g ∈ r, dw g n = true := by
 unfold iP at h
 rw [Bool.not_eq_false', List.all_eq_true] at h
 exact fun r hr g hg => by have := List.all_eq_true.1 (h r hr) g hg; simpa using this
theorem mJ {l : List Int} (h : ∀ e ∈ l, e = 0) : dl l = 0 := by
 induction l with
 | nil => rfl
 | cons e l ih => rw [dl, if_neg (by simpa using h e (by simp)), ih fun x hx => h x (by simp [hx])]
theorem zr {a b : List (List Gs)} {n : Int} (h : g9 a b n = 0) : (a.getD 0 []).length = b.length ∧ iP (dA a b) n = false := by
 unfold g9 at h
 split at h
 · cases h
 · split at h
   · cases h
   · exact ⟨by omega, by simp_all⟩
theorem yd {b l : List (List Gs)} (hb : Right b) (hl : dG l = 0) (hp : iP (dA b l) 100000000 = false) : dG (dA b l) = 0 := by
 obtain ⟨l1, l2, l3⟩ := jv hl
 have h0 := l3 _ (dD [] l1)
 unfold dG
 rw [ld, if_neg (by have := hb.pos; omega), if_neg (by have := hb.le; omega)]
 refine mJ fun e he => ?_
 obtain ⟨r, hr, rfl⟩ := List.mem_map.1 he
 obtain ⟨x, hx, rfl⟩ := List.mem_map.1 hr
 have hs : d8 (iG l x) = 0 := by
  unfold d8
  rw [jZ, if_neg (by omega), if_neg (by omega), if_pos]
  exact List.all_eq_true.2 (tM hp _ hr)
 rw [if_neg (by simpa using hs), ug hb.pos, jZ, if_neg (by simp)]
theorem zh (p : Gs) (l : List Gs) (i : Nat) : jx [p] [l] i 1 = fW p (l.getD i ⟨0, 0⟩) := by
 simp only [jx, List.getD_cons_zero]
 apply mh <;> simp [k6]
theorem ta (p q : Gs) (l m : List Gs) (i : Nat) : jx [p, q] [l, m] i 2 = k6 (fW p (l.getD i ⟨0, 0⟩)) (fW q (m.getD i ⟨0, 0⟩)) := by
 simp only [jx, List.getD_cons_zero, List.getD_cons_succ]
 apply mh <;> simp [k6]
theorem pb (l : List Gs) : (List.range l.length).map (fun i => l.getD i ⟨0, 0⟩) = l := by
 apply List.ext_getElem
 · simp
 · intro i h1 h2
   simp [List.getD_eq_getElem?_getD, List.getElem?_eq_getElem h2]
theorem vB {b l : List (List Gs)} (hl : dG l = 0) (he : eqE b (dA b l) = 0) (hp : (b.getD 0 []).length = l.length) :
 1 ≤ gA b ∧ gA b ≤ 10000000 ∧ i3 b (dA b l) = l.map fun r => r.map fun g => ⟨gA b * g.re, gA b * g.im⟩ := by
 unfold eqE at he
 split at he
 · exact absurd he ‹_›
 rename_i hz
 have hz : lz b (dA b l) = 0 := by simpa using hz
 split at he
 · cases he
 rename_i hg
 have hzz := ig hz
 have z1 : eC b = 0 := hzz _ (by simp)
 have z4 : (if dt b = ⟨0, 0⟩ then (27 : Int) else 0) = 0 := hzz _ (by simp)
 obtain ⟨d1, d2, d3, d4⟩ := xv z1
 obtain ⟨l1, l2, l3⟩ := jv hl
 have hb : dI b = 0 := by
  by_cases h : dI b = 0
  · exact h
  · rw [(vv h).1] at z1; exact z1
 have hd := (xR hb).2
 have hne : ¬ dt b = ⟨0, 0⟩ := fun h => by rw [if_pos h] at z4; cases z4
 have hgn : gA b = (eT b).re * (eT b).re + (eT b).im * (eT b).im := by
  unfold gA; rw [hd]; simp only [fW, jl]; grind
 have h1 : 1 ≤ gA b := by
  rw [hgn]
  rw [hd] at hne
  have q1 : 0 ≤ (eT b).re * (eT b).re := by
   rcases Int.le_total 0 (eT b).re with h | h
   · exact Int.mul_nonneg h h
   · have := Int.mul_nonneg (a := -(eT b).re) (b := -(eT b).re) (by omega) (by omega); rw [Int.neg_mul_neg] at this; exact this
  have q2 : 0 ≤ (eT b).im * (eT b).im := by
   rcases Int.le_total 0 (eT b).im with h | h
   · exact Int.mul_nonneg h h
   · have := Int.mul_nonneg (a := -(eT b).im) (b := -(eT b).im) (by omega) (by omega); rw [Int.neg_mul_neg] at this; exact this
  rcases Classical.em ((eT b).re = 0) with h | h
  · have h2 : (eT b).im ≠ 0 := fun h2 => hne (mh h h2)
    have : (eT b).im * (eT b).im ≠ 0 := Int.mul_ne_zero h2 h2
    omega
  · have : (eT b).re * (eT b).re ≠ 0 := Int.mul_ne_zero h h
    omega
 refine ⟨h1, by omega, ?_⟩
 unfold i3
 rw [hd]
 rcases d1 with ⟨p, rfl⟩ | ⟨p, q, r, s, rfl, _, _⟩
 · match l, hp, l3 with
   | [x], _, _ =>
    simp only [gR, dA, iG, List.map_cons, List.map_nil, List.getD_cons_zero, List.length_map, List.length_range, List.map_map, List.length_cons, List.length_nil, Nat.zero_add, Nat.reduceAdd, List.cons.injEq, and_true]
    conv => rhs; rw [← pb x, List.map_map]
    apply List.map_congr_left
    intro i hi
    have hi := List.mem_range.1 hi
    simp only [Function.comp, zh]
    rw [eM _ _ hi, hgn]
    simp only [eT]
    apply mh <;> simp only [fW, jl] <;> grind
 · match l, hp, l3 with
   | [x, y], _, l3 =>
    have hxy : y.length = x.length := (l3 y (by simp)).1
    simp only [gR, dA, iG, List.map_cons, List.map_nil, List.getD_cons_zero, List.length_map, List.length_range, List.map_map, List.length_cons, List.length_nil, Nat.zero_add, Nat.reduceAdd, List.cons.injEq, and_true]
    refine ⟨?_, ?_⟩
    · conv => rhs; rw [← pb x, List.map_map]
      apply List.map_congr_left
      intro i hi
      have hi := List.mem_range.1 hi
      simp only [Function.comp, ta]
      rw [eM _ _ hi, eM _ _ hi, hgn]
      simp only [eT]
      apply mh <;> simp only [fW, jl, k6, lS] <;> grind
    · conv => rhs; rw [← pb y, hxy, List.map_map]
      apply List.map_congr_left
      intro i hi
      have hi := List.mem_range.1 hi
      simp only [Function.comp, ta]
      rw [eM _ _ hi, eM _ _ hi, hgn]
      simp only [eT]
      apply mh <;> simp only [fW, jl, k6, lS] <;> grind
end Go.Proofs.YteoobfmbipmibaaGreat
end
section
open Go Go.Am
open Go.Am.Dat (cells)
namespace Go.Proofs.YteoobfmbipmibaaGreat
set_option maxHeartbeats 4000000
set_option maxRecDepth 100000
def absI (n : Int) : Int := if -n > n then -n else n
def rT (g : Gs) : Int := if absI g.im > absI g.re then absI g.im else absI g.re
theorem sM {m l : List (List Gs)} (hm : m.length ≤ 1000000) (hl : (l.getD 0 []).length ≤ 1000000) : gi (dA m l) := by
 refine ⟨by rw [ld]; exact hm, fun r hr => ?_⟩
 obtain ⟨x, hx, rfl⟩ := List.mem_map.1 hr
 rw [jZ]; exact hl
theorem uz {m r : List (List Gs)} (h : eqE m r = 0) : ∀ x ∈ i3 m r, ∀ g ∈ x, dw g 100000000 = true := by
 unfold eqE at h
 split at h
 · exact absurd h ‹_›
 · split at h
   · cases h
   · split at h
     · rename_i h3
       intro x hx g hg
       have := List.all_eq_true.1 h3 x hx
       exact List.all_eq_true.1 this g hg
     · cases h
structure TkF (a b l : List (List Gs)) : Prop where
 s1 : tO a = true
 s2 : tO b = true
 s3 : tO l = true
 ha : dI a = 0
 hb : dI b = 0
 hll : dG l = 0
 b1 : gi a
 b2 : gi b
 b3 : gi l
 hap : gf b l = 0
 hao : j6 b l = dA b l
 hlx : dG (dA b l) = 0
 bx : gi (dA b l)
 p1 : (b.getD 0 []).length = l.length
 hcase : rV a b = 13 ∨ rV a b = 8 ∨ rV a b = 0 ∧ dI (dA a b) = 0 ∧ gi (dA a b) ∧ prOut a b = dA a b ∧ gf (dA a b) l = gf a (dA b l) ∧ j6 (dA a b) l = j6 a (dA b l)
 det : eC a = 0 → eC b = 0 → eC (dA a b) = 0 → dI (dA a b) = 0 → (InR .i64 (-(dt a).re) ∧ InR .i64 (-(dt a).im) ∧ InR .i64 (-(dt b).re) ∧ InR .i64 (-(dt b).im) ∧ (0 ≤ rT (dt a) ∧ rT (dt a) ≤ 4000000) ∧ (0 ≤ rT (dt b) ∧ rT (dt b) ≤ 4000000) ∧ nK (dt a) (dt b) ∧ dt (dA a b) = fW (dt a) (dt b))
end Go.Proofs.YteoobfmbipmibaaGreat
end
section
open Go Go.Am
open Go.Am.Dat (cells)
namespace Go.Proofs.YteoobfmbipmibaaGreat
set_option maxHeartbeats 4000000
set_option maxRecDepth 100000
theorem qy : ∀ (l : List Int) (x : Int), ∀ y ∈ x :: l, l.foldl (fun a b => if b < a then b else a) x ≤ y
 | [], x, y, h => by simp at h; subst h; exact Int.le_refl _
 | z :: l, x, y, h => by
  simp only [List.foldl_cons]
  have e : (if z < x then z else x) ≤ x ∧ (if z < x then z else x) ≤ z := by split <;> omega
  have ih := qy l (if z < x then z else x)
  rcases List.mem_cons.1 h with rfl | h
  · have := ih _ List.mem_cons_self
    omega
  · rcases List.mem_cons.1 h with rfl | h
    · have := ih _ List.mem_cons_self
      omega
    · exact ih _ (List.mem_cons_of_mem _ h)
theorem minS_eq {l : List Int} {m : Int} (h1 : m ∈ l) (h2 : ∀ x ∈ l, m ≤ x) : fa l = m := by
 cases l with
 | nil => cases h1
 | cons x t =>
  have a1 := mA t x
  have a2 := qy t x
  have b1 := h2 _ a1
  have b2 := a2 _ h1
  show t.foldl _ x = m
  omega
theorem xA {sq : List Int} {b : Nat} (hb : b < sq.length) (h1 : ∀ j, j < sq.length → sq.getD b 0 ≤ sq.getD j 0) (h2 : ∀ j, j < b → sq.getD b 0 < sq.getD j 0) :
 fa sq = sq.getD b 0 ∧ eX sq (fun x => decide (fa sq = x)) = (b : Int) := by
 have hm : fa sq = sq.getD b 0 := minS_eq (by rw [List.getD_eq_getElem?_getD, List.getElem?_eq_getElem hb]; exact List.getElem_mem hb) (fun x hx => by
  obtain ⟨j, hj, rfl⟩ := List.getElem_of_mem hx
  have := h1 j hj
  rwa [List.getD_eq_getElem?_getD (i := j), List.getElem?_eq_getElem hj] at this)
 refine ⟨hm, ?_⟩
 unfold eX
 have : sq.findIdx? (fun x => decide (fa sq = x)) = some b := by
  rw [List.findIdx?_eq_some_iff_getElem]
  refine ⟨hb, ?_, fun j hj => ?_⟩
  · rw [hm, List.getD_eq_getElem?_getD, List.getElem?_eq_getElem hb]; simp
  · have := h2 j hj
    rw [← hm] at this
    rw [List.getD_eq_getElem?_getD (i := j), List.getElem?_eq_getElem (by omega)] at this
    simp only [Option.getD_some] at this
    rw [decide_eq_true_eq]; omega
 rw [this]
theorem np {c i : Nat} (h : i < 2 ^ c) : (eV c).getD i 0 = 2 * (i : Int) - (2 ^ c - 1) := by
 have hi' : i < (eV c).length := by rw [iV]; exact h
 rw [List.getD_eq_getElem?_getD, List.getElem?_eq_getElem hi']
 simp [eV]
theorem sQ {c i : Nat} (h : i < 2 ^ c) (g n : Int) : (sqS c g n).getD i 0 = (n - (eV c).getD i 0 * g) * (n - (eV c).getD i 0 * g) :=
 e6 _ _ _ _ _ (by rw [iV]; exact h)
end Go.Proofs.YteoobfmbipmibaaGreat
end
section
open Go Go.Am
open Go.Am.Dat (cells)
namespace Go.Proofs.YteoobfmbipmibaaGreat
set_option maxHeartbeats 4000000
set_option maxRecDepth 100000
def dvS (c : Nat) (g p : Int) (n : Nat) : Int := (p - g * eI (dZ n c c)) * (p - g * eI (dZ n c c))
def aS (c bt : Nat) (g p : Int) (b : Int) (n : Nat) : List Int := ((List.range n).filter fun m => decide ((dZ m c c).getD bt 0 = b)).map (dvS c g p)
end Go.Proofs.YteoobfmbipmibaaGreat
end
section
open Go Go.Am
open Go.Am.Dat (cells)
namespace Go.Proofs.YteoobfmbipmibaaGreat
set_option maxHeartbeats 4000000
set_option maxRecDepth 100000
theorem vz (x : Recv) (h : x.symbols.length ≤ 1000000) : FC Tryz.prog 33 [enc x] [] (enc x) [] := by
 obtain ⟨o, g, l⟩ := x
 refine dk is33 (by simp) (fun cx hl => dj [nV] 800 ?_)
 simp only at h
 delta c33 oO oN oA oM oT oG oR oQ oS oK
 simp (maxSteps := 4000000) -implicitDefEqProofs only [rv33, nV, it, h, Ent.of0, Ent.of1, Ent.of2, Ent.of3, V, W3, ↓reduceIte, Nat.reduceAdd, Nat.reduceSub, Nat.reduceMul, Nat.reduceEqDiff, Nat.reduceLT, Nat.reduceLeDiff, reduceCtorEq, Int.reduceToNat, Nat.reduceBEq]
def ent33 : Ent Tryz.prog := .of1 33 (fun x => x.symbols.length ≤ 1000000) (fun x : Recv => enc x) (fun _ => ⟨trivial, trivial, trivial, trivial⟩) (fun x h => vz x h)
theorem vA (x : Recv) : e9 x = if kq x.order ≠ 0 then kq x.order else if 1 ≤ x.gain ∧ x.gain ≤ 10000000 then d8 x.symbols else 2 := by
 unfold e9
 rw [ix]
 simp only [dl]
 split
 · rfl
 · split
   · simp only [ne_eq, not_true_eq_false, if_false]; split <;> simp_all
   · rfl
theorem xc (x : Recv) : FC Tryz.prog 31 [enc x] [] (enc (e9 x)) [] := by
 rw [vA]
 obtain ⟨o, g, l⟩ := x
 refine dk is31 (by simp) (fun cx hl => dj [js, dJ, lx] 800 ?_)
 by_cases h1 : kq o = 0
 · by_cases h2 : 1 ≤ g ∧ g ≤ 10000000
   · delta c31 oO oN oA oM oT oG oR oQ oS oK
     simp (maxSteps := 4000000) -implicitDefEqProofs only [rv31, js, dJ, lx, it, h1, h2, WU, Int.reduceAdd, Int.reduceSub, Int.reduceMul, Int.reduceLT, Int.reduceLE, Int.reduceTMod, Int.reduceTDiv, Int.reduceNeg, Int.reduceEq, Nat.reducePow, Int.reducePow, Ent.of0, Ent.of1, Ent.of2, Ent.of3, V, W3, ↓reduceIte, Nat.reduceAdd, Nat.reduceSub, Nat.reduceMul, Nat.reduceEqDiff, Nat.reduceLT, Nat.reduceLeDiff, reduceCtorEq, Int.reduceToNat, Nat.reduceBEq]
     simp
   · delta c31 oO oN oA oM oT oG oR oQ oS oK
     simp (maxSteps := 4000000) -implicitDefEqProofs only [rv31, js, dJ, lx, it, h1, h2, WU, Int.reduceAdd, Int.reduceSub, Int.reduceMul, Int.reduceLT, Int.reduceLE, Int.reduceTMod, Int.reduceTDiv, Int.reduceNeg, Int.reduceEq, Nat.reducePow, Int.reducePow, Ent.of0, Ent.of1, Ent.of2, Ent.of3, V, W3, ↓reduceIte, Nat.reduceAdd, Nat.reduceSub, Nat.reduceMul, Nat.reduceEqDiff, Nat.reduceLT, Nat.reduceLeDiff, reduceCtorEq, Int.reduceToNat, Nat.reduceBEq]
     simp
 · delta c31 oO oN oA oM oT oG oR oQ oS oK
   simp (maxSteps := 4000000) -implicitDefEqProofs only [rv31, js, dJ, lx, it, h1, WU, Int.reduceAdd, Int.reduceSub, Int.reduceMul, Int.reduceLT, Int.reduceLE, Int.reduceTMod, Int.reduceTDiv, Int.reduceNeg, Int.reduceEq, Nat.reducePow, Int.reducePow, Ent.of0, Ent.of1, Ent.of2, Ent.of3, V, W3, ↓reduceIte, Nat.reduceAdd, Nat.reduceSub, Nat.reduceMul, Nat.reduceEqDiff, Nat.reduceLT, Nat.reduceLeDiff, reduceCtorEq, Int.reduceToNat, Nat.reduceBEq]
def nM : Ent Tryz.prog := .of1 31 (fun _ => True) (fun x : Recv => enc (e9 x)) (fun _ => trivial) (fun x _ => xc x)
structure RecvOk (x : Recv) : Prop where
 ord : x.order = 2 ∨ x.order = 4 ∨ x.order = 6
 gn : 1 ≤ x.gain ∧ x.gain ≤ 10000000
 pos : 0 < x.symbols.length
 len : x.symbols.length ≤ 200
 sym : ∀ s ∈ x.symbols, (-100000000 ≤ s.re ∧ s.re ≤ 100000000) ∧ -100000000 ≤ s.im ∧ s.im ≤ 100000000
end Go.Proofs.YteoobfmbipmibaaGreat
end
section
open Go Go.Am
open Go.Am.Dat (cells)
namespace Go.Proofs.YteoobfmbipmibaaGreat
set_option maxHeartbeats 4000000
set_option maxRecDepth 100000
def fitG (g : Int) (s : Gs) : Prop := (-100000000 ≤ s.re * g ∧ s.re * g ≤ 100000000) ∧ -100000000 ≤ s.im * g ∧ s.im * g ≤ 100000000
instance (g : Int) (s : Gs) : Decidable (fitG g s) := inferInstanceAs (Decidable (_ ∧ _))
end Go.Proofs.YteoobfmbipmibaaGreat
end
section
open Go Go.Am
open Go.Am.Dat (cells)
namespace Go.Proofs.YteoobfmbipmibaaGreat
set_option maxHeartbeats 4000000
set_option maxRecDepth 100000
theorem yk {l : List Int} {x : Int} (h : x ∈ l) : fa l ≤ x := by
 cases l with
 | nil => cases h
 | cons y t => exact qy t y x h
theorem near_ne : ([(1, 0), (2, 0), (2, 1), (3, 0), (3, 1), (3, 2)] : List (Nat × Nat)).all (fun a => ([0, 1] : List Int).all fun b => !((List.range (2 ^ a.1)).filter fun (k : Nat) => decide (((fG a.1 (2 * (k : Int) - (2 ^ a.1 - 1))).map fun m => (dZ m a.1 a.1).getD a.2 0) = some b)).isEmpty) = true := by decide +kernel
end Go.Proofs.YteoobfmbipmibaaGreat
end
section
open Go Go.Am
open Go.Am.Dat (cells)
namespace Go.Proofs.YteoobfmbipmibaaGreat
set_option maxRecDepth 100000
def ki (R : Int → Int → Prop) : List Int → List Int → Prop
 | h :: hs, s :: ss => R h s ∧ ki R hs ss
 | [], [] => True
 | _, _ => False
theorem mX {R : Int → Int → Prop} : ∀ {a b a' b' : List Int}, ki R a b → ki R a' b' → ki R (a ++ a') (b ++ b')
 | [], [], _, _, _, h => h
 | _ :: _, _ :: _, _, _, h1, h2 => ⟨h1.1, mX h1.2 h2⟩
 | [], _ :: _, _, _, h, _ => h.elim
 | _ :: _, [], _, _, h, _ => h.elim
theorem qm {R : Int → Int → Prop} : ∀ {a b : List Int}, ki R a b → a.length = b.length
 | [], [], _ => rfl
 | _ :: _, _ :: _, h => by rw [List.length_cons, List.length_cons, qm h.2]
 | [], _ :: _, h => h.elim
 | _ :: _, [], h => h.elim
theorem of {R : Int → Int → Prop} : ∀ {a b : List Int} {i : Nat}, ki R a b → i < b.length → R (a.getD i 0) (b.getD i 0)
 | _ :: _, _ :: _, 0, h, _ => h.1
 | _ :: _, _ :: _, i + 1, h, hi => of (i := i) h.2 (by simpa using hi)
 | [], [], _, _, hi => by simp at hi
 | [], _ :: _, _, h, _ => h.elim
 | _ :: _, [], _, h, _ => h.elim
def sgn (b s : Int) : Prop := ¬ s = 0 ∧ (s < 0 ↔ b = 1)
theorem sent_sq {c i : Nat} {g e : Int} (hi : i < 2 ^ c) (he : -(g - 1) ≤ e ∧ e ≤ g - 1) (hg : 1 ≤ g) (j : Nat) (hj : j < 2 ^ c) (hji : j ≠ i) :
 (sqS c g (g * (2 * (i : Int) - (2 ^ c - 1)) + e)).getD i 0 = e * e ∧ e * e < (sqS c g (g * (2 * (i : Int) - (2 ^ c - 1)) + e)).getD j 0 := by
 rw [sQ hi, sQ hj, np hi, np hj]
 generalize (2 : Int) ^ c - 1 = q
 have e1 : g * (2 * (i : Int) - q) + e - (2 * (i : Int) - q) * g = e := by grind
 have e2 : g * (2 * (i : Int) - q) + e - (2 * (j : Int) - q) * g = e + 2 * (g * ((i : Int) - j)) := by grind
 rw [e1, e2]
 refine ⟨rfl, ?_⟩
 have hd : ((i : Int) - j) ≤ -1 ∨ 1 ≤ ((i : Int) - j) := by omega
 generalize (i : Int) - (j : Int) = d at hd
 have hgd : g * d ≤ -g ∨ g ≤ g * d := by
  rcases hd with h | h
  · left
    have := Int.mul_le_mul_of_nonneg_left h (show 0 ≤ g by omega)
    omega
  · right
    have := Int.mul_le_mul_of_nonneg_left h (show 0 ≤ g by omega)
    omega
 generalize g * d = t at hgd
 have h0 : 0 < t * (e + t) := by
  rcases hgd with h | h
  · have := Int.mul_pos (a := -t) (b := -(e + t)) (by omega) (by omega)
    rw [Int.neg_mul_neg] at this; exact this
  · exact Int.mul_pos (by omega) (by omega)
 have e3 : (e + 2 * t) * (e + 2 * t) = e * e + 4 * (t * (e + t)) := by grind
 omega
theorem idx_lvl : ([1, 2, 3] : List Nat).all (fun c => (List.range (2 ^ c)).all fun m => (List.range (2 ^ c)).any fun i => decide (eI (dZ m c c) = 2 * (i : Int) - (2 ^ c - 1))) = true := by decide +kernel
theorem lvl_idx {c : Nat} {b : List Int} (hc : c = 1 ∨ c = 2 ∨ c = 3) (hl : b.length = c) (hb : eg b) : ∃ i : Nat, i < 2 ^ c ∧ eI b = 2 * (i : Int) - (2 ^ c - 1) ∧ ∃ m, fG c (2 * (i : Int) - (2 ^ c - 1)) = some m ∧ dZ m c c = b := by
 have h3 := bits3 (l := b) (by omega) (by omega) hb
 rw [hl] at h3
 obtain ⟨q1, q2⟩ := h3
 unfold blS at q1
 rw [if_pos (by omega), Int.toNat_natCast] at q1
 cases ho : fG c (eI b) with
 | none =>
  rw [ho] at q1; simp only at q1
  rw [← q1] at hl; simp at hl; omega
 | some m =>
  rw [ho] at q1; simp only at q1
  have hm : m < 2 ^ c := by
   unfold fG at ho
   exact List.mem_range.1 (List.mem_of_find?_eq_some ho)
  have h := idx_lvl
  rw [List.all_eq_true] at h
  have h1 := h c (by rcases hc with rfl | rfl | rfl <;> simp)
  rw [List.all_eq_true] at h1
  have h2 := h1 m (List.mem_range.2 hm)
  rw [List.any_eq_true] at h2
  obtain ⟨i, hi, hi2⟩ := h2
  rw [decide_eq_true_eq, q1] at hi2
  exact ⟨i, List.mem_range.1 hi, hi2, m, by rw [← hi2]; exact ho, q1⟩
theorem qI {c : Nat} {g e : Int} {b : List Int} (hc : c = 1 ∨ c = 2 ∨ c = 3) (hl : b.length = c) (hb : eg b) (he : -(g - 1) ≤ e ∧ e ≤ g - 1) (hg : 1 ≤ g) :
 hardS c (sqS c g (g * eI b + e)) = b ∧ ∀ bt, bt < c → sgn (b.getD bt 0) ((fm c (sqS c g (g * eI b + e))).getD bt 0) := by
 obtain ⟨i, hi, hv, m, ho, hm⟩ := lvl_idx hc hl hb
 rw [hv]
 have hsl : ∀ n, (sqS c g n).length = 2 ^ c := fun n => by rw [sqS, List.length_map, iV]
 have hsq := fun j hj hji => sent_sq (c := c) (e := e) hi he hg j hj hji
 generalize hq : sqS c g (g * (2 * (i : Int) - (2 ^ c - 1)) + e) = sq at *
 have hsl : sq.length = 2 ^ c := by rw [← hq]; exact hsl _
 have hp2 : 2 ≤ 2 ^ c := by rcases hc with rfl | rfl | rfl <;> decide
 have hle : ∀ j, j < 2 ^ c → j ≠ i → sq.getD i 0 < sq.getD j 0 := fun j hj hji => by
  obtain ⟨a1, a2⟩ := hsq j hj hji; omega
 obtain ⟨k1, k2⟩ := xA (sq := sq) (b := i) (by omega) (fun j hj => by
  by_cases h : j = i
  · rw [h]; exact Int.le_refl _
  · exact Int.le_of_lt (hle j (by omega) h)) (fun j hj => hle j (by omega) (by omega))
 refine ⟨?_, fun bt hbt => ?_⟩
 · unfold hardS
   rw [k2, Int.toNat_natCast, np hi, ho]
   exact hm
 · have hS : (fm c sq).getD bt 0 = fa (kJ c bt 1 sq) - fa (kJ c bt 0 sq) := by unfold fm; rw [eM _ _ hbt]
   rw [hS]
   have hmem : ∀ v, b.getD bt 0 = v → fa (kJ c bt v sq) ≤ sq.getD i 0 := fun v hv => by
    refine yk (List.mem_map.2 ⟨i, List.mem_filter.2 ⟨List.mem_range.2 hi, ?_⟩, rfl⟩)
    rw [ho]; simpa [hm] using hv
   have hoth : ∀ v, v = 0 ∨ v = 1 → b.getD bt 0 ≠ v → sq.getD i 0 < fa (kJ c bt v sq) := fun v h01 hv => by
    have hpos : 0 < (kJ c bt v sq).length := by
     have h := near_ne
     rw [List.all_eq_true] at h
     have h1 := h (c, bt) (by
      rcases hc with rfl | rfl | rfl
      · have : bt = 0 := by omega
        subst this; decide
      · have : bt = 0 ∨ bt = 1 := by omega
        rcases this with rfl | rfl <;> decide
      · have : bt = 0 ∨ bt = 1 ∨ bt = 2 := by omega
        rcases this with rfl | rfl | rfl <;> decide)
     rw [List.all_eq_true] at h1
     have h2 := h1 v (by rcases h01 with rfl | rfl <;> simp)
     unfold kJ
     rw [List.length_map]
     simp only [Bool.not_eq_true'] at h2
     exact List.length_pos_iff.2 (fun e => by rw [e] at h2; cases h2)
    obtain ⟨k, hk, he2⟩ := List.mem_map.1 (minS_in _ hpos)
    have hk1 := List.mem_range.1 (List.mem_filter.1 hk).1
    have hk2 := (List.mem_filter.1 hk).2
    have he3 : fa (kJ c bt v sq) = sq.getD k 0 := he2.symm
    rw [he3]
    refine hle k hk1 (fun hki => hv ?_)
    rw [hki, ho] at hk2
    simpa [hm] using hk2
   rcases gU hb bt with h0 | h0
   · have a1 := hmem 0 h0
     have a2 := hoth 1 (.inr rfl) (by omega)
     rw [h0]; exact ⟨by omega, by omega⟩
   · have a1 := hmem 1 h0
     have a2 := hoth 0 (.inl rfl) (by omega)
     rw [h0]; exact ⟨by omega, by omega⟩
theorem p4 {c : Nat} (hc : c = 1 ∨ c = 2 ∨ c = 3) {l : List Int} (hl : l.length = 2 * c) (hb : eg l) : (jD l).length = c ∧ (k4 l).length = c ∧ eg (jD l) ∧ eg (k4 l) ∧ fi c (jD l) (k4 l) = l := by
 unfold eg at *
 rcases hc with rfl | rfl | rfl
 · match l, hl with
   | [a, b], _ => simp [jD, k4, fi, List.range_succ] at *; simp_all
 · match l, hl with
   | [a, b, c, d], _ => simp [jD, k4, fi, List.range_succ] at *; simp_all
 · match l, hl with
   | [a, b, c, d, e, f], _ => simp [jD, k4, fi, List.range_succ] at *; simp_all
def recV (g : Int) (p e : Gs) : Gs := ⟨g * p.re + (e.re % (2 * g - 1) - g + 1), g * p.im + (e.im % (2 * g - 1) - g + 1)⟩
def my (g : Int) (m errs : List Gs) (j : Nat) : List Gs := (List.range j).map fun i => recV g (m.getD i ⟨0, 0⟩) (errs.getD i ⟨0, 0⟩)
theorem xO (g : Int) (m errs : List Gs) (j : Nat) : my g m errs (j + 1) = my g m errs j ++ [recV g (m.getD j ⟨0, 0⟩) (errs.getD j ⟨0, 0⟩)] := by simp [my, List.range_succ]
theorem pS {g e : Int} (hg : 1 ≤ g) : -(g - 1) ≤ e % (2 * g - 1) - g + 1 ∧ e % (2 * g - 1) - g + 1 ≤ g - 1 := by
 have h1 := Int.emod_nonneg e (show (2 * g - 1) ≠ 0 by omega)
 have h2 := Int.emod_lt_of_pos e (show 0 < 2 * g - 1 by omega)
 omega
theorem qP {n : Nat} {l : List Int} {N i : Nat} (h : i < N) : (fB n l N).getD i ⟨0, 0⟩ = fM (fj l n i) := eM _ _ h
theorem oF (c : Nat) (T : List Int → List Int) (g : Int) (l : List Gs) (x : Gs) : ec c T g (l ++ [x]) = ec c T g l ++ fi c (T (sqS c g x.re)) (T (sqS c g x.im)) := by
 rw [ec, ec, List.flatMap_append]; simp
theorem t6 {c N : Nat} {g : Int} {l : List Int} (errs : List Gs) (hc : c = 1 ∨ c = 2 ∨ c = 3) (hl : l.length = N * (2 * c)) (hb : eg l) (hg : 1 ≤ g) : ∀ j, j ≤ N →
 ec c (hardS c) g (my g (fB (2 * c) l N) errs j) = l.take (j * (2 * c)) ∧ ki sgn (l.take (j * (2 * c))) (ec c (fm c) g (my g (fB (2 * c) l N) errs j))
 | 0, _ => by simp [my, ec, ki]
 | j + 1, hj => by
  obtain ⟨i1, i2⟩ := t6 errs hc hl hb hg j (by omega)
  obtain ⟨g1, g2⟩ := oP hl hb (show j < N by omega)
  obtain ⟨v1, v2, v3, v4, v5⟩ := p4 hc g1 g2
  have e1 : l.take ((j + 1) * (2 * c)) = l.take (j * (2 * c)) ++ fj l (2 * c) j := by rw [Nat.add_mul, Nat.one_mul, List.take_add]; rfl
  rw [xO, oF, oF, i1, e1, qP (by omega)]
  obtain ⟨a1, a2⟩ := qI hc v1 v3 (pS (e := (errs.getD j ⟨0, 0⟩).re) hg) hg
  obtain ⟨b1, b2⟩ := qI hc v2 v4 (pS (e := (errs.getD j ⟨0, 0⟩).im) hg) hg
  simp only [recV, fM]
  refine ⟨by rw [a1, b1, v5], mX i2 ?_⟩
  conv => enter [2]; rw [← v5]
  rcases hc with rfl | rfl | rfl
  · exact ⟨a2 0 (by omega), b2 0 (by omega), trivial⟩
  · exact ⟨a2 0 (by omega), b2 0 (by omega), a2 1 (by omega), b2 1 (by omega), trivial⟩
  · exact ⟨a2 0 (by omega), b2 0 (by omega), a2 1 (by omega), b2 1 (by omega), a2 2 (by omega), b2 2 (by omega), trivial⟩
theorem xC {c : Nat} {b : List Int} (hc : c = 1 ∨ c = 2 ∨ c = 3) (hl : b.length = c) (hb : eg b) : -7 ≤ eI b ∧ eI b ≤ 7 := by
 have h1 := nE b hb
 rw [hl] at h1
 rcases hc with rfl | rfl | rfl
 · simp only [Int.reducePow] at h1; omega
 · simp only [Int.reducePow] at h1; omega
 · simp only [Int.reducePow] at h1; omega
theorem pt7 {c N j : Nat} {l : List Int} (hc : c = 1 ∨ c = 2 ∨ c = 3) (hl : l.length = N * (2 * c)) (hb : eg l) (hj : j < N) :
 (-7 ≤ ((fB (2 * c) l N).getD j ⟨0, 0⟩).re ∧ ((fB (2 * c) l N).getD j ⟨0, 0⟩).re ≤ 7) ∧ -7 ≤ ((fB (2 * c) l N).getD j ⟨0, 0⟩).im ∧ ((fB (2 * c) l N).getD j ⟨0, 0⟩).im ≤ 7 := by
 obtain ⟨g1, g2⟩ := oP hl hb hj
 obtain ⟨v1, v2, v3, v4, _⟩ := p4 hc g1 g2
 rw [qP hj]
 exact ⟨xC hc v1 v3, xC hc v2 v4⟩
end Go.Proofs.YteoobfmbipmibaaGreat
end
section
open Go Go.Am
open Go.Am.Dat (cells)
namespace Go.Proofs.YteoobfmbipmibaaGreat
set_option maxHeartbeats 4000000
set_option maxRecDepth 100000
structure Noise where
 gain : Int
 errs : List Gs
instance : DatL Noise where
 sz := 2
 agg := true
 cells g := [.s (.int .i64 g.gain), .sl 2 (g.errs.map cells)]
 dec | [.s (.int .i64 a), .sl 2 t] => (eo t).map fun t' => ⟨a, t'⟩ | _ => none
 ok := by
  intro l a h
  split at h
  · simp only [Option.map_eq_some_iff] at h
    obtain ⟨t', h1, rfl⟩ := h
    rw [dV h1]
  · cases h
 data := fun a => rfl
 one := fun h => by cases h
 dec_cells := fun a => by simp [g0]
structure SgF (c N : Nat) (g : Int) (l : List Int) (errs : List Gs) : Prop where
 hc : c = 1 ∨ c = 2 ∨ c = 3
 hl : l.length = N * (2 * c)
 pos : 0 < N
 le : N ≤ 20
 hb : eg l
 hg : 1 ≤ g ∧ g ≤ 1000000
theorem wu {m : List Gs} (h0 : 0 < m.length) (h1 : m.length ≤ 200) (h : ∀ i, i < m.length → ((-100000000 ≤ (m.getD i ⟨0, 0⟩).re ∧ (m.getD i ⟨0, 0⟩).re ≤ 100000000) ∧ -100000000 ≤ (m.getD i ⟨0, 0⟩).im ∧ (m.getD i ⟨0, 0⟩).im ≤ 100000000)) : d8 m = 0 := by
 unfold d8
 rw [if_neg (by omega), if_neg (by omega), if_pos]
 rw [List.all_eq_true]
 intro x hx
 obtain ⟨i, hi, rfl⟩ := List.getElem_of_mem hx
 have := h i hi
 rw [List.getD_eq_getElem?_getD, List.getElem?_eq_getElem hi] at this
 simpa [dw] using this
end Go.Proofs.YteoobfmbipmibaaGreat
end
section
open Go Go.Am
open Go.Am.Dat (cells)
namespace Go.Proofs.YteoobfmbipmibaaGreat
set_option maxHeartbeats 4000000
set_option maxRecDepth 100000
theorem sR (g : Gs) : FC Tryz.prog 67 [enc g] [] (enc (!dw g 100000000)) [] := by
 refine dk is67 (by simp) (fun cx hl => dj [jp] 800 ?_)
 delta c67 oO oN oA oM oT oG oR oQ oS oK
 simp (maxSteps := 4000000) -implicitDefEqProofs only [rv67, jp, InR, Ent.of0, Ent.of1, Ent.of2, Ent.of3, V, W3, ↓reduceIte, Nat.reduceAdd, Nat.reduceSub, Nat.reduceMul, Nat.reduceEqDiff, Nat.reduceLT, Nat.reduceLeDiff, reduceCtorEq, Int.reduceToNat, Nat.reduceBEq]
 try simp
def gp (m : List (List Gs)) (i : Nat) : List Gs := m.map fun r => r.getD i ⟨0, 0⟩
def ge (m : List (List Gs)) (n : Nat) : List Gs := (List.range n).flatMap (gp m)
theorem kv (m : List (List Gs)) (n : Nat) : ge m (n + 1) = ge m n ++ gp m n := by simp [ge, List.range_succ]
theorem oi (m : List (List Gs)) : ∀ n, (ge m n).length = n * m.length
 | 0 => by simp [ge]
 | n + 1 => by rw [kv, List.length_append, oi m n, gp, List.length_map, Nat.add_mul, Nat.one_mul]
theorem vW {m : List (List Gs)} {i k : Nat} (h : k < m.length) : (gp m i).take (k + 1) = (gp m i).take k ++ [(m.getD k []).getD i ⟨0, 0⟩] := by
 rw [eL ⟨0, 0⟩ (by rw [gp, List.length_map]; exact h)]
 congr 2
 exact e6 _ _ _ _ _ h
theorem uk (m : List (List Gs)) : FC Tryz.prog 28 [enc m] [] (.tup [enc (if dG m = 0 then ge m (m.getD 0 []).length else []), enc (dG m)]) [] := by
 refine dk is28 (by simp) (fun cx hl => dj [jV] 800 ?_)
 by_cases hz : dG m = 0
 rotate_left
 · delta c28 oO oN oA oM oT oG oR oQ oS oK
   simp (maxSteps := 4000000) -implicitDefEqProofs only [rv28, jV, hz, List.map_nil, WU, Int.reduceAdd, Int.reduceSub, Int.reduceMul, Int.reduceLT, Int.reduceLE, Int.reduceTMod, Int.reduceTDiv, Int.reduceNeg, Int.reduceEq, Nat.reducePow, Int.reducePow, Ent.of0, Ent.of1, Ent.of2, Ent.of3, V, W3, ↓reduceIte, Nat.reduceAdd, Nat.reduceSub, Nat.reduceMul, Nat.reduceEqDiff, Nat.reduceLT, Nat.reduceLeDiff, reduceCtorEq, Int.reduceToNat, Nat.reduceBEq]
 obtain ⟨l1, l2, l3⟩ := jv hz
 have h0 := (l3 _ (dD [] l1)).2.2.1
 delta c28 oO oN oA oM oT oG oR oQ oS oK
 simp (maxSteps := 4000000) -implicitDefEqProofs only [rv28, jV, hz, dM, l1, WU, Int.reduceAdd, Int.reduceSub, Int.reduceMul, Int.reduceLT, Int.reduceLE, Int.reduceTMod, Int.reduceTDiv, Int.reduceNeg, Int.reduceEq, Nat.reducePow, Int.reducePow, Ent.of0, Ent.of1, Ent.of2, Ent.of3, V, W3, ↓reduceIte, Nat.reduceAdd, Nat.reduceSub, Nat.reduceMul, Nat.reduceEqDiff, Nat.reduceLT, Nat.reduceLeDiff, reduceCtorEq, Int.reduceToNat, Nat.reduceBEq]
 refine ⟨by omega, ?_⟩
 refine dE (m.getD 0 []).length (fun i => [(18, .s (.int .i64 (i : Int)))]) (fun i => [(5, .row 2 62 ((ge m i).map cells))]) (fun _ => True) trivial ?_ (fun i hi _ => dj [] 800 ?_)
 · simp (maxSteps := 4000000) -implicitDefEqProofs only [ge, Ent.of0, Ent.of1, Ent.of2, Ent.of3, V, W3, ↓reduceIte, Nat.reduceAdd, Nat.reduceSub, Nat.reduceMul, Nat.reduceEqDiff, Nat.reduceLT, Nat.reduceLeDiff, reduceCtorEq, Int.reduceToNat, Nat.reduceBEq]; simp
 · by_cases h : i < (m.getD 0 []).length
   · have hi2 : (i : Int) < ((m.getD 0 []).length : Int) := by omega
     delta c28l2 oO oN oA oM oT oG oR oQ oS oK
     simp (maxSteps := 4000000) -implicitDefEqProofs only [hi2, Ent.of0, Ent.of1, Ent.of2, Ent.of3, V, W3, ↓reduceIte, Nat.reduceAdd, Nat.reduceSub, Nat.reduceMul, Nat.reduceEqDiff, Nat.reduceLT, Nat.reduceLeDiff, reduceCtorEq, Int.reduceToNat, Nat.reduceBEq]
     have hul := oi m i
     have hun := kv m i
     have hub : i * m.length ≤ 200 * 4 := Nat.mul_le_mul (by omega) l2
     refine dE m.length (fun k => [(23, .s (.int .i64 (k : Int)))]) (fun k => [(5, .row 2 62 ((ge m i ++ (gp m i).take k).map cells))]) (fun _ => True) trivial ?_ (fun k hk _ => dj [] 800 ?_)
     · simp (maxSteps := 4000000) -implicitDefEqProofs only [Ent.of0, Ent.of1, Ent.of2, Ent.of3, V, W3, ↓reduceIte, Nat.reduceAdd, Nat.reduceSub, Nat.reduceMul, Nat.reduceEqDiff, Nat.reduceLT, Nat.reduceLeDiff, reduceCtorEq, Int.reduceToNat, Nat.reduceBEq]; simp
     · by_cases hkl : k < m.length
       · have hk2 : (k : Int) < (m.length : Int) := by omega
         have hrl := (l3 _ (dD [] hkl)).1
         have hir : i < (m.getD k []).length := by omega
         have hir2 : (i : Int) < ((m.getD k []).length : Int) := by omega
         have htk : (ge m i ++ (gp m i).take k).map cells ++ [[C.s (.int .i64 ((m.getD k []).getD i ⟨0, 0⟩).re), C.s (.int .i64 ((m.getD k []).getD i ⟨0, 0⟩).im)]] = (ge m i ++ (gp m i).take (k + 1)).map cells := by
          rw [vW hkl, ← List.append_assoc, List.map_append (l₁ := ge m i ++ (gp m i).take k)]; rfl
         have hll : (ge m i ++ (gp m i).take k).length ≤ 804 := by rw [List.length_append, List.length_take]; omega
         delta c28l1 oO oN oA oM oT oG oR oQ oS oK
         simp (maxSteps := 4000000) -implicitDefEqProofs only [dM, hk2, hkl, hir, hir2, htk, InR, Ent.of0, Ent.of1, Ent.of2, Ent.of3, V, W3, ↓reduceIte, Nat.reduceAdd, Nat.reduceSub, Nat.reduceMul, Nat.reduceEqDiff, Nat.reduceLT, Nat.reduceLeDiff, reduceCtorEq, Int.reduceToNat, Nat.reduceBEq]
         and_intros <;> first | omega | rfl | trivial
       · have hkm : k = m.length := by omega
         subst hkm
         have hk2 : ¬ (m.length : Int) < (m.length : Int) := by omega
         have ht : (gp m i).take m.length = gp m i := List.take_of_length_le (by rw [gp, List.length_map]; exact Nat.le_refl _)
         rw [ht, ← hun]
         delta c28l1 oO oN oA oM oT oG oR oQ oS oK
         simp (maxSteps := 4000000) -implicitDefEqProofs only [hk2, InR, Ent.of0, Ent.of1, Ent.of2, Ent.of3, V, W3, ↓reduceIte, Nat.reduceAdd, Nat.reduceSub, Nat.reduceMul, Nat.reduceEqDiff, Nat.reduceLT, Nat.reduceLeDiff, reduceCtorEq, Int.reduceToNat, Nat.reduceBEq]
         and_intros <;> first | omega | rfl | trivial
   · have hie : i = (m.getD 0 []).length := by omega
     have hi2 : ¬ (i : Int) < ((m.getD 0 []).length : Int) := by omega
     rw [hie] at hi2
     subst hie
     delta c28l2 oO oN oA oM oT oG oR oQ oS oK
     simp (maxSteps := 4000000) -implicitDefEqProofs only [rv28, hi2, Ent.of0, Ent.of1, Ent.of2, Ent.of3, V, W3, ↓reduceIte, Nat.reduceAdd, Nat.reduceSub, Nat.reduceMul, Nat.reduceEqDiff, Nat.reduceLT, Nat.reduceLeDiff, reduceCtorEq, Int.reduceToNat, Nat.reduceBEq]
def ent28 : Ent Tryz.prog := .of1 28 (fun _ => True) (fun m : List (List Gs) => .tup [enc (if dG m = 0 then ge m (m.getD 0 []).length else []), enc (dG m)]) (fun _ => ⟨trivial, trivial, trivial⟩) (fun m _ => uk m)
end Go.Proofs.YteoobfmbipmibaaGreat
end
section
open Go Go.Am
open Go.Am.Dat (cells)
namespace Go.Proofs.YteoobfmbipmibaaGreat
set_option maxHeartbeats 4000000
set_option maxRecDepth 100000
def eQ (c : Nat) (l : List Gs) : Nat → List (List Gs)
 | 0 => List.replicate c []
 | j + 1 => (eQ c l j).set (j % c) ((eQ c l j).getD (j % c) [] ++ [l.getD j ⟨0, 0⟩])
theorem gE (c : Nat) (l : List Gs) : ∀ j, (eQ c l j).length = c
 | 0 => by simp [eQ]
 | j + 1 => by rw [eQ, List.length_set, gE c l j]
theorem qE (c : Nat) (l : List Gs) : ∀ j b, ((eQ c l j).getD b []).length ≤ j
 | 0, b => by
  by_cases h : b < c
  · simp [eQ, List.getD_eq_getElem?_getD, h]
  · simp [eQ, List.getD_eq_getElem?_getD, h]
 | j + 1, b => by
  have h1 := qE c l j b
  have h2 := qE c l j (j % c)
  rw [eQ]
  by_cases hb : j % c = b
  · rw [hb] at h2 ⊢
    rw [List.getD_eq_getElem?_getD, List.getElem?_set]
    by_cases hl : b < (eQ c l j).length
    · simp only [hl, if_true]
      simp only [Option.getD_some, List.length_append, List.length_cons, List.length_nil]; omega
    · simp [hl]
  · rw [List.getD_eq_getElem?_getD, List.getElem?_set_ne hb, ← List.getD_eq_getElem?_getD]; omega
def lrC (c : Nat) (l : List Gs) (j : Nat) : List (List (List C)) := (eQ c l j).map fun r => r.map cells
theorem vo (c : Nat) (l : List Gs) (j : Nat) : (lrC c l j).length = c := by rw [lrC, List.length_map, gE]
theorem lrC_get {c : Nat} (l : List Gs) (j : Nat) (hc : 0 < c) : (lrC c l j).getD (j % c) [] = ((eQ c l j).getD (j % c) []).map cells :=
 e6 _ _ _ _ _ (by rw [gE]; exact Nat.mod_lt _ hc)
theorem lrC_set (c : Nat) (l : List Gs) (j : Nat) : (lrC c l j).set (j % c) (((eQ c l j).getD (j % c) []).map cells ++ [[C.s (.int .i64 (l.getD j ⟨0, 0⟩).re), C.s (.int .i64 (l.getD j ⟨0, 0⟩).im)]]) = lrC c l (j + 1) := by
 rw [lrC, lrC, eQ, List.map_set, List.map_append]; rfl
theorem zc (c : Nat) (l : List Gs) : lrC c l 0 = List.replicate c [] := by simp [lrC, eQ]
theorem zj (c : Nat) (l : List Gs) (j : Nat) : List.map (fun es => [C.sl 2 es]) (lrC c l j) = List.map cells (eQ c l j) := by rw [lrC, List.map_map]; rfl
def iv (n : Int) (l : List Gs) : Int := if 1 ≤ n ∧ n ≤ 4 then (if l.length = 0 ∨ l.length % n.toNat ≠ 0 then 10 else if l.length / n.toNat > 200 then 8 else if l.all (dw · 100000000) then 0 else 2) else 2
theorem xH (n : Int) (l : List Gs) (hl1 : l.length ≤ 1000000) : FC Tryz.prog 21 [enc n, enc l] [] (.tup [enc (if iv n l = 0 then eQ n.toNat l l.length else []), enc (iv n l)]) [] := by
 refine dF [] D.is21 (by simp) trivial trivial trivial trivial (fun cx _ hl _ => dj [fR, li 67 _ sR, ew, dQ] 800 ?_)
 by_cases hn : 1 ≤ n ∧ n ≤ 4
 rotate_left
 · have hE : iv n l = 2 := by unfold iv; rw [if_neg hn]
   rw [hE]
   delta D.c21 oO oN oA oM oT oG oR oQ oS oK
   simp (maxSteps := 4000000) -implicitDefEqProofs only [D.rv21, fR, hn, List.map_nil, WU, Int.reduceAdd, Int.reduceSub, Int.reduceMul, Int.reduceLT, Int.reduceLE, Int.reduceTMod, Int.reduceTDiv, Int.reduceNeg, Int.reduceEq, Nat.reducePow, Int.reducePow, Ent.of0, Ent.of1, Ent.of2, Ent.of3, V, W3, ↓reduceIte, Nat.reduceAdd, Nat.reduceSub, Nat.reduceMul, Nat.reduceEqDiff, Nat.reduceLT, Nat.reduceLeDiff, reduceCtorEq, Int.reduceToNat, Nat.reduceBEq]
 obtain ⟨c, rfl⟩ : ∃ c : Nat, n = (c : Int) := ⟨n.toNat, by omega⟩
 have hc : 0 < c := by omega
 have hc4 : c ≤ 4 := by omega
 have hne : ¬ (c : Int) = 0 := by omega
 have htm : ∀ j : Nat, (j : Int).tmod (c : Int) = ((j % c : Nat) : Int) := fun j => by
  rw [Int.tmod_eq_emod_of_nonneg (by omega)]; push_cast; rfl
 have htd : (l.length : Int).tdiv (c : Int) = ((l.length / c : Nat) : Int) := by
  rw [Int.tdiv_eq_ediv_of_nonneg (by omega)]; push_cast; rfl
 have hdl : l.length / c ≤ l.length := Nat.div_le_self _ _
 have hlE : iv (c : Int) l = if l.length = 0 ∨ l.length % c ≠ 0 then 10 else if l.length / c > 200 then 8 else if l.all (dw · 100000000) then 0 else 2 := by unfold iv; rw [if_pos hn, Int.toNat_natCast]
 generalize hNN : l.length / c = N at *
 have hany : l.any (fun g => !dw g 100000000) = !(l.all (dw · 100000000)) := by
  rw [Bool.eq_iff_iff]
  simp [List.any_eq_true, List.all_eq_true]
 by_cases h1 : l.length = 0
 · have hE : iv (c : Int) l = 10 := by rw [hlE, if_pos (.inl h1)]
   rw [hE]
   have h1' : ¬ (0 : Int) < (l.length : Int) := by omega
   delta D.c21 oO oN oA oM oT oG oR oQ oS oK
   simp (maxSteps := 4000000) -implicitDefEqProofs only [D.rv21, fR, li, ew, dQ, hn, htm, htd, hne, hany, h1', dl, not_true_eq_false, InR, List.map_nil, WU, Int.reduceAdd, Int.reduceSub, Int.reduceMul, Int.reduceLT, Int.reduceLE, Int.reduceTMod, Int.reduceTDiv, Int.reduceNeg, Int.reduceEq, Nat.reducePow, Int.reducePow, Ent.of0, Ent.of1, Ent.of2, Ent.of3, V, W3, ↓reduceIte, Nat.reduceAdd, Nat.reduceSub, Nat.reduceMul, Nat.reduceEqDiff, Nat.reduceLT, Nat.reduceLeDiff, reduceCtorEq, Int.reduceToNat, Nat.reduceBEq]
   try omega
 have h1' : (0 : Int) < (l.length : Int) := by omega
 by_cases h2 : l.length % c = 0
 rotate_left
 · have hE : iv (c : Int) l = 10 := by rw [hlE, if_pos (.inr h2)]
   rw [hE]
   have h2' : ¬ ((l.length % c : Nat) : Int) = 0 := by omega
   delta D.c21 oO oN oA oM oT oG oR oQ oS oK
   simp (maxSteps := 4000000) -implicitDefEqProofs only [D.rv21, fR, li, ew, dQ, hn, h1', htm, htd, hne, hany, h2', dl, not_true_eq_false, InR, List.map_nil, WU, Int.reduceAdd, Int.reduceSub, Int.reduceMul, Int.reduceLT, Int.reduceLE, Int.reduceTMod, Int.reduceTDiv, Int.reduceNeg, Int.reduceEq, Nat.reducePow, Int.reducePow, Ent.of0, Ent.of1, Ent.of2, Ent.of3, V, W3, ↓reduceIte, Nat.reduceAdd, Nat.reduceSub, Nat.reduceMul, Nat.reduceEqDiff, Nat.reduceLT, Nat.reduceLeDiff, reduceCtorEq, Int.reduceToNat, Nat.reduceBEq]
   try omega
 have h2' : ((l.length % c : Nat) : Int) = 0 := by omega
 have h12 : ¬ (l.length = 0 ∨ l.length % c ≠ 0) := by omega
 by_cases h3 : N > 200
 · have hE : iv (c : Int) l = 8 := by rw [hlE, if_neg h12, if_pos h3]
   rw [hE]
   have h3' : ¬ (N : Int) ≤ 200 := by omega
   delta D.c21 oO oN oA oM oT oG oR oQ oS oK
   simp (maxSteps := 4000000) -implicitDefEqProofs only [D.rv21, fR, li, ew, dQ, hn, h1', htm, htd, hne, hany, h2', h3', dl, not_true_eq_false, InR, List.map_nil, WU, Int.reduceAdd, Int.reduceSub, Int.reduceMul, Int.reduceLT, Int.reduceLE, Int.reduceTMod, Int.reduceTDiv, Int.reduceNeg, Int.reduceEq, Nat.reducePow, Int.reducePow, Ent.of0, Ent.of1, Ent.of2, Ent.of3, V, W3, ↓reduceIte, Nat.reduceAdd, Nat.reduceSub, Nat.reduceMul, Nat.reduceEqDiff, Nat.reduceLT, Nat.reduceLeDiff, reduceCtorEq, Int.reduceToNat, Nat.reduceBEq]
   try omega
 have h3' : (N : Int) ≤ 200 := by omega
 have hE : iv (c : Int) l = if l.all (dw · 100000000) then 0 else 2 := by rw [hlE, if_neg h12, if_neg h3]
 rw [hE]
 cases hA : l.all (dw · 100000000) with
 | false =>
  delta D.c21 oO oN oA oM oT oG oR oQ oS oK
  simp (maxSteps := 4000000) -implicitDefEqProofs only [D.rv21, fR, li, ew, dQ, hn, h1', htm, htd, hne, hany, hA, h2', h3', dl, not_true_eq_false, InR, List.map_nil, WU, Int.reduceAdd, Int.reduceSub, Int.reduceMul, Int.reduceLT, Int.reduceLE, Int.reduceTMod, Int.reduceTDiv, Int.reduceNeg, Int.reduceEq, Nat.reducePow, Int.reducePow, Ent.of0, Ent.of1, Ent.of2, Ent.of3, V, W3, ↓reduceIte, Nat.reduceAdd, Nat.reduceSub, Nat.reduceMul, Nat.reduceEqDiff, Nat.reduceLT, Nat.reduceLeDiff, reduceCtorEq, Int.reduceToNat, Nat.reduceBEq]
  try omega
 | true =>
  have hrep : ∀ e ∈ List.replicate c [C.s (.slice none 0 0)], e = [C.s (.slice none 0 0)] := fun e he => (List.mem_replicate.1 he).2
  delta D.c21 oO oN oA oM oT oG oR oQ oS oK
  simp (maxSteps := 4000000) -implicitDefEqProofs only [D.rv21, fR, li, ew, dQ, hn, h1', htm, htd, hne, hany, hA, h2', h3', dl, not_true_eq_false, Int.toNat_natCast, InR, WU, Int.reduceAdd, Int.reduceSub, Int.reduceMul, Int.reduceLT, Int.reduceLE, Int.reduceTMod, Int.reduceTDiv, Int.reduceNeg, Int.reduceEq, Nat.reducePow, Int.reducePow, Ent.of0, Ent.of1, Ent.of2, Ent.of3, V, W3, ↓reduceIte, Nat.reduceAdd, Nat.reduceSub, Nat.reduceMul, Nat.reduceEqDiff, Nat.reduceLT, Nat.reduceLeDiff, reduceCtorEq, Int.reduceToNat, Nat.reduceBEq]
  refine ⟨by omega, by omega, hrep, ?_⟩
  refine dE l.length (fun j => [(45, .s (.int .i64 (j : Int)))]) (fun j => [(42, .deep 2 62 32 none (lrC c l j))]) (fun _ => True) trivial ?_ (fun j hj _ => dj [] 800 ?_)
  · simp (maxSteps := 4000000) -implicitDefEqProofs only [zc, Ent.of0, Ent.of1, Ent.of2, Ent.of3, V, W3, ↓reduceIte, Nat.reduceAdd, Nat.reduceSub, Nat.reduceMul, Nat.reduceEqDiff, Nat.reduceLT, Nat.reduceLeDiff, reduceCtorEq, Int.reduceToNat, Nat.reduceBEq]; simp
  · by_cases hjl : j < l.length
    · have hj2 : (j : Int) < (l.length : Int) := by omega
      have hmc := Nat.mod_lt j hc
      have hmi : ((j % c : Nat) : Int) < (c : Int) := by omega
      have f1 := vo c l j
      have f2 := lrC_get l j hc
      have f3 := lrC_set c l j
      have f4 := qE c l j (j % c)
      delta D.c21l1 oO oN oA oM oT oG oR oQ oS oK
      simp (maxSteps := 4000000) -implicitDefEqProofs only [hj2, hjl, InR, WU, Int.reduceAdd, Int.reduceSub, Int.reduceMul, Int.reduceLT, Int.reduceLE, Int.reduceTMod, Int.reduceTDiv, Int.reduceNeg, Int.reduceEq, Nat.reducePow, Int.reducePow, Ent.of0, Ent.of1, Ent.of2, Ent.of3, V, W3, ↓reduceIte, Nat.reduceAdd, Nat.reduceSub, Nat.reduceMul, Nat.reduceEqDiff, Nat.reduceLT, Nat.reduceLeDiff, reduceCtorEq, Int.reduceToNat, Nat.reduceBEq]
      refine ⟨by omega, tw [] 200 ?_⟩
      simp (maxSteps := 4000000) -implicitDefEqProofs only [drS, nc, robC, reC, fixS, jh, AOp.reads, true_or, or_true, false_or, htm, hne, hj2, hjl, hmi, hmc, f1, f2, Int.toNat_natCast, InR, WU, Int.reduceAdd, Int.reduceSub, Int.reduceMul, Int.reduceLT, Int.reduceLE, Int.reduceTMod, Int.reduceTDiv, Int.reduceNeg, Int.reduceEq, Nat.reducePow, Int.reducePow, Ent.of0, Ent.of1, Ent.of2, Ent.of3, V, W3, ↓reduceIte, Nat.reduceAdd, Nat.reduceSub, Nat.reduceMul, Nat.reduceEqDiff, Nat.reduceLT, Nat.reduceLeDiff, reduceCtorEq, Int.reduceToNat, Nat.reduceBEq]
      refine ⟨by omega, by omega, by omega, dj [] 400 ?_⟩
      simp (maxSteps := 4000000) -implicitDefEqProofs only [f3, InR, WU, Int.reduceAdd, Int.reduceSub, Int.reduceMul, Int.reduceLT, Int.reduceLE, Int.reduceTMod, Int.reduceTDiv, Int.reduceNeg, Int.reduceEq, Nat.reducePow, Int.reducePow, Ent.of0, Ent.of1, Ent.of2, Ent.of3, V, W3, ↓reduceIte, Nat.reduceAdd, Nat.reduceSub, Nat.reduceMul, Nat.reduceEqDiff, Nat.reduceLT, Nat.reduceLeDiff, reduceCtorEq, Int.reduceToNat, Nat.reduceBEq]
      omega
    · have hj2 : ¬ (j : Int) < (l.length : Int) := by omega
      have hje : j = l.length := by omega
      subst hje
      delta D.c21l1 oO oN oA oM oT oG oR oQ oS oK
      simp (maxSteps := 4000000) -implicitDefEqProofs only [D.rv21, hj2, zj, InR, WU, Int.reduceAdd, Int.reduceSub, Int.reduceMul, Int.reduceLT, Int.reduceLE, Int.reduceTMod, Int.reduceTDiv, Int.reduceNeg, Int.reduceEq, Nat.reducePow, Int.reducePow, Ent.of0, Ent.of1, Ent.of2, Ent.of3, V, W3, ↓reduceIte, Nat.reduceAdd, Nat.reduceSub, Nat.reduceMul, Nat.reduceEqDiff, Nat.reduceLT, Nat.reduceLeDiff, reduceCtorEq, Int.reduceToNat, Nat.reduceBEq]
def ent21 : Ent Tryz.prog := .of2 21 (fun _ l => l.length ≤ 1000000) (fun (n : Int) (l : List Gs) => .tup [enc (if iv n l = 0 then eQ n.toNat l l.length else []), enc (iv n l)]) (fun _ _ => ⟨trivial, trivial, trivial⟩) (fun n l h => xH n l h)
end Go.Proofs.YteoobfmbipmibaaGreat
end
section
open Go Go.Am
open Go.Am.Dat (cells)
namespace Go.Proofs.YteoobfmbipmibaaGreat
set_option maxHeartbeats 4000000
set_option maxRecDepth 100000
theorem oY {c : Nat} (hc : 0 < c) (hc4 : c ≤ 4) (l : List Gs) : ∀ j b, b < c → (eQ c l j).getD b [] = (List.range ((j + c - 1 - b) / c)).map fun t => l.getD (t * c + b) ⟨0, 0⟩
 | 0, b, hb => by
  have e : (0 + c - 1 - b) / c = 0 := Nat.div_eq_of_lt (by omega)
  rw [e]
  simp [eQ, List.getD_eq_getElem?_getD, hb]
 | j + 1, b, hb => by
  have hm := Nat.mod_lt j hc
  have hL := gE c l j
  have hdm := Nat.div_add_mod j c
  rw [eQ]
  by_cases hbj : j % c = b
  · have ih := oY hc hc4 l j (j % c) hm
    have e1 : (j + c - 1 - b) / c = j / c := by
     have : c = 1 ∨ c = 2 ∨ c = 3 ∨ c = 4 := by omega
     rcases this with rfl | rfl | rfl | rfl <;> omega
    have e2 : (j + 1 + c - 1 - b) / c = j / c + 1 := by
     have : c = 1 ∨ c = 2 ∨ c = 3 ∨ c = 4 := by omega
     rcases this with rfl | rfl | rfl | rfl <;> omega
    have e3 : j / c * c + b = j := by rw [← hbj, Nat.mul_comm]; exact hdm
    rw [e2, List.range_succ, List.map_append, List.map_cons, List.map_nil, e3]
    rw [List.getD_eq_getElem?_getD, List.getElem?_set]
    have hbl : j % c < (eQ c l j).length := by omega
    simp only [hbj] at hbl ih ⊢
    simp only [if_true, hbl, Option.getD_some]
    rw [ih, e1]
  · have ih := oY hc hc4 l j b hb
    have e1 : (j + 1 + c - 1 - b) / c = (j + c - 1 - b) / c := by
     have : c = 1 ∨ c = 2 ∨ c = 3 ∨ c = 4 := by omega
     rcases this with rfl | rfl | rfl | rfl <;> omega
    rw [List.getD_eq_getElem?_getD, List.getElem?_set_ne hbj, ← List.getD_eq_getElem?_getD, ih, e1]
theorem t4 {c N b : Nat} (hc : 0 < c) (hc4 : c ≤ 4) {l : List Gs} (hl : l.length = N * c) (hb : b < c) : (eQ c l l.length).getD b [] = (List.range N).map fun t => l.getD (t * c + b) ⟨0, 0⟩ := by
 rw [oY hc hc4 l _ b hb, hl]
 have e : (N * c + c - 1 - b) / c = N := by
  have : c = 1 ∨ c = 2 ∨ c = 3 ∨ c = 4 := by omega
  rcases this with rfl | rfl | rfl | rfl <;> omega
 rw [e]
theorem yD (l : List Gs) (a c : Nat) (h : a + c ≤ l.length) : (l.drop a).take c = (List.range c).map fun b => l.getD (a + b) ⟨0, 0⟩ := by
 apply List.ext_getElem
 · simp; omega
 · intro i h1 h2
   simp at h1 h2
   have : a + i < l.length := by omega
   simp [List.getD_eq_getElem?_getD, this]
theorem tF {c N : Nat} (hc : 0 < c) (hc4 : c ≤ 4) {l : List Gs} (hl : l.length = N * c) : ∀ i, i ≤ N → ge (eQ c l l.length) i = l.take (i * c)
 | 0, _ => by simp [ge]
 | i + 1, hi => by
  have hic : i * c + c ≤ N * c := by
   have := Nat.mul_le_mul_right c (show i + 1 ≤ N by omega)
   rwa [Nat.add_mul, Nat.one_mul] at this
  rw [kv, tF hc hc4 hl i (by omega), Nat.add_mul, Nat.one_mul, List.take_add]
  congr 1
  rw [yD l (i * c) c (by omega), gp]
  apply List.ext_getElem
  · simp [gE]
  · intro b h1 h2
    simp only [List.length_map, List.length_range] at h1 h2
    rw [List.getElem_map, List.getElem_map, List.getElem_range]
    have e : (eQ c l l.length)[b] = (eQ c l l.length).getD b [] := by rw [List.getD_eq_getElem?_getD, List.getElem?_eq_getElem h1]; rfl
    rw [e, t4 hc hc4 hl h2]
    exact eM _ _ (by omega)
theorem xw {n : Int} {l : List Gs} (h : iv n l = 0) (hl : l.length ≤ 1000000) : dG (eQ n.toNat l l.length) = 0 ∧ gi (eQ n.toNat l l.length) ∧ ge (eQ n.toNat l l.length) ((eQ n.toNat l l.length).getD 0 []).length = l := by
 unfold iv at h
 split at h
 · rename_i hn
   split at h
   · cases h
   · rename_i h1
     split at h
     · cases h
     · rename_i h2
       split at h
       · rename_i h3
         generalize hc0 : n.toNat = c at *
         have hc : 0 < c := by omega
         have hc4 : c ≤ 4 := by omega
         have hm : l.length % c = 0 := by omega
         obtain ⟨N, hN⟩ : ∃ N, l.length / c = N := ⟨_, rfl⟩
         have hlN : l.length = N * c := by rw [← hN]; exact (Nat.div_mul_cancel (Nat.dvd_of_mod_eq_zero hm)).symm
         rw [hN] at h2
         have hNp : 0 < N := by rcases Nat.eq_zero_or_pos N with e | e; (rw [e, Nat.zero_mul] at hlN; omega); exact e
         have hLL := gE c l l.length
         have hrow := fun b (hb : b < c) => t4 (b := b) hc hc4 hlN hb
         have hlen : ∀ b, b < c → ((eQ c l l.length).getD b []).length = N := fun b hb => by rw [hrow b hb]; simp
         have hmem : ∀ r ∈ eQ c l l.length, r.length = N ∧ d8 r = 0 := fun r hr => by
          obtain ⟨b, hb, rfl⟩ := List.getElem_of_mem hr
          have e : (eQ c l l.length)[b] = (eQ c l l.length).getD b [] := by rw [List.getD_eq_getElem?_getD, List.getElem?_eq_getElem hb]; rfl
          rw [e]
          have hb2 : b < c := by omega
          refine ⟨hlen b hb2, ?_⟩
          unfold d8
          rw [hlen b hb2, if_neg (by omega), if_neg (by omega), if_pos]
          rw [hrow b hb2, List.all_eq_true]
          intro g hg
          obtain ⟨t, ht, rfl⟩ := List.mem_map.1 hg
          have ht2 := List.mem_range.1 ht
          have htc : t * c + c ≤ N * c := by
           have := Nat.mul_le_mul_right c (show t + 1 ≤ N by omega)
           rwa [Nat.add_mul, Nat.one_mul] at this
          exact List.all_eq_true.1 h3 (l.getD (t * c + b) ⟨0, 0⟩) (dD (⟨0, 0⟩ : Gs) (by omega))
         refine ⟨?_, ?_, ?_⟩
         · unfold dG
           rw [hLL, if_neg (by omega), if_neg (by omega)]
           refine mJ fun e he => ?_
           obtain ⟨r, hr, rfl⟩ := List.mem_map.1 he
           obtain ⟨a1, a2⟩ := hmem r hr
           rw [if_neg (fun h => h a2), hlen 0 hc, a1, if_neg (fun h => h rfl)]
         · exact ⟨by omega, fun r hr => by have := (hmem r hr).1; omega⟩
         · rw [hlen 0 hc, tF hc hc4 hlN N (Nat.le_refl _), ← hlN]; exact List.take_length
       · cases h
 · cases h
end Go.Proofs.YteoobfmbipmibaaGreat
end
section
open Go Go.Am
open Go.Am.Dat (cells)
namespace Go.Proofs.YteoobfmbipmibaaGreat
set_option maxHeartbeats 4000000
set_option maxRecDepth 100000
def pK (n : Int) : Int := if -n > n then -n else n
def dS (x y : List Int) : Nat → Int
 | 0 => 0
 | n + 1 => dS x y n + pK (x.getD n 0 - y.getD n 0)
structure GrayF (c : Nat) (p q : Gs) (x y : List Int) (i k : Nat) : Prop where
 o1 : p.re % 2 = 1
 o2 : p.im % 2 = 1
 b1 : -7 ≤ p.re ∧ p.re ≤ 7
 b2 : -7 ≤ p.im ∧ p.im ≤ 7
 ne : i ≠ k → ¬ (p.re = q.re ∧ p.im = q.im)
 df : i ≠ k → pK (p.re - q.re) + pK (p.im - q.im) = 2 → (pK (p.re - q.re) = 0 ∨ pK (p.im - q.im) = 0) → dS x y c = 1
end Go.Proofs.YteoobfmbipmibaaGreat
end
section
open Go Go.Am
open Go.Am.Dat (cells)
namespace Go.Proofs.YteoobfmbipmibaaGreat
set_option maxHeartbeats 4000000
set_option maxRecDepth 100000
def z2 : List C := [.s (.int .i64 0), .s (.int .i64 0)]
end Go.Proofs.YteoobfmbipmibaaGreat
end
section
open Go Go.Am
open Go.Am.Dat (cells)
namespace Go.Proofs.YteoobfmbipmibaaGreat
set_option maxHeartbeats 4000000
set_option maxRecDepth 100000
theorem wk (r : Reg) (h1 : r.taps.length ≤ 1000000) (h2 : r.state.length ≤ 1000000) : FC Tryz.prog 17 [enc r] [] (enc r) [] := by
 obtain ⟨len, taps, state⟩ := r
 simp only at h1 h2
 refine dk is17 (by simp) (fun cx hl => dj [nI] 800 ?_)
 delta c17 oO oN oA oM oT oG oR oQ oS oK
 simp (maxSteps := 4000000) -implicitDefEqProofs only [rv17, nI, gk, h1, h2, Ent.of0, Ent.of1, Ent.of2, Ent.of3, V, W3, ↓reduceIte, Nat.reduceAdd, Nat.reduceSub, Nat.reduceMul, Nat.reduceEqDiff, Nat.reduceLT, Nat.reduceLeDiff, reduceCtorEq, Int.reduceToNat, Nat.reduceBEq]
def sj : Ent Tryz.prog := .of1 17 (fun r => r.taps.length ≤ 1000000 ∧ r.state.length ≤ 1000000) (fun r : Reg => enc r) (fun _ => ⟨trivial, trivial, trivial, trivial⟩) (fun r h => wk r h.1 h.2)
theorem vQ (a b : Reg) : (decide (a.length = b.length) && decide (a.taps = b.taps) && decide (a.state = b.state)) = true ↔ a = b := by
 cases a; cases b; simp [and_assoc]
instance : DecidableEq Reg := fun a b => decidable_of_iff _ (vQ a b)
theorem zn (r : Reg) : FC Tryz.prog 9 [enc r] [] (enc (eA r)) [] := by
 obtain ⟨len, taps, state⟩ := r
 refine dk is9 (by simp) (fun cx hl => dj [dJ] 800 ?_)
 simp only [gk, V, W3, ↓reduceIte, Nat.reduceAdd, Nat.reduceSub, Nat.reduceMul, Nat.reduceEqDiff, Nat.reduceLT, Nat.reduceLeDiff, reduceCtorEq, Int.reduceToNat, Nat.reduceBEq] at hl
 have hlen := hl.1.list
 by_cases h0 : 2 ≤ len ∧ len ≤ 10
 rotate_left
 · have hr : eA ⟨len, taps, state⟩ = 2 := by unfold eA; rw [if_pos h0]
   rw [hr]
   delta c9 oO oN oA oM oT oG oR oQ oS oK
   simp (maxSteps := 4000000) -implicitDefEqProofs only [rv9, dJ, gk, h0, WU, Int.reduceAdd, Int.reduceSub, Int.reduceMul, Int.reduceLT, Int.reduceLE, Int.reduceTMod, Int.reduceTDiv, Int.reduceNeg, Int.reduceEq, Nat.reducePow, Int.reducePow, Ent.of0, Ent.of1, Ent.of2, Ent.of3, V, W3, ↓reduceIte, Nat.reduceAdd, Nat.reduceSub, Nat.reduceMul, Nat.reduceEqDiff, Nat.reduceLT, Nat.reduceLeDiff, reduceCtorEq, Int.reduceToNat, Nat.reduceBEq]
 by_cases h1 : taps.length = 0
 · have hr : eA ⟨len, taps, state⟩ = 10 := by unfold eA; rw [if_neg (fun h => h h0), if_pos h1]
   have h1' : (taps.length : Int) = 0 := by omega
   rw [hr]
   delta c9 oO oN oA oM oT oG oR oQ oS oK
   simp (maxSteps := 4000000) -implicitDefEqProofs only [rv9, dJ, gk, h0, h1', WU, Int.reduceAdd, Int.reduceSub, Int.reduceMul, Int.reduceLT, Int.reduceLE, Int.reduceTMod, Int.reduceTDiv, Int.reduceNeg, Int.reduceEq, Nat.reducePow, Int.reducePow, Ent.of0, Ent.of1, Ent.of2, Ent.of3, V, W3, ↓reduceIte, Nat.reduceAdd, Nat.reduceSub, Nat.reduceMul, Nat.reduceEqDiff, Nat.reduceLT, Nat.reduceLeDiff, reduceCtorEq, Int.reduceToNat, Nat.reduceBEq]
 have h1' : ¬ (taps.length : Int) = 0 := by omega
 have hr : eA ⟨len, taps, state⟩ = if dO len (-1) taps ≠ 0 then dO len (-1) taps else if taps.getD 0 0 ≠ 0 then 3 else if (state.length : Int) ≠ len then 10 else if state.all iY then 0 else 15 := by
  unfold eA
  simp only
  rw [if_neg (fun h => h h0), if_neg h1]
 rw [hr]
 delta c9 oO oN oA oM oT oG oR oQ oS oK
 simp (maxSteps := 4000000) -implicitDefEqProofs only [rv9, dJ, gk, h0, h1', WU, Int.reduceAdd, Int.reduceSub, Int.reduceMul, Int.reduceLT, Int.reduceLE, Int.reduceTMod, Int.reduceTDiv, Int.reduceNeg, Int.reduceEq, Nat.reducePow, Int.reducePow, Ent.of0, Ent.of1, Ent.of2, Ent.of3, V, W3, ↓reduceIte, Nat.reduceAdd, Nat.reduceSub, Nat.reduceMul, Nat.reduceEqDiff, Nat.reduceLT, Nat.reduceLeDiff, reduceCtorEq, Int.reduceToNat, Nat.reduceBEq]
 refine dE taps.length (fun i => [(3, .s (.int .i64 (i : Int)))]) (fun _ => []) (fun i => dO len (-1) taps = dO len (if i = 0 then -1 else taps.getD (i - 1) 0) (taps.drop i)) (by simp) ?_ (fun i hi hv => dj [dJ, iX] 800 ?_)
 · simp (maxSteps := 4000000) -implicitDefEqProofs only [Ent.of0, Ent.of1, Ent.of2, Ent.of3, V, W3, ↓reduceIte, Nat.reduceAdd, Nat.reduceSub, Nat.reduceMul, Nat.reduceEqDiff, Nat.reduceLT, Nat.reduceLeDiff, reduceCtorEq, Int.reduceToNat, Nat.reduceBEq]; simp
 · by_cases h : i < taps.length
   · have hi2 : (i : Int) < (taps.length : Int) := by omega
     rw [dT 0 h, dO] at hv
     have hnext : (if i + 1 = 0 then (-1 : Int) else taps.getD (i + 1 - 1) 0) = taps.getD i 0 := by rw [if_neg (by omega), Nat.add_sub_cancel]
     by_cases ht : 0 ≤ taps.getD i 0 ∧ taps.getD i 0 ≤ len - 1
     rotate_left
     · rw [if_pos ht] at hv
       delta mB oO oN oA oM oT oG oR oQ oS oK
       simp (maxSteps := 4000000) -implicitDefEqProofs only [rv9, dJ, hi2, h, ht, hv, InR, WU, Int.reduceAdd, Int.reduceSub, Int.reduceMul, Int.reduceLT, Int.reduceLE, Int.reduceTMod, Int.reduceTDiv, Int.reduceNeg, Int.reduceEq, Nat.reducePow, Int.reducePow, Ent.of0, Ent.of1, Ent.of2, Ent.of3, V, W3, ↓reduceIte, Nat.reduceAdd, Nat.reduceSub, Nat.reduceMul, Nat.reduceEqDiff, Nat.reduceLT, Nat.reduceLeDiff, reduceCtorEq, Int.reduceToNat, Nat.reduceBEq]
       try omega
     rw [if_neg (fun h => h ht)] at hv
     by_cases hi0 : i = 0
     · subst hi0
       rw [if_pos rfl, if_neg (fun h => h (by omega))] at hv
       have hz : (0 : Int) < (taps.length : Int) := by omega
       delta mB oO oN oA oM oT oG oR oQ oS oK
       simp (maxSteps := 4000000) -implicitDefEqProofs only [rv9, dJ, hi2, h, ht, hz, InR, WU, Int.reduceAdd, Int.reduceSub, Int.reduceMul, Int.reduceLT, Int.reduceLE, Int.reduceTMod, Int.reduceTDiv, Int.reduceNeg, Int.reduceEq, Nat.reducePow, Int.reducePow, Ent.of0, Ent.of1, Ent.of2, Ent.of3, V, W3, ↓reduceIte, Nat.reduceAdd, Nat.reduceSub, Nat.reduceMul, Nat.reduceEqDiff, Nat.reduceLT, Nat.reduceLeDiff, reduceCtorEq, Int.reduceToNat, Nat.reduceBEq]
       and_intros <;> first | omega | exact hv
     · rw [if_neg hi0] at hv
       have hz : (i : Int) > 0 := by omega
       have hz2 : (i : Int) - 1 = ((i - 1 : Nat) : Int) := by omega
       have hz3 : ((i - 1 : Nat) : Int) < (taps.length : Int) := by omega
       have hz4 : i - 1 < taps.length := by omega
       by_cases hlt : taps.getD (i - 1) 0 < taps.getD i 0
       · have hle : ¬ taps.getD i 0 ≤ taps.getD (i - 1) 0 := by omega
         rw [if_neg (fun h => h hlt)] at hv
         delta mB oO oN oA oM oT oG oR oQ oS oK
         simp (maxSteps := 4000000) -implicitDefEqProofs only [rv9, dJ, hi2, h, ht, hz, hz2, hz3, hz4, hle, Int.toNat_natCast, InR, WU, Int.reduceAdd, Int.reduceSub, Int.reduceMul, Int.reduceLT, Int.reduceLE, Int.reduceTMod, Int.reduceTDiv, Int.reduceNeg, Int.reduceEq, Nat.reducePow, Int.reducePow, Ent.of0, Ent.of1, Ent.of2, Ent.of3, V, W3, ↓reduceIte, Nat.reduceAdd, Nat.reduceSub, Nat.reduceMul, Nat.reduceEqDiff, Nat.reduceLT, Nat.reduceLeDiff, reduceCtorEq, Int.reduceToNat, Nat.reduceBEq]
         and_intros <;> first | omega | exact hv
       · have hle : taps.getD i 0 ≤ taps.getD (i - 1) 0 := by omega
         rw [if_pos hlt] at hv
         delta mB oO oN oA oM oT oG oR oQ oS oK
         simp (maxSteps := 4000000) -implicitDefEqProofs only [rv9, dJ, hi2, h, ht, hz, hz2, hz3, hz4, hle, hv, Int.toNat_natCast, InR, WU, Int.reduceAdd, Int.reduceSub, Int.reduceMul, Int.reduceLT, Int.reduceLE, Int.reduceTMod, Int.reduceTDiv, Int.reduceNeg, Int.reduceEq, Nat.reducePow, Int.reducePow, Ent.of0, Ent.of1, Ent.of2, Ent.of3, V, W3, ↓reduceIte, Nat.reduceAdd, Nat.reduceSub, Nat.reduceMul, Nat.reduceEqDiff, Nat.reduceLT, Nat.reduceLeDiff, reduceCtorEq, Int.reduceToNat, Nat.reduceBEq]
         try omega
   · have hie : i = taps.length := by omega
     have hi2 : ¬ (i : Int) < (taps.length : Int) := by omega
     have h0t : (0 : Int) < (taps.length : Int) := by omega
     have h0t' : 0 < taps.length := by omega
     rw [List.drop_eq_nil_of_le (by omega), dO] at hv
     have hbit : (state.all fun b => decide (b = 0 ∨ b = 1)) = state.all iY := by congr 1; funext b; unfold iY; grind
     rw [hv]
     by_cases hA : taps.getD 0 0 = 0
     · by_cases hB : (state.length : Int) = len
       · cases hC : state.all iY with
         | true =>
          rw [hC] at hbit
          delta mB oO oN oA oM oT oG oR oQ oS oK
          simp (maxSteps := 4000000) -implicitDefEqProofs only [rv9, dJ, iX, hi2, h0t, h0t', hA, hB, hbit, InR, WU, Int.reduceAdd, Int.reduceSub, Int.reduceMul, Int.reduceLT, Int.reduceLE, Int.reduceTMod, Int.reduceTDiv, Int.reduceNeg, Int.reduceEq, Nat.reducePow, Int.reducePow, Ent.of0, Ent.of1, Ent.of2, Ent.of3, V, W3, ↓reduceIte, Nat.reduceAdd, Nat.reduceSub, Nat.reduceMul, Nat.reduceEqDiff, Nat.reduceLT, Nat.reduceLeDiff, reduceCtorEq, Int.reduceToNat, Nat.reduceBEq]
          try simp [hA, hB]
         | false =>
          rw [hC] at hbit
          delta mB oO oN oA oM oT oG oR oQ oS oK
          simp (maxSteps := 4000000) -implicitDefEqProofs only [rv9, dJ, iX, hi2, h0t, h0t', hA, hB, hbit, InR, WU, Int.reduceAdd, Int.reduceSub, Int.reduceMul, Int.reduceLT, Int.reduceLE, Int.reduceTMod, Int.reduceTDiv, Int.reduceNeg, Int.reduceEq, Nat.reducePow, Int.reducePow, Ent.of0, Ent.of1, Ent.of2, Ent.of3, V, W3, ↓reduceIte, Nat.reduceAdd, Nat.reduceSub, Nat.reduceMul, Nat.reduceEqDiff, Nat.reduceLT, Nat.reduceLeDiff, reduceCtorEq, Int.reduceToNat, Nat.reduceBEq]
          try simp [hA, hB]
       · delta mB oO oN oA oM oT oG oR oQ oS oK
         simp (maxSteps := 4000000) -implicitDefEqProofs only [rv9, dJ, iX, hi2, h0t, h0t', hA, hB, InR, WU, Int.reduceAdd, Int.reduceSub, Int.reduceMul, Int.reduceLT, Int.reduceLE, Int.reduceTMod, Int.reduceTDiv, Int.reduceNeg, Int.reduceEq, Nat.reducePow, Int.reducePow, Ent.of0, Ent.of1, Ent.of2, Ent.of3, V, W3, ↓reduceIte, Nat.reduceAdd, Nat.reduceSub, Nat.reduceMul, Nat.reduceEqDiff, Nat.reduceLT, Nat.reduceLeDiff, reduceCtorEq, Int.reduceToNat, Nat.reduceBEq]
         try simp [hA, hB]
     · delta mB oO oN oA oM oT oG oR oQ oS oK
       simp (maxSteps := 4000000) -implicitDefEqProofs only [rv9, dJ, iX, hi2, h0t, h0t', hA, InR, WU, Int.reduceAdd, Int.reduceSub, Int.reduceMul, Int.reduceLT, Int.reduceLE, Int.reduceTMod, Int.reduceTDiv, Int.reduceNeg, Int.reduceEq, Nat.reducePow, Int.reducePow, Ent.of0, Ent.of1, Ent.of2, Ent.of3, V, W3, ↓reduceIte, Nat.reduceAdd, Nat.reduceSub, Nat.reduceMul, Nat.reduceEqDiff, Nat.reduceLT, Nat.reduceLeDiff, reduceCtorEq, Int.reduceToNat, Nat.reduceBEq]
       try simp [hA]
def m9 : Ent Tryz.prog := .of1 9 (fun _ => True) (fun r : Reg => enc (eA r)) (fun _ => trivial) (fun r _ => zn r)
end Go.Proofs.YteoobfmbipmibaaGreat
end
section
open Go Go.Am
open Go.Am.Dat (cells)
namespace Go.Proofs.YteoobfmbipmibaaGreat
set_option maxHeartbeats 4000000
set_option maxRecDepth 100000
def z3 : List C := [.s (.int .i64 0), .s (.slice none 0 0), .s (.slice none 0 0)]
end Go.Proofs.YteoobfmbipmibaaGreat
end
section
open Go Go.Am
open Go.Am.Dat (cells)
namespace Go.Proofs.YteoobfmbipmibaaGreat
set_option maxHeartbeats 4000000
set_option maxRecDepth 100000
def mR (s ts : List Int) : Nat → Int
 | 0 => 0
 | i + 1 => mR s ts i + s.getD (ts.getD i 0).toNat 0
def kE (r : Reg) : Reg := ⟨r.length, r.taps, r.state.drop 1 ++ [mR r.state r.taps r.taps.length % 2]⟩
theorem u6 : ∀ (l : List Int) (lo hi : Int), l.Pairwise (· < ·) → (∀ t ∈ l, lo ≤ t ∧ t ≤ hi) → lo ≤ hi + 1 → (l.length : Int) ≤ hi + 1 - lo
 | [], lo, hi, _, _, h => by simp; omega
 | t :: l, lo, hi, hp, h, _ => by
  have h1 := List.pairwise_cons.1 hp
  have ht := h t List.mem_cons_self
  have := u6 l (t + 1) hi h1.2 (fun x hx => ⟨by have := h1.1 x hx; omega, (h x (List.mem_cons_of_mem _ hx)).2⟩) (by omega)
  simp only [List.length_cons]
  omega
theorem RegOk.tl {r : Reg} (h : RegOk r) : r.taps.length ≤ 10 := by
 have := u6 r.taps 0 9 h.inc (fun t ht => by have := h.taps t ht; have := h.len; omega) (by omega)
 omega
theorem x5 (s ts : List Int) (n : Nat) : mR s ts n % 2 = 0 ∨ mR s ts n % 2 = 1 := by omega
theorem o7 {r : Reg} (h : RegOk r) : RegOk (kE r) := by
 have hl := h.len
 have hs := h.stl
 refine ⟨h.len, h.ne, h.taps, h.inc, h.zero, ?_, fun b hb => ?_⟩
 · show ((r.state.drop 1 ++ [mR r.state r.taps r.taps.length % 2]).length : Int) = r.length
   rw [List.length_append, List.length_drop, List.length_singleton]
   omega
 · simp only [kE, List.mem_append, List.mem_singleton] at hb
   rcases hb with hb | rfl
   · exact h.bits b (List.mem_of_mem_drop hb)
   · exact x5 _ _ _
def runR (r : Reg) : Nat → Reg
 | 0 => r
 | i + 1 => kE (runR r i)
theorem nY {r : Reg} (h : RegOk r) : ∀ i, RegOk (runR r i)
 | 0 => h
 | i + 1 => o7 (nY h i)
def il (r : Reg) (n : Nat) : List Int := (List.range n).map fun i => (runR r i).state.getD 0 0
theorem oc (r : Reg) (n : Nat) : (il r n).length = n := by simp [il]
end Go.Proofs.YteoobfmbipmibaaGreat
end
section
open Go Go.Am
open Go.Am.Dat (cells)
namespace Go.Proofs.YteoobfmbipmibaaGreat
set_option maxHeartbeats 4000000
set_option maxRecDepth 100000
def kw (r : Reg) (l : List Int) : List Int := (List.range l.length).map fun i => ((il r l.length).getD i 0 + l.getD i 0) % 2
theorem rng_set {n j : Nat} {f g : Nat → Int} : ((List.range n).map (fun i => if i < j then f i else g i)).set j (f j) = (List.range n).map (fun i => if i < j + 1 then f i else g i) := by
 apply List.ext_getElem (by simp)
 intro i h1 h2
 simp only [List.getElem_set, List.getElem_map, List.getElem_range]
 by_cases h : j = i
 · subst h; simp
 · rw [if_neg h]
   by_cases h3 : i < j
   · rw [if_pos h3, if_pos (by omega)]
   · rw [if_neg h3, if_neg (by omega)]
theorem oV {r : Reg} (hr : RegOk r) (n i : Nat) : (il r n).getD i 0 = 0 ∨ (il r n).getD i 0 = 1 := by
 by_cases h : i < n
 · unfold il
   rw [eM _ _ h]
   exact gU (nY hr i).bits 0
 · left
   rw [List.getD_eq_getElem?_getD, List.getElem?_eq_none (by rw [oc]; omega)]; rfl
end Go.Proofs.YteoobfmbipmibaaGreat
end
section
open Go Go.Am
open Go.Am.Dat (cells)
namespace Go.Proofs.YteoobfmbipmibaaGreat
set_option maxHeartbeats 4000000
set_option maxRecDepth 100000
theorem ka {l : List Int} (h : ∀ b ∈ l, b = 0 ∨ b = 1) : ∀ n i, (fw l n).testBit i = (decide (i < n) && decide (l.getD i 0 = 1))
 | 0, i => by simp [fw]
 | n + 1, i => by
  rw [fw, Nat.testBit_or, ka h n i]
  have hb := gU h n
  by_cases h1 : i = n
  · subst h1
    rcases hb with e | e <;> rw [e] <;> simp
  · have h2 : (i < n + 1) = (i < n) := propext (by omega)
    have h3 : ((l.getD n 0).toNat * 2 ^ n).testBit i = false := by
     rcases hb with e | e <;> rw [e] <;> simp [Nat.testBit_two_pow]
     omega
    rw [h3, Bool.or_false]
    simp only [h2]
theorem and_pow (n i : Nat) : n &&& 2 ^ i = (n.testBit i).toNat * 2 ^ i := by
 apply Nat.eq_of_testBit_eq
 intro j
 rw [Nat.testBit_and, Nat.testBit_two_pow]
 by_cases h : i = j
 · subst h
   cases hb : n.testBit i <;> simp
 · cases hb : n.testBit i <;> simp [h, Nat.testBit_two_pow]
theorem y6 : ∀ t, t < 10 → ∀ a, a < 2 ^ t → kA (a ||| 2 ^ t) = 1 - kA a ∧ kA a ≤ 1 := by decide +kernel
theorem parS_lt (n : Nat) : kA n ≤ 1 := qD n n 0 (by omega)
theorem rf {l : List Int} {m : Nat} : ∀ i, (∀ j, j < i → (l.getD j 0).toNat < m) → fT l i < 2 ^ m
 | 0, _ => by simp [fT]; exact Nat.pow_pos (by decide)
 | i + 1, h => Nat.or_lt_two_pow (rf i fun j hj => h j (by omega)) (Nat.pow_lt_pow_right (by decide) (h i (by omega)))
theorem uZ {r : Reg} (hr : RegOk r) : ∀ i, i ≤ r.taps.length → (kA (fw r.state r.state.length &&& fT r.taps i) : Int) = mR r.state r.taps i % 2
 | 0, _ => by simp [fT, mR]; rfl
 | i + 1, hi => by
  have ih := uZ hr i (by omega)
  have hm : r.taps.getD i 0 ∈ r.taps := by rw [List.getD_eq_getElem?_getD, List.getElem?_eq_getElem (by omega)]; exact List.getElem_mem _
  have ht := hr.taps _ hm
  have hlen := hr.len
  have hst := hr.stl
  have hinc : ∀ j, j < i → (r.taps.getD j 0).toNat < (r.taps.getD i 0).toNat := fun j hj => by
   have h1 := List.pairwise_iff_getElem.1 hr.inc j i (by omega) (by omega) hj
   have hmj : r.taps.getD j 0 ∈ r.taps := by rw [List.getD_eq_getElem?_getD, List.getElem?_eq_getElem (by omega)]; exact List.getElem_mem _
   have htj := hr.taps _ hmj
   have e1 : r.taps.getD j 0 = r.taps[j] := by rw [List.getD_eq_getElem?_getD, List.getElem?_eq_getElem (by omega)]; rfl
   have e2 : r.taps.getD i 0 = r.taps[i] := by rw [List.getD_eq_getElem?_getD, List.getElem?_eq_getElem (by omega)]; rfl
   omega
  have hlt := rf i hinc
  generalize htt : (r.taps.getD i 0).toNat = t at *
  have ht10 : t < 10 := by omega
  rw [fT, htt, Nat.and_or_distrib_left, and_pow, ka hr.bits, mR, htt]
  have hlt2 : fw r.state r.state.length &&& fT r.taps i < 2 ^ t := Nat.lt_of_le_of_lt Nat.and_le_right hlt
  have hb := gU hr.bits t
  obtain ⟨g1, g2⟩ := y6 t ht10 _ hlt2
  have htl : t < r.state.length := by omega
  rcases hb with e | e <;> rw [e]
  · simp [ih]
  · simp only [htl, decide_true, Bool.and_true, Bool.toNat_true, Nat.one_mul, g1]
    omega
theorem wP {r : Reg} (hr : RegOk r) : eh (kE r) = hY (eh r) := by
 have hp := uZ hr _ (Nat.le_refl _)
 have hbits := hr.bits
 have hst := hr.stl
 have hlen := hr.len
 have hb2 := (o7 hr).bits
 have hl2 : (kE r).state.length = r.state.length := by
  have := (o7 hr).stl
  have e : (kE r).length = r.length := rfl
  omega
 unfold eh hY
 rw [Wire.mk.injEq]
 refine ⟨?_, rfl, rfl⟩
 show fw (kE r).state (kE r).state.length = fw r.state r.state.length / 2 ||| kA (fw r.state r.state.length &&& fT r.taps r.taps.length) * 2 ^ (r.length - 1).toNat
 rw [hl2]
 have hp1 := parS_lt (fw r.state r.state.length &&& fT r.taps r.taps.length)
 generalize kA (fw r.state r.state.length &&& fT r.taps r.taps.length) = p at hp hp1
 have htop : (r.length - 1).toNat = r.state.length - 1 := by omega
 rw [htop]
 apply Nat.eq_of_testBit_eq
 intro i
 rw [ka hb2, Nat.testBit_or, ← Nat.testBit_succ, ka hbits]
 have hg : (kE r).state.getD i 0 = if i + 1 < r.state.length then r.state.getD (i + 1) 0 else if i + 1 = r.state.length then (p : Int) else 0 := by
  show (r.state.drop 1 ++ [mR r.state r.taps r.taps.length % 2]).getD i 0 = _
  rw [← hp, List.getD_eq_getElem?_getD, List.getElem?_append, List.length_drop]
  by_cases h1 : i + 1 < r.state.length
  · rw [if_pos (by omega), if_pos h1, List.getElem?_drop, List.getD_eq_getElem?_getD, Nat.add_comm]
  · rw [if_neg (by omega), if_neg h1]
    by_cases h2 : i + 1 = r.state.length
    · rw [if_pos h2]
      have : i - (r.state.length - 1) = 0 := by omega
      rw [this]; rfl
    · rw [if_neg h2, List.getElem?_eq_none (by simp; omega)]; rfl
 rw [hg]
 have hp01 : p = 0 ∨ p = 1 := by omega
 by_cases h1 : i + 1 < r.state.length
 · have h3 : (p * 2 ^ (r.state.length - 1)).testBit i = false := by
    rcases hp01 with rfl | rfl <;> simp [Nat.testBit_two_pow]
    omega
   rw [h3, if_pos h1]
   simp [h1]
   omega
 · rw [if_neg h1]
   by_cases h2 : i + 1 = r.state.length
   · have e : r.state.length - 1 = i := by omega
     rw [if_pos h2, e]
     rcases hp01 with rfl | rfl <;> simp [h1] <;> omega
   · rw [if_neg h2]
     have h3 : (p * 2 ^ (r.state.length - 1)).testBit i = false := by
      rcases hp01 with rfl | rfl <;> simp [Nat.testBit_two_pow]
      omega
     rw [h3]
     simp [h1]
theorem tZ {r : Reg} (hr : RegOk r) : ∀ i, eH (eh r) i = eh (runR r i)
 | 0 => rfl
 | i + 1 => by rw [eH, runR, tZ hr i, wP (nY hr i)]
theorem zq {r : Reg} (hr : RegOk r) : (k7 (eh r) : Int) = r.state.getD 0 0 := by
 have h := ka hr.bits r.state.length 0
 have hl : 0 < r.state.length := by have := hr.len; have := hr.stl; omega
 rw [Nat.testBit_zero] at h
 have hb := gU hr.bits 0
 show ((fw r.state r.state.length % 2 : Nat) : Int) = _
 rcases hb with e | e <;> rw [e] at h ⊢ <;> simp [hl] at h <;> omega
theorem uY {r : Reg} (hr : RegOk r) (i : Nat) : (k7 (eH (eh r) i) : Int) = (runR r i).state.getD 0 0 := by
 rw [tZ hr i, zq (nY hr i)]
theorem seq_eq {r : Reg} (hr : RegOk r) (n : Nat) : jc (eh r) n = il r n := List.map_congr_left fun i _ => uY hr i
end Go.Proofs.YteoobfmbipmibaaGreat
end
section
open Go Go.Am
open Go.Am.Dat (cells)
namespace Go.Proofs.YteoobfmbipmibaaGreat
set_option maxHeartbeats 4000000
set_option maxRecDepth 100000
theorem yU (l : List Int) (h : 0 < l.length ∧ l.length ≤ 1000000) : FC Tryz.prog 59 [enc l] [] (.own 5) [(5, .row 1 3 (l.map cells))] := by
 refine dF [5] is59 (by simp) trivial trivial (by simp [an, ae, aq]) trivial (fun cx _ hl _ => dj [] 800 ?_)
 cases l with
 | nil => simp at h
 | cons a tl =>
  have h2 := h.2
  simp only [List.length_cons] at h2
  delta c59 oO oN oA oM oT oG oR oQ oS oK
  simp (maxSteps := 4000000) -implicitDefEqProofs only [rv59, List.map_cons, List.length_cons, Ent.of0, Ent.of1, Ent.of2, Ent.of3, V, W3, ↓reduceIte, Nat.reduceAdd, Nat.reduceSub, Nat.reduceMul, Nat.reduceEqDiff, Nat.reduceLT, Nat.reduceLeDiff, reduceCtorEq, Int.reduceToNat, Nat.reduceBEq]
  omega
def qa : Ent Tryz.prog := .mk3 59 (fun args chs => match args, chs with
 | [.sl 1 t], [] => (eo t : Option (List Int)).bind fun l => some (0 < l.length ∧ l.length ≤ 1000000, .own 5, [(5, .row 1 3 (l.map cells))], [5])
 | _, _ => none) (by
 intro args chs p r chs' nk hs hp
 split at hs
 · simp only [Option.bind_eq_some_iff, Option.some.injEq, Prod.mk.injEq] at hs
   obtain ⟨w, hw, rfl, rfl, rfl, rfl⟩ := hs
   have := dV hw
   subst this
   refine ⟨yU w hp, ⟨fun k c h => .inl ?_, fun k cs h => by simp at h, List.mem_singleton.2 rfl, fun k c h => ?_⟩⟩
   · simp only [List.mem_singleton, Prod.mk.injEq] at h; rw [h.1]; exact List.mem_singleton.2 rfl
   · simp only [List.mem_singleton, Prod.mk.injEq] at h; rw [h.2]; trivial
 · cases hs)
def zw : List C := [.s (.int .u16 0), .s (.int .u16 0), .s (.int .i64 0)]
def ky (r : Reg) : Ch := .box [.s (.int .i64 r.length), .sl 1 (r.taps.map cells), .sl 1 (r.state.map cells)]
def gY (r : Reg) (l : List Int) (S : Nat → Bool) : Chs :=
 (if S 1 = true then [(20, .row 1 3 (l.map cells))] else []) ++ ((if S 4 = true then [(8, .box (if S 6 = true then eq (eh r) else zw))] else []) ++ [(2, ky r)])
theorem gj (r : Reg) (l : List Int) (S : Nat → Bool) : ((gY r l S).map (·.1)).Nodup := by
 unfold gY
 cases S 1 <;> cases S 4 <;> simp
def scOs : List AO := [⟨some 19, none, .mv (.tmp 1), false⟩, ⟨some 20, none, .call (.func 59) [(.tmp 19)], false⟩, ⟨some 21, none, .load true 3 (.tmp 2), false⟩, ⟨some 22, none, .call (.func 60) [(.tmp 21)], false⟩, ⟨some 8, none, .alloc [.int .u16 0, .int .u16 0, .int .i64 0], false⟩, ⟨some 7, none, .mv (.tmp 20), true⟩, ⟨none, none, .store false 3 (.tmp 8) (.tmp 22), true⟩]
def mK : List Nat := [1, 3, 5, 6, 103, 105, 106, 203, 205, 206, 305, 306, 405, 406, 506]
def fg (r : Reg) (l : List Int) : List (Nat × Nat × C) :=
 [(0, 19, .sl 1 (l.map cells)), (1, 20, .own 20), (2, 21, .agg [.s (.int .i64 r.length), .sl 1 (r.taps.map cells), .sl 1 (r.state.map cells)]), (3, 22, .agg (eq (eh r))), (4, 8, .ptr 8 0), (5, 7, .own 20)]
def iK (l : List Int) : dz := [(1, .sl 1 (l.map cells)), (2, .ptr 2 0)]
theorem sc_draw {cx : Cx} {Q : ASt → Prop} {K : List It} {r : Reg} {l : List Int} (hr : RegOk r) (h1 : 0 < l.length) (h2 : l.length ≤ 1000000)
 (hend : SG Tryz.prog cx Q K ⟨fh (fun _ => true) (iK l) (fg r l), [(20, .row 1 3 (l.map cells)), (8, .box (eq (eh r))), (2, ky r)]⟩) :
 SG Tryz.prog cx Q (.c (.draw 999 mK scOs) :: K) ⟨iK l, [(2, ky r)]⟩ := by
 refine S_fam (fg r l) (gY r l) (by simp [pt, fg]) rfl (by simp) (fun S j ao hj hSj hp hs => ?_) (fun S hS => ?_)
 · have hs' : ∀ c ∈ mK, S (c % 100) = true → S (c / 100) = true := hs
   rcases j with _|_|_|_|_|_|_|j <;> simp only [scOs, List.getElem?_cons_zero, List.getElem?_cons_succ, Nat.reduceAdd, List.getElem?_nil, reduceCtorEq, Option.some.injEq, Nat.zero_add] at hj
   · subst hj
     have hSj : S 0 = false := hSj
     simp [mK] at hp hs'
     have hn : S 1 = false ∧ S 3 = false ∧ S 5 = false ∧ S 6 = false := by
      simp only [hSj] at hs'
      grind
     refine ⟨⟨True, .sl 1 (l.map cells), gY r l (fun i => i == 0 || S i), []⟩, jP rfl ?_, ⟨by simp [fg], by simp [fg]⟩, fun w _ _ _ => dW _, fun x => dW _, gj _ _ _, fun p hp => e7 (gj r l (fun i => i == 0 || S i)) hp⟩
     cases h4 : S 4 <;> cases h1 : S 1 <;> simp [nx, ak, aw, fh, gg, fg, iK, gY, ky, eq, hp, hn, hSj, h4, h1, lk, cg, au, ah, aK, Value.oneCell', ay, ar, af, ag, aj, List.lookup, bm, zw, aE] <;> simp_all
   · subst hj
     have hSj : S 1 = false := hSj
     simp [mK] at hp hs'
     have hn : S 3 = false ∧ S 5 = false ∧ S 6 = false := by
      simp only [hSj] at hs'
      grind
     refine ⟨⟨True, .own 20, gY r l (fun i => i == 1 || S i), [(20, .c .any)]⟩, q9 (L := [qa]) rfl rfl ?_, ⟨by simp [fg], by simp [fg]⟩, by simp +contextual [fg, aj, aj.subCs, List.lookup, eq, hn], fun x => ?_, gj _ _ _, fun p hp => e7 (gj r l (fun i => i == 1 || S i)) hp⟩
     · have e1 : aw Tryz.prog (fh S (iK l) (fg r l)) (.tmp 19) = .sl 1 (l.map cells) := by simp [aw, fh, fg, iK, gg, hp]
       simp only [List.map_cons, List.map_nil, e1]
       simp only [gY, hp, hn, hSj]
       cases h4 : S 4
       all_goals
        simp (maxSteps := 4000000) -implicitDefEqProofs only [rJ, qa, h1, h2, zw, ky, eq, Ent.of0, Ent.of1, Ent.of2, Ent.of3, V, W3, ↓reduceIte, Nat.reduceAdd, Nat.reduceSub, Nat.reduceMul, Nat.reduceEqDiff, Nat.reduceLT, Nat.reduceLeDiff, reduceCtorEq, Int.reduceToNat, Nat.reduceBEq]
     · simp only [iK, gg]
       repeat' split
       all_goals simp [aj, gt, lk, List.lookup]
   · subst hj
     have hSj : S 2 = false := hSj
     simp [mK] at hp hs'
     have hn : S 3 = false ∧ S 5 = false ∧ S 6 = false := by
      simp only [hSj] at hs'
      grind
     refine ⟨⟨True, .agg [.s (.int .i64 r.length), .sl 1 (r.taps.map cells), .sl 1 (r.state.map cells)], gY r l (fun i => i == 2 || S i), []⟩, jP rfl ?_, ⟨by simp [fg], by simp [fg]⟩, fun w _ _ _ => dW _, fun x => dW _, gj _ _ _, fun p hp => e7 (gj r l (fun i => i == 2 || S i)) hp⟩
     cases h4 : S 4 <;> cases h1 : S 1 <;> simp [nx, ak, aw, fh, gg, fg, iK, gY, ky, eq, hp, hn, hSj, h4, h1, lk, cg, au, ah, aK, Value.oneCell', ay, ar, af, ag, aj, List.lookup, bm, zw, aE] <;> simp_all
   · subst hj
     have hSj : S 3 = false := hSj
     simp [mK] at hp hs'
     have hn : S 5 = false ∧ S 6 = false := by
      simp only [hSj] at hs'
      grind
     refine ⟨⟨True, .agg (eq (eh r)), gY r l (fun i => i == 3 || S i), []⟩, q9 (L := [rU]) rfl rfl ?_, ⟨by simp [fg], by simp [fg]⟩, fun w _ _ _ => dW _, fun x => dW _, gj _ _ _, fun p hp => e7 (gj r l (fun i => i == 3 || S i)) hp⟩
     · have e1 : aw Tryz.prog (fh S (iK l) (fg r l)) (.tmp 21) = .agg [.s (.int .i64 r.length), .sl 1 (r.taps.map cells), .sl 1 (r.state.map cells)] := by simp [aw, fh, fg, iK, gg, hp]
       have heta : ({ length := r.length, taps := r.taps, state := r.state } : Reg) = r := rfl
       simp only [List.map_cons, List.map_nil, e1]
       simp (maxSteps := 4000000) -implicitDefEqProofs only [rJ, rU, fX, heta, hr, eq, Ent.of0, Ent.of1, Ent.of2, Ent.of3, V, W3, ↓reduceIte, Nat.reduceAdd, Nat.reduceSub, Nat.reduceMul, Nat.reduceEqDiff, Nat.reduceLT, Nat.reduceLeDiff, reduceCtorEq, Int.reduceToNat, Nat.reduceBEq]
       rfl
   · subst hj
     have hSj : S 4 = false := hSj
     simp [mK] at hp hs'
     have hn : S 5 = false ∧ S 6 = false := by
      simp only [hSj] at hs'
      grind
     refine ⟨⟨True, .ptr 8 0, (8, .box zw) :: gY r l S, [(8, .c .any)]⟩, jP rfl ?_, ⟨by simp [fg], by simp [fg]⟩, by simp +contextual [fg, aj, aj.subCs, List.lookup, eq, hn], fun x => ?_, gj _ _ _, ?_⟩
     · cases h4 : S 4 <;> cases h1 : S 1 <;> simp [nx, ak, aw, fh, gg, fg, iK, gY, ky, eq, hp, hn, hSj, h4, h1, lk, cg, au, ah, aK, Value.oneCell', ay, ar, af, ag, aj, List.lookup, bm, zw, aE] <;> simp_all
     · simp only [iK, gg]
       repeat' split
       all_goals simp [aj, gt, lk, List.lookup]
     · cases h1 : S 1 <;> simp [gY, hSj, h1, hn, lk, zw, ky]
   · subst hj
     have hSj : S 5 = false := hSj
     simp [mK] at hp hs'
     have hn : S 6 = false := by
      simp only [hSj] at hs'
      grind
     refine ⟨⟨True, .own 20, gY r l (fun i => i == 5 || S i), []⟩, jP rfl ?_, ⟨by simp [fg], by simp [fg]⟩, fun w _ _ _ => dW _, fun x => dW _, gj _ _ _, fun p hp => e7 (gj r l (fun i => i == 5 || S i)) hp⟩
     cases h4 : S 4 <;> cases h1 : S 1 <;> simp [nx, ak, aw, fh, gg, fg, iK, gY, ky, eq, hp, hn, hSj, h4, h1, lk, cg, au, ah, aK, Value.oneCell', ay, ar, af, ag, aj, List.lookup, bm, zw, aE] <;> simp_all
   · subst hj
     have hSj : S 6 = false := hSj
     simp [mK] at hp hs'
     have hn : True := by
      simp only [hSj] at hs'
      grind
     refine ⟨⟨True, .s undef, gY r l (fun i => i == 6 || S i), []⟩, jP rfl ?_, by simp [fg], fun w _ _ _ => dW _, fun x => dW _, gj _ _ _, fun p hp => e7 (gj r l (fun i => i == 6 || S i)) hp⟩
     cases h4 : S 4 <;> cases h1 : S 1 <;> simp [nx, ak, aw, fh, gg, fg, iK, gY, ky, eq, hp, hn, hSj, h4, h1, lk, cg, au, ah, aK, Value.oneCell', ay, ar, af, ag, aj, List.lookup, bm, zw, aE] <;> simp_all
 · have e : fh S (iK l) (fg r l) = fh (fun _ => true) (iK l) (fg r l) := by
    simp [fh, fg, hS, scOs]
   have e2 : gY r l S = [(20, .row 1 3 (l.map cells)), (8, .box (eq (eh r))), (2, ky r)] := by
    simp [gY, hS, scOs]
   rw [e2]
   exact e ▸ hend
end Go.Proofs.YteoobfmbipmibaaGreat
end
section
open Go Go.Am
open Go.Am.Dat (cells)
namespace Go.Proofs.YteoobfmbipmibaaGreat
set_option maxHeartbeats 4000000
set_option maxRecDepth 100000
def jS (r : Reg) (l : List Int) (j : Nat) : List Int := (List.range l.length).map fun i => if i < j then ((il r l.length).getD i 0 + l.getD i 0) % 2 else l.getD i 0
theorem yi (r : Reg) (l : List Int) (j : Nat) : (jS r l j).set j (((il r l.length).getD j 0 + l.getD j 0) % 2) = jS r l (j + 1) := rng_set (f := fun i => ((il r l.length).getD i 0 + l.getD i 0) % 2) (g := fun i => l.getD i 0)
theorem wh (r : Reg) (l : List Int) : jS r l 0 = l := by
 apply List.ext_getElem (by simp [jS])
 intro i h1 h2
 simp only [jS, List.getElem_map, List.getElem_range]
 rw [if_neg (by omega), List.getD_eq_getElem?_getD, List.getElem?_eq_getElem h2]; rfl
theorem x7 (r : Reg) (l : List Int) (j : Nat) : (jS r l j).length = l.length := by simp [jS]
theorem zJ (r : Reg) (l : List Int) : jS r l l.length = kw r l := by
 unfold jS kw
 refine List.map_congr_left fun i hi => ?_
 rw [if_pos (List.mem_range.1 hi)]
theorem zi (r : Reg) (l : List Int) {j : Nat} (h : j < l.length) : (jS r l j).getD j 0 = l.getD j 0 := by
 unfold jS
 rw [eM _ _ h, if_neg (by omega)]
theorem bits_of {l : List Int} (h : eb l = 0) : 0 < l.length ∧ l.length ≤ 400 ∧ ∀ b ∈ l, b = 0 ∨ b = 1 := by
 unfold eb at h
 split at h
 · cases h
 · split at h
   · cases h
   · split at h
     · rename_i h1 h2 h3
       exact ⟨by omega, by omega, fun b hb => by simpa using List.all_eq_true.1 h3 b hb⟩
     · cases h
theorem xor_bit (a b : Int) (ha : a = 0 ∨ a = 1) (hb : b = 0 ∨ b = 1) : gD .xor .i64 a b = (b + a) % 2 := by
 rcases ha with rfl | rfl <;> rcases hb with rfl | rfl <;> decide +kernel
def ia (r : Reg) (l : List Int) : Int := if eA r ≠ 0 then eA r else eb l
theorem ul (r : Reg) (l : List Int) : FC Tryz.prog 16 [enc r, enc l] [] (.tup [enc (if ia r l = 0 then kw r l else []), enc (ia r l)]) [] := by
 have hfs : dl [eA r, eb l] = ia r l := by
  unfold ia
  simp only [dl]
  grind
 refine dF [] D.is16 (by simp) trivial trivial trivial trivial (fun cx _ hl _ => dj [sc, n7, dQ] 800 ?_)
 have heta : ({ length := r.length, taps := r.taps, state := r.state } : Reg) = r := rfl
 delta D.c16 oO oN oA oM oT oG oR oQ oS oK
 simp (maxSteps := 4000000) -implicitDefEqProofs only [D.rv16, sc, n7, dQ, gk, fX, heta, hfs, InR, Ent.of0, Ent.of1, Ent.of2, Ent.of3, V, W3, ↓reduceIte, Nat.reduceAdd, Nat.reduceSub, Nat.reduceMul, Nat.reduceEqDiff, Nat.reduceLT, Nat.reduceLeDiff, reduceCtorEq, Int.reduceToNat, Nat.reduceBEq]
 by_cases he : ia r l = 0
 rotate_left
 · rw [if_pos he]
   simp (maxSteps := 4000000) -implicitDefEqProofs only [he, Ent.of0, Ent.of1, Ent.of2, Ent.of3, V, W3, ↓reduceIte, Nat.reduceAdd, Nat.reduceSub, Nat.reduceMul, Nat.reduceEqDiff, Nat.reduceLT, Nat.reduceLeDiff, reduceCtorEq, Int.reduceToNat, Nat.reduceBEq]
 rw [if_neg (fun h => h he), if_pos he]
 have hre : eA r = 0 := by
  unfold ia at he
  split at he
  · contradiction
  · rename_i h; simpa using h
 have hbe : eb l = 0 := by
  unfold ia at he
  rwa [if_neg (by simpa using hre)] at he
 have hr := lh hre
 obtain ⟨h0, h400, hb⟩ := bits_of hbe
 refine sc_draw (r := r) (l := l) hr h0 (by omega) ?_
 simp only [fh, fg, iK, ky, if_true]
 refine dj [] 800 ?_
 simp (maxSteps := 4000000) -implicitDefEqProofs only [D.rv16, eq, Ent.of0, Ent.of1, Ent.of2, Ent.of3, V, W3, ↓reduceIte, Nat.reduceAdd, Nat.reduceSub, Nat.reduceMul, Nat.reduceEqDiff, Nat.reduceLT, Nat.reduceLeDiff, reduceCtorEq, Int.reduceToNat, Nat.reduceBEq]
 have hz := wh r l
 have hll := x7 r l
 refine dE l.length (fun j => [(25, .s (.int .i64 (j : Int)))]) (fun j => [(20, .row 1 3 ((jS r l j).map cells)), (8, .box (eq (eH (eh r) j)))]) (fun _ => True) trivial ?_ (fun j hj _ => dj [] 800 ?_)
 · simp (maxSteps := 4000000) -implicitDefEqProofs only [hz, eH, eq, Ent.of0, Ent.of1, Ent.of2, Ent.of3, V, W3, ↓reduceIte, Nat.reduceAdd, Nat.reduceSub, Nat.reduceMul, Nat.reduceEqDiff, Nat.reduceLT, Nat.reduceLeDiff, reduceCtorEq, Int.reduceToNat, Nat.reduceBEq]; simp
 · have hllj := hll j
   by_cases h : j < l.length
   · have hi2 : (j : Int) < (l.length : Int) := by omega
     have hw := qx (pe hr) j
     have hsm := nj (eh r) j
     have hout := uY hr j
     have hs : (il r l.length).getD j 0 = (runR r j).state.getD 0 0 := by unfold il; rw [eM _ _ h]
     have hsb := oV hr l.length j
     have hbj := gU hb j
     have hgr := e6 (cells (α := Int)) (jS r l j) j 0 [] (by rw [hllj]; exact h)
     rw [zi r l h, ko] at hgr
     have hset := congrArg (List.map (cells (α := Int))) (yi r l j)
     rw [List.map_set, ko] at hset
     have hx : gD .xor .i64 (l.getD j 0) (k7 (eH (eh r) j) : Int) = ((il r l.length).getD j 0 + l.getD j 0) % 2 := by
      rw [hout, ← hs]; exact xor_bit _ _ hbj hsb
     delta D.c16l1 oO oN oA oM oT oG oR oQ oS oK
     simp (maxSteps := 4000000) -implicitDefEqProofs only [D.rv16, hi2, eq, InR, WU, Int.reduceAdd, Int.reduceSub, Int.reduceMul, Int.reduceLT, Int.reduceLE, Int.reduceTMod, Int.reduceTDiv, Int.reduceNeg, Int.reduceEq, Nat.reducePow, Int.reducePow, Ent.of0, Ent.of1, Ent.of2, Ent.of3, V, W3, ↓reduceIte, Nat.reduceAdd, Nat.reduceSub, Nat.reduceMul, Nat.reduceEqDiff, Nat.reduceLT, Nat.reduceLeDiff, reduceCtorEq, Int.reduceToNat, Nat.reduceBEq]
     have hweta : ({ bits := (eH (eh r) j).bits, taps := (eH (eh r) j).taps, top := (eH (eh r) j).top } : Wire) = eH (eh r) j := rfl
     refine tw [rI] 200 ?_
     simp (maxSteps := 4000000) -implicitDefEqProofs only [drS, nc, robC, reC, fixS, jh, AOp.reads, true_or, or_true, false_or, rI, jB, hweta, Int.toNat_natCast, hllj, hgr, hw, hx, hset, InR, WU, Int.reduceAdd, Int.reduceSub, Int.reduceMul, Int.reduceLT, Int.reduceLE, Int.reduceTMod, Int.reduceTDiv, Int.reduceNeg, Int.reduceEq, Nat.reducePow, Int.reducePow, Ent.of0, Ent.of1, Ent.of2, Ent.of3, V, W3, ↓reduceIte, Nat.reduceAdd, Nat.reduceSub, Nat.reduceMul, Nat.reduceEqDiff, Nat.reduceLT, Nat.reduceLeDiff, reduceCtorEq, Int.reduceToNat, Nat.reduceBEq]
     refine ⟨by omega, h, by omega, by omega, h, ⟨by omega, h⟩, dj [] 400 ?_⟩
     have hr1 : eH (eh r) (j + 1) = hY (eH (eh r) j) := rfl
     have hr2 : (hY (eH (eh r) j)).taps = (eH (eh r) j).taps := rfl
     have hr3 : (hY (eH (eh r) j)).top = (eH (eh r) j).top := rfl
     simp (maxSteps := 4000000) -implicitDefEqProofs only [hr1, hr2, hr3, InR, WU, Int.reduceAdd, Int.reduceSub, Int.reduceMul, Int.reduceLT, Int.reduceLE, Int.reduceTMod, Int.reduceTDiv, Int.reduceNeg, Int.reduceEq, Nat.reducePow, Int.reducePow, Ent.of0, Ent.of1, Ent.of2, Ent.of3, V, W3, ↓reduceIte, Nat.reduceAdd, Nat.reduceSub, Nat.reduceMul, Nat.reduceEqDiff, Nat.reduceLT, Nat.reduceLeDiff, reduceCtorEq, Int.reduceToNat, Nat.reduceBEq]
     omega
   · have hi2 : ¬ (j : Int) < (l.length : Int) := by omega
     have hje : j = l.length := by omega
     subst hje
     have he2 := zJ r l
     delta D.c16l1 oO oN oA oM oT oG oR oQ oS oK
     simp (maxSteps := 4000000) -implicitDefEqProofs only [D.rv16, hi2, he, he2, InR, Ent.of0, Ent.of1, Ent.of2, Ent.of3, V, W3, ↓reduceIte, Nat.reduceAdd, Nat.reduceSub, Nat.reduceMul, Nat.reduceEqDiff, Nat.reduceLT, Nat.reduceLeDiff, reduceCtorEq, Int.reduceToNat, Nat.reduceBEq]
def ent16 : Ent Tryz.prog := .of2 16 (fun _ _ => True) (fun (r : Reg) (l : List Int) => .tup [enc (if ia r l = 0 then kw r l else []), enc (ia r l)]) (fun _ _ => ⟨trivial, trivial, trivial⟩) (fun r l _ => ul r l)
end Go.Proofs.YteoobfmbipmibaaGreat
end
section
open Go Go.Am
open Go.Am.Dat (cells)
namespace Go.Proofs.YteoobfmbipmibaaGreat
set_option maxHeartbeats 4000000
set_option maxRecDepth 100000
theorem yu (r : Reg) (l : List Int) : (kw r l).length = l.length := by simp [kw]
theorem ym (r : Reg) (l : List Int) {i : Nat} (h : i < l.length) : (kw r l).getD i 0 = ((il r l.length).getD i 0 + l.getD i 0) % 2 := by
 unfold kw
 rw [eM _ _ h]
theorem wJ (r : Reg) (l : List Int) : ∀ b ∈ kw r l, b = 0 ∨ b = 1 := by
 intro b hb
 unfold kw at hb
 obtain ⟨i, _, rfl⟩ := List.mem_map.1 hb
 omega
theorem pv {l : List Int} (h0 : 0 < l.length) (h4 : l.length ≤ 400) (hb : ∀ b ∈ l, b = 0 ∨ b = 1) : eb l = 0 := by
 unfold eb
 rw [if_neg (by omega), if_neg (by omega), if_pos]
 rw [List.all_eq_true]
 intro b hbm
 simpa using hb b hbm
end Go.Proofs.YteoobfmbipmibaaGreat
end
section
open Go Go.Am
open Go.Am.Dat (cells)
namespace Go.Proofs.YteoobfmbipmibaaGreat
set_option maxHeartbeats 4000000
set_option maxRecDepth 100000
theorem wI (n lo hi : Int) : FC Tryz.prog 99 [enc n, enc lo, enc hi] [] (enc (decide (lo ≤ n ∧ n ≤ hi))) [] := by
 refine dk is99 (by simp) (fun cx hl => dj [] 800 ?_)
 delta c99 oO oN oA oM oT oG oR oQ oS oK
 simp (maxSteps := 4000000) -implicitDefEqProofs only [rv99, Ent.of0, Ent.of1, Ent.of2, Ent.of3, V, W3, ↓reduceIte, Nat.reduceAdd, Nat.reduceSub, Nat.reduceMul, Nat.reduceEqDiff, Nat.reduceLT, Nat.reduceLeDiff, reduceCtorEq, Int.reduceToNat, Nat.reduceBEq]
 by_cases h : lo ≤ n <;> simp [h]
def gJ : Ent Tryz.prog := .of3 99 (fun _ _ _ => True) (fun n lo hi : Int => enc (decide (lo ≤ n ∧ n ≤ hi))) (fun _ _ _ => trivial) (fun n lo hi _ => wI n lo hi)
theorem xG (b : Bool) (e : Int) : FC Tryz.prog 49 [enc b, enc e] [] (enc (if b then 0 else e)) [] := by
 refine dk is49 (by simp) (fun cx hl => dj [] 800 ?_)
 delta c49 oO oN oA oM oT oG oR oQ oS oK
 simp (maxSteps := 4000000) -implicitDefEqProofs only [rv49, Ent.of0, Ent.of1, Ent.of2, Ent.of3, V, W3, ↓reduceIte, Nat.reduceAdd, Nat.reduceSub, Nat.reduceMul, Nat.reduceEqDiff, Nat.reduceLT, Nat.reduceLeDiff, reduceCtorEq, Int.reduceToNat, Nat.reduceBEq]
 cases b <;> simp
def fV : Ent Tryz.prog := .of2 49 (fun _ _ => True) (fun (b : Bool) (e : Int) => enc (if b then 0 else e)) (fun _ _ => trivial) (fun b e _ => xG b e)
theorem yb (l : List Int) : FC Tryz.prog 46 [enc l] [] (enc (dl l)) [] := by
 refine dk is46 (by simp) (fun cx hl => dj [] 800 ?_)
 simp only [V, W3, ↓reduceIte, Nat.reduceAdd, Nat.reduceSub, Nat.reduceMul, Nat.reduceEqDiff, Nat.reduceLT, Nat.reduceLeDiff, reduceCtorEq, Int.reduceToNat, Nat.reduceBEq] at hl
 have hlen := hl.list
 delta c46 oO oN oA oM oT oG oR oQ oS oK
 simp (maxSteps := 4000000) -implicitDefEqProofs only [rv46, Ent.of0, Ent.of1, Ent.of2, Ent.of3, V, W3, ↓reduceIte, Nat.reduceAdd, Nat.reduceSub, Nat.reduceMul, Nat.reduceEqDiff, Nat.reduceLT, Nat.reduceLeDiff, reduceCtorEq, Int.reduceToNat, Nat.reduceBEq]
 refine hM l.length (fun i => ⟨[(5, enc l), (6, .s (.int .i64 l.length)), (7, .s (.int .i64 i))], []⟩) (fun i => dl l = dl (l.drop i)) rfl ?_ (fun i hi hv => dj [] 800 ?_)
 · simp only [V, W3, ↓reduceIte, Nat.reduceAdd, Nat.reduceSub, Nat.reduceMul, Nat.reduceEqDiff, Nat.reduceLT, Nat.reduceLeDiff, reduceCtorEq, Int.reduceToNat, Nat.reduceBEq]; simp
 · delta c46l1 oO oN oA oM oT oG oR oQ oS oK
   simp (maxSteps := 4000000) -implicitDefEqProofs only [Ent.of0, Ent.of1, Ent.of2, Ent.of3, V, W3, ↓reduceIte, Nat.reduceAdd, Nat.reduceSub, Nat.reduceMul, Nat.reduceEqDiff, Nat.reduceLT, Nat.reduceLeDiff, reduceCtorEq, Int.reduceToNat, Nat.reduceBEq]
   by_cases h : i < l.length
   · rw [dT 0 h, dl] at hv
     rw [if_pos (by omega)]
     refine ⟨by omega, ?_⟩
     split
     · rename_i hc; rw [hv, if_pos hc]
     · rename_i hc; exact ⟨by simp only [InR]; omega, h, by rw [hv, if_neg hc], by omega⟩
   · rw [if_neg (by omega), hv, List.drop_eq_nil_of_le (by omega)]; rfl
def e8 : Ent Tryz.prog := .of1 46 (fun _ => True) (fun l : List Int => enc (dl l)) (fun _ => trivial) (fun l _ => yb l)
theorem isBit_c (n : Int) : FC Tryz.prog 98 [enc n] [] (enc (decide (n = 0 ∨ n = 1))) [] := by
 refine dk is98 (by simp) (fun cx hl => dj [] 800 ?_)
 by_cases h : n = 0
 · delta c98 oO oN oA oM oT oG oR oQ oS oK
   simp (maxSteps := 4000000) -implicitDefEqProofs only [rv98, h, Ent.of0, Ent.of1, Ent.of2, Ent.of3, V, W3, ↓reduceIte, Nat.reduceAdd, Nat.reduceSub, Nat.reduceMul, Nat.reduceEqDiff, Nat.reduceLT, Nat.reduceLeDiff, reduceCtorEq, Int.reduceToNat, Nat.reduceBEq]
   simp
 · delta c98 oO oN oA oM oT oG oR oQ oS oK
   simp (maxSteps := 4000000) -implicitDefEqProofs only [rv98, h, Ent.of0, Ent.of1, Ent.of2, Ent.of3, V, W3, ↓reduceIte, Nat.reduceAdd, Nat.reduceSub, Nat.reduceMul, Nat.reduceEqDiff, Nat.reduceLT, Nat.reduceLeDiff, reduceCtorEq, Int.reduceToNat, Nat.reduceBEq]
   try simp
def ent98 : Ent Tryz.prog := .of1 98 (fun _ => True) (fun n : Int => enc (decide (n = 0 ∨ n = 1))) (fun _ => trivial) (fun n _ => isBit_c n)
theorem ut (n : Int) : FC Tryz.prog 50 [enc n] [] (enc (decide (0 ≤ n ∧ n ≤ 3))) [] := by
 refine dk is50 (by simp) (fun cx hl => dj [gJ] 800 ?_)
 delta c50 oO oN oA oM oT oG oR oQ oS oK
 simp (maxSteps := 4000000) -implicitDefEqProofs only [rv50, gJ, Ent.of0, Ent.of1, Ent.of2, Ent.of3, V, W3, ↓reduceIte, Nat.reduceAdd, Nat.reduceSub, Nat.reduceMul, Nat.reduceEqDiff, Nat.reduceLT, Nat.reduceLeDiff, reduceCtorEq, Int.reduceToNat, Nat.reduceBEq]
def rM : Ent Tryz.prog := .of1 50 (fun _ => True) (fun n : Int => enc (decide (0 ≤ n ∧ n ≤ 3))) (fun _ => trivial) (fun n _ => ut n)
theorem xJ (n : Int) : FC Tryz.prog 96 [enc n] [] (enc (decide (1 ≤ n ∧ n ≤ 400))) [] := by
 refine dk is96 (by simp) (fun cx hl => dj [gJ] 800 ?_)
 delta c96 oO oN oA oM oT oG oR oQ oS oK
 simp (maxSteps := 4000000) -implicitDefEqProofs only [rv96, gJ, Ent.of0, Ent.of1, Ent.of2, Ent.of3, V, W3, ↓reduceIte, Nat.reduceAdd, Nat.reduceSub, Nat.reduceMul, Nat.reduceEqDiff, Nat.reduceLT, Nat.reduceLeDiff, reduceCtorEq, Int.reduceToNat, Nat.reduceBEq]
def ent96 : Ent Tryz.prog := .of1 96 (fun _ => True) (fun n : Int => enc (decide (1 ≤ n ∧ n ≤ 400))) (fun _ => trivial) (fun n _ => xJ n)
theorem vX (n : Int) : FC Tryz.prog 84 [enc n] [] (enc (decide (1 ≤ n ∧ n ≤ 200))) [] := by
 refine dk is84 (by simp) (fun cx hl => dj [gJ] 800 ?_)
 delta c84 oO oN oA oM oT oG oR oQ oS oK
 simp (maxSteps := 4000000) -implicitDefEqProofs only [rv84, gJ, Ent.of0, Ent.of1, Ent.of2, Ent.of3, V, W3, ↓reduceIte, Nat.reduceAdd, Nat.reduceSub, Nat.reduceMul, Nat.reduceEqDiff, Nat.reduceLT, Nat.reduceLeDiff, reduceCtorEq, Int.reduceToNat, Nat.reduceBEq]
def ent84 : Ent Tryz.prog := .of1 84 (fun _ => True) (fun n : Int => enc (decide (1 ≤ n ∧ n ≤ 200))) (fun _ => trivial) (fun n _ => vX n)
theorem wi (n : Int) : FC Tryz.prog 122 [enc n] [] (enc (decide (0 ≤ n ∧ n ≤ 6))) [] := by
 refine dk is122 (by simp) (fun cx hl => dj [gJ] 800 ?_)
 delta c122 oO oN oA oM oT oG oR oQ oS oK
 simp (maxSteps := 4000000) -implicitDefEqProofs only [rv122, gJ, Ent.of0, Ent.of1, Ent.of2, Ent.of3, V, W3, ↓reduceIte, Nat.reduceAdd, Nat.reduceSub, Nat.reduceMul, Nat.reduceEqDiff, Nat.reduceLT, Nat.reduceLeDiff, reduceCtorEq, Int.reduceToNat, Nat.reduceBEq]
def pH : Ent Tryz.prog := .of1 122 (fun _ => True) (fun n : Int => enc (decide (0 ≤ n ∧ n ≤ 6))) (fun _ => trivial) (fun n _ => wi n)
end Go.Proofs.YteoobfmbipmibaaGreat
end
section
open Go Go.Am
open Go.Am.Dat (cells)
namespace Go.Proofs.YteoobfmbipmibaaGreat
set_option maxHeartbeats 4000000
set_option maxRecDepth 100000
def gq (n : Int) : Bool := decide (n = 0 ∨ n = 1)
def fe (m n : Int) : Bool := decide (-m ≤ n ∧ n ≤ m)
theorem cl131_c (m : Int) (hm : InR .i64 (-m)) (n : Int) : FC Tryz.prog 131 [enc n, .ref [.s (.int .i64 m)]] [] (enc (fe m n)) [] := by
 refine dk is131 (by simp) (fun cx hl => dj [gJ] 800 ?_)
 delta c131 oO oN oA oM oT oG oR oQ oS oK
 simp (maxSteps := 4000000) -implicitDefEqProofs only [rv131, gJ, hm, fe, Ent.of0, Ent.of1, Ent.of2, Ent.of3, V, W3, ↓reduceIte, Nat.reduceAdd, Nat.reduceSub, Nat.reduceMul, Nat.reduceEqDiff, Nat.reduceLT, Nat.reduceLeDiff, reduceCtorEq, Int.reduceToNat, Nat.reduceBEq]
def e131 (m : Int) (hm : InR .i64 (-m)) : Ent Tryz.prog := .mk3 131 (fun args chs => match args, chs with
 | [.s (.int .i64 n), .ref [.s (.int .i64 m')]], [] => some (m' = m, enc (fe m n), [], [])
 | _, _ => none) (by
 intro args chs p r chs' nk hs hp
 split at hs
 · simp only [Option.some.injEq, Prod.mk.injEq] at hs
   obtain ⟨rfl, rfl, rfl, rfl⟩ := hs
   cases hp
   exact ⟨cl131_c _ hm _, .plain trivial⟩
 · cases hs)
theorem yA (n : Int) : FC Tryz.prog 124 [enc n, .ptr 100000 0] [(100000, .box [.fn (.func 98) [] []])] (enc (!gq n)) [(100000, .box [.fn (.func 98) [] []])] := by
 refine dF [] is124 (by simp) (by simp [bf]) (by simp [an, ae, aq]) (by simp [an, ae, aq]) (by simp [aF, lk]) (fun cx _ _ _ => dj [ent98] 800 ?_)
 delta c124 oO oN oA oM oT oG oR oQ oS oK
 simp (maxSteps := 4000000) -implicitDefEqProofs only [rv124, ent98, gq, Ent.of0, Ent.of1, Ent.of2, Ent.of3, V, W3, ↓reduceIte, Nat.reduceAdd, Nat.reduceSub, Nat.reduceMul, Nat.reduceEqDiff, Nat.reduceLT, Nat.reduceLeDiff, reduceCtorEq, Int.reduceToNat, Nat.reduceBEq]
def e124A : Ent Tryz.prog where
 id := 124
 sp := fun _ _ => none
 ok := by intro _ _ _ _ _ _ h; cases h
 kp := fun args chs => match args, chs with
  | [x, .ptr k o], [(k', .box [.fn (.func f) [] []])] => (eW x).bind fun n : Int => some (k = 100000 ∧ o = 0 ∧ k' = 100000 ∧ f = 98, enc (!gq n))
  | _, _ => none
 kpok := by
  intro args chs p r hs hp
  split at hs
  · simp only [Option.bind_eq_some_iff, Option.some.injEq, Prod.mk.injEq] at hs
    obtain ⟨g, hg, rfl, rfl⟩ := hs
    obtain ⟨rfl, rfl, rfl, rfl⟩ := hp
    exact ⟨(yA g).le (args' := [_, _]) ⟨eB hg, et _, trivial⟩, rfl, trivial⟩
  · cases hs
theorem uw (l : List Int) : FC Tryz.prog 136 [enc l, .fn (.func 124) [] [.ptr 100000 0]] [(100000, .box [.fn (.func 98) [] []])] (enc (eX l fun n => !gq n)) [(100000, .box [.fn (.func 98) [] []])] := by
 refine dF [] is136 (by simp) (by simp [bf]) (by simp [an, ae, aq]) (by simp [an, ae, aq]) (by simp [aF, lk]) (fun cx _ hl _ => dj [] 800 ?_)
 simp only [V, W3, ↓reduceIte, Nat.reduceAdd, Nat.reduceSub, Nat.reduceMul, Nat.reduceEqDiff, Nat.reduceLT, Nat.reduceLeDiff, reduceCtorEq, Int.reduceToNat, Nat.reduceBEq] at hl
 have hlen := hl.list (l := l)
 delta c136 oO oN oA oM oT oG oR oQ oS oK
 simp (maxSteps := 4000000) -implicitDefEqProofs only [j7, Ent.of0, Ent.of1, Ent.of2, Ent.of3, V, W3, ↓reduceIte, Nat.reduceAdd, Nat.reduceSub, Nat.reduceMul, Nat.reduceEqDiff, Nat.reduceLT, Nat.reduceLeDiff, reduceCtorEq, Int.reduceToNat, Nat.reduceBEq]
 refine dE l.length (fun i => [(8, .s (.int .i64 i))]) (fun _ => []) (fun i => ∀ j, j < i → (!gq (l.getD j 0)) = false) (by omega) ?_ (fun i hi hv => dj [e124A] 800 ?_)
 · simp (maxSteps := 4000000) -implicitDefEqProofs only [Ent.of0, Ent.of1, Ent.of2, Ent.of3, V, W3, ↓reduceIte, Nat.reduceAdd, Nat.reduceSub, Nat.reduceMul, Nat.reduceEqDiff, Nat.reduceLT, Nat.reduceLeDiff, reduceCtorEq, Int.reduceToNat, Nat.reduceBEq]; simp
 · by_cases h : i < l.length
   · have hi2 : (i : Int) < (l.length : Int) := by omega
     cases hp : gq (l.getD i 0) with
     | false =>
      have : l.findIdx? (fun n => !gq n) = some i := by
       rw [List.findIdx?_eq_some_iff_getElem]
       rw [List.getD_eq_getElem?_getD, List.getElem?_eq_getElem h] at hp
       refine ⟨h, by simpa using hp, fun j hj => ?_⟩
       have := hv j hj
       rw [List.getD_eq_getElem?_getD, List.getElem?_eq_getElem (by omega)] at this
       simpa using this
      delta ku oO oN oA oM oT oG oR oQ oS oK
      simp (maxSteps := 4000000) -implicitDefEqProofs only [j7, hi2, h, e124A, hp, eX, this, InR, Ent.of0, Ent.of1, Ent.of2, Ent.of3, V, W3, ↓reduceIte, Nat.reduceAdd, Nat.reduceSub, Nat.reduceMul, Nat.reduceEqDiff, Nat.reduceLT, Nat.reduceLeDiff, reduceCtorEq, Int.reduceToNat, Nat.reduceBEq]
      try omega
     | true =>
      delta ku oO oN oA oM oT oG oR oQ oS oK
      simp (maxSteps := 4000000) -implicitDefEqProofs only [j7, hi2, h, e124A, hp, InR, Ent.of0, Ent.of1, Ent.of2, Ent.of3, V, W3, ↓reduceIte, Nat.reduceAdd, Nat.reduceSub, Nat.reduceMul, Nat.reduceEqDiff, Nat.reduceLT, Nat.reduceLeDiff, reduceCtorEq, Int.reduceToNat, Nat.reduceBEq]
      refine ⟨by omega, by omega, fun j hj => ?_, by omega⟩
      by_cases hj2 : j = i
      · rw [hj2, hp]; rfl
      · exact hv j (by omega)
   · have hi2 : ¬ (i : Int) < (l.length : Int) := by omega
     have : l.findIdx? (fun n => !gq n) = none := by
      rw [List.findIdx?_eq_none_iff]
      intro x hx
      obtain ⟨j, hj, rfl⟩ := List.getElem_of_mem hx
      have := hv j (by omega)
      rwa [List.getD_eq_getElem?_getD, List.getElem?_eq_getElem hj] at this
     delta ku oO oN oA oM oT oG oR oQ oS oK
     simp (maxSteps := 4000000) -implicitDefEqProofs only [j7, hi2, eX, this, InR, Ent.of0, Ent.of1, Ent.of2, Ent.of3, V, W3, ↓reduceIte, Nat.reduceAdd, Nat.reduceSub, Nat.reduceMul, Nat.reduceEqDiff, Nat.reduceLT, Nat.reduceLeDiff, reduceCtorEq, Int.reduceToNat, Nat.reduceBEq]
def e136A : Ent Tryz.prog where
 id := 136
 sp := fun _ _ => none
 ok := by intro _ _ _ _ _ _ h; cases h
 kp := fun args chs => match args, chs with
  | [x, .fn (.func g) [] [.ptr k o]], [(k', .box [.fn (.func f) [] []])] => (eW x).bind fun l : List Int => some (k = 100000 ∧ o = 0 ∧ g = 124 ∧ k' = 100000 ∧ f = 98, enc (eX l fun n => !gq n))
  | _, _ => none
 kpok := by
  intro args chs p r hs hp
  split at hs
  · simp only [Option.bind_eq_some_iff, Option.some.injEq, Prod.mk.injEq] at hs
    obtain ⟨g, hg, rfl, rfl⟩ := hs
    obtain ⟨rfl, rfl, rfl, rfl, rfl⟩ := hp
    exact ⟨(uw g).le (args' := [_, _]) ⟨eB hg, et _, trivial⟩, rfl, trivial⟩
  · cases hs
theorem qu (l : List Int) : FC Tryz.prog 123 [enc l, .fn (.func 124) [] [.ptr 100000 0]] [(100000, .box [.fn (.func 98) [] []])] (enc (l.any fun n => !gq n)) [(100000, .box [.fn (.func 98) [] []])] := by
 refine dF [] is123 (by simp) (by simp [bf]) (by simp [an, ae, aq]) (by simp [an, ae, aq]) (by simp [aF, lk]) (fun cx _ hl _ => dj [e136A] 800 ?_)
 rw [← mL]
 delta c123 oO oN oA oM oT oG oR oQ oS oK
 simp (maxSteps := 4000000) -implicitDefEqProofs only [rY, e136A, Ent.of0, Ent.of1, Ent.of2, Ent.of3, V, W3, ↓reduceIte, Nat.reduceAdd, Nat.reduceSub, Nat.reduceMul, Nat.reduceEqDiff, Nat.reduceLT, Nat.reduceLeDiff, reduceCtorEq, Int.reduceToNat, Nat.reduceBEq]
def e123A : Ent Tryz.prog where
 id := 123
 sp := fun _ _ => none
 ok := by intro _ _ _ _ _ _ h; cases h
 kp := fun args chs => match args, chs with
  | [x, .fn (.func g) [] [.ptr k o]], [(k', .box [.fn (.func f) [] []])] => (eW x).bind fun l : List Int => some (k = 100000 ∧ o = 0 ∧ g = 124 ∧ k' = 100000 ∧ f = 98, enc (l.any fun n => !gq n))
  | _, _ => none
 kpok := by
  intro args chs p r hs hp
  split at hs
  · simp only [Option.bind_eq_some_iff, Option.some.injEq, Prod.mk.injEq] at hs
    obtain ⟨g, hg, rfl, rfl⟩ := hs
    obtain ⟨rfl, rfl, rfl, rfl, rfl⟩ := hp
    exact ⟨(qu g).le (args' := [_, _]) ⟨eB hg, et _, trivial⟩, rfl, trivial⟩
  · cases hs
theorem zv (m : Int) (hm : InR .i64 (-m)) (n : Int) : FC Tryz.prog 124 [enc n, .ptr 100000 0] [(100000, .box [.fn (.func 131) [] [.ref [.s (.int .i64 m)]]])] (enc (!fe m n)) [(100000, .box [.fn (.func 131) [] [.ref [.s (.int .i64 m)]]])] := by
 refine dF [] is124 (by simp) (by simp [bf]) (by simp [an, ae, aq]) (by simp [an, ae, aq]) (by simp [aF, lk]) (fun cx _ _ _ => dj [e131 m hm] 800 ?_)
 delta c124 oO oN oA oM oT oG oR oQ oS oK
 simp (maxSteps := 4000000) -implicitDefEqProofs only [rv124, e131, Ent.of0, Ent.of1, Ent.of2, Ent.of3, V, W3, ↓reduceIte, Nat.reduceAdd, Nat.reduceSub, Nat.reduceMul, Nat.reduceEqDiff, Nat.reduceLT, Nat.reduceLeDiff, reduceCtorEq, Int.reduceToNat, Nat.reduceBEq]
def e124B (m : Int) (hm : InR .i64 (-m)) : Ent Tryz.prog where
 id := 124
 sp := fun args chs => match args, chs with
  | [x, .ptr k o], [(k', .box [.fn (.func f) [] [.ref [.s (.int .i64 m')]]])] => (eW x).bind fun n : Int => some (k = 100000 ∧ o = 0 ∧ k' = 100000 ∧ f = 131 ∧ m' = m, enc (!fe m n), [(100000, .box [.fn (.func 131) [] [.ref [.s (.int .i64 m)]]])], [])
  | _, _ => none
 ok := by
  intro args chs p r chs' nk hs hp
  split at hs
  · simp only [Option.bind_eq_some_iff, Option.some.injEq, Prod.mk.injEq] at hs
    obtain ⟨g, hg, rfl, rfl, rfl, rfl⟩ := hs
    obtain ⟨rfl, rfl, rfl, rfl, rfl⟩ := hp
    refine ⟨(zv _ hm g).le (args' := [_, _]) ⟨eB hg, et _, trivial⟩, ⟨fun k c h => ?_, fun k cs h => ?_, trivial, fun k c h => ?_⟩⟩
    · simp only [List.mem_singleton, Prod.mk.injEq] at h; exact .inr ⟨_, by rw [h.1]; exact List.mem_singleton.2 rfl⟩
    · simp only [List.mem_singleton, Prod.mk.injEq] at h; exact ⟨_, by rw [h.1]; exact List.mem_singleton.2 rfl⟩
    · simp only [List.mem_singleton, Prod.mk.injEq] at h; rw [h.2]; simp [iR, dm, dm.keysIns]
  · cases hs
theorem uA (m : Int) (hm : InR .i64 (-m)) (l : List Int) : FC Tryz.prog 136 [enc l, .fn (.func 124) [] [.ptr 100000 0]] [(100000, .box [.fn (.func 131) [] [.ref [.s (.int .i64 m)]]])] (enc (eX l fun n => !fe m n)) [(100000, .box [.fn (.func 131) [] [.ref [.s (.int .i64 m)]]])] := by
 refine dF [] is136 (by simp) (by simp [bf]) (by simp [an, ae, aq]) (by simp [an, ae, aq]) (by simp [aF, lk]) (fun cx _ hl _ => dj [] 800 ?_)
 simp only [V, W3, ↓reduceIte, Nat.reduceAdd, Nat.reduceSub, Nat.reduceMul, Nat.reduceEqDiff, Nat.reduceLT, Nat.reduceLeDiff, reduceCtorEq, Int.reduceToNat, Nat.reduceBEq] at hl
 have hlen := hl.list (l := l)
 delta c136 oO oN oA oM oT oG oR oQ oS oK
 simp (maxSteps := 4000000) -implicitDefEqProofs only [j7, Ent.of0, Ent.of1, Ent.of2, Ent.of3, V, W3, ↓reduceIte, Nat.reduceAdd, Nat.reduceSub, Nat.reduceMul, Nat.reduceEqDiff, Nat.reduceLT, Nat.reduceLeDiff, reduceCtorEq, Int.reduceToNat, Nat.reduceBEq]
 refine dE l.length (fun i => [(8, .s (.int .i64 i))]) (fun _ => []) (fun i => ∀ j, j < i → (!fe m (l.getD j 0)) = false) (by omega) ?_ (fun i hi hv => dj [e124B m hm] 800 ?_)
 · simp (maxSteps := 4000000) -implicitDefEqProofs only [Ent.of0, Ent.of1, Ent.of2, Ent.of3, V, W3, ↓reduceIte, Nat.reduceAdd, Nat.reduceSub, Nat.reduceMul, Nat.reduceEqDiff, Nat.reduceLT, Nat.reduceLeDiff, reduceCtorEq, Int.reduceToNat, Nat.reduceBEq]; simp
 · by_cases h : i < l.length
   · have hi2 : (i : Int) < (l.length : Int) := by omega
     cases hp : fe m (l.getD i 0) with
     | false =>
      have : l.findIdx? (fun n => !fe m n) = some i := by
       rw [List.findIdx?_eq_some_iff_getElem]
       rw [List.getD_eq_getElem?_getD, List.getElem?_eq_getElem h] at hp
       refine ⟨h, by simpa using hp, fun j hj => ?_⟩
       have := hv j hj
       rw [List.getD_eq_getElem?_getD, List.getElem?_eq_getElem (by omega)] at this
       simpa using this
      delta ku oO oN oA oM oT oG oR oQ oS oK
      simp (maxSteps := 4000000) -implicitDefEqProofs only [j7, hi2, h, e124B, hp, eX, this, InR, Ent.of0, Ent.of1, Ent.of2, Ent.of3, V, W3, ↓reduceIte, Nat.reduceAdd, Nat.reduceSub, Nat.reduceMul, Nat.reduceEqDiff, Nat.reduceLT, Nat.reduceLeDiff, reduceCtorEq, Int.reduceToNat, Nat.reduceBEq]
      try omega
     | true =>
      delta ku oO oN oA oM oT oG oR oQ oS oK
      simp (maxSteps := 4000000) -implicitDefEqProofs only [j7, hi2, h, e124B, hp, InR, Ent.of0, Ent.of1, Ent.of2, Ent.of3, V, W3, ↓reduceIte, Nat.reduceAdd, Nat.reduceSub, Nat.reduceMul, Nat.reduceEqDiff, Nat.reduceLT, Nat.reduceLeDiff, reduceCtorEq, Int.reduceToNat, Nat.reduceBEq]
      refine ⟨by omega, by omega, fun j hj => ?_, by omega⟩
      by_cases hj2 : j = i
      · rw [hj2, hp]; rfl
      · exact hv j (by omega)
   · have hi2 : ¬ (i : Int) < (l.length : Int) := by omega
     have : l.findIdx? (fun n => !fe m n) = none := by
      rw [List.findIdx?_eq_none_iff]
      intro x hx
      obtain ⟨j, hj, rfl⟩ := List.getElem_of_mem hx
      have := hv j (by omega)
      rwa [List.getD_eq_getElem?_getD, List.getElem?_eq_getElem hj] at this
     delta ku oO oN oA oM oT oG oR oQ oS oK
     simp (maxSteps := 4000000) -implicitDefEqProofs only [j7, hi2, eX, this, InR, Ent.of0, Ent.of1, Ent.of2, Ent.of3, V, W3, ↓reduceIte, Nat.reduceAdd, Nat.reduceSub, Nat.reduceMul, Nat.reduceEqDiff, Nat.reduceLT, Nat.reduceLeDiff, reduceCtorEq, Int.reduceToNat, Nat.reduceBEq]
def e136B (m : Int) (hm : InR .i64 (-m)) : Ent Tryz.prog where
 id := 136
 sp := fun args chs => match args, chs with
  | [x, .fn (.func g) [] [.ptr k o]], [(k', .box [.fn (.func f) [] [.ref [.s (.int .i64 m')]]])] => (eW x).bind fun l : List Int => some (k = 100000 ∧ o = 0 ∧ g = 124 ∧ k' = 100000 ∧ f = 131 ∧ m' = m, enc (eX l fun n => !fe m n), [(100000, .box [.fn (.func 131) [] [.ref [.s (.int .i64 m)]]])], [])
  | _, _ => none
 ok := by
  intro args chs p r chs' nk hs hp
  split at hs
  · simp only [Option.bind_eq_some_iff, Option.some.injEq, Prod.mk.injEq] at hs
    obtain ⟨g, hg, rfl, rfl, rfl, rfl⟩ := hs
    obtain ⟨rfl, rfl, rfl, rfl, rfl, rfl⟩ := hp
    refine ⟨(uA _ hm g).le (args' := [_, _]) ⟨eB hg, et _, trivial⟩, ⟨fun k c h => ?_, fun k cs h => ?_, trivial, fun k c h => ?_⟩⟩
    · simp only [List.mem_singleton, Prod.mk.injEq] at h; exact .inr ⟨_, by rw [h.1]; exact List.mem_singleton.2 rfl⟩
    · simp only [List.mem_singleton, Prod.mk.injEq] at h; exact ⟨_, by rw [h.1]; exact List.mem_singleton.2 rfl⟩
    · simp only [List.mem_singleton, Prod.mk.injEq] at h; rw [h.2]; simp [iR, dm, dm.keysIns]
  · cases hs
theorem qr (m : Int) (hm : InR .i64 (-m)) (l : List Int) : FC Tryz.prog 123 [enc l, .fn (.func 124) [] [.ptr 100000 0]] [(100000, .box [.fn (.func 131) [] [.ref [.s (.int .i64 m)]]])] (enc (l.any fun n => !fe m n)) [(100000, .box [.fn (.func 131) [] [.ref [.s (.int .i64 m)]]])] := by
 refine dF [] is123 (by simp) (by simp [bf]) (by simp [an, ae, aq]) (by simp [an, ae, aq]) (by simp [aF, lk]) (fun cx _ hl _ => dj [e136B m hm] 800 ?_)
 rw [← mL]
 delta c123 oO oN oA oM oT oG oR oQ oS oK
 simp (maxSteps := 4000000) -implicitDefEqProofs only [rY, e136B, Ent.of0, Ent.of1, Ent.of2, Ent.of3, V, W3, ↓reduceIte, Nat.reduceAdd, Nat.reduceSub, Nat.reduceMul, Nat.reduceEqDiff, Nat.reduceLT, Nat.reduceLeDiff, reduceCtorEq, Int.reduceToNat, Nat.reduceBEq]
def e123B (m : Int) (hm : InR .i64 (-m)) : Ent Tryz.prog where
 id := 123
 sp := fun args chs => match args, chs with
  | [x, .fn (.func g) [] [.ptr k o]], [(k', .box [.fn (.func f) [] [.ref [.s (.int .i64 m')]]])] => (eW x).bind fun l : List Int => some (k = 100000 ∧ o = 0 ∧ g = 124 ∧ k' = 100000 ∧ f = 131 ∧ m' = m, enc (l.any fun n => !fe m n), [(100000, .box [.fn (.func 131) [] [.ref [.s (.int .i64 m)]]])], [])
  | _, _ => none
 ok := by
  intro args chs p r chs' nk hs hp
  split at hs
  · simp only [Option.bind_eq_some_iff, Option.some.injEq, Prod.mk.injEq] at hs
    obtain ⟨g, hg, rfl, rfl, rfl, rfl⟩ := hs
    obtain ⟨rfl, rfl, rfl, rfl, rfl, rfl⟩ := hp
    refine ⟨(qr _ hm g).le (args' := [_, _]) ⟨eB hg, et _, trivial⟩, ⟨fun k c h => ?_, fun k cs h => ?_, trivial, fun k c h => ?_⟩⟩
    · simp only [List.mem_singleton, Prod.mk.injEq] at h; exact .inr ⟨_, by rw [h.1]; exact List.mem_singleton.2 rfl⟩
    · simp only [List.mem_singleton, Prod.mk.injEq] at h; exact ⟨_, by rw [h.1]; exact List.mem_singleton.2 rfl⟩
    · simp only [List.mem_singleton, Prod.mk.injEq] at h; rw [h.2]; simp [iR, dm, dm.keysIns]
  · cases hs
end Go.Proofs.YteoobfmbipmibaaGreat
end
section
open Go Go.Am Go.RowKit
open Go.Am.Dat (cells)
namespace Go.Proofs.YteoobfmbipmibaaGreat
set_option maxHeartbeats 4000000
set_option maxRecDepth 100000
theorem vk (m : Int) (w : World) : Calls Tryz.prog 117 #[.int .i64 m] w fun e w' => e = .returned (.func (.func 131) #[] #[.pointer (some ⟨w.heap.size, 0, none⟩)]) ∧ Below w.heap.size w w' ∧ w.heap.size < w'.heap.size ∧ ∃ ty fz, w'.heap[w.heap.size]? = some (.cells #[.int .i64 m] ty fz) := by
 go_enter Tryz.func117, Tryz.ntmps117
 go_wp2
 all_goals go_ret
 refine ⟨rfl, ⟨rfl, rfl, rfl, by simp, fun k hk => ?_⟩, by simp, 3, (0, 0), ?_⟩
 · simp [World.alloc, -World.alloc_eq, Array.getElem?_push, Nat.ne_of_lt hk]
 · simp [World.alloc, -World.alloc_eq]
theorem upTo_c (m : Int) : FC Tryz.prog 117 [enc m] [] (.fn (.func 131) [] [.ref [.s (.int .i64 m)]]) [] := by
 refine ⟨⟨_, Tryz.func117, by kernel_rfl, by kernel_rfl⟩, fun E U aS w hg ha hi => ?_⟩
 obtain ⟨hs, hr⟩ := ha
 have h0 := dx (hr 0 _ rfl)
 have hv : aS = #[.int .i64 m] := by
  refine Array.ext (by simpa using hs) (fun i h1 h2 => ?_)
  simp at h2
  subst h2
  rw [Array.getD_eq_getD_getElem?, Array.getElem?_eq_getElem h1] at h0
  exact h0
 rw [hv]
 refine (vk m w).mono ?_
 rintro e w' ⟨rfl, hb, hlt, ty, fz, hh⟩
 refine ⟨_, E, fun b => U b ∨ b = w.heap.size, rfl, ?_, ⟨hb.os, hb.tape, hb.output, hb.size, fun b h => ⟨.inl h, hb.block b (hi.lt b h)⟩, fun b h _ => hb.block b h, fun _ _ h => (by cases h), fun b h => ?_, fun _ _ h => (by cases h), ⟨hi.nd, fun _ _ h => (by cases h), fun _ _ _ _ h => (by cases h), fun _ _ h => (by cases h), fun _ _ h => (by cases h), fun b h => ?_⟩⟩⟩
 · refine .fn (.func 131) [] [.ref [.s (.int .i64 m)]] #[] #[.pointer (some ⟨w.heap.size, 0, none⟩)] rfl (fun j c h => by simp at h) rfl (fun j c h => ?_)
   match j, h with
   | 0, h =>
    cases h
    refine .ref [.s (.int .i64 m)] w.heap.size 0 #[.int .i64 m] ty fz (fun _ => .int .i64 m) (.inr rfl) hh (fun j c h => ?_) (fun j c h => ?_)
    · match j, h with
      | 0, h => exact ⟨rfl, rfl⟩
    · match j, h with
      | 0, h => cases h; exact .s _
 · rcases h with h | h
   · exact .inl h
   · exact .inr (.inl (by omega))
 · rcases h with h | h
   · exact Nat.lt_of_lt_of_le (hi.lt b h) hb.size
   · omega
def pW : Ent Tryz.prog := .mk3 117 (fun args chs => match args, chs with
 | [.s (.int .i64 m)], [] => some (True, .fn (.func 131) [] [.ref [.s (.int .i64 m)]], [], [])
 | _, _ => none) (by
 intro args chs p r chs' nk hs hp
 split at hs
 · simp only [Option.some.injEq, Prod.mk.injEq] at hs
   obtain ⟨rfl, rfl, rfl, rfl⟩ := hs
   exact ⟨upTo_c _, .plain (by simp [dm, dm.keysIns])⟩
 · cases hs)
def gv (l : List Int) (most : Int) (p : Int → Bool) (e : Int) : Int := if l.length = 0 then 10 else if (l.length : Int) > most then 8 else if l.all p then 0 else e
theorem om (l : List Int) (p : Int → Bool) : (l.any fun n => !p n) = !l.all p := by
 induction l with
 | nil => rfl
 | cons x l ih => simp only [List.any_cons, List.all_cons, ih]; cases p x <;> rfl
theorem ot (l : List Int) (most : Int) (p : Int → Bool) (e : Int) : dl [if 0 < (l.length : Int) then 0 else 10, if (l.length : Int) ≤ most then 0 else 8, if (!l.all p) = false then 0 else e] = gv l most p e := by
 unfold gv
 simp only [dl, Bool.not_eq_false']
 grind
theorem vT (l : List Int) (most e : Int) : FC Tryz.prog 97 [enc l, enc most, .fn (.func 98) [] [], enc e] [] (enc (gv l most gq e)) [] := by
 refine dk is97 (by simp) (fun cx hl => dj [e123A, fV, e8] 800 ?_)
 have h := ot l most gq e
 have ha := om l gq
 delta c97 oO oN oA oM oT oG oR oQ oS oK
 simp (maxSteps := 4000000) -implicitDefEqProofs only [rv97, e123A, fV, e8, ha, h, Ent.of0, Ent.of1, Ent.of2, Ent.of3, V, W3, ↓reduceIte, Nat.reduceAdd, Nat.reduceSub, Nat.reduceMul, Nat.reduceEqDiff, Nat.reduceLT, Nat.reduceLeDiff, reduceCtorEq, Int.reduceToNat, Nat.reduceBEq]
theorem vU (m : Int) (hm : InR .i64 (-m)) (l : List Int) (most e : Int) : FC Tryz.prog 97 [enc l, enc most, .fn (.func 131) [] [.ref [.s (.int .i64 m)]], enc e] [] (enc (gv l most (fe m) e)) [] := by
 refine dk is97 (by simp) (fun cx hl => dj [e123B m hm, fV, e8] 800 ?_)
 have h := ot l most (fe m) e
 have ha := om l (fe m)
 delta c97 oO oN oA oM oT oG oR oQ oS oK
 simp (maxSteps := 4000000) -implicitDefEqProofs only [rv97, e123B, fV, e8, ha, h, Ent.of0, Ent.of1, Ent.of2, Ent.of3, V, W3, ↓reduceIte, Nat.reduceAdd, Nat.reduceSub, Nat.reduceMul, Nat.reduceEqDiff, Nat.reduceLT, Nat.reduceLeDiff, reduceCtorEq, Int.reduceToNat, Nat.reduceBEq]
def nU : Ent Tryz.prog := .mk3 97 (fun args chs => match args, chs with
 | [.sl 1 es, .s (.int .i64 most), .fn (.func 98) [] [], .s (.int .i64 e)], [] => (eo es : Option (List Int)).bind fun l => some (True, enc (gv l most gq e), [], [])
 | [.sl 1 es, .s (.int .i64 most), .fn (.func 131) [] [.ref [.s (.int .i64 m)]], .s (.int .i64 e)], [] => (eo es : Option (List Int)).bind fun l => some (InR .i64 (-m), enc (gv l most (fe m) e), [], [])
 | _, _ => none) (by
 intro args chs p r chs' nk hs hp
 split at hs
 · simp only [Option.bind_eq_some_iff, Option.some.injEq, Prod.mk.injEq] at hs
   obtain ⟨l, hl, rfl, rfl, rfl, rfl⟩ := hs
   have := dV hl
   subst this
   exact ⟨vT l _ _, .plain trivial⟩
 · simp only [Option.bind_eq_some_iff, Option.some.injEq, Prod.mk.injEq] at hs
   obtain ⟨l, hl, rfl, rfl, rfl, rfl⟩ := hs
   have := dV hl
   subst this
   exact ⟨vU _ hp l _ _, .plain trivial⟩
 · cases hs)
def ft (l : List Int) : Int := gv l 200 gq 15
def hZ (l : List Int) : Int := gv l 400 (fe 1000000) 2
def ic (l : List Int) : Int := gv l 200 (fe 1000000000) 2
theorem vS (l : List Int) : FC Tryz.prog 48 [enc l] [] (enc (ft l)) [] := by
 refine dk is48 (by simp) (fun cx hl => dj [nU] 800 ?_)
 delta c48 oO oN oA oM oT oG oR oQ oS oK
 simp (maxSteps := 4000000) -implicitDefEqProofs only [rv48, nU, ft, Ent.of0, Ent.of1, Ent.of2, Ent.of3, V, W3, ↓reduceIte, Nat.reduceAdd, Nat.reduceSub, Nat.reduceMul, Nat.reduceEqDiff, Nat.reduceLT, Nat.reduceLeDiff, reduceCtorEq, Int.reduceToNat, Nat.reduceBEq]
def rR : Ent Tryz.prog := .of1 48 (fun _ => True) (fun l : List Int => enc (ft l)) (fun _ => trivial) (fun l _ => vS l)
theorem vH (l : List Int) : FC Tryz.prog 83 [enc l] [] (enc (hZ l)) [] := by
 refine dk is83 (by simp) (fun cx hl => dj [nU, pW] 800 ?_)
 delta c83 oO oN oA oM oT oG oR oQ oS oK
 simp (maxSteps := 4000000) -implicitDefEqProofs only [rv83, nU, pW, hZ, InR, Ent.of0, Ent.of1, Ent.of2, Ent.of3, V, W3, ↓reduceIte, Nat.reduceAdd, Nat.reduceSub, Nat.reduceMul, Nat.reduceEqDiff, Nat.reduceLT, Nat.reduceLeDiff, reduceCtorEq, Int.reduceToNat, Nat.reduceBEq]
 try omega
def r9 : Ent Tryz.prog := .of1 83 (fun _ => True) (fun l : List Int => enc (hZ l)) (fun _ => trivial) (fun l _ => vH l)
theorem vN (l : List Int) : FC Tryz.prog 87 [enc l] [] (enc (ic l)) [] := by
 refine dk is87 (by simp) (fun cx hl => dj [nU, pW] 800 ?_)
 delta c87 oO oN oA oM oT oG oR oQ oS oK
 simp (maxSteps := 4000000) -implicitDefEqProofs only [rv87, nU, pW, ic, InR, Ent.of0, Ent.of1, Ent.of2, Ent.of3, V, W3, ↓reduceIte, Nat.reduceAdd, Nat.reduceSub, Nat.reduceMul, Nat.reduceEqDiff, Nat.reduceLT, Nat.reduceLeDiff, reduceCtorEq, Int.reduceToNat, Nat.reduceBEq]
 try omega
def ent87 : Ent Tryz.prog := .of1 87 (fun _ => True) (fun l : List Int => enc (ic l)) (fun _ => trivial) (fun l _ => vN l)
end Go.Proofs.YteoobfmbipmibaaGreat
end
section
open Go Go.Am
open Go.Am.Dat (cells)
namespace Go.Proofs.YteoobfmbipmibaaGreat
set_option maxHeartbeats 4000000
set_option maxRecDepth 100000
theorem r7 {a b : Nat} (ha : a < 9223372036854775808) (hb : b < 9223372036854775808) : gD .and .i64 (a : Int) (b : Int) = ((a &&& b : Nat) : Int) := by
 show IntKind.wrap .i64 ((BitVec.ofInt 64 (a : Int) &&& BitVec.ofInt 64 (b : Int)).toNat : Int) = _
 rw [BitVec.toNat_and, of64 (by omega), of64 (by omega)]
 exact tV (Nat.lt_of_le_of_lt Nat.and_le_left ha)
theorem xor64 {a b : Nat} (ha : a < 9223372036854775808) (hb : b < 9223372036854775808) : gD .xor .i64 (a : Int) (b : Int) = ((a ^^^ b : Nat) : Int) := by
 show IntKind.wrap .i64 ((BitVec.ofInt 64 (a : Int) ^^^ BitVec.ofInt 64 (b : Int)).toNat : Int) = _
 rw [BitVec.toNat_xor, of64 (by omega), of64 (by omega)]
 exact tV (Nat.xor_lt_two_pow (n := 63) ha hb)
def fK (p : Gs) : Int := if 1 ≤ p.re ∧ p.re ≤ 16 then (if 1 ≤ p.im ∧ p.im ≤ 2 ^ p.re.toNat - 1 then (if p.im % 2 = 1 then 0 else 3) else 2) else 2
theorem sD (p : Gs) : FC Tryz.prog 90 [enc p] [] (enc (fK p)) [] := by
 refine dk is90 (by simp) (fun cx hl => dj [gJ, fV, e8] 800 ?_)
 obtain ⟨d, t⟩ := p
 by_cases hd : 1 ≤ d ∧ d ≤ 16
 · obtain ⟨D, rfl⟩ : ∃ D : Nat, d = (D : Int) := ⟨d.toNat, by omega⟩
   have hmin : min D IntKind.i64.bits = D := Nat.min_eq_left (by show D ≤ 64; omega)
   have hpw : (2 : Int) ^ D = ((2 ^ D : Nat) : Int) := by push_cast; rfl
   have hle : 2 ^ D ≤ 2 ^ 16 := Nat.pow_le_pow_right (by decide) (by omega)
   have h1 : 1 ≤ 2 ^ D := Nat.pow_pos (by decide)
   have hfs : dl [if 1 ≤ t ∧ t ≤ ((2 ^ D : Nat) : Int) - 1 then 0 else 2, if t.tmod 2 = 1 then 0 else 3] = fK ⟨D, t⟩ := by
    unfold fK
    simp only [dl, Int.toNat_natCast, hpw]
    rw [if_pos hd]
    by_cases ht : 1 ≤ t ∧ t ≤ ((2 ^ D : Nat) : Int) - 1
    · have e : t.tmod 2 = t % 2 := Int.tmod_eq_emod_of_nonneg (by omega)
      rw [e, if_pos ht, if_pos ht]; simp
    · rw [if_neg ht, if_neg ht]; simp
   generalize 2 ^ D = N at *
   delta c90 oO oN oA oM oT oG oR oQ oS oK
   simp (maxSteps := 4000000) -implicitDefEqProofs only [rv90, gJ, fV, e8, hd, hmin, hpw, hfs, Int.one_mul, Int.toNat_natCast, InR, Ent.of0, Ent.of1, Ent.of2, Ent.of3, V, W3, ↓reduceIte, Nat.reduceAdd, Nat.reduceSub, Nat.reduceMul, Nat.reduceEqDiff, Nat.reduceLT, Nat.reduceLeDiff, reduceCtorEq, Int.reduceToNat, Nat.reduceBEq]
   exact ⟨by omega, by omega, by decide⟩
 · have hE : fK ⟨d, t⟩ = 2 := by unfold fK; rw [if_neg hd]
   delta c90 oO oN oA oM oT oG oR oQ oS oK
   simp (maxSteps := 4000000) -implicitDefEqProofs only [rv90, gJ, fV, e8, hd, hE, InR, Ent.of0, Ent.of1, Ent.of2, Ent.of3, V, W3, ↓reduceIte, Nat.reduceAdd, Nat.reduceSub, Nat.reduceMul, Nat.reduceEqDiff, Nat.reduceLT, Nat.reduceLeDiff, reduceCtorEq, Int.reduceToNat, Nat.reduceBEq]
def rX : Ent Tryz.prog := .of1 90 (fun _ => True) (fun p : Gs => enc (fK p)) (fun _ => trivial) (fun p _ => sD p)
def lY (d t reg : Nat) (b : Int) : Nat := let r := (2 * reg) &&& (2 ^ d - 1); if (!decide (reg &&& (2 ^ d / 2) = 0)) = decide (b = 1) then r else r ^^^ t
def kT (d t : Nat) (l : List Int) : Nat := l.foldl (lY d t) 0
def jC (d r n : Nat) : List Int := (List.range n).map fun i => if r &&& (2 ^ d / 2 ^ (i + 1)) = 0 then 0 else 1
def jd (d t : Nat) (l : List Int) : List Int := jC d (kT d t l) d
theorem xq (d r n : Nat) : jC d r (n + 1) = jC d r n ++ [if r &&& (2 ^ d / 2 ^ (n + 1)) = 0 then 0 else 1] := by rw [jC, List.range_succ, List.map_append]; rfl
theorem zo (d r n : Nat) : (jC d r n).length = n := by simp [jC]
theorem v8 {d t : Nat} (ht : t < 2 ^ d) : ∀ (l : List Int) (r : Nat), r < 2 ^ d → l.foldl (lY d t) r < 2 ^ d
 | [], r, h => h
 | b :: l, r, h => by
  refine v8 ht l _ ?_
  have h1 : (2 * r) &&& (2 ^ d - 1) < 2 ^ d := Nat.lt_of_le_of_lt Nat.and_le_right (by have := Nat.pow_pos (n := d) (show 0 < 2 by decide); omega)
  unfold lY
  simp only
  split
  · exact h1
  · exact Nat.xor_lt_two_pow h1 ht
structure PolyOk (p : Gs) : Prop where
 deg : 1 ≤ p.re ∧ p.re ≤ 16
 taps : 1 ≤ p.im ∧ p.im < 2 ^ p.re.toNat
theorem wL {p : Gs} (h : fK p = 0) : PolyOk p := by
 unfold fK at h
 split at h
 · rename_i h1
   split at h
   · rename_i h2
     exact ⟨h1, by omega⟩
   · cases h
 · cases h
theorem nL (d t : Nat) (l : List Int) : (jd d t l).length = d := by simp [jd, jC]
theorem y7 (d t : Nat) (l : List Int) : ∀ x ∈ jd d t l, x = 0 ∨ x = 1 := by
 intro x hx
 obtain ⟨i, _, rfl⟩ := List.mem_map.1 hx
 split
 · exact .inl rfl
 · exact .inr rfl
theorem uh (p : Gs) (l : List Int) (hp : PolyOk p) (hl : l.length ≤ 1000000) : FC Tryz.prog 91 [enc p, enc l] [] (enc (jd p.re.toNat p.im.toNat l)) [] := by
 obtain ⟨d, t⟩ := p
 obtain ⟨h1, h2⟩ := hp
 simp only at h1 h2
 obtain ⟨D, rfl⟩ : ∃ D : Nat, d = (D : Int) := ⟨d.toNat, by omega⟩
 obtain ⟨T, rfl⟩ : ∃ T : Nat, t = (T : Int) := ⟨t.toNat, by omega⟩
 simp only [Int.toNat_natCast] at h2 ⊢
 have hpw : ∀ n : Nat, (2 : Int) ^ n = ((2 ^ n : Nat) : Int) := fun n => by push_cast; rfl
 have hT : T < 2 ^ D := by rw [hpw] at h2; omega
 have hle : 2 ^ D ≤ 2 ^ 16 := Nat.pow_le_pow_right (by decide) (by omega)
 have hdd : ((D : Int) - 1).toNat = D - 1 := by omega
 have hmin : min (D - 1) IntKind.i64.bits = D - 1 := Nat.min_eq_left (by show D - 1 ≤ 64; omega)
 have htop : 2 ^ (D - 1) = 2 ^ D / 2 := by
  rw [show D = D - 1 + 1 by omega, Nat.pow_succ, Nat.add_sub_cancel, Nat.mul_div_cancel _ (by decide)]
 have hev : 2 * (2 ^ D / 2) = 2 ^ D := by rw [← htop, ← Nat.pow_succ']; congr 1; omega
 refine dk is91 (by simp) (fun cx hl => dj [] 800 ?_)
 delta c91 oO oN oA oM oT oG oR oQ oS oK
 simp (maxSteps := 4000000) -implicitDefEqProofs only [rv91, hdd, hmin, hpw, htop, Int.one_mul, Int.toNat_natCast, InR, Ent.of0, Ent.of1, Ent.of2, Ent.of3, V, W3, ↓reduceIte, Nat.reduceAdd, Nat.reduceSub, Nat.reduceMul, Nat.reduceEqDiff, Nat.reduceLT, Nat.reduceLeDiff, reduceCtorEq, Int.reduceToNat, Nat.reduceBEq]
 refine ⟨by omega, by omega, ?_⟩
 refine dE l.length (fun i => [(6, .s (.int .i64 (kT D T (l.take i) : Int))), (18, .s (.int .i64 (i : Int)))]) (fun _ => []) (fun _ => True) trivial ?_ (fun i hi _ => dj [] 800 ?_)
 · simp (maxSteps := 4000000) -implicitDefEqProofs only [kT, Ent.of0, Ent.of1, Ent.of2, Ent.of3, V, W3, ↓reduceIte, Nat.reduceAdd, Nat.reduceSub, Nat.reduceMul, Nat.reduceEqDiff, Nat.reduceLT, Nat.reduceLeDiff, reduceCtorEq, Int.reduceToNat, Nat.reduceBEq]; simp
 · have hreg := v8 hT (l.take i) 0 (Nat.pow_pos (by decide))
   have hreg : kT D T (l.take i) < 2 ^ D := hreg
   by_cases h : i < l.length
   · have hi2 : (i : Int) < (l.length : Int) := by omega
     have hsn : kT D T (l.take (i + 1)) = lY D T (kT D T (l.take i)) (l.getD i 0) := by
      rw [List.getD_eq_getElem?_getD, List.getElem?_eq_getElem h, Option.getD_some, ← List.take_append_getElem h, kT, List.foldl_append]; rfl
     unfold lY at hsn
     simp only at hsn
     generalize hR : kT D T (l.take i) = R at *
     have ha1 := r7 (a := R) (b := 2 ^ D / 2) (by omega) (by omega)
     have ha2 := r7 (a := 2 * R) (b := 2 ^ D - 1) (by omega) (by omega)
     have hr2 : (2 * R) &&& (2 ^ D - 1) < 9223372036854775808 := Nat.lt_of_le_of_lt Nat.and_le_right (by omega)
     have hx := xor64 (a := (2 * R) &&& (2 ^ D - 1)) (b := T) hr2 (by omega)
     have e1 : (R : Int) * 2 = ((2 * R : Nat) : Int) := by push_cast; omega
     have hc0 : (((R &&& (2 ^ D / 2) : Nat) : Int) = 0) = (R &&& (2 ^ D / 2) = 0) := propext ⟨fun h => by omega, fun h => by omega⟩
     have e2 : (2 : Int) * ((2 ^ D / 2 : Nat) : Int) - 1 = ((2 ^ D - 1 : Nat) : Int) := by
      have : 1 ≤ 2 ^ D := Nat.pow_pos (by decide)
      omega
     have hm1 : (2 : Int) ^ min 1 IntKind.i64.bits = 2 := rfl
     delta c91l1 oO oN oA oM oT oG oR oQ oS oK
     simp (maxSteps := 4000000) -implicitDefEqProofs only [rv91, hi2, h, hR, ha1, ha2, hx, e1, e2, hm1, hc0, InR, Ent.of0, Ent.of1, Ent.of2, Ent.of3, V, W3, ↓reduceIte, Nat.reduceAdd, Nat.reduceSub, Nat.reduceMul, Nat.reduceEqDiff, Nat.reduceLT, Nat.reduceLeDiff, reduceCtorEq, Int.reduceToNat, Nat.reduceBEq]
     rw [hsn]
     refine ⟨by omega, ⟨by decide, by omega, by omega⟩, by omega, by omega, ?_⟩
     split
     · exact ⟨by omega, rfl, by push_cast; rfl⟩
     · rename_i hc
       rw [if_pos (Classical.not_not.1 hc)]
       exact ⟨by omega, rfl, by push_cast; rfl⟩
   · have hi2 : ¬ (i : Int) < (l.length : Int) := by omega
     have hie : i = l.length := by omega
     subst hie
     rw [List.take_length] at hreg
     delta c91l1 oO oN oA oM oT oG oR oQ oS oK
     simp (maxSteps := 4000000) -implicitDefEqProofs only [rv91, hi2, List.take_length, InR, Ent.of0, Ent.of1, Ent.of2, Ent.of3, V, W3, ↓reduceIte, Nat.reduceAdd, Nat.reduceSub, Nat.reduceMul, Nat.reduceEqDiff, Nat.reduceLT, Nat.reduceLeDiff, reduceCtorEq, Int.reduceToNat, Nat.reduceBEq]
     refine dE D (fun i => [(5, .s (.int .i64 ((2 ^ D / 2 ^ (i + 1) : Nat) : Int)))]) (fun i => [(10, .row 1 3 ((jC D (kT D T l) i).map cells))]) (fun _ => True) trivial ?_ (fun i hi _ => dj [] 800 ?_)
     · simp (maxSteps := 4000000) -implicitDefEqProofs only [jC, Ent.of0, Ent.of1, Ent.of2, Ent.of3, V, W3, ↓reduceIte, Nat.reduceAdd, Nat.reduceSub, Nat.reduceMul, Nat.reduceEqDiff, Nat.reduceLT, Nat.reduceLeDiff, reduceCtorEq, Int.reduceToNat, Nat.reduceBEq]; simp
     · have hfin : jd D T l = jC D (kT D T l) D := rfl
       generalize kT D T l = R at *
       by_cases h : i < D
       · have hpos : 0 < 2 ^ D / 2 ^ (i + 1) := Nat.div_pos (Nat.pow_le_pow_right (by decide) (by omega)) (Nat.pow_pos (by decide))
         have hle2 : 2 ^ D / 2 ^ (i + 1) ≤ 2 ^ D := Nat.div_le_self _ _
         have hnx : 2 ^ D / 2 ^ (i + 1) / 2 = 2 ^ D / 2 ^ (i + 1 + 1) := by rw [Nat.pow_succ _ (i + 1), Nat.div_div_eq_div_mul]
         have hrs := xq D R i
         have hll := zo D R i
         have hi2 : ((2 ^ D / 2 ^ (i + 1) : Nat) : Int) > 0 := by omega
         have hi3 : (0 : Int) < ((2 ^ D / 2 ^ (i + 1) : Nat) : Int) := by omega
         have hand := r7 (a := R) (b := 2 ^ D / 2 ^ (i + 1)) (by omega) (by omega)
         have hfd : ((2 ^ D / 2 ^ (i + 1) : Nat) : Int).fdiv (2 ^ min 1 IntKind.i64.bits) = ((2 ^ D / 2 ^ (i + 1 + 1) : Nat) : Int) := by
          have : (2 : Int) ^ min 1 IntKind.i64.bits = 2 := rfl
          rw [this, Int.fdiv_eq_ediv_of_nonneg _ (by decide), ← hnx]; push_cast; rfl
         have hc0 : (((R &&& (2 ^ D / 2 ^ (i + 1)) : Nat) : Int) = 0) = (R &&& (2 ^ D / 2 ^ (i + 1)) = 0) := propext ⟨fun h => by omega, fun h => by omega⟩
         by_cases hb : R &&& (2 ^ D / 2 ^ (i + 1)) = 0
         · have hap : (jC D R i).map cells ++ [[C.s (.int .i64 0)]] = (jC D R (i + 1)).map cells := by rw [hrs, if_pos hb, List.map_append]; rfl
           have hq : (((R &&& (2 ^ D / 2 ^ (i + 1)) : Nat) : Int) = 0) = True := by rw [hc0]; exact eq_true hb
           delta rK oO oN oA oM oT oG oR oQ oS oK
           simp (maxSteps := 4000000) -implicitDefEqProofs only [rv91, hi2, hi3, hand, hfd, hq, hap, hll, InR, Ent.of0, Ent.of1, Ent.of2, Ent.of3, V, W3, ↓reduceIte, Nat.reduceAdd, Nat.reduceSub, Nat.reduceMul, Nat.reduceEqDiff, Nat.reduceLT, Nat.reduceLeDiff, reduceCtorEq, Int.reduceToNat, Nat.reduceBEq]
           exact ⟨⟨by omega, by omega⟩, by decide, h⟩
         · have hap : (jC D R i).map cells ++ [[C.s (.int .i64 1)]] = (jC D R (i + 1)).map cells := by rw [hrs, if_neg hb, List.map_append]; rfl
           have hq : (((R &&& (2 ^ D / 2 ^ (i + 1)) : Nat) : Int) = 0) = False := by rw [hc0]; exact eq_false hb
           delta rK oO oN oA oM oT oG oR oQ oS oK
           simp (maxSteps := 4000000) -implicitDefEqProofs only [rv91, hi2, hi3, hand, hfd, hq, hap, hll, InR, Ent.of0, Ent.of1, Ent.of2, Ent.of3, V, W3, ↓reduceIte, Nat.reduceAdd, Nat.reduceSub, Nat.reduceMul, Nat.reduceEqDiff, Nat.reduceLT, Nat.reduceLeDiff, reduceCtorEq, Int.reduceToNat, Nat.reduceBEq]
           exact ⟨⟨by omega, by omega⟩, by decide, h⟩
       · have hie : i = D := by omega
         subst hie
         have hz : 2 ^ i / 2 ^ (i + 1) = 0 := Nat.div_eq_of_lt (by rw [Nat.pow_succ]; have := Nat.pow_pos (n := i) (show 0 < 2 by decide); omega)
         have hi2 : ¬ (((0 : Nat) : Int) > 0) := by decide
         have hi3 : ¬ ((0 : Int) < ((0 : Nat) : Int)) := by decide
         delta rK oO oN oA oM oT oG oR oQ oS oK
         simp (maxSteps := 4000000) -implicitDefEqProofs only [rv91, hz, hi2, hi3, hfin, InR, Ent.of0, Ent.of1, Ent.of2, Ent.of3, V, W3, ↓reduceIte, Nat.reduceAdd, Nat.reduceSub, Nat.reduceMul, Nat.reduceEqDiff, Nat.reduceLT, Nat.reduceLeDiff, reduceCtorEq, Int.reduceToNat, Nat.reduceBEq]
def nW : Ent Tryz.prog := .of2 91 (fun (p : Gs) (l : List Int) => PolyOk p ∧ l.length ≤ 1000000) (fun (p : Gs) (l : List Int) => enc (jd p.re.toNat p.im.toNat l)) (fun _ _ => trivial) (fun p l h => uh p l h.1 h.2)
end Go.Proofs.YteoobfmbipmibaaGreat
end
section
open Go Go.Am Go.RowKit Go.Lib
open Go.Am.Dat (cells)
namespace Go.Proofs.YteoobfmbipmibaaGreat
set_option maxHeartbeats 4000000
set_option maxRecDepth 100000
theorem v7 (n : Nat) (h0 : 0 < n) (hn : n ≤ 1000000) (w : World) : Calls Tryz.prog 126 #[.slice none 0 0, .int .i64 n] w fun e w' => ∃ G, e = .returned (.slice (some ⟨w.heap.size, 0, none⟩) 0 G) ∧ G ≤ maxLen ∧ ∃ vs, w' = w.drew.alloc (.cells vs 3) ∧ G ≤ vs.size := by
 have h1 : ¬ ((n : Int) < 0) := by omega
 have h4 : (n : Int) > 0 := by omega
 have hmap : (Tryz.prog.info? 3).map (fun i => (i.zero, i.size, i.bytes)) = some (some (.int .i64 0), 1, 8) := by kernel_rfl
 obtain ⟨i0, hi0, hq⟩ := Option.map_eq_some_iff.1 hmap
 simp only [Prod.mk.injEq] at hq
 obtain ⟨hz0, hs0, hb0⟩ := hq
 have hrz : ∀ ty, (Builtin.append_ #[24, 3] ty #[.slice none 0 0, .int .i64 (n : Int)]).run Tryz.prog w =
  .ok (.slice (some ⟨w.heap.size, 0, none⟩) n (grownCap w n 0 3)) (w.drew.alloc (.cells (#[] ++ Builtin.zeroCells (Value.int .i64 0).cells n ++ Builtin.zeroCells (Value.int .i64 0).cells (grownCap w n 0 3 - n)) 3)) := fun ty => by
  have h := Lib.run_append_grow_zeros w 24 3 ty 3 i0 (.int .i64 0) .i64 .i64 Tryz.underlying24 Tryz.underlying3 hi0 hz0 none 0 0 [] (run_firstCells_none w.drew i0.size 0 0 0) n h0 (by omega) (by omega) (by omega) (by rw [hb0]; omega) (growslice_fits (by omega) (by rw [hb0]; omega))
  simpa using h
 have hge : n ≤ grownCap w n 0 3 := grownCap_ge w _ _ _
 have hle : grownCap w n 0 3 ≤ maxLen := grownCap_le_maxLen w n 0 3 (by unfold maxLen; omega)
 generalize grownCap w n 0 3 = G at *
 have hG63 : G ≤ 9223372036854775807 := by unfold maxLen at hle; omega
 go_enter Tryz.func126, Tryz.ntmps126
 go_wp2_with (at_builtin; refine Lib.wpList_append_run _ rfl _ _ _ _ rfl _ _ rfl rfl _ _ (hrz _) ?_)
 all_goals (go_ret; refine ⟨G, rfl, hle, _, rfl, ?_⟩)
 simp [size_zeroCells, Value.cells]
 omega
theorem Grow_c (n : Int) (h0 : 0 < n) (hn : n ≤ 1000000) : FC Tryz.prog 126 [.s (.slice none 0 0), enc n] [] (.own 5) [(5, .row 1 3 [])] := by
 obtain ⟨N, rfl⟩ : ∃ N : Nat, n = (N : Int) := ⟨n.toNat, by omega⟩
 refine ⟨⟨_, Tryz.func126, by kernel_rfl, by kernel_rfl⟩, fun E U aS w hg ha hi => ?_⟩
 obtain ⟨hs, hr⟩ := ha
 have hA := dx (hr 0 _ rfl)
 have hB := dx (hr 1 _ rfl)
 have hv : aS = #[.slice none 0 0, .int .i64 N] := by
  refine Array.ext (by simpa using hs) (fun i h1 h2 => ?_)
  simp at h2
  rw [Array.getD_eq_getD_getElem?] at hA hB
  match i, h1, h2 with
  | 0, h1, _ => rw [Array.getElem?_eq_getElem h1] at hA; exact hA
  | 1, h1, _ => rw [Array.getElem?_eq_getElem h1] at hB; exact hB
 rw [hv]
 refine (v7 N (by omega) (by omega) w).mono ?_
 rintro e w' ⟨G, rfl, hG, vs, rfl, hsz⟩
 refine ⟨_, fun k => if k = 5 then ⟨⟨w.heap.size, 0, G, 0, 1, false⟩, fun _ => default, fun b => b = w.heap.size⟩ else E k, U, rfl, ?_, ?_⟩
 · exact Rep.own 5
 · have hold : ∀ b, b < w.heap.size → (w.drew.alloc (.cells vs 3)).heap[b]? = w.heap[b]? := fun b hb => RowKit.Below.heap_alloc w.drew _ b hb
   refine ⟨rfl, rfl, rfl, by simp, fun b h => ⟨h, hold b (hi.lt b h)⟩, fun b h _ => hold b h, fun k c h b hb => ?_, fun b h => .inl h, fun k cs h => (by simp at h), ⟨by simp, fun k c h => ?_, fun k c k' c' h h' hne => ?_, fun k c h b hb => ?_, fun k c h b hb => ?_, fun b h => ?_⟩⟩
   · simp only [List.mem_singleton, Prod.mk.injEq] at h
     obtain ⟨rfl, rfl⟩ := h
     have : b = w.heap.size := hb
     exact .inl (by omega)
   · simp only [List.mem_singleton, Prod.mk.injEq] at h
     obtain ⟨rfl, rfl⟩ := h
     refine ⟨⟨rfl, rfl, fun i e he => by simp at he, .inr ⟨rfl, Nat.zero_le _, hG, vs, heap_alloc_new w.drew _, ?_, fun i e j c he => by simp at he⟩⟩, ⟨fun b => ?_, fun i q h => (by cases h), fun i j q q' _ h => (by cases h)⟩⟩
     · simpa using hsz
     · constructor
       · intro h; exact .inl ⟨rfl, Eq.symm h⟩
       · rintro (⟨_, h⟩ | ⟨i, q, h, _⟩)
         · exact h.symm
         · cases h
   · simp only [List.mem_singleton, Prod.mk.injEq] at h h'
     exact absurd (h.1.trans h'.1.symm) hne
   · simp only [List.mem_singleton, Prod.mk.injEq] at h
     obtain ⟨rfl, rfl⟩ := h
     intro hu
     have e : b = w.heap.size := hb
     have := hi.lt b hu
     omega
   · simp only [List.mem_singleton, Prod.mk.injEq] at h
     obtain ⟨rfl, rfl⟩ := h
     have e : b = w.heap.size := hb
     simp [e]
   · have := hi.lt b h
     simp; omega
def xo : Ent Tryz.prog := .mk3 126 (fun args chs => match args, chs with
 | [.s (.slice none 0 0), .s (.int .i64 n)], [] => some (0 < n ∧ n ≤ 1000000, .own 5, [(5, .row 1 3 [])], [5])
 | _, _ => none) (by
 intro args chs p r chs' nk hs hp
 split at hs
 · simp only [Option.some.injEq, Prod.mk.injEq] at hs
   obtain ⟨rfl, rfl, rfl, rfl⟩ := hs
   refine ⟨Grow_c _ hp.1 hp.2, ⟨fun k c h => .inl ?_, fun k cs h => by simp at h, List.mem_singleton.2 rfl, fun k c h => ?_⟩⟩
   · simp only [List.mem_singleton, Prod.mk.injEq] at h; rw [h.1]; exact List.mem_singleton.2 rfl
   · simp only [List.mem_singleton, Prod.mk.injEq] at h; rw [h.2]; trivial
 · cases hs)
end Go.Proofs.YteoobfmbipmibaaGreat
end
section
open Go Go.Am
open Go.Am.Dat (cells)
namespace Go.Proofs.YteoobfmbipmibaaGreat
set_option maxHeartbeats 4000000
set_option maxRecDepth 100000
theorem ti {a b : List Int} {i : Nat} (ha : i < a.length) (hb : i < b.length) (h : a.take i = b.take i) (he : a.getD i 0 = b.getD i 0) : a.take (i + 1) = b.take (i + 1) := by
 rw [← List.take_append_getElem ha, ← List.take_append_getElem hb, h]
 rw [List.getD_eq_getElem?_getD, List.getD_eq_getElem?_getD, List.getElem?_eq_getElem ha, List.getElem?_eq_getElem hb] at he
 simp only [Option.getD_some] at he
 rw [he]
theorem Equal_c (a b : List Int) (h : a.length ≤ 1000000) : FC Tryz.prog 121 [enc a, enc b] [] (enc (decide (a = b))) [] := by
 refine dk is121 (by simp) (fun cx hl => dj [] 800 ?_)
 by_cases hn : (a.length : Int) = (b.length : Int)
 · have hln : a.length = b.length := by omega
   delta c121 oO oN oA oM oT oG oR oQ oS oK
   simp (maxSteps := 4000000) -implicitDefEqProofs only [nH, hn, Ent.of0, Ent.of1, Ent.of2, Ent.of3, V, W3, ↓reduceIte, Nat.reduceAdd, Nat.reduceSub, Nat.reduceMul, Nat.reduceEqDiff, Nat.reduceLT, Nat.reduceLeDiff, reduceCtorEq, Int.reduceToNat, Nat.reduceBEq]
   refine dE a.length (fun i => [(13, .s (.int .i64 (i : Int)))]) (fun _ => []) (fun i => a.take i = b.take i) (by simp) ?_ (fun i hi hI => dj [] 800 ?_)
   · simp (maxSteps := 4000000) -implicitDefEqProofs only [hn, Ent.of0, Ent.of1, Ent.of2, Ent.of3, V, W3, ↓reduceIte, Nat.reduceAdd, Nat.reduceSub, Nat.reduceMul, Nat.reduceEqDiff, Nat.reduceLT, Nat.reduceLeDiff, reduceCtorEq, Int.reduceToNat, Nat.reduceBEq]
     rfl
   · by_cases h : i < a.length
     · have hi2 : (i : Int) < (b.length : Int) := by omega
       have hb : i < b.length := by omega
       by_cases he : a.getD i 0 = b.getD i 0
       · delta pQ oO oN oA oM oT oG oR oQ oS oK
         simp (maxSteps := 4000000) -implicitDefEqProofs only [nH, hi2, h, hb, he, InR, Ent.of0, Ent.of1, Ent.of2, Ent.of3, V, W3, ↓reduceIte, Nat.reduceAdd, Nat.reduceSub, Nat.reduceMul, Nat.reduceEqDiff, Nat.reduceLT, Nat.reduceLeDiff, reduceCtorEq, Int.reduceToNat, Nat.reduceBEq]
         have := ti h hb hI he
         exact ⟨⟨by omega, by omega⟩, by omega, ⟨by omega, by omega⟩, this, by omega⟩
       · have hne : ¬ a = b := fun e => he (by rw [e])
         delta pQ oO oN oA oM oT oG oR oQ oS oK
         simp (maxSteps := 4000000) -implicitDefEqProofs only [nH, hi2, h, hb, he, hne, InR, Ent.of0, Ent.of1, Ent.of2, Ent.of3, V, W3, ↓reduceIte, Nat.reduceAdd, Nat.reduceSub, Nat.reduceMul, Nat.reduceEqDiff, Nat.reduceLT, Nat.reduceLeDiff, reduceCtorEq, Int.reduceToNat, Nat.reduceBEq]
         exact ⟨⟨by omega, by omega⟩, by omega⟩
     · have hi2 : ¬ (i : Int) < (b.length : Int) := by omega
       have hie : i = a.length := by omega
       have heq : a = b := by
        subst hie
        rw [List.take_length, hln, List.take_length] at hI
        exact hI
       delta pQ oO oN oA oM oT oG oR oQ oS oK
       simp (maxSteps := 4000000) -implicitDefEqProofs only [nH, hi2, heq, InR, Ent.of0, Ent.of1, Ent.of2, Ent.of3, V, W3, ↓reduceIte, Nat.reduceAdd, Nat.reduceSub, Nat.reduceMul, Nat.reduceEqDiff, Nat.reduceLT, Nat.reduceLeDiff, reduceCtorEq, Int.reduceToNat, Nat.reduceBEq]
 · have hne : ¬ a = b := fun e => hn (by rw [e])
   delta c121 oO oN oA oM oT oG oR oQ oS oK
   simp (maxSteps := 4000000) -implicitDefEqProofs only [nH, hn, hne, Ent.of0, Ent.of1, Ent.of2, Ent.of3, V, W3, ↓reduceIte, Nat.reduceAdd, Nat.reduceSub, Nat.reduceMul, Nat.reduceEqDiff, Nat.reduceLT, Nat.reduceLeDiff, reduceCtorEq, Int.reduceToNat, Nat.reduceBEq]
def wO : Ent Tryz.prog := .of2 121 (fun (a b : List Int) => a.length ≤ 1000000) (fun (a b : List Int) => enc (decide (a = b))) (fun _ _ => trivial) (fun a b h => Equal_c a b h)
theorem ye (a b : List Int) (h : 0 < a.length + b.length ∧ a.length + b.length ≤ 1000000) : FC Tryz.prog 102 [enc [a, b]] [] (enc (a ++ b)) [] := by
 refine dk is102 (by simp) (fun cx hl => gK [xo] 4000 ?_)
 have h1 : ¬ ((a.length : Int) < 0) := by omega
 have h2 : ¬ ((a.length : Int) + (b.length : Int) < 0) := by omega
 have h3 : (1 : Int) < 2 := by decide
 have h4 : ¬ (2 : Int) < 2 := by decide
 have h5 : ((2 : Nat) : Int) = 2 := rfl
 have h6 : (1 : Int) + 1 = 2 := rfl
 have h7 : (0 : Int) < 2 := by decide
 delta c102 xU wo oO oN oA oM oT oG oR oQ oS oK
 simp (maxSteps := 4000000) -implicitDefEqProofs only [rv102, xo, h1, h2, h3, h4, h5, h6, h7, Int.zero_add, InR, Ent.of0, Ent.of1, Ent.of2, Ent.of3, V, W3, ↓reduceIte, Nat.reduceAdd, Nat.reduceSub, Nat.reduceMul, Nat.reduceEqDiff, Nat.reduceLT, Nat.reduceLeDiff, reduceCtorEq, Int.reduceToNat, Nat.reduceBEq]
 simp only [List.map_append, and_true]
 omega
def xm : Ent Tryz.prog := .mk3 102 (fun args chs => match args, chs with
 | [.sl 1 [[.sl 1 x], [.sl 1 y]]], [] => (eo x : Option (List Int)).bind fun a => (eo y : Option (List Int)).bind fun b => some (0 < a.length + b.length ∧ a.length + b.length ≤ 1000000, enc (a ++ b), [], [])
 | _, _ => none) (by
 intro args chs p r chs' nk hs hp
 split at hs
 · simp only [Option.bind_eq_some_iff, Option.some.injEq, Prod.mk.injEq] at hs
   obtain ⟨a, ha, b, hb, rfl, rfl, rfl, rfl⟩ := hs
   have e1 := dV ha
   have e2 := dV hb
   subst e1
   subst e2
   exact ⟨ye a b hp, .plain trivial⟩
 · cases hs)
theorem xj (p : Gs) (l : List Int) (hp : PolyOk p) (h : l.length ≤ 900000) : FC Tryz.prog 53 [enc p, enc l] [] (enc (l ++ jd p.re.toNat p.im.toNat l)) [] := by
 obtain ⟨d, t⟩ := p
 have hrl := nL d.toNat t.toNat l
 have hd := hp.deg
 simp only at hd
 have hok : PolyOk ⟨d, t⟩ ∧ l.length ≤ 1000000 := ⟨hp, by omega⟩
 refine dk is53 (by simp) (fun cx hl => dj [nW, xm] 4000 ?_)
 delta c53 oO oN oA oM oT oG oR oQ oS oK
 simp (maxSteps := 4000000) -implicitDefEqProofs only [rv53, nW, xm, hrl, hok, Ent.of0, Ent.of1, Ent.of2, Ent.of3, V, W3, ↓reduceIte, Nat.reduceAdd, Nat.reduceSub, Nat.reduceMul, Nat.reduceEqDiff, Nat.reduceLT, Nat.reduceLeDiff, reduceCtorEq, Int.reduceToNat, Nat.reduceBEq]
 omega
def ent53 : Ent Tryz.prog := .of2 53 (fun (p : Gs) (l : List Int) => PolyOk p ∧ l.length ≤ 900000) (fun (p : Gs) (l : List Int) => enc (l ++ jd p.re.toNat p.im.toNat l)) (fun _ _ => trivial) (fun p l h => xj p l h.1 h.2)
def iS (d t : Nat) (l : List Int) : Bool := decide (jd d t (l.take (l.length - d)) = l.drop (l.length - d))
theorem right_c (p : Gs) (l : List Int) (hp : PolyOk p) (h : p.re.toNat ≤ l.length) (h2 : l.length ≤ 900000) : FC Tryz.prog 89 [enc p, enc l] [] (enc (iS p.re.toNat p.im.toNat l)) [] := by
 obtain ⟨d, t⟩ := p
 obtain ⟨D, rfl⟩ : ∃ D : Nat, d = (D : Int) := ⟨d.toNat, by have := hp.deg; simp only at this; omega⟩
 simp only [Int.toNat_natCast] at h ⊢
 have hd := hp.deg
 simp only at hd
 have ht : (l.take (l.length - D)).length ≤ 1000000 := by rw [List.length_take]; omega
 have hok : PolyOk ⟨D, t⟩ ∧ (l.take (l.length - D)).length ≤ 1000000 := ⟨hp, ht⟩
 have hrl := nL D t.toNat (l.take (l.length - D))
 have e1 : (l.length : Int) - (D : Int) = ((l.length - D : Nat) : Int) := by omega
 have e2 : (((l.length - D : Nat) : Int)).toNat = l.length - D := by omega
 have m1 : List.take (l.length - D) (l.map cells) = (l.take (l.length - D)).map cells := List.map_take.symm
 have m2 : List.drop (l.length - D) (l.map cells) = (l.drop (l.length - D)).map cells := List.map_drop.symm
 have m3 : List.take l.length (l.map cells) = l.map cells := List.take_of_length_le (by simp)
 refine dk is89 (by simp) (fun cx hl => dj [nW, wO] 4000 ?_)
 delta c89 oO oN oA oM oT oG oR oQ oS oK
 simp (maxSteps := 4000000) -implicitDefEqProofs only [rv89, nW, wO, e1, e2, m1, m2, m3, hok, hrl, iS, InR, Ent.of0, Ent.of1, Ent.of2, Ent.of3, V, W3, ↓reduceIte, Nat.reduceAdd, Nat.reduceSub, Nat.reduceMul, Nat.reduceEqDiff, Nat.reduceLT, Nat.reduceLeDiff, reduceCtorEq, Int.reduceToNat, Nat.reduceBEq]
 omega
def ent89 : Ent Tryz.prog := .of2 89 (fun (p : Gs) (l : List Int) => PolyOk p ∧ p.re.toNat ≤ l.length ∧ l.length ≤ 900000) (fun (p : Gs) (l : List Int) => enc (iS p.re.toNat p.im.toNat l)) (fun _ _ => trivial) (fun p l h => right_c p l h.1 h.2.1 h.2.2)
theorem ux (p : Gs) (l : List Int) (hp : PolyOk p) (he : fK p = 0) (hb : ft l = 0) (h : l.length ≤ 900000) : FC Tryz.prog 40 [enc p, enc l] [] (.tup [enc (jd p.re.toNat p.im.toNat l), enc (0 : Int)]) [] := by
 obtain ⟨d, t⟩ := p
 have hok : PolyOk ⟨d, t⟩ ∧ l.length ≤ 1000000 := ⟨hp, by omega⟩
 refine dk is40 (by simp) (fun cx hl => dj [nW, rX, rR, e8] 4000 ?_)
 delta c40 oO oN oA oM oT oG oR oQ oS oK
 simp (maxSteps := 4000000) -implicitDefEqProofs only [rv40, nW, rX, rR, e8, hok, he, hb, dl, InR, Ent.of0, Ent.of1, Ent.of2, Ent.of3, V, W3, ↓reduceIte, Nat.reduceAdd, Nat.reduceSub, Nat.reduceMul, Nat.reduceEqDiff, Nat.reduceLT, Nat.reduceLeDiff, reduceCtorEq, Int.reduceToNat, Nat.reduceBEq]
 simp
end Go.Proofs.YteoobfmbipmibaaGreat
end
section
open Go Go.Am
open Go.Am.Dat (cells)
namespace Go.Proofs.YteoobfmbipmibaaGreat
set_option maxHeartbeats 4000000
set_option maxRecDepth 100000
structure Pol where
 power : Int
 info : List Int
instance : DatL Pol where
 sz := 2
 agg := true
 cells g := [.s (.int .i64 g.power), .sl 1 (g.info.map cells)]
 dec | [.s (.int .i64 a), .sl 1 t] => (eo t).map fun t' => ⟨a, t'⟩ | _ => none
 ok := by
  intro l a h
  split at h
  · simp only [Option.map_eq_some_iff] at h
    obtain ⟨t', h1, rfl⟩ := h
    rw [dV h1]
  · cases h
 data := fun a => rfl
 one := fun h => by cases h
 dec_cells := fun a => by simp [g0]
theorem fJ (g : Pol) : enc g = .agg [.s (.int .i64 g.power), .sl 1 (g.info.map cells)] := rfl
theorem dY (a : Int) (t : List (List C)) : eW (.agg [C.s (.int .i64 a), .sl 1 t]) = (eo t).map fun t' => (⟨a, t'⟩ : Pol) := rfl
structure Chn where
 poly : Gs
 polar : Pol
 count : Int
instance : DatL Chn where
 sz := 5
 agg := true
 cells g := [.s (.int .i64 g.poly.re), .s (.int .i64 g.poly.im), .s (.int .i64 g.polar.power), .sl 1 (g.polar.info.map cells), .s (.int .i64 g.count)]
 dec | [.s (.int .i64 a), .s (.int .i64 b), .s (.int .i64 c), .sl 1 t, .s (.int .i64 n)] => (eo t).map fun t' => ⟨⟨a, b⟩, ⟨c, t'⟩, n⟩ | _ => none
 ok := by
  intro l a h
  split at h
  · simp only [Option.map_eq_some_iff] at h
    obtain ⟨t', h1, rfl⟩ := h
    rw [dV h1]
  · cases h
 data := fun a => rfl
 one := fun h => by cases h
 dec_cells := fun a => by simp [g0]
theorem fk (g : Chn) : enc g = .agg [.s (.int .i64 g.poly.re), .s (.int .i64 g.poly.im), .s (.int .i64 g.polar.power), .sl 1 (g.polar.info.map cells), .s (.int .i64 g.count)] := rfl
theorem ea (a b c n : Int) (t : List (List C)) : eW (.agg [C.s (.int .i64 a), .s (.int .i64 b), .s (.int .i64 c), .sl 1 t, .s (.int .i64 n)]) = (eo t).map fun t' => (⟨⟨a, b⟩, ⟨c, t'⟩, n⟩ : Chn) := rfl
def eG (p : Pol) : Int := if ¬ (0 ≤ p.power ∧ p.power ≤ 6) then 2 else if p.info.length = 0 then 10 else dO (2 ^ p.power.toNat) (-1) p.info
theorem s9 (p : Pol) : FC Tryz.prog 92 [enc p] [] (enc (eG p)) [] := by
 obtain ⟨pw, l⟩ := p
 refine dk is92 (by simp) (fun cx hl => dj [pH, fV, e8] 800 ?_)
 simp only [fJ, V, W3, ↓reduceIte, Nat.reduceAdd, Nat.reduceSub, Nat.reduceMul, Nat.reduceEqDiff, Nat.reduceLT, Nat.reduceLeDiff, reduceCtorEq, Int.reduceToNat, Nat.reduceBEq] at hl
 have hlen := hl.list
 by_cases h0 : 0 ≤ pw ∧ pw ≤ 6
 · by_cases h1 : 0 < l.length
   · have h1' : (0 : Int) < (l.length : Int) := by omega
     have hr : eG ⟨pw, l⟩ = dO (2 ^ pw.toNat) (-1) l := by
      unfold eG
      simp only
      rw [if_neg (fun h => h h0), if_neg (by omega)]
     rw [hr]
     obtain ⟨n, rfl⟩ : ∃ n : Nat, pw = (n : Int) := ⟨pw.toNat, by omega⟩
     have hpw : (2 : Int) ^ n = ((2 ^ n : Nat) : Int) := by push_cast; rfl
     have hmin : min n IntKind.i64.bits = n := Nat.min_eq_left (by show n ≤ 64; omega)
     have hle : 2 ^ n ≤ 2 ^ 6 := Nat.pow_le_pow_right (by decide) (by omega)
     have h1p : 1 ≤ 2 ^ n := Nat.pow_pos (by decide)
     simp only [Int.toNat_natCast, hpw]
     generalize 2 ^ n = N at *
     delta c92 oO oN oA oM oT oG oR oQ oS oK
     simp (maxSteps := 4000000) -implicitDefEqProofs only [rv92, pH, fV, e8, fJ, h0, h1', hmin, dl, Ent.of0, Ent.of1, Ent.of2, Ent.of3, V, W3, ↓reduceIte, Nat.reduceAdd, Nat.reduceSub, Nat.reduceMul, Nat.reduceEqDiff, Nat.reduceLT, Nat.reduceLeDiff, reduceCtorEq, Int.reduceToNat, Nat.reduceBEq]
     refine iD (α := Nat × Int) (fun v => [(25, .s (.int .i64 (v.1 : Int))), (4, .s (.int .i64 v.2))]) (fun _ => []) (fun v => v.1 ≤ l.length ∧ dO (N : Int) (-1) l = dO (N : Int) v.2 (l.drop v.1)) (fun v => l.length - v.1) (0, -1) ⟨by omega, rfl⟩ ?_ (fun v hv => dj [gJ, fV, e8] 800 ?_)
     · simp (maxSteps := 4000000) -implicitDefEqProofs only [Ent.of0, Ent.of1, Ent.of2, Ent.of3, V, W3, ↓reduceIte, Nat.reduceAdd, Nat.reduceSub, Nat.reduceMul, Nat.reduceEqDiff, Nat.reduceLT, Nat.reduceLeDiff, reduceCtorEq, Int.reduceToNat, Nat.reduceBEq]; simp
     · obtain ⟨i, last⟩ := v
       obtain ⟨hv1, hv2⟩ := hv
       simp only at hv1 hv2
       by_cases h : i < l.length
       · have hi : ((i : Int) < (l.length : Int)) := by omega
         rw [dT 0 h, dO] at hv2
         delta c92l1 oO oN oA oM oT oG oR oQ oS oK
         simp (maxSteps := 4000000) -implicitDefEqProofs only [rv92, hi, h, gJ, fV, e8, hpw, hmin, Int.one_mul, Int.toNat_natCast, InR, Ent.of0, Ent.of1, Ent.of2, Ent.of3, V, W3, ↓reduceIte, Nat.reduceAdd, Nat.reduceSub, Nat.reduceMul, Nat.reduceEqDiff, Nat.reduceLT, Nat.reduceLeDiff, reduceCtorEq, Int.reduceToNat, Nat.reduceBEq]
         generalize l.getD i 0 = t at *
         refine ⟨by omega, by omega, by omega, ?_⟩
         by_cases ht : 0 ≤ t ∧ t ≤ (N : Int) - 1
         · by_cases hlt : last < t
           · simp only [ht, hlt, and_self, if_true, not_true, if_false] at hv2 ⊢
             simp only [dl, ne_eq, not_true, if_false]
             exact ⟨by omega, (i + 1, t), ⟨h, hv2⟩, by simp only; omega, rfl, by push_cast; rfl⟩
           · simp only [ht, hlt, and_self, if_true, not_true, not_false_eq_true, if_false] at hv2 ⊢
             simp [dl, hv2]
         · simp only [ht, if_true, not_false_eq_true, if_false] at hv2 ⊢
           simp [dl, hv2]
       · have hi : ¬ ((i : Int) < (l.length : Int)) := by omega
         rw [List.drop_eq_nil_of_le (by omega), dO] at hv2
         delta c92l1 oO oN oA oM oT oG oR oQ oS oK
         simp (maxSteps := 4000000) -implicitDefEqProofs only [rv92, hi, h1, hv2, gJ, fV, e8, InR, Ent.of0, Ent.of1, Ent.of2, Ent.of3, V, W3, ↓reduceIte, Nat.reduceAdd, Nat.reduceSub, Nat.reduceMul, Nat.reduceEqDiff, Nat.reduceLT, Nat.reduceLeDiff, reduceCtorEq, Int.reduceToNat, Nat.reduceBEq]
   · have h1' : ¬ (0 : Int) < (l.length : Int) := by omega
     have hr : eG ⟨pw, l⟩ = 10 := by
      unfold eG
      simp only
      rw [if_neg (fun h => h h0), if_pos (by omega)]
     rw [hr]
     delta c92 oO oN oA oM oT oG oR oQ oS oK
     simp (maxSteps := 4000000) -implicitDefEqProofs only [rv92, pH, fV, e8, fJ, h0, h1', dl, Ent.of0, Ent.of1, Ent.of2, Ent.of3, V, W3, ↓reduceIte, Nat.reduceAdd, Nat.reduceSub, Nat.reduceMul, Nat.reduceEqDiff, Nat.reduceLT, Nat.reduceLeDiff, reduceCtorEq, Int.reduceToNat, Nat.reduceBEq]
     simp
 · have hr : eG ⟨pw, l⟩ = 2 := by unfold eG; rw [if_pos h0]
   rw [hr]
   delta c92 oO oN oA oM oT oG oR oQ oS oK
   simp (maxSteps := 4000000) -implicitDefEqProofs only [rv92, pH, fV, e8, fJ, h0, dl, Ent.of0, Ent.of1, Ent.of2, Ent.of3, V, W3, ↓reduceIte, Nat.reduceAdd, Nat.reduceSub, Nat.reduceMul, Nat.reduceEqDiff, Nat.reduceLT, Nat.reduceLeDiff, reduceCtorEq, Int.reduceToNat, Nat.reduceBEq]
   simp
def sd : Ent Tryz.prog := .of1 92 (fun _ => True) (fun p : Pol => enc (eG p)) (fun _ => trivial) (fun p _ => s9 p)
end Go.Proofs.YteoobfmbipmibaaGreat
end
section
open Go Go.Am
open Go.Am.Dat (cells)
namespace Go.Proofs.YteoobfmbipmibaaGreat
set_option maxHeartbeats 4000000
set_option maxRecDepth 100000
theorem bit0_lt {i j k : Nat} (h : i < 2 ^ k) (hj : j < k) (hc : i / 2 ^ j % 2 = 0) : i + 2 ^ j < 2 ^ k := by
 have hp : 2 ^ k = 2 ^ j * (2 * 2 ^ (k - j - 1)) := by
  rw [← Nat.mul_assoc, ← Nat.pow_succ, ← Nat.pow_add]; congr 1; omega
 have hpos : 0 < 2 ^ j := Nat.pow_pos (by decide)
 generalize 2 ^ (k - j - 1) = m at *
 generalize hJ : 2 ^ j = J at *
 rw [hp] at h ⊢
 have h1 : i / J < 2 * m := by rw [Nat.div_lt_iff_lt_mul hpos, Nat.mul_comm]; exact h
 have h2 : i / J + 1 < 2 * m := by omega
 have h3 := Nat.div_add_mod i J
 have h4 := Nat.mod_lt i hpos
 have h5 : J * (i / J + 1 + 1) ≤ J * (2 * m) := Nat.mul_le_mul_left _ h2
 rw [Nat.mul_add, Nat.mul_add] at h5
 omega
theorem tW (i j : Nat) : (i &&& 2 ^ j = 0) ↔ i / 2 ^ j % 2 = 0 := by
 have ht : i.testBit j = decide (i / 2 ^ j % 2 = 1) := Nat.testBit_eq_decide_div_mod_eq
 have h2 : i / 2 ^ j % 2 = 0 ∨ i / 2 ^ j % 2 = 1 := by omega
 constructor
 · intro h
   have h3 : (i &&& 2 ^ j).testBit j = false := by rw [h]; exact Nat.zero_testBit j
   rw [Nat.testBit_and, Nat.testBit_two_pow_self, Bool.and_true, ht] at h3
   have := of_decide_eq_false h3
   omega
 · intro h
   apply Nat.eq_of_testBit_eq
   intro p
   rw [Nat.testBit_and, Nat.zero_testBit, Nat.testBit_two_pow]
   by_cases hp : j = p
   · subst hp; rw [ht, h]; rfl
   · simp [hp]
theorem xor_bx {a b : Int} (ha : isB a) (hb : isB b) : gD .xor .i64 a b = bx a b := by
 unfold isB at ha hb
 rcases ha with rfl | rfl <;> rcases hb with rfl | rfl <;> decide
theorem i9 {xs : List Int} {n : Nat} (h : n < xs.length) : List.getD (xs.map cells) n [] = [C.s (.int .i64 (xs.getD n 0))] := by
 simp only [List.getD_eq_getElem?_getD, List.getElem?_map, List.getElem?_eq_getElem h]
 rfl
def stP (j : Nat) (l : List Int) (i : Nat) : List Int := (fD j l).take i ++ l.drop i
theorem stP_len (j : Nat) (l : List Int) (i : Nat) (h : i ≤ l.length) : (stP j l i).length = l.length := by
 simp only [stP, List.length_append, List.length_take, List.length_drop, fy]; omega
theorem sv {j : Nat} {l : List Int} {i p : Nat} (h : i ≤ p) (hi : i ≤ l.length) : (stP j l i).getD p 0 = l.getD p 0 := by
 unfold stP
 rw [List.getD_eq_getElem?_getD, List.getElem?_append_right (by rw [List.length_take, fy]; omega), List.getElem?_drop, List.length_take, fy, List.getD_eq_getElem?_getD]
 congr 2; omega
theorem yC {j : Nat} {l : List Int} {i : Nat} (hi : i < l.length) : stP j l (i + 1) = (stP j l i).set i ((fD j l).getD i 0) := by
 have hl : i < (fD j l).length := by rw [fy]; exact hi
 unfold stP
 have e : (fD j l).take (i + 1) = (fD j l).take i ++ [(fD j l).getD i 0] := by
  rw [List.getD_eq_getElem?_getD, List.getElem?_eq_getElem hl, Option.getD_some, List.take_append_getElem]
 rw [e, List.append_assoc, List.set_append_right _ _ (by rw [List.length_take]; omega), List.length_take, Nat.min_eq_left (by omega), Nat.sub_self]
 congr 1
 rw [List.drop_eq_getElem_cons hi]; rfl
theorem stP_all (j : Nat) (l : List Int) : stP j l l.length = fD j l := by
 unfold stP
 rw [List.drop_length, List.append_nil, List.take_of_length_le (by rw [fy]; omega)]
theorem x9 (j : Nat) (l : List Int) : stP j l 0 = l := rfl
theorem word_c (K : Nat) (l : List Int) (hK : K ≤ 19) (hl : l.length = 2 ^ K) (hb : ∀ i, isB (l.getD i 0)) : FC Tryz.prog 101 [.own 100000] [(100000, .row 1 3 (l.map cells))] (enc (dH K l)) [] := by
 refine dF [] is101 (by simp) (by simp [bf]) (by simp [an, ae, aq]) (by simp [an, ae, aq]) (by simp [aF, lk]) (fun cx _ _ _ => dj [] 800 ?_)
 have hle : 2 ^ K ≤ 2 ^ 19 := Nat.pow_le_pow_right (by decide) hK
 delta c101 oO oN oA oM oT oG oR oQ oS oK
 simp (maxSteps := 4000000) -implicitDefEqProofs only [mG, InR, Ent.of0, Ent.of1, Ent.of2, Ent.of3, V, W3, ↓reduceIte, Nat.reduceAdd, Nat.reduceSub, Nat.reduceMul, Nat.reduceEqDiff, Nat.reduceLT, Nat.reduceLeDiff, reduceCtorEq, Int.reduceToNat, Nat.reduceBEq]
 refine dE K (fun j => [(3, .s (.int .i64 ((2 ^ j : Nat) : Int)))]) (fun j => [(100000, .row 1 3 ((dH j l).map cells))]) (fun _ => True) trivial ?_ (fun j hj _ => dj [] 800 ?_)
 · simp (maxSteps := 4000000) -implicitDefEqProofs only [dH, Ent.of0, Ent.of1, Ent.of2, Ent.of3, V, W3, ↓reduceIte, Nat.reduceAdd, Nat.reduceSub, Nat.reduceMul, Nat.reduceEqDiff, Nat.reduceLT, Nat.reduceLeDiff, reduceCtorEq, Int.reduceToNat, Nat.reduceBEq]
   rfl
 · have hwl : (dH j l).length = 2 ^ K := by rw [gG, hl]
   by_cases h : j < K
   · have hlt : 2 ^ j < 2 ^ K := Nat.pow_lt_pow_right (by decide) h
     have hi2 : ((2 ^ j : Nat) : Int) < ((2 ^ K : Nat) : Int) := by omega
     have hwb := kl j l hb
     have hws : dH (j + 1) l = fD j (dH j l) := rfl
     generalize dH j l = w at *
     delta s8 oO oN oA oM oT oG oR oQ oS oK
     simp (maxSteps := 4000000) -implicitDefEqProofs only [mG, hwl, hi2, InR, Ent.of0, Ent.of1, Ent.of2, Ent.of3, V, W3, ↓reduceIte, Nat.reduceAdd, Nat.reduceSub, Nat.reduceMul, Nat.reduceEqDiff, Nat.reduceLT, Nat.reduceLeDiff, reduceCtorEq, Int.reduceToNat, Nat.reduceBEq]
     refine dE (2 ^ K) (fun i => [(13, .s (.int .i64 (i : Int)))]) (fun i => [(100000, .row 1 3 ((stP j w i).map cells))]) (fun _ => True) trivial ?_ (fun i hi _ => dj [] 800 ?_)
     · simp (maxSteps := 4000000) -implicitDefEqProofs only [x9, Ent.of0, Ent.of1, Ent.of2, Ent.of3, V, W3, ↓reduceIte, Nat.reduceAdd, Nat.reduceSub, Nat.reduceMul, Nat.reduceEqDiff, Nat.reduceLT, Nat.reduceLeDiff, reduceCtorEq, Int.reduceToNat, Nat.reduceBEq]
       rfl
     · by_cases h2 : i < 2 ^ K
       · have hi3 : (i : Int) < ((2 ^ K : Nat) : Int) := by omega
         have hsl := stP_len j w i (by omega)
         rw [hwl] at hsl
         have hand := r7 (a := i) (b := 2 ^ j) (by omega) (by omega)
         have hg1 := sv (j := j) (l := w) (Nat.le_refl i) (by omega)
         have hss := yC (j := j) (l := w) (i := i) (by omega)
         rw [iE (by omega)] at hss
         by_cases hc : i / 2 ^ j % 2 = 0
         · have hq : (((i &&& 2 ^ j : Nat) : Int) = 0) = True := by
            have := (tW i j).2 hc
            rw [this]; simp
           have hlt2 := bit0_lt h2 h hc
           have hlt3 : (i : Int) + ((2 ^ j : Nat) : Int) < ((2 ^ K : Nat) : Int) := by rw [← Int.natCast_add]; exact Int.ofNat_lt.2 hlt2
           have hg2 := sv (j := j) (l := w) (i := i) (p := i + 2 ^ j) (Nat.le_add_right _ _) (by omega)
           have hr1 := i9 (xs := stP j w i) (n := i) (by omega)
           have hr2 := i9 (xs := stP j w i) (n := i + 2 ^ j) (by omega)
           rw [hg1] at hr1
           rw [hg2] at hr2
           have e1 : ((i : Int) + ((2 ^ j : Nat) : Int)).toNat = i + 2 ^ j := by rw [← Int.natCast_add]; exact Int.toNat_natCast _
           have hx := xor_bx (hwb i) (hwb (i + 2 ^ j))
           rw [if_pos hc] at hss
           have hset : (List.map cells (stP j w i)).set i [C.s (.int .i64 (bx (w.getD i 0) (w.getD (i + 2 ^ j) 0)))] = (stP j w (i + 1)).map cells := by
            rw [hss, List.map_set]; rfl
           delta qh oO oN oA oM oT oG oR oQ oS oK
           simp (maxSteps := 4000000) -implicitDefEqProofs only [mG, hi3, h2, hsl, hand, hq, hr1, hr2, hlt2, hlt3, e1, hx, hset, InR, Ent.of0, Ent.of1, Ent.of2, Ent.of3, V, W3, ↓reduceIte, Nat.reduceAdd, Nat.reduceSub, Nat.reduceMul, Nat.reduceEqDiff, Nat.reduceLT, Nat.reduceLeDiff, reduceCtorEq, Int.reduceToNat, Nat.reduceBEq]
           have hpI : (0 : Int) ≤ ((2 ^ j : Nat) : Int) := Int.natCast_nonneg _
           generalize ((2 ^ j : Nat) : Int) = J at *
           refine ⟨by omega, ⟨by omega, by omega⟩, by omega, by omega, ⟨by omega, by omega⟩, by omega⟩
         · have hq : (((i &&& 2 ^ j : Nat) : Int) = 0) = False := by
            have := mt (tW i j).1 hc
            simp; omega
           rw [if_neg hc] at hss
           have hset : stP j w (i + 1) = stP j w i := by
            rw [hss, ← hg1]
            apply List.ext_getElem?
            intro p
            by_cases hp : p = i
            · subst hp
              rw [List.getElem?_set_self (by omega), List.getD_eq_getElem?_getD, List.getElem?_eq_getElem (by omega)]; rfl
            · rw [List.getElem?_set_ne (by omega)]
           delta qh oO oN oA oM oT oG oR oQ oS oK
           simp (maxSteps := 4000000) -implicitDefEqProofs only [mG, hi3, h2, hsl, hand, hq, hset, InR, Ent.of0, Ent.of1, Ent.of2, Ent.of3, V, W3, ↓reduceIte, Nat.reduceAdd, Nat.reduceSub, Nat.reduceMul, Nat.reduceEqDiff, Nat.reduceLT, Nat.reduceLeDiff, reduceCtorEq, Int.reduceToNat, Nat.reduceBEq]
           refine ⟨⟨by omega, by omega⟩, by omega⟩
       · have hie : i = 2 ^ K := by omega
         have hi3 : ¬ (i : Int) < ((2 ^ K : Nat) : Int) := by omega
         subst hie
         have hall : stP j w (2 ^ K) = fD j w := by rw [← hwl]; exact stP_all j w
         delta qh oO oN oA oM oT oG oR oQ oS oK
         simp (maxSteps := 4000000) -implicitDefEqProofs only [mG, hi3, hall, hws, InR, Ent.of0, Ent.of1, Ent.of2, Ent.of3, V, W3, ↓reduceIte, Nat.reduceAdd, Nat.reduceSub, Nat.reduceMul, Nat.reduceEqDiff, Nat.reduceLT, Nat.reduceLeDiff, reduceCtorEq, Int.reduceToNat, Nat.reduceBEq]
         have hJ2 : ((2 ^ j : Nat) : Int) * 2 = ((2 ^ (j + 1) : Nat) : Int) := by rw [Nat.pow_succ]; push_cast; rfl
         have hpI : (0 : Int) ≤ ((2 ^ j : Nat) : Int) := Int.natCast_nonneg _
         have hleI : ((2 ^ K : Nat) : Int) ≤ ((2 ^ 19 : Nat) : Int) := Int.ofNat_le.2 hle
         rw [← hJ2]
         generalize ((2 ^ j : Nat) : Int) = J at *
         generalize ((2 ^ K : Nat) : Int) = J' at *
         refine ⟨⟨by omega, by omega⟩, h, rfl⟩
   · have hje : j = K := by omega
     subst hje
     have hi2 : ¬ ((2 ^ j : Nat) : Int) < ((2 ^ j : Nat) : Int) := by omega
     delta s8 oO oN oA oM oT oG oR oQ oS oK
     simp (maxSteps := 4000000) -implicitDefEqProofs only [mG, hwl, hi2, InR, Ent.of0, Ent.of1, Ent.of2, Ent.of3, V, W3, ↓reduceIte, Nat.reduceAdd, Nat.reduceSub, Nat.reduceMul, Nat.reduceEqDiff, Nat.reduceLT, Nat.reduceLeDiff, reduceCtorEq, Int.reduceToNat, Nat.reduceBEq]
def lg : Nat → Nat → Nat
 | 0, _ => 0
 | f + 1, n => if n ≤ 1 then 0 else lg f (n / 2) + 1
theorem tv : ∀ (f K : Nat), K ≤ f → lg f (2 ^ K) = K
 | 0, K, h => by simp only [lg]; omega
 | f + 1, 0, _ => rfl
 | f + 1, K + 1, h => by
  have hp : 0 < 2 ^ K := Nat.pow_pos (by decide)
  simp only [lg]
  rw [if_neg (by rw [Nat.pow_succ]; omega), Nat.pow_succ, Nat.mul_div_cancel _ (by decide), tv f K (by omega)]
def jX (l : List Int) : Prop := ∀ i, isB (l.getD i 0)
def wordL (l : List Int) : List Int := dH (lg 20 l.length) l
def e101 : Ent Tryz.prog := .mk3 101 (fun args chs => match args, chs with
 | [.own k], [(k', .row 1 ty es)] => (eo es : Option (List Int)).bind fun l => some (k = 100000 ∧ k' = 100000 ∧ ty = 3 ∧ l.length = 2 ^ lg 20 l.length ∧ lg 20 l.length ≤ 19 ∧ jX l, enc (wordL l), [], [])
 | _, _ => none) (by
 intro args chs p r chs' nk hs hp
 split at hs
 · simp only [Option.bind_eq_some_iff, Option.some.injEq, Prod.mk.injEq] at hs
   obtain ⟨l, hl, rfl, rfl, rfl, rfl⟩ := hs
   obtain ⟨rfl, rfl, rfl, h1, h2, h3⟩ := hp
   have := dV hl
   subst this
   exact ⟨word_c _ l h2 h1 h3, ⟨fun k c h => by simp at h, fun k cs h => by simp at h, trivial, fun k c h => by simp at h⟩⟩
 · cases hs)
end Go.Proofs.YteoobfmbipmibaaGreat
end
section
open Go Go.Am
open Go.Am.Dat (cells)
namespace Go.Proofs.YteoobfmbipmibaaGreat
set_option maxHeartbeats 4000000
set_option maxRecDepth 100000
def ed (n : Nat) (info bits : List Int) : Nat → List Int
 | 0 => List.replicate n 0
 | i + 1 => (ed n info bits i).set (info.getD i 0).toNat (bits.getD i 0)
theorem iU (n : Nat) (info bits : List Int) : ∀ i, (ed n info bits i).length = n
 | 0 => by simp [ed]
 | i + 1 => by simp [ed, iU n info bits i]
theorem eZ {l : List Int} {i p : Nat} {v : Int} (h : i < l.length) : (l.set i v).getD p 0 = if p = i then v else l.getD p 0 := by
 rw [List.getD_eq_getElem?_getD, List.getD_eq_getElem?_getD]
 by_cases hp : p = i
 · subst hp; rw [List.getElem?_set_self h, if_pos rfl]; rfl
 · rw [List.getElem?_set_ne (by omega), if_neg hp]
theorem te {l : List Int} {i : Nat} {v : Int} (hl : jX l) (hv : isB v) : jX (l.set i v) := by
 intro p
 by_cases h : i < l.length
 · rw [eZ h]; split
   · exact hv
   · exact hl p
 · rw [List.set_eq_of_length_le (by omega)]; exact hl p
theorem jI {n : Nat} {info bits : List Int} (hb : jX bits) : ∀ i, jX (ed n info bits i)
 | 0 => fun p => by
  rw [ed, List.getD_eq_getElem?_getD, List.getElem?_replicate]
  split <;> exact .inl rfl
 | i + 1 => te (jI hb i) (hb i)
def nr (p : Pol) (bits : List Int) : List Int := dH p.power.toNat (ed (2 ^ p.power.toNat) p.info bits p.info.length)
structure PolOk (p : Pol) : Prop where
 pow : 0 ≤ p.power ∧ p.power ≤ 6
 ne : 0 < p.info.length
 rng : ∀ t ∈ p.info, 0 ≤ t ∧ t ≤ 2 ^ p.power.toNat - 1
 inc : p.info.Pairwise (· < ·)
theorem tA {p : Pol} (h : eG p = 0) : PolOk p := by
 unfold eG at h
 split at h
 · cases h
 · split at h
   · cases h
   · rename_i h1 h2
     have g := mN h
     exact ⟨by simpa using h1, by omega, fun t ht => (g.1 t ht).1, g.2⟩
theorem lI (n : Nat) : List.replicate n [C.s (.int .i64 0)] = (List.replicate n (0 : Int)).map cells := by rw [List.map_replicate]; rfl
theorem yH (p : Pol) (bits : List Int) (hp : PolOk p) (hl : p.info.length ≤ bits.length) (hb : jX bits) : FC Tryz.prog 52 [enc p, enc bits] [] (enc (nr p bits)) [] := by
 obtain ⟨pw, info⟩ := p
 obtain ⟨h1, h2, h3, h4⟩ := hp
 simp only at h1 h2 h3 h4 hl
 obtain ⟨K, rfl⟩ : ∃ K : Nat, pw = (K : Int) := ⟨pw.toNat, by omega⟩
 simp only [nr, Int.toNat_natCast] at h3 ⊢
 have hpw : (2 : Int) ^ K = ((2 ^ K : Nat) : Int) := by push_cast; rfl
 have hmin : min K IntKind.i64.bits = K := Nat.min_eq_left (by show K ≤ 64; omega)
 have hle : 2 ^ K ≤ 2 ^ 6 := Nat.pow_le_pow_right (by decide) (by omega)
 have hz := lI (2 ^ K)
 refine dk D.is52 (by simp) (fun cx hl' => dj [] 800 ?_)
 simp only [fJ, V, W3, ↓reduceIte, Nat.reduceAdd, Nat.reduceSub, Nat.reduceMul, Nat.reduceEqDiff, Nat.reduceLT, Nat.reduceLeDiff, reduceCtorEq, Int.reduceToNat, Nat.reduceBEq] at hl'
 have hlen := hl'.1.list
 delta D.c52 oO oN oA oM oT oG oR oQ oS oK
 simp (maxSteps := 4000000) -implicitDefEqProofs only [D.rv52, fJ, hpw, hmin, Int.one_mul, Int.toNat_natCast, hz, InR, Ent.of0, Ent.of1, Ent.of2, Ent.of3, V, W3, ↓reduceIte, Nat.reduceAdd, Nat.reduceSub, Nat.reduceMul, Nat.reduceEqDiff, Nat.reduceLT, Nat.reduceLeDiff, reduceCtorEq, Int.reduceToNat, Nat.reduceBEq]
 have hpI : (0 : Int) ≤ ((2 ^ K : Nat) : Int) := Int.natCast_nonneg _
 have hleI : ((2 ^ K : Nat) : Int) ≤ ((2 ^ 6 : Nat) : Int) := Int.ofNat_le.2 hle
 refine ⟨by omega, by omega, ?_⟩
 rw [hpw] at h3
 generalize hN : 2 ^ K = N at *
 refine dE info.length (fun i => [(15, .s (.int .i64 (i : Int)))]) (fun i => [(11, .row 1 3 ((ed N info bits i).map cells))]) (fun _ => True) trivial ?_ (fun i hi _ => dj [] 800 ?_)
 · simp (maxSteps := 4000000) -implicitDefEqProofs only [ed, Ent.of0, Ent.of1, Ent.of2, Ent.of3, V, W3, ↓reduceIte, Nat.reduceAdd, Nat.reduceSub, Nat.reduceMul, Nat.reduceEqDiff, Nat.reduceLT, Nat.reduceLeDiff, reduceCtorEq, Int.reduceToNat, Nat.reduceBEq]
   rfl
 · have hpl := iU N info bits i
   by_cases h : i < info.length
   · have hi2 : (i : Int) < (info.length : Int) := by omega
     have hb2 : i < bits.length := by omega
     have hi3 : (i : Int) < (bits.length : Int) := by omega
     have hr := h3 (info.getD i 0) (by rw [List.getD_eq_getElem?_getD, List.getElem?_eq_getElem h]; exact List.getElem_mem h)
     obtain ⟨q, hq⟩ : ∃ q : Nat, info.getD i 0 = (q : Int) := ⟨(info.getD i 0).toNat, by omega⟩
     have hpt : ed N info bits (i + 1) = (ed N info bits i).set q (bits.getD i 0) := by rw [ed, hq, Int.toNat_natCast]
     rw [hq] at hr
     have hq1 : q < N := by omega
     have hq2 : (q : Int) < (N : Int) := by omega
     have hset : (List.map cells (ed N info bits i)).set q [C.s (.int .i64 (bits.getD i 0))] = (ed N info bits (i + 1)).map cells := by
      rw [hpt, List.map_set]; rfl
     have hr0 := i9 (xs := ed N info bits i) (n := q) (by omega)
     delta D.c52l1 oO oN oA oM oT oG oR oQ oS oK
     simp (maxSteps := 4000000) -implicitDefEqProofs only [D.rv52, hi2, h, hb2, hi3, hq, hpl, hq1, hq2, hr0, hset, Int.toNat_natCast, InR, Ent.of0, Ent.of1, Ent.of2, Ent.of3, V, W3, ↓reduceIte, Nat.reduceAdd, Nat.reduceSub, Nat.reduceMul, Nat.reduceEqDiff, Nat.reduceLT, Nat.reduceLeDiff, reduceCtorEq, Int.reduceToNat, Nat.reduceBEq]
     refine ⟨by omega, by omega, by omega, ⟨by omega, by omega⟩, by omega⟩
   · have hi2 : ¬ (i : Int) < (info.length : Int) := by omega
     have hie : i = info.length := by omega
     subst hie
     have hbl := jI (n := N) (info := info) hb info.length
     generalize ed N info bits info.length = u at *
     delta D.c52l1 oO oN oA oM oT oG oR oQ oS oK
     simp (maxSteps := 4000000) -implicitDefEqProofs only [D.rv52, hi2, InR, Ent.of0, Ent.of1, Ent.of2, Ent.of3, V, W3, ↓reduceIte, Nat.reduceAdd, Nat.reduceSub, Nat.reduceMul, Nat.reduceEqDiff, Nat.reduceLT, Nat.reduceLeDiff, reduceCtorEq, Int.reduceToNat, Nat.reduceBEq]
     have hlg : lg 20 N = K := by rw [← hN]; exact tv 20 K (by omega)
     delta D.c52k2 oO oN oA oM oT oG oR oQ oS oK
     refine gQ (sk (o9 (D_mv (t3 [e101] [11] ?_))))
     simp (maxSteps := 4000000) -implicitDefEqProofs only [qj, e101, hpl, hlg, hbl, wordL, Ent.of0, Ent.of1, Ent.of2, Ent.of3, V, W3, ↓reduceIte, Nat.reduceAdd, Nat.reduceSub, Nat.reduceMul, Nat.reduceEqDiff, Nat.reduceLT, Nat.reduceLeDiff, reduceCtorEq, Int.reduceToNat, Nat.reduceBEq]
     refine ⟨⟨hN.symm, by omega⟩, iC [] 200 ?_⟩
     simp (maxSteps := 4000000) -implicitDefEqProofs only [D.rv52, Ent.of0, Ent.of1, Ent.of2, Ent.of3, V, W3, ↓reduceIte, Nat.reduceAdd, Nat.reduceSub, Nat.reduceMul, Nat.reduceEqDiff, Nat.reduceLT, Nat.reduceLeDiff, reduceCtorEq, Int.reduceToNat, Nat.reduceBEq]
def ent52 : Ent Tryz.prog := .of2 52 (fun (p : Pol) (l : List Int) => PolOk p ∧ p.info.length ≤ l.length ∧ jX l) (fun (p : Pol) (l : List Int) => enc (nr p l)) (fun _ _ => trivial) (fun p l h => yH p l h.1 h.2.1 h.2.2)
end Go.Proofs.YteoobfmbipmibaaGreat
end
section
open Go Go.Am
open Go.Am.Dat (cells)
namespace Go.Proofs.YteoobfmbipmibaaGreat
set_option maxHeartbeats 4000000
set_option maxRecDepth 100000
theorem isNaN_c (n : Int) : FC Tryz.prog 138 [enc n] [] (enc false) [] := by
 refine dk is138 (by simp) (fun cx hl => dj [] 800 ?_)
 delta c138 oO oN oA oM oT oG oR oQ oS oK
 simp (maxSteps := 4000000) -implicitDefEqProofs only [rv138, Ent.of0, Ent.of1, Ent.of2, Ent.of3, V, W3, ↓reduceIte, Nat.reduceAdd, Nat.reduceSub, Nat.reduceMul, Nat.reduceEqDiff, Nat.reduceLT, Nat.reduceLeDiff, reduceCtorEq, Int.reduceToNat, Nat.reduceBEq]
def lZ : Ent Tryz.prog := .of1 138 (fun _ => True) (fun _ : Int => enc false) (fun _ => trivial) (fun n _ => isNaN_c n)
theorem yS (n : Int) : FC Tryz.prog 135 [enc n] [] (enc false) [] := by
 refine dk is135 (by simp) (fun cx hl => dj [] 800 ?_)
 delta c135 oO oN oA oM oT oG oR oQ oS oK
 simp (maxSteps := 4000000) -implicitDefEqProofs only [rv135, Ent.of0, Ent.of1, Ent.of2, Ent.of3, V, W3, ↓reduceIte, Nat.reduceAdd, Nat.reduceSub, Nat.reduceMul, Nat.reduceEqDiff, Nat.reduceLT, Nat.reduceLeDiff, reduceCtorEq, Int.reduceToNat, Nat.reduceBEq]
def na : Ent Tryz.prog := .of1 135 (fun _ => True) (fun _ : Int => enc false) (fun _ => trivial) (fun n _ => yS n)
theorem Less_c (a b : Int) : FC Tryz.prog 134 [enc a, enc b] [] (enc (decide (a < b))) [] := by
 refine dk is134 (by simp) (fun cx hl => gK [lZ] 800 ?_)
 delta c134 oO oN oA oM oT oG oR oQ oS oK
 simp (maxSteps := 4000000) -implicitDefEqProofs only [rv134, lZ, Ent.of0, Ent.of1, Ent.of2, Ent.of3, V, W3, ↓reduceIte, Nat.reduceAdd, Nat.reduceSub, Nat.reduceMul, Nat.reduceEqDiff, Nat.reduceLT, Nat.reduceLeDiff, reduceCtorEq, Int.reduceToNat, Nat.reduceBEq]
def k9 : Ent Tryz.prog := .of2 134 (fun _ _ => True) (fun a b : Int => enc (decide (a < b))) (fun _ _ => trivial) (fun a b _ => Less_c a b)
theorem xZ (a b : Int) : FC Tryz.prog 137 [enc a, enc b] [] (enc (if a < b then (-1 : Int) else if b < a then 1 else 0)) [] := by
 refine dk is137 (by simp) (fun cx hl => dj [lZ] 800 ?_)
 by_cases h1 : a < b
 · delta c137 oO oN oA oM oT oG oR oQ oS oK
   simp (maxSteps := 4000000) -implicitDefEqProofs only [sf, lZ, h1, Ent.of0, Ent.of1, Ent.of2, Ent.of3, V, W3, ↓reduceIte, Nat.reduceAdd, Nat.reduceSub, Nat.reduceMul, Nat.reduceEqDiff, Nat.reduceLT, Nat.reduceLeDiff, reduceCtorEq, Int.reduceToNat, Nat.reduceBEq]
 · by_cases h2 : b < a
   · delta c137 oO oN oA oM oT oG oR oQ oS oK
     simp (maxSteps := 4000000) -implicitDefEqProofs only [sf, lZ, h1, h2, Ent.of0, Ent.of1, Ent.of2, Ent.of3, V, W3, ↓reduceIte, Nat.reduceAdd, Nat.reduceSub, Nat.reduceMul, Nat.reduceEqDiff, Nat.reduceLT, Nat.reduceLeDiff, reduceCtorEq, Int.reduceToNat, Nat.reduceBEq]
   · delta c137 oO oN oA oM oT oG oR oQ oS oK
     simp (maxSteps := 4000000) -implicitDefEqProofs only [sf, lZ, h1, h2, Ent.of0, Ent.of1, Ent.of2, Ent.of3, V, W3, ↓reduceIte, Nat.reduceAdd, Nat.reduceSub, Nat.reduceMul, Nat.reduceEqDiff, Nat.reduceLT, Nat.reduceLeDiff, reduceCtorEq, Int.reduceToNat, Nat.reduceBEq]
def wc : Ent Tryz.prog := .of2 137 (fun _ _ => True) (fun a b : Int => enc (if a < b then (-1 : Int) else if b < a then 1 else 0)) (fun _ _ => trivial) (fun a b _ => xZ a b)
theorem sign_c (n : Int) : FC Tryz.prog 133 [enc n] [] (enc (sgP n)) [] := by
 refine dk is133 (by simp) (fun cx hl => dj [wc] 800 ?_)
 have h : (if n < 0 then (-1 : Int) else if 0 < n then 1 else 0) = sgP n := by unfold sgP; grind
 delta c133 oO oN oA oM oT oG oR oQ oS oK
 simp (maxSteps := 4000000) -implicitDefEqProofs only [rv133, wc, h, Ent.of0, Ent.of1, Ent.of2, Ent.of3, V, W3, ↓reduceIte, Nat.reduceAdd, Nat.reduceSub, Nat.reduceMul, Nat.reduceEqDiff, Nat.reduceLT, Nat.reduceLeDiff, reduceCtorEq, Int.reduceToNat, Nat.reduceBEq]
def tH : Ent Tryz.prog := .of1 133 (fun _ => True) (fun n : Int => enc (sgP n)) (fun _ => trivial) (fun n _ => sign_c n)
theorem size_c (n : Int) (h : InR .i64 (-n)) : FC Tryz.prog 132 [enc n] [] (enc (szP n)) [] := by
 refine dk is132 (by simp) (fun cx hl => dj [] 800 ?_)
 delta c132 oO oN oA oM oT oG oR oQ oS oK
 simp (maxSteps := 4000000) -implicitDefEqProofs only [rv132, h, Ent.of0, Ent.of1, Ent.of2, Ent.of3, V, W3, ↓reduceIte, Nat.reduceAdd, Nat.reduceSub, Nat.reduceMul, Nat.reduceEqDiff, Nat.reduceLT, Nat.reduceLeDiff, reduceCtorEq, Int.reduceToNat, Nat.reduceBEq]
 rfl
def tE : Ent Tryz.prog := .of1 132 (fun n => InR .i64 (-n)) (fun n : Int => enc (szP n)) (fun _ => trivial) (fun n h => size_c n h)
def lbS (x : Int) : List Int → Nat
 | [] => 0
 | y :: l => if y < x then lbS x l + 1 else 0
theorem wM {x : Int} : ∀ {l : List Int} {i : Nat}, i ≤ l.length → (∀ p, p < i → l.getD p 0 < x) → (i < l.length → ¬ l.getD i 0 < x) → lbS x l = i
 | [], i, h, _, _ => by simp at h; simp [lbS, h]
 | y :: l, 0, _, _, h2 => by
  have := h2 (by simp)
  simp only [List.getD_cons_zero] at this
  simp [lbS, this]
 | y :: l, i + 1, h, h1, h2 => by
  have h0 := h1 0 (by omega)
  simp only [List.getD_cons_zero] at h0
  simp only [lbS, if_pos h0]
  rw [wM (i := i) (by simpa using h) (fun p hp => by have := h1 (p + 1) (by omega); simpa using this) (fun hp => by have := h2 (by simpa using hp); simpa using this)]
theorem xl {x : Int} {l : List Int} (hs : l.Pairwise (· < ·)) {i : Nat} (h : i ≤ l.length) (h1 : ∀ p, p < i → l.getD p 0 < x) (h2 : i < l.length → ¬ l.getD i 0 < x) : (i < l.length ∧ l.getD i 0 = x) ↔ x ∈ l := by
 constructor
 · rintro ⟨h3, rfl⟩
   rw [List.getD_eq_getElem?_getD, List.getElem?_eq_getElem h3]; exact List.getElem_mem h3
 · intro hm
   obtain ⟨p, hp, rfl⟩ := List.getElem_of_mem hm
   have hg : l.getD p 0 = l[p] := by rw [List.getD_eq_getElem?_getD, List.getElem?_eq_getElem hp]; rfl
   have hpi : i ≤ p := by
    rcases Nat.lt_or_ge p i with h3 | h3
    · have := h1 p h3; omega
    · exact h3
   have hi : i < l.length := by omega
   have hgi : l.getD i 0 = l[i] := by rw [List.getD_eq_getElem?_getD, List.getElem?_eq_getElem hi]; rfl
   refine ⟨hi, ?_⟩
   rcases Nat.lt_or_ge i p with h3 | h3
   · have := List.pairwise_iff_getElem.1 hs i p hi hp h3
     have := h2 hi
     omega
   · have : p = i := by omega
     subst this
     exact hg
theorem mono_lt {x : Int} {l : List Int} (hs : l.Pairwise (· < ·)) {p h : Nat} (hp : p ≤ h) (hl : h < l.length) (hx : l.getD h 0 < x) : l.getD p 0 < x := by
 have hgp : l.getD p 0 = l[p] := by rw [List.getD_eq_getElem?_getD, List.getElem?_eq_getElem (by omega)]; rfl
 have hgh : l.getD h 0 = l[h] := by rw [List.getD_eq_getElem?_getD, List.getElem?_eq_getElem hl]; rfl
 rcases Nat.lt_or_ge p h with h3 | h3
 · have := List.pairwise_iff_getElem.1 hs p h (by omega) hl h3
   omega
 · have : p = h := by omega
   subst this; exact hx
def inB (l : List Int) (x : Int) : Bool := decide (x ∈ l)
theorem qF (l : List Int) (x : Int) (hs : l.Pairwise (· < ·)) (hn : l.length ≤ 1000000) : FC Tryz.prog 120 [enc l, enc x] [] (.tup [enc (lbS x l : Int), enc (inB l x)]) [] := by
 refine dk is120 (by simp) (fun cx hl => dj [k9, na] 800 ?_)
 delta c120 oO oN oA oM oT oG oR oQ oS oK
 simp (maxSteps := 4000000) -implicitDefEqProofs only [nR, k9, na, Ent.of0, Ent.of1, Ent.of2, Ent.of3, V, W3, ↓reduceIte, Nat.reduceAdd, Nat.reduceSub, Nat.reduceMul, Nat.reduceEqDiff, Nat.reduceLT, Nat.reduceLeDiff, reduceCtorEq, Int.reduceToNat, Nat.reduceBEq]
 refine iD (α := Nat × Nat) (fun v => [(7, .s (.int .i64 (v.1 : Int))), (8, .s (.int .i64 (v.2 : Int)))]) (fun _ => []) (fun v => v.1 ≤ v.2 ∧ v.2 ≤ l.length ∧ (∀ p, p < v.1 → l.getD p 0 < x) ∧ (v.2 < l.length → ¬ l.getD v.2 0 < x)) (fun v => v.2 - v.1) (0, l.length) ⟨by omega, by omega, fun p hp => by omega, fun h => by omega⟩ ?_ (fun v hv => gK [k9, na] 800 ?_)
 · simp (maxSteps := 4000000) -implicitDefEqProofs only [Ent.of0, Ent.of1, Ent.of2, Ent.of3, V, W3, ↓reduceIte, Nat.reduceAdd, Nat.reduceSub, Nat.reduceMul, Nat.reduceEqDiff, Nat.reduceLT, Nat.reduceLeDiff, reduceCtorEq, Int.reduceToNat, Nat.reduceBEq]; simp
 · obtain ⟨i, j⟩ := v
   obtain ⟨v1, v2, v3, v4⟩ := hv
   simp only at v1 v2 v3 v4
   by_cases h : i < j
   · have hi : (i : Int) < (j : Int) := by omega
     obtain ⟨q, hq⟩ : ∃ q : Nat, q = (i + j) / 2 := ⟨_, rfl⟩
     have hfd : ((i : Int) + (j : Int)).fdiv (2 ^ min 1 IntKind.u64.bits) = (q : Int) := by
      have : (2 : Int) ^ min 1 IntKind.u64.bits = 2 := rfl
      rw [this, Int.fdiv_eq_ediv_of_nonneg _ (by decide), hq]; omega
     have hq1 : q < l.length := by omega
     have hq2 : (q : Int) < (l.length : Int) := by omega
     by_cases hlt : l.getD q 0 < x
     · delta m5 oO oN oA oM oT oG oR oQ oS oK
       simp (maxSteps := 4000000) -implicitDefEqProofs only [nR, hi, hfd, hq1, hq2, hlt, Int.toNat_natCast, k9, InR, WU, Int.reduceAdd, Int.reduceSub, Int.reduceMul, Int.reduceLT, Int.reduceLE, Int.reduceTMod, Int.reduceTDiv, Int.reduceNeg, Int.reduceEq, Nat.reducePow, Int.reducePow, Ent.of0, Ent.of1, Ent.of2, Ent.of3, V, W3, ↓reduceIte, Nat.reduceAdd, Nat.reduceSub, Nat.reduceMul, Nat.reduceEqDiff, Nat.reduceLT, Nat.reduceLeDiff, reduceCtorEq, Int.reduceToNat, Nat.reduceBEq]
       refine ⟨by omega, by omega, by omega, by omega, by omega, (q + 1, j), ⟨by simp only; omega, v2, fun p hp => mono_lt hs (h := q) (by simp only at hp; omega) hq1 hlt, v4⟩, by simp only; omega, by simp only; push_cast; rfl, rfl⟩
     · delta m5 oO oN oA oM oT oG oR oQ oS oK
       simp (maxSteps := 4000000) -implicitDefEqProofs only [nR, hi, hfd, hq1, hq2, hlt, Int.toNat_natCast, k9, InR, WU, Int.reduceAdd, Int.reduceSub, Int.reduceMul, Int.reduceLT, Int.reduceLE, Int.reduceTMod, Int.reduceTDiv, Int.reduceNeg, Int.reduceEq, Nat.reducePow, Int.reducePow, Ent.of0, Ent.of1, Ent.of2, Ent.of3, V, W3, ↓reduceIte, Nat.reduceAdd, Nat.reduceSub, Nat.reduceMul, Nat.reduceEqDiff, Nat.reduceLT, Nat.reduceLeDiff, reduceCtorEq, Int.reduceToNat, Nat.reduceBEq]
       refine ⟨by omega, by omega, by omega, by omega, (i, q), ⟨by simp only; omega, by simp only; omega, v3, fun _ => hlt⟩, by simp only; omega, rfl, rfl⟩
   · have hi : ¬ (i : Int) < (j : Int) := by omega
     have hij : i = j := by omega
     subst hij
     have hlb := wM v2 v3 v4
     have hf := xl hs v2 v3 v4
     by_cases h2 : i < l.length
     · have h3 : (i : Int) < (l.length : Int) := by omega
       delta m5 oO oN oA oM oT oG oR oQ oS oK
       simp (maxSteps := 4000000) -implicitDefEqProofs only [nR, hi, h2, h3, hlb, k9, na, inB, InR, WU, Int.reduceAdd, Int.reduceSub, Int.reduceMul, Int.reduceLT, Int.reduceLE, Int.reduceTMod, Int.reduceTDiv, Int.reduceNeg, Int.reduceEq, Nat.reducePow, Int.reducePow, Ent.of0, Ent.of1, Ent.of2, Ent.of3, V, W3, ↓reduceIte, Nat.reduceAdd, Nat.reduceSub, Nat.reduceMul, Nat.reduceEqDiff, Nat.reduceLT, Nat.reduceLeDiff, reduceCtorEq, Int.reduceToNat, Nat.reduceBEq]
       refine ⟨by omega, ?_⟩
       split
       · rename_i h4
         refine ⟨by omega, ?_⟩
         have : ¬ x ∈ l := fun hm => h4 (hf.2 hm).2
         simp [this]
       · rename_i h4
         have : x ∈ l := hf.1 ⟨h2, by simpa using h4⟩
         simp [this]
     · have h3 : ¬ (i : Int) < (l.length : Int) := by omega
       delta m5 oO oN oA oM oT oG oR oQ oS oK
       simp (maxSteps := 4000000) -implicitDefEqProofs only [nR, hi, h2, h3, hlb, k9, na, inB, InR, WU, Int.reduceAdd, Int.reduceSub, Int.reduceMul, Int.reduceLT, Int.reduceLE, Int.reduceTMod, Int.reduceTDiv, Int.reduceNeg, Int.reduceEq, Nat.reducePow, Int.reducePow, Ent.of0, Ent.of1, Ent.of2, Ent.of3, V, W3, ↓reduceIte, Nat.reduceAdd, Nat.reduceSub, Nat.reduceMul, Nat.reduceEqDiff, Nat.reduceLT, Nat.reduceLeDiff, reduceCtorEq, Int.reduceToNat, Nat.reduceBEq]
       have : ¬ x ∈ l := fun hm => h2 (hf.2 hm).1
       simp [this]
end Go.Proofs.YteoobfmbipmibaaGreat
end
section
open Go Go.Am
open Go.Am.Dat (cells)
namespace Go.Proofs.YteoobfmbipmibaaGreat
set_option maxHeartbeats 4000000
set_option maxRecDepth 100000
def xQ : Ent Tryz.prog := .of2 120 (fun (l : List Int) (x : Int) => l.Pairwise (· < ·) ∧ l.length ≤ 1000000) (fun (l : List Int) (x : Int) => .tup [enc (lbS x l : Int), enc (inB l x)]) (fun _ _ => ⟨trivial, trivial, trivial⟩) (fun l x h => qF l x h.1 h.2)
def jn (p : Pol) : C := .ref [.s (.int .i64 p.power), .sl 1 (p.info.map cells)]
theorem cl119_c (p : Pol) (n : Int) (hs : p.info.Pairwise (· < ·)) (hn : p.info.length ≤ 1000000) : FC Tryz.prog 119 [enc n, jn p] [] (enc (inB p.info n)) [] := by
 have hc : (p.info.Pairwise (· < ·) ∧ p.info.length ≤ 1000000) := ⟨hs, hn⟩
 refine dk is119 (by simp) (fun cx hl => dj [xQ] 800 ?_)
 delta c119 oO oN oA oM oT oG oR oQ oS oK
 simp (maxSteps := 4000000) -implicitDefEqProofs only [rv119, xQ, jn, hc, Ent.of0, Ent.of1, Ent.of2, Ent.of3, V, W3, ↓reduceIte, Nat.reduceAdd, Nat.reduceSub, Nat.reduceMul, Nat.reduceEqDiff, Nat.reduceLT, Nat.reduceLeDiff, reduceCtorEq, Int.reduceToNat, Nat.reduceBEq]
def e119 (p : Pol) (hs : p.info.Pairwise (· < ·)) (hn : p.info.length ≤ 1000000) : Ent Tryz.prog := .mk3 119 (fun args chs => match args, chs with
 | [.s (.int .i64 n), .ref [.s (.int .i64 w), .sl 1 es]], [] => some (w = p.power ∧ es = p.info.map cells, enc (inB p.info n), [], [])
 | _, _ => none) (by
 intro args chs q r chs' nk h1 h2
 split at h1
 · simp only [Option.some.injEq, Prod.mk.injEq] at h1
   obtain ⟨rfl, rfl, rfl, rfl⟩ := h1
   obtain ⟨rfl, rfl⟩ := h2
   exact ⟨cl119_c p _ hs hn, .plain trivial⟩
 · cases h1)
def isI (p : Pol) (n : Nat) : Bool := inB p.info n
theorem FC.rename {f : FuncId} {args : List C} {a b : Nat} {es : List (List C)} (hf : FC Tryz.prog f args [] (.own a) [(a, .row 1 3 es)]) (ha : ∀ m, args.map (ai m) = args) : FC Tryz.prog f args [] (.own b) [(b, .row 1 3 es)] := by
 have h := hf.ren [(a, b)] [a] (by simp) (fun k c h => by simp at h) (fun k c h => by simp at h; obtain ⟨rfl, rfl⟩ := h; exact ⟨List.mem_singleton.2 rfl, trivial⟩) (List.mem_singleton.2 rfl)
 rw [ha] at h
 have e : rn [(a, b)] a = b := by simp [rn, lk]
 simpa [ai, ap, aH, e] using h
theorem nS {l : List Int} {f : Int} {p : Pol} : ∀ m, List.map (ai m) [enc l, enc f, .fn (.func 119) [] [jn p]] = [enc l, enc f, .fn (.func 119) [] [jn p]] := fun m => by
 simp [ai, ai.renCs, jn, V, W3, ↓reduceIte, Nat.reduceAdd, Nat.reduceSub, Nat.reduceMul, Nat.reduceEqDiff, Nat.reduceLT, Nat.reduceLeDiff, reduceCtorEq, Int.reduceToNat, Nat.reduceBEq]
theorem xh (p : Pol) (hs : p.info.Pairwise (· < ·)) (hn : p.info.length ≤ 1000000) (l : List Int) (f : Nat) (hl : l.length = 1) : FC Tryz.prog 118 [enc l, enc (f : Int), .fn (.func 119) [] [jn p]] [] (.own 5) [(5, .row 1 3 ((fQ (isI p) 0 f l).map cells))] := by
 have h12 : ((1 : Nat) : Int).tdiv 2 = 0 := rfl
 cases hi : isI p f with
 | false =>
  have hi' : inB p.info (f : Int) = false := hi
  refine FC.rename (a := 30) ?_ nS
  refine dF [30] D.is118 (by simp) trivial trivial (by simp [an, ae, aq]) trivial (fun cx _ hl' _ => gK [e119 p hs hn] 800 ?_)
  delta D.c118 oO oN oA oM oT oG oR oQ oS oK
  simp (maxSteps := 4000000) -implicitDefEqProofs only [D.rv118, e119, jn, hl, hi', h12, fQ, hi, InR, WU, Int.reduceAdd, Int.reduceSub, Int.reduceMul, Int.reduceLT, Int.reduceLE, Int.reduceTMod, Int.reduceTDiv, Int.reduceNeg, Int.reduceEq, Nat.reducePow, Int.reducePow, Ent.of0, Ent.of1, Ent.of2, Ent.of3, V, W3, ↓reduceIte, Nat.reduceAdd, Nat.reduceSub, Nat.reduceMul, Nat.reduceEqDiff, Nat.reduceLT, Nat.reduceLeDiff, reduceCtorEq, Int.reduceToNat, Nat.reduceBEq]
  refine qv [[C.s (.int .i64 0)]] rfl rfl rfl (iC [] 200 ?_)
  simp (maxSteps := 4000000) -implicitDefEqProofs only [rowE, D.rv118, Ent.of0, Ent.of1, Ent.of2, Ent.of3, V, W3, ↓reduceIte, Nat.reduceAdd, Nat.reduceSub, Nat.reduceMul, Nat.reduceEqDiff, Nat.reduceLT, Nat.reduceLeDiff, reduceCtorEq, Int.reduceToNat, Nat.reduceBEq]
 | true =>
  have hi' : inB p.info (f : Int) = true := hi
  by_cases h0 : l.getD 0 0 < 0
  · refine FC.rename (a := 29) ?_ nS
    refine dF [29] D.is118 (by simp) trivial trivial (by simp [an, ae, aq]) trivial (fun cx _ hl' _ => gK [e119 p hs hn] 800 ?_)
    delta D.c118 oO oN oA oM oT oG oR oQ oS oK
    simp (maxSteps := 4000000) -implicitDefEqProofs only [D.rv118, e119, jn, hl, hi', h12, fQ, hi, h0, InR, WU, Int.reduceAdd, Int.reduceSub, Int.reduceMul, Int.reduceLT, Int.reduceLE, Int.reduceTMod, Int.reduceTDiv, Int.reduceNeg, Int.reduceEq, Nat.reducePow, Int.reducePow, Ent.of0, Ent.of1, Ent.of2, Ent.of3, V, W3, ↓reduceIte, Nat.reduceAdd, Nat.reduceSub, Nat.reduceMul, Nat.reduceEqDiff, Nat.reduceLT, Nat.reduceLeDiff, reduceCtorEq, Int.reduceToNat, Nat.reduceBEq]
    refine qv [[C.s (.int .i64 1)]] rfl rfl rfl (iC [] 200 ?_)
    simp (maxSteps := 4000000) -implicitDefEqProofs only [rowE, D.rv118, Ent.of0, Ent.of1, Ent.of2, Ent.of3, V, W3, ↓reduceIte, Nat.reduceAdd, Nat.reduceSub, Nat.reduceMul, Nat.reduceEqDiff, Nat.reduceLT, Nat.reduceLeDiff, reduceCtorEq, Int.reduceToNat, Nat.reduceBEq]
  · refine FC.rename (a := 30) ?_ nS
    refine dF [30] D.is118 (by simp) trivial trivial (by simp [an, ae, aq]) trivial (fun cx _ hl' _ => gK [e119 p hs hn] 800 ?_)
    delta D.c118 oO oN oA oM oT oG oR oQ oS oK
    simp (maxSteps := 4000000) -implicitDefEqProofs only [D.rv118, e119, jn, hl, hi', h12, fQ, hi, h0, InR, WU, Int.reduceAdd, Int.reduceSub, Int.reduceMul, Int.reduceLT, Int.reduceLE, Int.reduceTMod, Int.reduceTDiv, Int.reduceNeg, Int.reduceEq, Nat.reducePow, Int.reducePow, Ent.of0, Ent.of1, Ent.of2, Ent.of3, V, W3, ↓reduceIte, Nat.reduceAdd, Nat.reduceSub, Nat.reduceMul, Nat.reduceEqDiff, Nat.reduceLT, Nat.reduceLeDiff, reduceCtorEq, Int.reduceToNat, Nat.reduceBEq]
    refine qv [[C.s (.int .i64 0)]] rfl rfl rfl (iC [] 200 ?_)
    simp (maxSteps := 4000000) -implicitDefEqProofs only [rowE, D.rv118, Ent.of0, Ent.of1, Ent.of2, Ent.of3, V, W3, ↓reduceIte, Nat.reduceAdd, Nat.reduceSub, Nat.reduceMul, Nat.reduceEqDiff, Nat.reduceLT, Nat.reduceLeDiff, reduceCtorEq, Int.reduceToNat, Nat.reduceBEq]
end Go.Proofs.YteoobfmbipmibaaGreat
end
section
open Go Go.Am
open Go.Am.Dat (cells)
namespace Go.Proofs.YteoobfmbipmibaaGreat
set_option maxHeartbeats 4000000
set_option maxRecDepth 100000
def gF (g f : List Int) (i : Nat) : List Int := g.take i ++ f.drop i
theorem uW {g f : List Int} {i : Nat} (hl : g.length = f.length) (h : i ≤ f.length) : (gF g f i).length = f.length := by
 simp only [gF, List.length_append, List.length_take, List.length_drop]; omega
theorem tq {g f : List Int} {i : Nat} (hl : g.length = f.length) (hi : i < f.length) : gF g f (i + 1) = (gF g f i).set i (g.getD i 0) := by
 have hg : i < g.length := by omega
 unfold gF
 have e : g.take (i + 1) = g.take i ++ [g.getD i 0] := by
  rw [List.getD_eq_getElem?_getD, List.getElem?_eq_getElem hg, Option.getD_some, List.take_append_getElem]
 rw [e, List.append_assoc, List.set_append_right _ _ (by rw [List.length_take]; omega), List.length_take, Nat.min_eq_left (by omega), Nat.sub_self]
 congr 1
 rw [List.drop_eq_getElem_cons hi]; rfl
theorem uV {g f : List Int} (hl : g.length = f.length) : gF g f f.length = g := by
 unfold gF
 rw [List.drop_length, List.append_nil, List.take_of_length_le (by omega)]
theorem tc (g f : List Int) : gF g f 0 = f := rfl
theorem pg (q : Nat → Bool) : ∀ (k f : Nat) (s : List Int), jX (fQ q k f s)
 | 0, f, s => fun i => by
  simp only [fQ]
  cases i with
  | zero => simp only [List.getD_cons_zero]; split; exact .inr rfl; exact .inl rfl
  | succ i => exact .inl rfl
 | k + 1, f, s => fun i => by
  simp only [fQ]
  rw [gx]
  split
  · exact pg q k _ _ _
  · exact pg q k _ _ _
theorem pB {B n : Int} (h : -B ≤ n ∧ n ≤ B) : 0 ≤ szP n ∧ szP n ≤ B := by unfold szP; split <;> omega
theorem qd {B m s : Int} (h : -B ≤ m ∧ m ≤ B) : -B ≤ m * sgP s ∧ m * sgP s ≤ B := by
 unfold sgP
 split
 · rw [Int.mul_neg, Int.mul_one]; omega
 · split
   · rw [Int.mul_zero]; omega
   · rw [Int.mul_one]; omega
theorem fP_le {B a b : Int} (ha : -B ≤ a ∧ a ≤ B) (hb : -B ≤ b ∧ b ≤ B) : -B ≤ fP a b ∧ fP a b ≤ B := by
 have h1 := pB ha
 have h2 := pB hb
 unfold fP
 refine qd (qd ?_)
 split <;> omega
theorem gP_le {B a b v : Int} (ha : -B ≤ a ∧ a ≤ B) (hb : -B ≤ b ∧ b ≤ B) : -(2 * B) ≤ gP a b v ∧ gP a b v ≤ 2 * B := by
 unfold gP; split <;> omega
theorem rk (l : List Int) : ∀ (e : List C), e ∈ List.map cells l → ∀ (c : C), c ∈ e → ∃ v, c = C.s v := by
 intro e he c hc
 obtain ⟨x, _, rfl⟩ := List.mem_map.1 he
 exact ⟨.int .i64 x, List.mem_singleton.1 hc⟩
def leB (B : Int) (l : List Int) : Prop := ∀ i, -B ≤ l.getD i 0 ∧ l.getD i 0 ≤ B
def eCan (p : Pol) (k N : Nat) (B : Int) (ih : ∀ (l : List Int) (f : Nat), l.length = N → leB B l → f + N ≤ 1000000 → FC Tryz.prog 118 [enc l, enc (f : Int), .fn (.func 119) [] [jn p]] [] (.own 5) [(5, .row 1 3 ((fQ (isI p) k f l).map cells))]) : Ent Tryz.prog := .mk3 118 (fun args chs => match args, chs with
 | [.sl 1 es, .s (.int .i64 f), .fn (.func 119) [] [.ref [.s (.int .i64 w), .sl 1 es2]]], [] => (eo es : Option (List Int)).bind fun l => some ((w = p.power ∧ es2 = p.info.map cells) ∧ 0 ≤ f ∧ f + N ≤ 1000000 ∧ l.length = N ∧ leB B l, .own 5, [(5, .row 1 3 ((fQ (isI p) k f.toNat l).map cells))], [5])
 | _, _ => none) (by
 intro args chs q r chs' nk hs hp
 split at hs
 · simp only [Option.bind_eq_some_iff, Option.some.injEq, Prod.mk.injEq] at hs
   obtain ⟨l, hw, rfl, rfl, rfl, rfl⟩ := hs
   obtain ⟨⟨rfl, rfl⟩, h0, h1, h2, h3⟩ := hp
   have := dV hw
   subst this
   rename_i f
   obtain ⟨F, rfl⟩ : ∃ F : Nat, f = (F : Int) := ⟨f.toNat, by omega⟩
   refine ⟨ih l F h2 h3 (by omega), ⟨fun k c h => .inl ?_, fun k cs h => by simp at h, List.mem_singleton.2 rfl, fun k c h => ?_⟩⟩
   · simp only [List.mem_singleton, Prod.mk.injEq] at h; rw [h.1]; exact List.mem_singleton.2 rfl
   · simp only [List.mem_singleton, Prod.mk.injEq] at h; rw [h.2]; trivial
 · cases hs)
theorem wY (p : Pol) (hs : p.info.Pairwise (· < ·)) (hn : p.info.length ≤ 1000000) (k N : Nat) (hk : k ≤ 18) (hN : 2 ^ k = N) (B : Int) (h0 : 0 ≤ B) (hB : 2 * B ≤ 4611686018427387904)
 (ih : ∀ (l : List Int) (f : Nat), l.length = N → leB (2 * B) l → f + N ≤ 1000000 → FC Tryz.prog 118 [enc l, enc (f : Int), .fn (.func 119) [] [jn p]] [] (.own 5) [(5, .row 1 3 ((fQ (isI p) k f l).map cells))])
 (l : List Int) (f : Nat) (hl : l.length = N + N) (hle : leB B l) (hf : f + (N + N) ≤ 1000000) : FC Tryz.prog 118 [enc l, enc (f : Int), .fn (.func 119) [] [jn p]] [] (.own 5) [(5, .row 1 3 ((fQ (isI p) (k + 1) f l).map cells))] := by
 refine FC.rename (a := 73) ?_ nS
 refine dF [73] D.is118 (by simp) trivial trivial (by simp [an, ae, aq]) trivial (fun cx _ hl' _ => dj [eCan p k N (2 * B) ih] 800 ?_)
 have hN0 : 0 < N := by rw [← hN]; exact Nat.pow_pos (by decide)
 have hNle : N ≤ 2 ^ 18 := by rw [← hN]; exact Nat.pow_le_pow_right (by decide) hk
 simp only [fQ, hN]
 have hdiv : ((N + N : Nat) : Int).tdiv 2 = (N : Int) := by
  rw [Int.tdiv_eq_ediv_of_nonneg (by omega)]; omega
 have hNz : ¬ (N : Int) = 0 := by omega
 have m1 : List.take N (l.map cells) = (l.take N).map cells := List.map_take.symm
 have m2 : List.drop N (l.map cells) = (l.drop N).map cells := List.map_drop.symm
 have m3 : List.take (N + N) (l.map cells) = l.map cells := List.take_of_length_le (by simp; omega)
 have hz := lI N
 have hA : (l.take N).length = N := by rw [List.length_take]; omega
 have hBl : (l.drop N).length = N := by rw [List.length_drop]; omega
 have hAle : leB B (l.take N) := fun i => by
  by_cases h : i < N
  · have := hle i
    rw [List.getD_eq_getElem?_getD, List.getElem?_take, if_pos h, ← List.getD_eq_getElem?_getD]; exact this
  · rw [List.getD_eq_getElem?_getD, List.getElem?_eq_none (by omega)]; simp; omega
 have hBle : leB B (l.drop N) := fun i => by
  have := hle (N + i)
  rw [List.getD_eq_getElem?_getD, List.getElem?_drop, ← List.getD_eq_getElem?_getD]; exact this
 generalize hAA : l.take N = A at *
 generalize hBB : l.drop N = Bb at *
 delta D.c118 oO oN oA oM oT oG oR oQ oS oK
 simp (maxSteps := 4000000) -implicitDefEqProofs only [D.rv118, jn, hl, hdiv, hNz, m1, m2, m3, hz, Int.toNat_natCast, InR, Ent.of0, Ent.of1, Ent.of2, Ent.of3, V, W3, ↓reduceIte, Nat.reduceAdd, Nat.reduceSub, Nat.reduceMul, Nat.reduceEqDiff, Nat.reduceLT, Nat.reduceLeDiff, reduceCtorEq, Int.reduceToNat, Nat.reduceBEq]
 refine ⟨by omega, by omega, by omega, by omega, ?_⟩
 have hZl : (List.replicate N (0 : Int)).length = N := by simp
 have hFl : (List.zipWith fP A Bb).length = N := by rw [List.length_zipWith, hA, hBl, Nat.min_self]
 have hFg : ∀ i, i < N → (List.zipWith fP A Bb).getD i 0 = fP (A.getD i 0) (Bb.getD i 0) := fun i h => by
  rw [List.getD_eq_getElem?_getD, List.getElem?_zipWith, List.getD_eq_getElem?_getD, List.getD_eq_getElem?_getD, List.getElem?_eq_getElem (by omega), List.getElem?_eq_getElem (by omega)]; rfl
 have hFle : leB (2 * B) (List.zipWith fP A Bb) := fun i => by
  by_cases h : i < N
  · rw [hFg i h]
    have := fP_le (hAle i) (hBle i)
    omega
  · rw [List.getD_eq_getElem?_getD, List.getElem?_eq_none (by omega)]; simp; omega
 generalize List.zipWith fP A Bb = F at *
 generalize List.replicate N (0 : Int) = Z at *
 refine dE N (fun i => [(40, .s (.int .i64 (i : Int)))]) (fun i => [(38, .row 1 3 ((gF F Z i).map cells))]) (fun _ => True) trivial ?_ (fun i hi _ => dj [tE, tH, eCan p k N (2 * B) ih] 800 ?_)
 · simp (maxSteps := 4000000) -implicitDefEqProofs only [tc, Ent.of0, Ent.of1, Ent.of2, Ent.of3, V, W3, ↓reduceIte, Nat.reduceAdd, Nat.reduceSub, Nat.reduceMul, Nat.reduceEqDiff, Nat.reduceLT, Nat.reduceLeDiff, reduceCtorEq, Int.reduceToNat, Nat.reduceBEq]
   rfl
 · have hml := uW (g := F) (f := Z) (i := i) (by omega) (by omega)
   rw [hZl] at hml
   by_cases h : i < N
   · have hi2 : (i : Int) < (N : Int) := by omega
     have hms := tq (g := F) (f := Z) (i := i) (by omega) (by omega)
     rw [hFg i h] at hms
     have ha := hAle i
     have hb := hBle i
     have hset : (List.map cells (gF F Z i)).set i [C.s (.int .i64 ((if szP (Bb.getD i 0) < szP (A.getD i 0) then szP (Bb.getD i 0) else szP (A.getD i 0)) * sgP (A.getD i 0) * sgP (Bb.getD i 0)))] = (gF F Z (i + 1)).map cells := by
      rw [hms, List.map_set]; rfl
     have hm1 : -B ≤ (if szP (Bb.getD i 0) < szP (A.getD i 0) then szP (Bb.getD i 0) else szP (A.getD i 0)) ∧ (if szP (Bb.getD i 0) < szP (A.getD i 0) then szP (Bb.getD i 0) else szP (A.getD i 0)) ≤ B := by
      have h1 := pB ha
      have h2 := pB hb
      split <;> omega
     have hm2 := qd (s := A.getD i 0) hm1
     have hm3 := qd (s := Bb.getD i 0) hm2
     have hr1 := i9 (xs := gF F Z i) (n := i) (by omega)
     delta D.c118l1 oO oN oA oM oT oG oR oQ oS oK
     simp (maxSteps := 4000000) -implicitDefEqProofs only [D.rv118, tE, tH, hi2, h, hml, hA, hBl, hr1, hset, InR, Ent.of0, Ent.of1, Ent.of2, Ent.of3, V, W3, ↓reduceIte, Nat.reduceAdd, Nat.reduceSub, Nat.reduceMul, Nat.reduceEqDiff, Nat.reduceLT, Nat.reduceLeDiff, reduceCtorEq, Int.reduceToNat, Nat.reduceBEq]
     generalize (if szP (Bb.getD i 0) < szP (A.getD i 0) then szP (Bb.getD i 0) else szP (A.getD i 0)) = M at *
     generalize M * sgP (A.getD i 0) = M2 at *
     generalize M2 * sgP (Bb.getD i 0) = M3 at *
     generalize A.getD i 0 = a at *
     generalize Bb.getD i 0 = b at *
     and_intros <;> omega
   · have hi2 : ¬ (i : Int) < (N : Int) := by omega
     have hie : N = i := by omega
     subst hie
     have hall : gF F Z N = F := by rw [← hZl]; exact uV (by omega)
     rw [hall] at hml
     have hcd : 0 ≤ (f : Int) ∧ (f : Int) + (N : Int) ≤ 1000000 := ⟨by omega, by omega⟩
     delta D.c118l1 oO oN oA oM oT oG oR oQ oS oK
     simp (maxSteps := 4000000) -implicitDefEqProofs only [D.rv118, tE, tH, eCan, hi2, hall, hml, hFle, hcd, Int.toNat_natCast, InR, Ent.of0, Ent.of1, Ent.of2, Ent.of3, V, W3, ↓reduceIte, Nat.reduceAdd, Nat.reduceSub, Nat.reduceMul, Nat.reduceEqDiff, Nat.reduceLT, Nat.reduceLeDiff, reduceCtorEq, Int.reduceToNat, Nat.reduceBEq]
     have hHl := nT (isI p) k f F
     have hHb := pg (isI p) k f F
     rw [hN] at hHl
     generalize fQ (isI p) k f F = H at *
     have hlg : lg 20 N = k := by rw [← hN]; exact tv 20 k (by omega)
     have hWl : (dH k H).length = N := by rw [gG, hHl]
     delta D.c118k3 oO oN oA oM oT oG oR oQ oS oK
     refine ⟨rk _, gQ (sk (sk (o9 (D_mv (t3 [qa] [] ?_)))))⟩
     simp (maxSteps := 4000000) -implicitDefEqProofs only [qj, qa, hHl, Ent.of0, Ent.of1, Ent.of2, Ent.of3, V, W3, ↓reduceIte, Nat.reduceAdd, Nat.reduceSub, Nat.reduceMul, Nat.reduceEqDiff, Nat.reduceLT, Nat.reduceLeDiff, reduceCtorEq, Int.reduceToNat, Nat.reduceBEq]
     refine ⟨⟨⟨hN0, by omega⟩, rk _⟩, t3 [e101] [75] ?_⟩
     simp (maxSteps := 4000000) -implicitDefEqProofs only [qj, e101, hHl, hHb, hlg, wordL, Ent.of0, Ent.of1, Ent.of2, Ent.of3, V, W3, ↓reduceIte, Nat.reduceAdd, Nat.reduceSub, Nat.reduceMul, Nat.reduceEqDiff, Nat.reduceLT, Nat.reduceLeDiff, reduceCtorEq, Int.reduceToNat, Nat.reduceBEq]
     generalize dH k H = W at *
     refine ⟨⟨hN.symm, by omega⟩, iC [] 800 ?_⟩
     simp (maxSteps := 4000000) -implicitDefEqProofs only [hWl, Ent.of0, Ent.of1, Ent.of2, Ent.of3, V, W3, ↓reduceIte, Nat.reduceAdd, Nat.reduceSub, Nat.reduceMul, Nat.reduceEqDiff, Nat.reduceLT, Nat.reduceLeDiff, reduceCtorEq, Int.reduceToNat, Nat.reduceBEq]
     have hGl : ((List.range N).map fun i => gP (A.getD i 0) (Bb.getD i 0) (W.getD i 0)).length = N := by simp
     have hGg : ∀ i, i < N → ((List.range N).map fun i => gP (A.getD i 0) (Bb.getD i 0) (W.getD i 0)).getD i 0 = gP (A.getD i 0) (Bb.getD i 0) (W.getD i 0) := fun i h => by
      rw [List.getD_eq_getElem?_getD, List.getElem?_map, List.getElem?_range h]; rfl
     have hGle : leB (2 * B) ((List.range N).map fun i => gP (A.getD i 0) (Bb.getD i 0) (W.getD i 0)) := fun i => by
      by_cases h : i < N
      · rw [hGg i h]; exact gP_le (hAle i) (hBle i)
      · rw [List.getD_eq_getElem?_getD, List.getElem?_eq_none (by omega)]; simp; omega
     generalize ((List.range N).map fun i => gP (A.getD i 0) (Bb.getD i 0) (W.getD i 0)) = G at *
     refine dE N (fun i => [(78, .s (.int .i64 (i : Int)))]) (fun i => [(38, .row 1 3 ((gF G F i).map cells))]) (fun _ => True) trivial ?_ (fun i hi _ => dj [eCan p k N (2 * B) ih] 800 ?_)
     · simp (maxSteps := 4000000) -implicitDefEqProofs only [tc, Ent.of0, Ent.of1, Ent.of2, Ent.of3, V, W3, ↓reduceIte, Nat.reduceAdd, Nat.reduceSub, Nat.reduceMul, Nat.reduceEqDiff, Nat.reduceLT, Nat.reduceLeDiff, reduceCtorEq, Int.reduceToNat, Nat.reduceBEq]
       rfl
     · have hml := uW (g := G) (f := F) (i := i) (by omega) (by omega)
       rw [hFl] at hml
       by_cases h : i < N
       · have hi2 : (i : Int) < (N : Int) := by omega
         have hms := tq (g := G) (f := F) (i := i) (by omega) (by omega)
         rw [hGg i h] at hms
         have ha := hAle i
         have hb := hBle i
         have hr1 := i9 (xs := gF G F i) (n := i) (by omega)
         by_cases hv : W.getD i 0 = 1
         · have hset : (List.map cells (gF G F i)).set i [C.s (.int .i64 (Bb.getD i 0 - A.getD i 0))] = (gF G F (i + 1)).map cells := by
            rw [hms, List.map_set, gP, if_pos hv]; rfl
           have hr2 : (List.set (List.map cells (gF G F i)) i [C.s (.int .i64 (Bb.getD i 0 + A.getD i 0))]).getD i [] = [C.s (.int .i64 (Bb.getD i 0 + A.getD i 0))] := by
            rw [List.getD_eq_getElem?_getD, List.getElem?_set_self (by simp; omega)]; rfl
           delta D.c118l2 oO oN oA oM oT oG oR oQ oS oK
           simp (maxSteps := 4000000) -implicitDefEqProofs only [D.rv118, hi2, h, hml, hA, hBl, hWl, hr1, hr2, hv, List.set_set, hset, InR, Ent.of0, Ent.of1, Ent.of2, Ent.of3, V, W3, ↓reduceIte, Nat.reduceAdd, Nat.reduceSub, Nat.reduceMul, Nat.reduceEqDiff, Nat.reduceLT, Nat.reduceLeDiff, reduceCtorEq, Int.reduceToNat, Nat.reduceBEq]
           simp only [List.length_set, List.length_map, hml]
           and_intros <;> omega
         · have hset : (List.map cells (gF G F i)).set i [C.s (.int .i64 (Bb.getD i 0 + A.getD i 0))] = (gF G F (i + 1)).map cells := by
            rw [hms, List.map_set, gP, if_neg hv]; rfl
           delta D.c118l2 oO oN oA oM oT oG oR oQ oS oK
           simp (maxSteps := 4000000) -implicitDefEqProofs only [D.rv118, hi2, h, hml, hA, hBl, hWl, hr1, hv, hset, InR, Ent.of0, Ent.of1, Ent.of2, Ent.of3, V, W3, ↓reduceIte, Nat.reduceAdd, Nat.reduceSub, Nat.reduceMul, Nat.reduceEqDiff, Nat.reduceLT, Nat.reduceLeDiff, reduceCtorEq, Int.reduceToNat, Nat.reduceBEq]
           and_intros <;> omega
       · have hi2 : ¬ (i : Int) < (N : Int) := by omega
         have hie : N = i := by omega
         subst hie
         have hall : gF G F N = G := by rw [← hFl]; exact uV (by omega)
         have hcd : 0 ≤ (f : Int) + (N : Int) ∧ (f : Int) + (N : Int) + (N : Int) ≤ 1000000 := ⟨by omega, by omega⟩
         have hfn : ((f : Int) + (N : Int)).toNat = f + N := by omega
         delta D.c118l2 oO oN oA oM oT oG oR oQ oS oK
         simp (maxSteps := 4000000) -implicitDefEqProofs only [D.rv118, eCan, hi2, hall, hml, hGl, hGle, hcd, hfn, InR, Ent.of0, Ent.of1, Ent.of2, Ent.of3, V, W3, ↓reduceIte, Nat.reduceAdd, Nat.reduceSub, Nat.reduceMul, Nat.reduceEqDiff, Nat.reduceLT, Nat.reduceLeDiff, reduceCtorEq, Int.reduceToNat, Nat.reduceBEq]
         have hcl := nT (isI p) k (f + N) G
         rw [hN] at hcl
         rw [hcl, hHl, List.map_append]
         exact ⟨by omega, by omega, rfl⟩
theorem tx (p : Pol) (hs : p.info.Pairwise (· < ·)) (hn : p.info.length ≤ 1000000) : ∀ (k : Nat) (B : Int), k ≤ 18 → 0 ≤ B → B * 2 ^ k ≤ 4611686018427387904 → ∀ (l : List Int) (f : Nat), l.length = 2 ^ k → leB B l → f + 2 ^ k ≤ 1000000 →
 FC Tryz.prog 118 [enc l, enc (f : Int), .fn (.func 119) [] [jn p]] [] (.own 5) [(5, .row 1 3 ((fQ (isI p) k f l).map cells))]
 | 0, B, _, _, _, l, f, hl, _, _ => xh p hs hn l f hl
 | k + 1, B, hk, h0, hB, l, f, hl, hle, hf => by
  have hN1 : 2 ^ (k + 1) = 2 ^ k + 2 ^ k := by rw [Nat.pow_succ]; omega
  have hB' : 2 * B * 2 ^ k ≤ 4611686018427387904 := by
   rw [Int.pow_succ] at hB
   have e : 2 * B * 2 ^ k = B * (2 ^ k * 2) := by rw [Int.mul_comm 2 B, Int.mul_assoc, Int.mul_comm 2]
   rw [e]; exact hB
  have h1 : (1 : Int) ≤ 2 ^ k := by
   have := Nat.pow_pos (n := k) (show 0 < 2 by decide)
   have e : (2 : Int) ^ k = ((2 ^ k : Nat) : Int) := by push_cast; rfl
   rw [e]; omega
  have hB2 : 2 * B ≤ 4611686018427387904 := by
   have := Int.mul_le_mul_of_nonneg_left h1 (show (0 : Int) ≤ 2 * B by omega)
   omega
  exact wY p hs hn k (2 ^ k) (by omega) rfl B h0 hB2 (fun l f g1 g2 g3 => tx p hs hn k (2 * B) (by omega) (by omega) hB' l f g1 g2 g3) l f (by omega) hle (by omega)
end Go.Proofs.YteoobfmbipmibaaGreat
end
section
open Go Go.Am
open Go.Am.Dat (cells)
namespace Go.Proofs.YteoobfmbipmibaaGreat
set_option maxHeartbeats 4000000
set_option maxRecDepth 100000
def uP (p : Pol) (hs : p.info.Pairwise (· < ·)) (hn : p.info.length ≤ 1000000) (k N : Nat) (hN : 2 ^ k = N) (hk : k ≤ 18) : Ent Tryz.prog :=
 eCan p k N 1000000000 (fun l f h1 h2 h3 => tx p hs hn k 1000000000 hk (by omega) (by
  have hle : 2 ^ k ≤ 2 ^ 18 := Nat.pow_le_pow_right (by decide) hk
  have e : (2 : Int) ^ k = ((2 ^ k : Nat) : Int) := by push_cast; rfl
  rw [e]; omega) l f (by rw [hN]; exact h1) h2 (by rw [hN]; exact h3))
def gN (p : Pol) (s : List Int) : List Int := p.info.map fun t => (fQ (isI p) p.power.toNat 0 s).getD t.toNat 0
theorem zu (p : Pol) (s : List Int) (hp : PolOk p) (hn : p.info.length ≤ 1000000) (hl : s.length = 2 ^ p.power.toNat) (hB : leB 1000000000 s) : FC Tryz.prog 88 [enc p, enc s] [] (enc (gN p s)) [] := by
 have hk : p.power.toNat ≤ 18 := by have := hp.pow; omega
 have h3 := hp.rng
 have hs := hp.inc
 have hle : 2 ^ p.power.toNat ≤ 2 ^ 18 := Nat.pow_le_pow_right (by decide) hk
 have hcl := nT (isI p) p.power.toNat 0 s
 have hds : gN p s = p.info.map fun t => (fQ (isI p) p.power.toNat 0 s).getD t.toNat 0 := rfl
 rw [hds]
 generalize hN : 2 ^ p.power.toNat = N at *
 have h3' : ∀ t ∈ p.info, 0 ≤ t ∧ t < (N : Int) := fun t ht => by
  have := h3 t ht
  have e : (2 : Int) ^ p.power.toNat = (N : Int) := by rw [← hN]; push_cast; rfl
  rw [e] at this; omega
 clear h3
 have hcd : 0 + (N : Int) ≤ 1000000 := by omega
 refine dk D.is88 (by simp) (fun cx hl' => dj [] 800 ?_)
 delta D.c88 oO oN oA oM oT oG oR oQ oS oK
 simp (maxSteps := 4000000) -implicitDefEqProofs only [D.rv88, fJ, Ent.of0, Ent.of1, Ent.of2, Ent.of3, V, W3, ↓reduceIte, Nat.reduceAdd, Nat.reduceSub, Nat.reduceMul, Nat.reduceEqDiff, Nat.reduceLT, Nat.reduceLeDiff, reduceCtorEq, Int.reduceToNat, Nat.reduceBEq]
 refine gQ (S_refB 2 2 rfl rfl rfl (dj [uP p hs hn p.power.toNat N hN hk] 800 ?_))
 delta D.c88k2 oO oN oA oM oT oG oR oQ oS oK
 simp (maxSteps := 4000000) -implicitDefEqProofs only [refS, uP, eCan, hl, hB, hcd, Int.toNat_zero, Ent.of0, Ent.of1, Ent.of2, Ent.of3, V, W3, ↓reduceIte, Nat.reduceAdd, Nat.reduceSub, Nat.reduceMul, Nat.reduceEqDiff, Nat.reduceLT, Nat.reduceLeDiff, reduceCtorEq, Int.reduceToNat, Nat.reduceBEq]
 generalize fQ (isI p) p.power.toNat 0 s = u at *
 refine ⟨by omega, ?_⟩
 have hlen : p.info.length ≤ 9223372036854775807 := by omega
 refine dE p.info.length (fun i => [(15, .s (.int .i64 (i : Int)))]) (fun i => [(6, .row 1 3 (((p.info.take i).map fun t => u.getD t.toNat 0).map cells))]) (fun _ => True) trivial ?_ (fun i hi _ => dj [] 800 ?_)
 · simp (maxSteps := 4000000) -implicitDefEqProofs only [List.take_zero, List.map_nil, Ent.of0, Ent.of1, Ent.of2, Ent.of3, V, W3, ↓reduceIte, Nat.reduceAdd, Nat.reduceSub, Nat.reduceMul, Nat.reduceEqDiff, Nat.reduceLT, Nat.reduceLeDiff, reduceCtorEq, Int.reduceToNat, Nat.reduceBEq]
   rfl
 · by_cases h : i < p.info.length
   · have hi2 : (i : Int) < (p.info.length : Int) := by omega
     have hr := h3' (p.info.getD i 0) (by rw [List.getD_eq_getElem?_getD, List.getElem?_eq_getElem h]; exact List.getElem_mem h)
     obtain ⟨q, hq⟩ : ∃ q : Nat, p.info.getD i 0 = (q : Int) := ⟨(p.info.getD i 0).toNat, by omega⟩
     have htk : (p.info.take (i + 1)).map (fun t => u.getD t.toNat 0) = (p.info.take i).map (fun t => u.getD t.toNat 0) ++ [u.getD q 0] := by
      rw [← List.take_append_getElem h, List.map_append]
      rw [List.getD_eq_getElem?_getD, List.getElem?_eq_getElem h] at hq
      simp only [Option.getD_some] at hq
      simp only [List.map_cons, List.map_nil, hq, Int.toNat_natCast]
     rw [hq] at hr
     have hq1 : q < N := by omega
     have hq2 : (q : Int) < (N : Int) := by omega
     have hap : List.map cells ((p.info.take i).map (fun t => u.getD t.toNat 0)) ++ [[C.s (.int .i64 (u.getD q 0))]] = List.map cells ((p.info.take (i + 1)).map (fun t => u.getD t.toNat 0)) := by
      rw [htk, List.map_append]; rfl
     have hll : ((p.info.take i).map (fun t => u.getD t.toNat 0)).length = i := by rw [List.length_map, List.length_take]; omega
     have hr0 := i9 (xs := u) (n := q) (by omega)
     delta D.c88l1 oO oN oA oM oT oG oR oQ oS oK
     simp (maxSteps := 4000000) -implicitDefEqProofs only [D.rv88, hi2, h, hq, hcl, hq1, hq2, hr0, hap, hll, Int.toNat_natCast, InR, Ent.of0, Ent.of1, Ent.of2, Ent.of3, V, W3, ↓reduceIte, Nat.reduceAdd, Nat.reduceSub, Nat.reduceMul, Nat.reduceEqDiff, Nat.reduceLT, Nat.reduceLeDiff, reduceCtorEq, Int.reduceToNat, Nat.reduceBEq]
     exact ⟨by omega, by omega, ⟨by omega, by omega⟩, ⟨by omega, by omega⟩, by omega⟩
   · have hi2 : ¬ (i : Int) < (p.info.length : Int) := by omega
     have hie : i = p.info.length := by omega
     subst hie
     delta D.c88l1 oO oN oA oM oT oG oR oQ oS oK
     simp (maxSteps := 4000000) -implicitDefEqProofs only [D.rv88, hi2, List.take_length, InR, Ent.of0, Ent.of1, Ent.of2, Ent.of3, V, W3, ↓reduceIte, Nat.reduceAdd, Nat.reduceSub, Nat.reduceMul, Nat.reduceEqDiff, Nat.reduceLT, Nat.reduceLeDiff, reduceCtorEq, Int.reduceToNat, Nat.reduceBEq]
def rQ : Ent Tryz.prog := .of2 88 (fun (p : Pol) (s : List Int) => PolOk p ∧ p.info.length ≤ 1000000 ∧ s.length = 2 ^ p.power.toNat ∧ leB 1000000000 s) (fun (p : Pol) (s : List Int) => enc (gN p s)) (fun _ _ => trivial) (fun p s h => zu p s h.1 h.2.1 h.2.2.1 h.2.2.2)
theorem zp (p : Pol) (s : List Int) (hp : eG p = 0) (hc : hZ s = 0) (hn : p.info.length ≤ 1000000) (hl : s.length = 2 ^ p.power.toNat) (hB : leB 1000000000 s) : FC Tryz.prog 41 [enc p, enc s] [] (.tup [enc (gN p s), enc (0 : Int)]) [] := by
 have hpo := tA hp
 have hpw := hpo.pow
 obtain ⟨w, l⟩ := p
 simp only at hpw hn hl
 obtain ⟨K, rfl⟩ : ∃ K : Nat, w = (K : Int) := ⟨w.toNat, by omega⟩
 simp only [Int.toNat_natCast] at hl
 have hle : 2 ^ K ≤ 2 ^ 6 := Nat.pow_le_pow_right (by decide) (by omega)
 have hP : (2 : Int) ^ K = ((2 ^ K : Nat) : Int) := by push_cast; rfl
 have hmin : min K IntKind.i64.bits = K := Nat.min_eq_left (by show K ≤ 64; omega)
 have hcond : (PolOk ⟨(K : Int), l⟩ ∧ l.length ≤ 1000000 ∧ leB 1000000000 s) := ⟨hpo, hn, hB⟩
 refine dk is41 (by simp) (fun cx hl' => dj [sd, r9, e8, rQ] 800 ?_)
 delta c41 oO oN oA oM oT oG oR oQ oS oK
 simp (maxSteps := 4000000) -implicitDefEqProofs only [rv41, sd, r9, e8, rQ, fJ, dY, hp, hc, hl, hP, hmin, hpo, hn, hB, Int.one_mul, Int.toNat_natCast, dl, InR, Ent.of0, Ent.of1, Ent.of2, Ent.of3, V, W3, ↓reduceIte, Nat.reduceAdd, Nat.reduceSub, Nat.reduceMul, Nat.reduceEqDiff, Nat.reduceLT, Nat.reduceLeDiff, reduceCtorEq, Int.reduceToNat, Nat.reduceBEq]
 have hpI : (0 : Int) ≤ ((2 ^ K : Nat) : Int) := Int.natCast_nonneg _
 have hleI : ((2 ^ K : Nat) : Int) ≤ ((2 ^ 6 : Nat) : Int) := Int.ofNat_le.2 hle
 generalize ((2 ^ K : Nat) : Int) = J at *
 simp
 omega
end Go.Proofs.YteoobfmbipmibaaGreat
end
section
open Go Go.Am
open Go.Am.Dat (cells)
namespace Go.Proofs.YteoobfmbipmibaaGreat
set_option maxHeartbeats 4000000
set_option maxRecDepth 100000
def er (L v i : Nat) : Nat := (v * L / 4 + i) % L
def iT (L v i : Nat) : List C := [.s (.int .i64 (i : Int)), .s (.int .i64 ((er L v i : Nat) : Int))]
def kH (L v n : Nat) : Chs := [(200014, .box [.s (.int .i64 (L : Int))]), (201014, .box [.s (.int .i64 (v : Int))]), (202014, .box [.s (.int .i64 (n : Int))])]
theorem wx (L v N : Nat) (hL : 0 < L) (hL2 : L ≤ 1000000) (hv : v ≤ 3) (hN : 0 < N) (hN2 : N ≤ 1000000) : ItC Tryz.prog 125 [] [.ptr 201014 0, .ptr 200014 0, .ptr 202014 0] (kH L v N) 100000 (iT L v) N true := by
 intro yl R Rf hy
 refine kn [] is125 (by simp) (by simp [kH]) (fun o ho k cs hm => by simp at ho; rcases ho with rfl | rfl <;> simp at hm) (fun cx _ _ _ => dj [] 800 ?_)
 have e1 : (v : Int) * (L : Int) = ((v * L : Nat) : Int) := by push_cast; rfl
 have e2 : ((v * L : Nat) : Int).tdiv 4 = ((v * L / 4 : Nat) : Int) := by rw [Int.tdiv_eq_ediv_of_nonneg (by omega)]; rfl
 have hvl : v * L ≤ 3 * L := Nat.mul_le_mul_right _ hv
 have hA : v * L / 4 ≤ L := by omega
 have hpl : ∀ i, er L v i = (v * L / 4 + i) % L := fun i => rfl
 generalize v * L / 4 = A at *
 generalize hvL : v * L = VL at *
 delta c125 oO oN oA oM oT oG oR oQ oS oK
 simp (maxSteps := 4000000) -implicitDefEqProofs only [kG, kH, e1, e2, List.append_nil, InR, Ent.of0, Ent.of1, Ent.of2, Ent.of3, V, W3, ↓reduceIte, Nat.reduceAdd, Nat.reduceSub, Nat.reduceMul, Nat.reduceEqDiff, Nat.reduceLT, Nat.reduceLeDiff, reduceCtorEq, Int.reduceToNat, Nat.reduceBEq]
 refine ⟨by omega, by omega, ?_⟩
 refine iD (α := Nat) (fun j => [(12, .s (.int .i64 (j : Int)))]) (fun j => [(100000, .res (R j))]) (fun j => j ≤ N) (fun j => N - j) 0 (Nat.zero_le _) ?_ (fun j hj => dj [] 800 ?_)
 · simp (maxSteps := 4000000) -implicitDefEqProofs only [Ent.of0, Ent.of1, Ent.of2, Ent.of3, V, W3, ↓reduceIte, Nat.reduceAdd, Nat.reduceSub, Nat.reduceMul, Nat.reduceEqDiff, Nat.reduceLT, Nat.reduceLeDiff, reduceCtorEq, Int.reduceToNat, Nat.reduceBEq]
   simp
 · by_cases h : j < N
   · have hi : (j : Int) < (N : Int) := by omega
     have e3 : (A : Int) + (j : Int) = ((A + j : Nat) : Int) := by push_cast; rfl
     have e4 : ((A + j : Nat) : Int).tmod (L : Int) = ((er L v j : Nat) : Int) := by
      rw [Int.tmod_eq_emod_of_nonneg (by omega), hpl]; push_cast; rfl
     delta m6 oO oN oA oM oT oG oR oQ oS oK
     simp (maxSteps := 4000000) -implicitDefEqProofs only [hi, e3, e4, InR, Ent.of0, Ent.of1, Ent.of2, Ent.of3, V, W3, ↓reduceIte, Nat.reduceAdd, Nat.reduceSub, Nat.reduceMul, Nat.reduceEqDiff, Nat.reduceLT, Nat.reduceLeDiff, reduceCtorEq, Int.reduceToNat, Nat.reduceBEq]
     refine ⟨by omega, by omega, ?_⟩
     refine m8 rfl (OpM.yield (l := yl) (kr := 100000) (xs := iT L v j) (R := R j) rfl rfl rfl (hy j h)) (fun ef hef => ?_)
     rw [if_pos (.inr rfl)] at hef
     simp only [bE, List.mem_cons, List.not_mem_nil, or_false] at hef
     rcases hef with rfl | rfl
     · refine iC [] 800 ?_
       simp (maxSteps := 4000000) -implicitDefEqProofs only [kG, InR, Ent.of0, Ent.of1, Ent.of2, Ent.of3, V, W3, ↓reduceIte, Nat.reduceAdd, Nat.reduceSub, Nat.reduceMul, Nat.reduceEqDiff, Nat.reduceLT, Nat.reduceLeDiff, reduceCtorEq, Int.reduceToNat, Nat.reduceBEq]
       refine ⟨by omega, j + 1, h, by omega, ?_⟩
       first | exact ⟨rfl, rfl⟩ | exact ⟨by push_cast; rfl, rfl⟩ | rfl
     · refine iC [] 800 ?_
       simp (maxSteps := 4000000) -implicitDefEqProofs only [kG, Ent.of0, Ent.of1, Ent.of2, Ent.of3, V, W3, ↓reduceIte, Nat.reduceAdd, Nat.reduceSub, Nat.reduceMul, Nat.reduceEqDiff, Nat.reduceLT, Nat.reduceLeDiff, reduceCtorEq, Int.reduceToNat, Nat.reduceBEq]
       exact ⟨_, List.mem_cons_self, trivial, rfl, trivial⟩
   · have hj2 : j = N := by omega
     subst hj2
     have hi : ¬ (j : Int) < (j : Int) := by omega
     delta m6 oO oN oA oM oT oG oR oQ oS oK
     simp (maxSteps := 4000000) -implicitDefEqProofs only [hi, kG, InR, Ent.of0, Ent.of1, Ent.of2, Ent.of3, V, W3, ↓reduceIte, Nat.reduceAdd, Nat.reduceSub, Nat.reduceMul, Nat.reduceEqDiff, Nat.reduceLT, Nat.reduceLeDiff, reduceCtorEq, Int.reduceToNat, Nat.reduceBEq]
     exact ⟨_, List.mem_cons_of_mem _ List.mem_cons_self, trivial, rfl, trivial⟩
theorem zM (L v n : Int) : FC Tryz.prog 100 [enc L, enc v, enc n] [] (.fn (.func 125) [] [.ptr 4 0, .ptr 3 0, .ptr 5 0]) [(3, .box [enc L]), (4, .box [enc v]), (5, .box [enc n])] := by
 refine dF [] is100 (by simp) (by simp [bf]) (by simp [an, ae, aq]) (by simp [an, ae, aq]) (by simp [aF, lk]) (fun cx _ _ _ => dj [] 800 ?_)
 delta c100 oO oN oA oM oT oG oR oQ oS oK
 simp (maxSteps := 4000000) -implicitDefEqProofs only [rv100, Ent.of0, Ent.of1, Ent.of2, Ent.of3, V, W3, ↓reduceIte, Nat.reduceAdd, Nat.reduceSub, Nat.reduceMul, Nat.reduceEqDiff, Nat.reduceLT, Nat.reduceLeDiff, reduceCtorEq, Int.reduceToNat, Nat.reduceBEq]
def pP : Ent Tryz.prog where
 id := 100
 sp := fun args chs => match args, chs with
  | [.s (.int .i64 L), .s (.int .i64 v), .s (.int .i64 n)], [] => some (True, .fn (.func 125) [] [.ptr 4 0, .ptr 3 0, .ptr 5 0], [(3, .box [.s (.int .i64 L)]), (4, .box [.s (.int .i64 v)]), (5, .box [.s (.int .i64 n)])], [3, 4, 5])
  | _, _ => none
 ok := by
  intro args chs p r chs' nk hs hp
  split at hs
  · simp only [Option.some.injEq, Prod.mk.injEq] at hs
    obtain ⟨rfl, rfl, rfl, rfl⟩ := hs
    refine ⟨zM _ _ _, ⟨fun k c h => ?_, fun k cs h => by simp at h, ?_, fun k c h => ?_⟩⟩
    · simp only [List.mem_cons, Prod.mk.injEq, List.not_mem_nil, or_false] at h
      left; rcases h with h | h | h <;> rw [h.1] <;> simp
    · exact ⟨trivial, by simp [dm.keysIns, dm]⟩
    · simp only [List.mem_cons, Prod.mk.injEq, List.not_mem_nil, or_false] at h
      rcases h with h | h | h <;> rw [h.2] <;> exact ⟨trivial, trivial⟩
  · cases hs
def f0 (word : List Int) (v n : Nat) : List Int := (List.range n).map fun i => word.getD (er word.length v i) 0
theorem uB (word : List Int) (v n : Nat) : f0 word v (n + 1) = f0 word v n ++ [word.getD (er word.length v n) 0] := by simp [f0, List.range_succ]
theorem mM (word : List Int) (v n : Nat) : (f0 word v n).length = n := by simp [f0]
theorem ly {L v i : Nat} (h : 0 < L) : er L v i < L := Nat.mod_lt _ h
theorem match_c (word : List Int) (v N : Nat) (hL : 0 < word.length) (hL2 : word.length ≤ 1000000) (hv : v ≤ 3) (hN : 0 < N) (hN2 : N ≤ 1000000) : FC Tryz.prog 51 [enc word, enc (v : Int), enc (N : Int)] [] (enc (f0 word v N)) [] := by
 refine dF [] is51 (by simp) trivial trivial trivial trivial (fun cx hcx hl _ => dj [pP] 800 ?_)
 delta c51 oO oN oA oM oT oG oR oQ oS oK
 simp (maxSteps := 4000000) -implicitDefEqProofs only [rv51, pP, InR, Ent.of0, Ent.of1, Ent.of2, Ent.of3, V, W3, ↓reduceIte, Nat.reduceAdd, Nat.reduceSub, Nat.reduceMul, Nat.reduceEqDiff, Nat.reduceLT, Nat.reduceLeDiff, reduceCtorEq, Int.reduceToNat, Nat.reduceBEq]
 refine S_sh 200000 (by rw [hcx.2.2]; exact Nat.le_refl _) (by rfl) ?_
 simp (maxSteps := 4000000) -implicitDefEqProofs only [Ent.of0, Ent.of1, Ent.of2, Ent.of3, V, W3, ↓reduceIte, Nat.reduceAdd, Nat.reduceSub, Nat.reduceMul, Nat.reduceEqDiff, Nat.reduceLT, Nat.reduceLeDiff, reduceCtorEq, Int.reduceToNat, Nat.reduceBEq]
 refine j5 (f := 125) (first := []) (caps := [.ptr 201014 0, .ptr 200014 0, .ptr 202014 0]) (ich := kH word.length v N) (kr := 100000) (vals := iT word.length v) (N := N) (fin := true) [200007, 200003]
  (fun i => [(200007, .box [if i = 0 then .s (.slice none 0 0) else .isl 1 3 ((f0 word v i).map cells)]), (200003, .box [.sl 1 (word.map cells)])])
  hcx.2.1 rfl (wx word.length v N hL hL2 hv hN hN2) ⟨?_, ?_⟩ ⟨fun c hc => ?_, fun k c hc => ?_⟩ ?_ (fun i hi => ?_) (fun k hk => ?_) (fun i hi => ?_) (fun i hi cx' _ hcx' => dj [] 800 ?_) (fun _ => ?_)
 · simp (maxSteps := 4000000) -implicitDefEqProofs only [kH, Ent.of0, Ent.of1, Ent.of2, Ent.of3, V, W3, ↓reduceIte, Nat.reduceAdd, Nat.reduceSub, Nat.reduceMul, Nat.reduceEqDiff, Nat.reduceLT, Nat.reduceLeDiff, reduceCtorEq, Int.reduceToNat, Nat.reduceBEq]
 · simp (maxSteps := 4000000) -implicitDefEqProofs only [kH, Ent.of0, Ent.of1, Ent.of2, Ent.of3, V, W3, ↓reduceIte, Nat.reduceAdd, Nat.reduceSub, Nat.reduceMul, Nat.reduceEqDiff, Nat.reduceLT, Nat.reduceLeDiff, reduceCtorEq, Int.reduceToNat, Nat.reduceBEq]
 · simp only [List.nil_append, List.mem_cons, List.not_mem_nil, or_false] at hc
   rcases hc with rfl | rfl | rfl <;> simp [dm, ae, kH]
 · simp only [kH, List.mem_cons, Prod.mk.injEq, List.not_mem_nil, or_false] at hc
   rcases hc with ⟨rfl, rfl⟩ | ⟨rfl, rfl⟩ | ⟨rfl, rfl⟩ <;> exact ⟨trivial, trivial⟩
 · simp (maxSteps := 4000000) -implicitDefEqProofs only [kH, Ent.of0, Ent.of1, Ent.of2, Ent.of3, V, W3, ↓reduceIte, Nat.reduceAdd, Nat.reduceSub, Nat.reduceMul, Nat.reduceEqDiff, Nat.reduceLT, Nat.reduceLeDiff, reduceCtorEq, Int.reduceToNat, Nat.reduceBEq]
 · simp (maxSteps := 4000000) -implicitDefEqProofs only [Ent.of0, Ent.of1, Ent.of2, Ent.of3, V, W3, ↓reduceIte, Nat.reduceAdd, Nat.reduceSub, Nat.reduceMul, Nat.reduceEqDiff, Nat.reduceLT, Nat.reduceLeDiff, reduceCtorEq, Int.reduceToNat, Nat.reduceBEq]
   simp
 · rw [hcx.2.2]
   simp only [List.mem_cons, List.not_mem_nil, or_false] at hk
   omega
 · refine ⟨rfl, fun c hc => ?_⟩
   simp only [iT, List.mem_cons, List.not_mem_nil, or_false] at hc; rcases hc with rfl | rfl <;> trivial
 · simp (maxSteps := 4000000) -implicitDefEqProofs only [iT, Ent.of0, Ent.of1, Ent.of2, Ent.of3, V, W3, ↓reduceIte, Nat.reduceAdd, Nat.reduceSub, Nat.reduceMul, Nat.reduceEqDiff, Nat.reduceLT, Nat.reduceLeDiff, reduceCtorEq, Int.reduceToNat, Nat.reduceBEq]
   intro cx'' _ _
   refine dj [] 800 ?_
   have hp := ly (v := v) (i := i) hL
   have hp2 : ((er word.length v i : Nat) : Int) < (word.length : Int) := by omega
   have hms := uB word v i
   have hml := mM word v i
   cases i with
   | zero =>
    have h1 : [[C.s (.int .i64 (word.getD (er word.length v 0) 0))]] = (f0 word v 1).map cells := by simp [f0, List.range_succ, ko]
    generalize er word.length v 0 = q at *
    have hl1 := mM word v 1
    delta c51r1 oO oN oA oM oT oG oR oQ oS oK
    simp (maxSteps := 4000000) -implicitDefEqProofs only [hp, hp2, h1, Int.toNat_natCast, InR, Ent.of0, Ent.of1, Ent.of2, Ent.of3, V, W3, ↓reduceIte, Nat.reduceAdd, Nat.reduceSub, Nat.reduceMul, Nat.reduceEqDiff, Nat.reduceLT, Nat.reduceLeDiff, reduceCtorEq, Int.reduceToNat, Nat.reduceBEq]
    exact ⟨by omega, ⟨by omega, by omega⟩, by decide, .inr trivial⟩
   | succ i =>
    have h1 : (f0 word v (i + 1)).map cells ++ [[C.s (.int .i64 (word.getD (er word.length v (i + 1)) 0))]] = (f0 word v (i + 1 + 1)).map cells := by rw [hms, List.map_append]; rfl
    generalize er word.length v (i + 1) = q at *
    delta c51r1 oO oN oA oM oT oG oR oQ oS oK
    simp (maxSteps := 4000000) -implicitDefEqProofs only [hp, hp2, h1, hml, Nat.succ_ne_zero, Int.toNat_natCast, InR, Ent.of0, Ent.of1, Ent.of2, Ent.of3, V, W3, ↓reduceIte, Nat.reduceAdd, Nat.reduceSub, Nat.reduceMul, Nat.reduceEqDiff, Nat.reduceLT, Nat.reduceLeDiff, reduceCtorEq, Int.reduceToNat, Nat.reduceBEq]
    exact ⟨by omega, ⟨by decide, by omega, by omega⟩, by decide, .inr trivial⟩
 · rw [if_neg (by omega : ¬ N = 0)]
   refine nZ 200007 rfl (dj [] 800 ?_)
   simp (maxSteps := 4000000) -implicitDefEqProofs only [rv51, Ent.of0, Ent.of1, Ent.of2, Ent.of3, V, W3, ↓reduceIte, Nat.reduceAdd, Nat.reduceSub, Nat.reduceMul, Nat.reduceEqDiff, Nat.reduceLT, Nat.reduceLeDiff, reduceCtorEq, Int.reduceToNat, Nat.reduceBEq]
def ent51 : Ent Tryz.prog := .mk3 51 (fun args chs => match args, chs with
 | [.sl 1 es, .s (.int .i64 v), .s (.int .i64 n)], [] => (eo es : Option (List Int)).bind fun w => some ((0 < w.length ∧ w.length ≤ 1000000) ∧ (0 ≤ v ∧ v ≤ 3) ∧ 0 < n ∧ n ≤ 1000000, enc (f0 w v.toNat n.toNat), [], [])
 | _, _ => none) (by
 intro args chs p r chs' nk hs hp
 split at hs
 · simp only [Option.bind_eq_some_iff, Option.some.injEq, Prod.mk.injEq] at hs
   obtain ⟨w, hw, rfl, rfl, rfl, rfl⟩ := hs
   obtain ⟨⟨h1, h2⟩, ⟨h3, h4⟩, h5, h6⟩ := hp
   have := dV hw
   subst this
   rename_i v n
   obtain ⟨V, rfl⟩ : ∃ V : Nat, v = (V : Int) := ⟨v.toNat, by omega⟩
   obtain ⟨N, rfl⟩ : ∃ N : Nat, n = (N : Int) := ⟨n.toNat, by omega⟩
   exact ⟨match_c w V N h1 h2 (by omega) (by omega) (by omega), .plain trivial⟩
 · cases hs)
end Go.Proofs.YteoobfmbipmibaaGreat
end
section
open Go Go.Am
open Go.Am.Dat (cells)
namespace Go.Proofs.YteoobfmbipmibaaGreat
set_option maxHeartbeats 4000000
set_option maxRecDepth 100000
def iJ (L v n : Nat) : Chs := [(200016, .box [.s (.int .i64 (L : Int))]), (201016, .box [.s (.int .i64 (v : Int))]), (202016, .box [.s (.int .i64 (n : Int))])]
theorem vl (L v N : Nat) (hL : 0 < L) (hL2 : L ≤ 1000000) (hv : v ≤ 3) (hN : 0 < N) (hN2 : N ≤ 1000000) : ItC Tryz.prog 125 [] [.ptr 201016 0, .ptr 200016 0, .ptr 202016 0] (iJ L v N) 100000 (iT L v) N true := by
 intro yl R Rf hy
 refine kn [] is125 (by simp) (by simp [iJ]) (fun o ho k cs hm => by simp at ho; rcases ho with rfl | rfl <;> simp at hm) (fun cx _ _ _ => dj [] 800 ?_)
 have e1 : (v : Int) * (L : Int) = ((v * L : Nat) : Int) := by push_cast; rfl
 have e2 : ((v * L : Nat) : Int).tdiv 4 = ((v * L / 4 : Nat) : Int) := by rw [Int.tdiv_eq_ediv_of_nonneg (by omega)]; rfl
 have hvl : v * L ≤ 3 * L := Nat.mul_le_mul_right _ hv
 have hA : v * L / 4 ≤ L := by omega
 have hpl : ∀ i, er L v i = (v * L / 4 + i) % L := fun i => rfl
 generalize v * L / 4 = A at *
 generalize hvL : v * L = VL at *
 delta c125 oO oN oA oM oT oG oR oQ oS oK
 simp (maxSteps := 4000000) -implicitDefEqProofs only [kG, iJ, e1, e2, List.append_nil, InR, Ent.of0, Ent.of1, Ent.of2, Ent.of3, V, W3, ↓reduceIte, Nat.reduceAdd, Nat.reduceSub, Nat.reduceMul, Nat.reduceEqDiff, Nat.reduceLT, Nat.reduceLeDiff, reduceCtorEq, Int.reduceToNat, Nat.reduceBEq]
 refine ⟨by omega, by omega, ?_⟩
 refine iD (α := Nat) (fun j => [(12, .s (.int .i64 (j : Int)))]) (fun j => [(100000, .res (R j))]) (fun j => j ≤ N) (fun j => N - j) 0 (Nat.zero_le _) ?_ (fun j hj => dj [] 800 ?_)
 · simp (maxSteps := 4000000) -implicitDefEqProofs only [Ent.of0, Ent.of1, Ent.of2, Ent.of3, V, W3, ↓reduceIte, Nat.reduceAdd, Nat.reduceSub, Nat.reduceMul, Nat.reduceEqDiff, Nat.reduceLT, Nat.reduceLeDiff, reduceCtorEq, Int.reduceToNat, Nat.reduceBEq]
   simp
 · by_cases h : j < N
   · have hi : (j : Int) < (N : Int) := by omega
     have e3 : (A : Int) + (j : Int) = ((A + j : Nat) : Int) := by push_cast; rfl
     have e4 : ((A + j : Nat) : Int).tmod (L : Int) = ((er L v j : Nat) : Int) := by
      rw [Int.tmod_eq_emod_of_nonneg (by omega), hpl]; push_cast; rfl
     delta m6 oO oN oA oM oT oG oR oQ oS oK
     simp (maxSteps := 4000000) -implicitDefEqProofs only [hi, e3, e4, InR, Ent.of0, Ent.of1, Ent.of2, Ent.of3, V, W3, ↓reduceIte, Nat.reduceAdd, Nat.reduceSub, Nat.reduceMul, Nat.reduceEqDiff, Nat.reduceLT, Nat.reduceLeDiff, reduceCtorEq, Int.reduceToNat, Nat.reduceBEq]
     refine ⟨by omega, by omega, ?_⟩
     refine m8 rfl (OpM.yield (l := yl) (kr := 100000) (xs := iT L v j) (R := R j) rfl rfl rfl (hy j h)) (fun ef hef => ?_)
     rw [if_pos (.inr rfl)] at hef
     simp only [bE, List.mem_cons, List.not_mem_nil, or_false] at hef
     rcases hef with rfl | rfl
     · refine iC [] 800 ?_
       simp (maxSteps := 4000000) -implicitDefEqProofs only [kG, InR, Ent.of0, Ent.of1, Ent.of2, Ent.of3, V, W3, ↓reduceIte, Nat.reduceAdd, Nat.reduceSub, Nat.reduceMul, Nat.reduceEqDiff, Nat.reduceLT, Nat.reduceLeDiff, reduceCtorEq, Int.reduceToNat, Nat.reduceBEq]
       refine ⟨by omega, j + 1, h, by omega, ?_⟩
       first | exact ⟨rfl, rfl⟩ | exact ⟨by push_cast; rfl, rfl⟩ | rfl
     · refine iC [] 800 ?_
       simp (maxSteps := 4000000) -implicitDefEqProofs only [kG, Ent.of0, Ent.of1, Ent.of2, Ent.of3, V, W3, ↓reduceIte, Nat.reduceAdd, Nat.reduceSub, Nat.reduceMul, Nat.reduceEqDiff, Nat.reduceLT, Nat.reduceLeDiff, reduceCtorEq, Int.reduceToNat, Nat.reduceBEq]
       exact ⟨_, List.mem_cons_self, trivial, rfl, trivial⟩
   · have hj2 : j = N := by omega
     subst hj2
     have hi : ¬ (j : Int) < (j : Int) := by omega
     delta m6 oO oN oA oM oT oG oR oQ oS oK
     simp (maxSteps := 4000000) -implicitDefEqProofs only [hi, kG, InR, Ent.of0, Ent.of1, Ent.of2, Ent.of3, V, W3, ↓reduceIte, Nat.reduceAdd, Nat.reduceSub, Nat.reduceMul, Nat.reduceEqDiff, Nat.reduceLT, Nat.reduceLeDiff, reduceCtorEq, Int.reduceToNat, Nat.reduceBEq]
     exact ⟨_, List.mem_cons_of_mem _ List.mem_cons_self, trivial, rfl, trivial⟩
def dX (L v : Nat) (soft : List Int) : Nat → List Int
 | 0 => List.replicate L 0
 | i + 1 => (dX L v soft i).set (er L v i) ((dX L v soft i).getD (er L v i) 0 + soft.getD i 0)
theorem jT (L v : Nat) (soft : List Int) : ∀ i, (dX L v soft i).length = L
 | 0 => by simp [dX]
 | i + 1 => by simp [dX, jT L v soft i]
theorem qp {L v : Nat} {soft : List Int} {B : Int} (hB : leB B soft) (hL : 0 < L) : ∀ i : Nat, leB (i * B) (dX L v soft i)
 | 0 => fun p => by
  rw [dX, List.getD_eq_getElem?_getD, List.getElem?_replicate]
  split <;> simp
 | i + 1 => fun p => by
  have h1 := qp (v := v) hB hL i
  have h2 := hB i
  have h3 := h1 p
  have h4 := h1 (er L v i)
  have e : ((i + 1 : Nat) : Int) * B = i * B + B := by push_cast; rw [Int.add_mul, Int.one_mul]
  rw [dX, eZ (by rw [jT]; exact ly hL), e]
  generalize (i : Int) * B = iB at *
  split <;> omega
theorem vI (soft : List Int) (v L : Nat) (hL : 0 < L) (hL2 : L ≤ 1000000) (hv : v ≤ 3) (hN : 0 < soft.length) (hN2 : soft.length ≤ 1000000) (hB : leB 1000000000 soft) : FC Tryz.prog 85 [enc soft, enc (v : Int), enc (L : Int)] [] (enc (dX L v soft soft.length)) [] := by
 refine dF [] is85 (by simp) trivial trivial trivial trivial (fun cx hcx hl _ => dj [pP] 800 ?_)
 have hz := lI L
 delta c85 oO oN oA oM oT oG oR oQ oS oK
 simp (maxSteps := 4000000) -implicitDefEqProofs only [rv85, pP, hz, Int.toNat_natCast, InR, Ent.of0, Ent.of1, Ent.of2, Ent.of3, V, W3, ↓reduceIte, Nat.reduceAdd, Nat.reduceSub, Nat.reduceMul, Nat.reduceEqDiff, Nat.reduceLT, Nat.reduceLeDiff, reduceCtorEq, Int.reduceToNat, Nat.reduceBEq]
 refine ⟨by omega, by decide, ?_⟩
 refine S_sh 200000 (by rw [hcx.2.2]; exact Nat.le_refl _) (by rfl) ?_
 simp (maxSteps := 4000000) -implicitDefEqProofs only [Ent.of0, Ent.of1, Ent.of2, Ent.of3, V, W3, ↓reduceIte, Nat.reduceAdd, Nat.reduceSub, Nat.reduceMul, Nat.reduceEqDiff, Nat.reduceLT, Nat.reduceLeDiff, reduceCtorEq, Int.reduceToNat, Nat.reduceBEq]
 refine j5 (f := 125) (first := []) (caps := [.ptr 201016 0, .ptr 200016 0, .ptr 202016 0]) (ich := iJ L v soft.length) (kr := 100000) (vals := iT L v) (N := soft.length) (fin := true) [200007, 200003]
  (fun i => [(200007, .box [.isl 1 3 ((dX L v soft i).map cells)]), (200003, .box [.sl 1 (soft.map cells)])])
  hcx.2.1 rfl (vl L v soft.length hL hL2 hv hN hN2) ⟨?_, ?_⟩ ⟨fun c hc => ?_, fun k c hc => ?_⟩ ?_ (fun i hi => ?_) (fun k hk => ?_) (fun i hi => ?_) (fun i hi cx' _ hcx' => dj [] 800 ?_) (fun _ => ?_)
 · simp (maxSteps := 4000000) -implicitDefEqProofs only [iJ, Ent.of0, Ent.of1, Ent.of2, Ent.of3, V, W3, ↓reduceIte, Nat.reduceAdd, Nat.reduceSub, Nat.reduceMul, Nat.reduceEqDiff, Nat.reduceLT, Nat.reduceLeDiff, reduceCtorEq, Int.reduceToNat, Nat.reduceBEq]
 · simp (maxSteps := 4000000) -implicitDefEqProofs only [iJ, dX, hz, Ent.of0, Ent.of1, Ent.of2, Ent.of3, V, W3, ↓reduceIte, Nat.reduceAdd, Nat.reduceSub, Nat.reduceMul, Nat.reduceEqDiff, Nat.reduceLT, Nat.reduceLeDiff, reduceCtorEq, Int.reduceToNat, Nat.reduceBEq]
 · simp only [List.nil_append, List.mem_cons, List.not_mem_nil, or_false] at hc
   rcases hc with rfl | rfl | rfl <;> simp [dm, ae, iJ]
 · simp only [iJ, List.mem_cons, Prod.mk.injEq, List.not_mem_nil, or_false] at hc
   rcases hc with ⟨rfl, rfl⟩ | ⟨rfl, rfl⟩ | ⟨rfl, rfl⟩ <;> exact ⟨trivial, trivial⟩
 · simp (maxSteps := 4000000) -implicitDefEqProofs only [iJ, dX, hz, Ent.of0, Ent.of1, Ent.of2, Ent.of3, V, W3, ↓reduceIte, Nat.reduceAdd, Nat.reduceSub, Nat.reduceMul, Nat.reduceEqDiff, Nat.reduceLT, Nat.reduceLeDiff, reduceCtorEq, Int.reduceToNat, Nat.reduceBEq]
 · simp (maxSteps := 4000000) -implicitDefEqProofs only [Ent.of0, Ent.of1, Ent.of2, Ent.of3, V, W3, ↓reduceIte, Nat.reduceAdd, Nat.reduceSub, Nat.reduceMul, Nat.reduceEqDiff, Nat.reduceLT, Nat.reduceLeDiff, reduceCtorEq, Int.reduceToNat, Nat.reduceBEq]
   try simp
 · rw [hcx.2.2]
   simp only [List.mem_cons, List.not_mem_nil, or_false] at hk
   omega
 · refine ⟨rfl, fun c hc => ?_⟩
   simp only [iT, List.mem_cons, List.not_mem_nil, or_false] at hc; rcases hc with rfl | rfl <;> trivial
 · simp (maxSteps := 4000000) -implicitDefEqProofs only [iT, Ent.of0, Ent.of1, Ent.of2, Ent.of3, V, W3, ↓reduceIte, Nat.reduceAdd, Nat.reduceSub, Nat.reduceMul, Nat.reduceEqDiff, Nat.reduceLT, Nat.reduceLeDiff, reduceCtorEq, Int.reduceToNat, Nat.reduceBEq]
   intro cx'' _ _
   refine dj [] 800 ?_
   have hp := ly (v := v) (i := i) hL
   have hgl := jT L v soft i
   have hgle := qp (v := v) hB hL i
   have hgs : dX L v soft (i + 1) = (dX L v soft i).set (er L v i) ((dX L v soft i).getD (er L v i) 0 + soft.getD i 0) := rfl
   have hi2 : (i : Int) < (soft.length : Int) := by omega
   have hp2 : ((er L v i : Nat) : Int) < (L : Int) := by omega
   have hs := hB i
   have hg := hgle (er L v i)
   generalize er L v i = q at *
   generalize dX L v soft i = G at *
   generalize dX L v soft (i + 1) = G1 at *
   have hr1 := i9 (xs := G) (n := q) (by omega)
   have hset : (List.map cells G).set q [C.s (.int .i64 (G.getD q 0 + soft.getD i 0))] = G1.map cells := by rw [hgs, List.map_set]; rfl
   delta c85r1 oO oN oA oM oT oG oR oQ oS oK
   simp (maxSteps := 4000000) -implicitDefEqProofs only [hp, hp2, hi, hi2, hgl, hr1, hset, Int.toNat_natCast, InR, Ent.of0, Ent.of1, Ent.of2, Ent.of3, V, W3, ↓reduceIte, Nat.reduceAdd, Nat.reduceSub, Nat.reduceMul, Nat.reduceEqDiff, Nat.reduceLT, Nat.reduceLeDiff, reduceCtorEq, Int.reduceToNat, Nat.reduceBEq]
   exact ⟨by omega, by omega, ⟨by omega, by omega⟩, by omega, .inr trivial⟩
 · rw [show dX L v soft soft.length = dX L v soft soft.length from rfl]
   refine nZ 200007 rfl (dj [] 800 ?_)
   simp (maxSteps := 4000000) -implicitDefEqProofs only [rv85, Ent.of0, Ent.of1, Ent.of2, Ent.of3, V, W3, ↓reduceIte, Nat.reduceAdd, Nat.reduceSub, Nat.reduceMul, Nat.reduceEqDiff, Nat.reduceLT, Nat.reduceLeDiff, reduceCtorEq, Int.reduceToNat, Nat.reduceBEq]
def ent85 : Ent Tryz.prog := .mk3 85 (fun args chs => match args, chs with
 | [.sl 1 es, .s (.int .i64 v), .s (.int .i64 n)], [] => (eo es : Option (List Int)).bind fun w => some ((0 < w.length ∧ w.length ≤ 1000000 ∧ leB 1000000000 w) ∧ (0 ≤ v ∧ v ≤ 3) ∧ 0 < n ∧ n ≤ 1000000, enc (dX n.toNat v.toNat w w.length), [], [])
 | _, _ => none) (by
 intro args chs p r chs' nk hs hp
 split at hs
 · simp only [Option.bind_eq_some_iff, Option.some.injEq, Prod.mk.injEq] at hs
   obtain ⟨w, hw, rfl, rfl, rfl, rfl⟩ := hs
   obtain ⟨⟨h1, h2, h7⟩, ⟨h3, h4⟩, h5, h6⟩ := hp
   have := dV hw
   subst this
   rename_i v n
   obtain ⟨V, rfl⟩ : ∃ V : Nat, v = (V : Int) := ⟨v.toNat, by omega⟩
   obtain ⟨N, rfl⟩ : ∃ N : Nat, n = (N : Int) := ⟨n.toNat, by omega⟩
   exact ⟨vI w V N (by omega) (by omega) (by omega) h1 h2 h7, .plain trivial⟩
 · cases hs)
end Go.Proofs.YteoobfmbipmibaaGreat
end
section
open Go Go.Am
open Go.Am.Dat (cells)
namespace Go.Proofs.YteoobfmbipmibaaGreat
set_option maxHeartbeats 4000000
set_option maxRecDepth 100000
def fE (c : Chn) : Int := if fK c.poly ≠ 0 then fK c.poly else if eG c.polar ≠ 0 then eG c.polar else if c.poly.re < (c.polar.info.length : Int) then (if 1 ≤ c.count ∧ c.count ≤ 400 then 0 else 2) else 10
theorem vy (c : Chn) : FC Tryz.prog 47 [enc c] [] (enc (fE c)) [] := by
 obtain ⟨⟨d, t⟩, ⟨w, l⟩, n⟩ := c
 refine dk is47 (by simp) (fun cx hl' => dj [rX, sd, fV, ent96, e8] 800 ?_)
 have h : dl [fK ⟨d, t⟩, eG ⟨w, l⟩, if d < (l.length : Int) then 0 else 10, if 1 ≤ n ∧ n ≤ 400 then 0 else 2] = fE ⟨⟨d, t⟩, ⟨w, l⟩, n⟩ := by
  unfold fE
  simp only [dl]
  grind
 delta c47 oO oN oA oM oT oG oR oQ oS oK
 simp (maxSteps := 4000000) -implicitDefEqProofs only [rv47, rX, sd, fV, ent96, e8, fk, dY, h, Ent.of0, Ent.of1, Ent.of2, Ent.of3, V, W3, ↓reduceIte, Nat.reduceAdd, Nat.reduceSub, Nat.reduceMul, Nat.reduceEqDiff, Nat.reduceLT, Nat.reduceLeDiff, reduceCtorEq, Int.reduceToNat, Nat.reduceBEq]
def so : Ent Tryz.prog := .of1 47 (fun _ => True) (fun c : Chn => enc (fE c)) (fun _ => trivial) (fun c _ => vy c)
structure ChnOk (c : Chn) : Prop where
 poly : PolyOk c.poly
 polar : PolOk c.polar
 room : c.poly.re < (c.polar.info.length : Int)
 count : 1 ≤ c.count ∧ c.count ≤ 400
theorem jL {c : Chn} (h : fE c = 0) : ChnOk c := by
 unfold fE at h
 split at h
 · contradiction
 · split at h
   · contradiction
   · split at h
     · split at h
       · rename_i h1 h2 h3 h4
         exact ⟨wL (by simpa using h1), tA (by simpa using h2), h3, h4⟩
       · cases h
     · cases h
theorem pd {l : List Int} {m e : Int} {p : Int → Bool} (he : e ≠ 0) (h : gv l m p e = 0) : 0 < l.length ∧ (l.length : Int) ≤ m ∧ ∀ x ∈ l, p x = true := by
 unfold gv at h
 split at h
 · cases h
 · split at h
   · cases h
   · split at h
     · rename_i h1 h2 h3
       exact ⟨by omega, by omega, List.all_eq_true.1 h3⟩
     · contradiction
theorem oZ {l : List Int} (h : ∀ x ∈ l, x = 0 ∨ x = 1) : jX l := fun i => by
 rw [List.getD_eq_getElem?_getD]
 by_cases hi : i < l.length
 · rw [List.getElem?_eq_getElem hi]; exact h _ (List.getElem_mem hi)
 · rw [List.getElem?_eq_none (by omega)]; exact .inl rfl
theorem to {l : List Int} {B : Int} (hB : 0 ≤ B) (h : ∀ x ∈ l, -B ≤ x ∧ x ≤ B) : leB B l := fun i => by
 rw [List.getD_eq_getElem?_getD]
 by_cases hi : i < l.length
 · rw [List.getElem?_eq_getElem hi]; exact h _ (List.getElem_mem hi)
 · rw [List.getElem?_eq_none (by omega)]; simp; omega
theorem oW {l : List Int} (h : ft l = 0) : 0 < l.length ∧ l.length ≤ 200 ∧ ∀ x ∈ l, x = 0 ∨ x = 1 := by
 have := pd (by decide) h
 exact ⟨this.1, by omega, fun x hx => by simpa [gq] using this.2.2 x hx⟩
def fY (c : Chn) (l : List Int) : List Int := l ++ jd c.poly.re.toNat c.poly.im.toNat l
def wordS (c : Chn) (l : List Int) : List Int := nr c.polar (fY c l)
def jE (c : Chn) (l : List Int) (v : Nat) : List Int := f0 (wordS c l) v c.count.toNat
theorem tj (p : Pol) (l : List Int) : (nr p l).length = 2 ^ p.power.toNat := by rw [nr, gG, iU]
theorem k5 {c : Chn} {l : List Int} (h : ∀ x ∈ l, x = 0 ∨ x = 1) : ∀ x ∈ fY c l, x = 0 ∨ x = 1 := fun x hx => by
 rcases List.mem_append.1 hx with h1 | h1
 · exact h x h1
 · exact y7 _ _ _ x h1
theorem oh (c : Chn) (l : List Int) : (fY c l).length = l.length + c.poly.re.toNat := by rw [fY, List.length_append, nL]
end Go.Proofs.YteoobfmbipmibaaGreat
end
