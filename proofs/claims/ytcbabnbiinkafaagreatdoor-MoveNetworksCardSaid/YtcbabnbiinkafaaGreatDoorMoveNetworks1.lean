/- Part 1 of the proof of: MoveNetworks returns true for every input and never panics: the answer to a cell of a network, the network's own checks and the state's beginning, are as the reference says; conditions: those of the given statement, that the package variables it lists hold what their initialisers lay. -/
import Derived.Test.YtcbabnbiinkafaaGreatDoorProg
import Derived.KernelRfl
import Derived.Test.YtcbabnbiinkafaaGreatDoorBm22
set_option linter.all false
section
namespace Go.Am
theorem dM.ownI {E : Env} {U : Nat → Prop} {h : Array Obj} {k : Nat} {c : Ch} (hc : dM E U h k c) {i : Nat} {q : Nat × TypeId × List (List C)} (hi : chI c i = some q) (hn : ((E k).inn i).nil = false) : (E k).fp ((E k).inn i).blk := by
 cases c with
 | box cs => exact (hc.2.1.fp _).2 (.inr ⟨i, q, hi, hn, rfl⟩)
 | row sz ty es => cases hi
 | deep isz ity ty hole rows => exact (hc.2.1.fp _).2 (.inr ⟨i, q, hi, hn, rfl⟩)
 | res R => cases hi
end Go.Am
end
section
namespace Go.Am
open Dat (cells)
variable {P : Program} [Glob P] {ro : Option Nat} {ρ : Operand → C} {ch : Chs} {d : Nat}
inductive Lend (ch : Chs) : C → C → Prop
 | same (c : C) : Lend ch c c
 | any (c : C) : Lend ch c .any
 | own {k : Nat} {c0 : Ch} {x : C} (h : lk ch k = some c0) (hx : bw c0 = some x) : Lend ch (.own k) x
 | inn {k i n : Nat} {t : TypeId} {es : List (List C)} {q : Prop} (h : aM ch k i = some (q, n, t, es)) (hq : q) : Lend ch (.inn k i) (.sl n es)
 | agg {cs cs' : List C} (hl : cs.length = cs'.length) (h : ∀ (j : Nat) (a b : C), cs[j]? = some a → cs'[j]? = some b → Lend ch a b) : Lend ch (.agg cs) (.agg cs')
def wJ (ch : Chs) : List C → List C → Prop
 | [], [] => True
 | a :: l, b :: m => Lend ch a b ∧ wJ ch l m
 | _, _ => False
def lntU (E : Env) (U : Nat → Prop) (ch : Chs) : Nat → Prop := fun b => U b ∨ ∃ k c, (k, c) ∈ ch ∧ (E k).fp b
theorem Lend.rep {E : Env} {U : Nat → Prop} {h : Array Obj} (hi : Inv E U h ch) {c c' : C} (hl : Lend ch c c') : ∀ {v : Value}, Rep E U h c v → Rep E (lntU E U ch) h c' v := by
 have hk : ∀ b, U b → lntU E U ch b ∧ h[b]? = h[b]? := fun b hb => ⟨.inl hb, rfl⟩
 induction hl with
 | same c => exact fun hr => hr.same hk
 | any c => exact fun _ => .d (.any _)
 | own g hx => exact fun hr => .d (np (hi.ok _ _ (dG g)) hx hr hk (fun b hb => ⟨.inr ⟨_, _, dG g, hb⟩, rfl⟩))
 | inn g hq =>
  intro v hr
  obtain ⟨c0, g1, g2, _, g4⟩ := gX g hq
  have hc := hi.ok _ _ (dG g1)
  rw [kT hr]
  exact .d (lC ((hc.inns g4).2 _ _ _ _ g2) hk (fun hn => ⟨.inr ⟨_, _, dG g1, hc.ownI g2 hn⟩, rfl⟩))
 | agg hl h ih =>
  intro v hr
  cases hr with
  | d hd => cases hd
  | agg _ vs q1 q2 q3 =>
   refine .agg _ vs (q1.trans hl) (fun j c hj => ?_) q3
   have hlt : j < _ := (List.getElem?_eq_some_iff.1 hj).1
   rw [← hl] at hlt
   exact ih j _ c (List.getElem?_eq_getElem hlt) hj (q2 j _ (List.getElem?_eq_getElem hlt))
theorem wJ.args {E : Env} {U : Nat → Prop} {h : Array Obj} (hi : Inv E U h ch) : ∀ {cs ds : List C} {vs : List Value}, wJ ch cs ds → vs.length = cs.length → (∀ (j : Nat) (c : C), cs[j]? = some c → Rep E U h c (vs.getD j undef)) → vs.length = ds.length ∧ ∀ (j : Nat) (c : C), ds[j]? = some c → Rep E (lntU E U ch) h c (vs.getD j undef)
 | [], [], vs, _, hv, _ => ⟨hv, fun j c hj => by simp at hj⟩
 | a :: l, b :: m, [], _, hv, _ => by simp at hv
 | a :: l, b :: m, v :: vs, hL, hv, hr => by
  obtain ⟨h1, h2⟩ := wJ.args hi (vs := vs) hL.2 (by simpa using hv) (fun j c hj => hr (j + 1) c hj)
  refine ⟨by simp [h1], fun j c hj => ?_⟩
  cases j with
  | zero => cases hj; exact hL.1.rep hi (hr 0 _ rfl)
  | succ j => exact h2 j c hj
 | [], _ :: _, _, hL, _, _ => hL.elim
 | _ :: _, [], _, hL, _, _ => hL.elim
theorem lnt_inv {E : Env} {U : Nat → Prop} {h : Array Obj} (hi : Inv E U h ch) : Inv E (lntU E U ch) h [] where
 nd := by simp
 ok := fun k c hm => by simp at hm
 sep := fun k c k' c' hm => by simp at hm
 out := fun k c hm => by simp at hm
 fpl := fun k c hm => by simp at hm
 lt := fun b hb => by
  rcases hb with hb | ⟨k, c, h1, h2⟩
  · exact hi.lt b hb
  · exact hi.fpl k c h1 b h2
theorem wW {f : FuncId} {cs ds : List C} {r : C} {chs : Chs} (hfc : FC P f ds [] r chs) (ha : wJ ch cs ds) {E : Env} {U : Nat → Prop} {w : World} {vs : Array Value} (hi : Inv E U w.heap ch) (hg : eW P U w.heap) (hargs : jC E U w.heap cs vs) :
 Calls P f vs w fun e w' => ∃ v E' U', e = .returned v ∧ Rep E' U' w'.heap r v ∧ CEv E (lntU E U ch) w [] E' U' w' chs := by
 obtain ⟨a1, a2⟩ := wJ.args hi (vs := vs.toList) ha (by simpa using hargs.1) (fun j c hj => by
  have := hargs.2 j c hj
  rwa [Array.getD_eq_getD_getElem?, ← Array.getElem?_toList, ← List.getD_eq_getElem?_getD] at this)
 refine hfc.2 E (lntU E U ch) vs w (hg.mono fun b hb => ⟨.inl hb, rfl⟩) ⟨by simpa using a1, fun j c hj => ?_⟩ (lnt_inv hi)
 have := a2 j c hj
 rwa [List.getD_eq_getElem?_getD, Array.getElem?_toList, ← Array.getD_eq_getD_getElem?] at this
theorem wJ.same : ∀ cs : List C, wJ ch cs cs
 | [] => trivial
 | _ :: l => ⟨.same _, wJ.same l⟩
theorem FC.own {f : FuncId} {ds : List C} {r : C} {n : Nat} {t : TypeId} {es : List (List C)} {chs : Chs} (hfc : FC P f (.sl n es :: ds) [] r chs) (hk : ∀ k c, (k, c) ∈ chs → k ≠ 100000) : FC P f (.own 100000 :: ds) [(100000, .row n t es)] r chs := by
 refine ⟨hfc.1, fun E U vs w hg hargs hi => ?_⟩
 have ha : wJ [(100000, .row n t es)] (.own 100000 :: ds) (.sl n es :: ds) := ⟨.own (c0 := .row n t es) rfl rfl, wJ.same ds⟩
 refine (wW hfc ha hi hg hargs).mono fun e w' hh => ?_
 obtain ⟨v, E1, U1, he, hrep, hc⟩ := hh
 refine ⟨v, E1, U1, he, hrep, ⟨hc.os, hc.tape, hc.output, hc.size, fun b hb => hc.keep b (.inl hb), fun b hb _ => hc.rest b hb (fun k c hm => by simp at hm), fun k c hm b hb => .inl ((hc.live k c hm b hb).resolve_right fun ⟨_, _, q, _⟩ => by simp at q), fun b hb => ?_, fun k cs hm ⟨c, q⟩ => ?_, hc.inv⟩⟩
 · rcases hc.newU b hb with (q | q) | q | ⟨_, _, q, _⟩
   · exact .inl q
   · exact .inr (.inr q)
   · exact .inr (.inl q)
   · simp at q
 · simp only [List.mem_singleton, Prod.mk.injEq] at q
   exact absurd q.1 (hk k _ hm)
mutual
theorem wY : ∀ (c : C), aD ch [] c = c
 | .agg cs => by simp only [aD]; rw [wM cs]
 | .own k => by simp [aD]
 | .inn k i => by simp [aD]
 | .any => rfl
 | .s _ => rfl
 | .sl _ _ => rfl
 | .ref _ => rfl
 | .tup _ => rfl
 | .fn _ _ _ => rfl
 | .ptr _ _ => rfl
 | .eptr _ _ _ => rfl
 | .isl _ _ _ => rfl
 | .iptr _ _ _ _ => rfl
theorem wM : ∀ (cs : List C), aD.viewCs ch [] cs = cs
 | [] => rfl
 | c :: cs => by simp only [aD.viewCs]; rw [wY c, wM cs]
end
mutual
theorem wT : ∀ (c : C), aX ch [] c
 | .agg cs => by simp only [aX]; exact wK cs
 | .inn k i => by simp [aX]
 | .own k => trivial
 | .any => trivial
 | .s _ => trivial
 | .sl _ _ => trivial
 | .ref _ => trivial
 | .tup _ => trivial
 | .fn _ _ _ => trivial
 | .ptr _ _ => trivial
 | .eptr _ _ _ => trivial
 | .isl _ _ _ => trivial
 | .iptr _ _ _ _ => trivial
theorem wK : ∀ (cs : List C), aX.viewOks ch [] cs
 | [] => trivial
 | c :: cs => ⟨wT c, wK cs⟩
end
end Go.Am
end
section
open Go Go.Am
open Go.Am.Dat (cells)
namespace Go.Proofs.YtcbabnbiinkafaaGreatDoor
set_option maxRecDepth 100000
def c7 : AC := oS (oR [oA 2 (.box (oO 0)), oA 4 (.mv (.const (.bool false)))]) (oK [1, 2] (oS (oS (oR [oA 11 (.call (.func 21) []), oA 12 (.un .not (oO 11))]) (oK [1, 2, 12] (.cond (oO 12) (oS (oR [oA 4 (.mv (.const (.bool false)))]) (oK [4] (.ret))) (.skip)))) (oK [1, 2] (oS (oS (oR [oA 13 (.load true 3 (oO 2)), oA 14 (.call (.func 34) [(oO 13)]), oA 15 (.un .not (oO 14))]) (oK [1, 2, 15] (.cond (oO 15) (oS (oR [oA 4 (.mv (.const (.bool true)))]) (oK [4] (.ret))) (.skip)))) (oK [1, 2] (oS (oR [oA 17 (.load true 3 (oO 2)), oA 18 (.call (.func 37) [(oO 17)]), oA 19 (.call (.func 49) [(oO 18)]), oM 16 19, oA 20 (.extr (oO 16) 0), oA 21 (.extr (oO 16) 1), oM 5 20, oM 6 21]) (oK [1, 2, 5, 6] (oS (oR [oA 23 (.load true 3 (oO 2)), oA 24 (.call (.func 37) [(oO 23)]), oM 25 1, oA 26 (.call (.func 50) [(oO 24), (oO 25)]), oM 22 26, oA 27 (.extr (oO 22) 0), oA 28 (.extr (oO 22) 1), oA 7 (.alloc [.int .i64 0, .int .i64 0, .int .i64 0, .int .i64 0, .int .i64 0, .int .i64 0, .int .i64 0, .int .i64 0, .int .i64 0, .slice none 0 0]), ⟨none, none, .store false 10 (oO 7) (oO 27), false⟩, oM 8 28]) (oK [1, 2, 5, 6, 7, 8] (oS (oR [oA 30 (.load true 3 (oO 2)), oA 31 (.call (.func 51) [(oO 30)]), oM 29 31, oA 32 (.extr (oO 29) 0), oA 33 (.extr (oO 29) 1), oM 9 32, oM 10 33]) (oK [1, 2, 5, 6, 7, 8, 9, 10] (oS (oS (oR [oM 34 6, oM 35 10, oA 36 (.bin .neq 3 (oO 34) (oO 35)), oM 37 36, oG 38 37 false (.mv (oO 5)), oG 39 37 false (.mv (oO 9)), oG 40 37 false (.bin .neq 3 (oO 38) (oO 39)), oA 41 (.pick (oO 37) (.const (.bool true)) (oO 40))]) (oK [1, 2, 7, 8, 41] (.cond (oO 41) (oS (oR [oA 4 (.mv (.const (.bool false)))]) (oK [4] (.ret))) (.skip)))) (oK [1, 2, 7, 8] (oS (oS (oR [oA 42 (.load true 3 (oO 2)), oM 43 1, oA 44 (.call (.func 40) [(oO 42), (oO 43)]), oM 10 44]) (oK [1, 2, 7, 8, 10] (oS (oR [oM 45 10, oA 46 (.bin .neq 3 (oO 45) (oN 0))]) (oK [1, 2, 7, 8, 10, 46] (.cond (oO 46) (oS (oR [oM 47 8, oM 48 10, oA 49 (.bin .eql 3 (oO 47) (oO 48)), oM 50 49, oG 51 50 true (.load true 10 (oO 7)), oG 52 50 true (.build [.int .i64 0, .int .i64 0, .int .i64 0, .int .i64 0, .int .i64 0, .int .i64 0, .int .i64 0, .int .i64 0, .int .i64 0, .slice none 0 0] []), oG 53 50 true (.call (.func 41) [(oO 51), (oO 52)]), oA 54 (.pick (oO 50) (oO 53) (.const (.bool false))), oM 4 54]) (oK [4] (.ret))) (.skip)))))) (oK [1, 2, 7, 8] (oS (oQ [oT 55 (.mv (oO 8)), oT 56 (.bin .eql 27 (oO 55) (oN 0)), oT 57 (.mv (oO 56)), oG 58 57 true (.load true 10 (oO 7)), oG 59 57 true (.load true 3 (oO 2)), oG 60 57 true (.mv (oO 1)), oG 61 57 true (.call (.func 52) [(oO 59), (oO 60)]), ⟨some 62, some (57, true), .call (.func 41) [(oO 58), (oO 61)], true⟩, oT 63 (.pick (oO 57) (oO 62) (.const (.bool false))), oT 4 (.mv (oO 63))]) (oK [4] (.ret))))))))))))))))))
def rv7 : List RV := [.tmp 4]
theorem is7 : FnIs Tryz.prog 7 64 c7 rv7 := ⟨⟨Tryz.f7, _, Tryz.func7, by kernel_rfl, rfl, rfl, by kernel_rfl, by kernel_rfl⟩, by decide⟩
def c50 : AC := oS (oR [oA 2 (.box (oO 0)), oA 4 (.alloc [.int .i64 0, .int .i64 0, .int .i64 0, .int .i64 0, .int .i64 0, .int .i64 0, .int .i64 0, .int .i64 0, .int .i64 0, .slice none 0 0]), oA 5 (.mv (oN 0))]) (oK [1, 2, 4] (oS (oS (oQ [oA 7 (.load true 3 (oO 2)), oA 8 (.call (.func 101) [(oO 7)]), oA 9 (.mvs (oO 1)), oA 10 (.faddr 0 (oO 2)), oA 11 (.load false 1 (oO 10)), oA 12 (.len false (oO 11)), oA 13 (.bin .sub 3 (oO 12) (oN 1)), oT 14 (.call (.func 96) [(oO 9), (oN 0), (oO 13)]), oT 15 (.call (.func 95) [(oO 14), (oN 6)]), oT 16 (.mkSl false 27 1 [.int .i64 0] 2 [(0, (oO 8)), (1, (oO 15))]), oT 17 (.call (.func 91) [(oO 16)]), oT 6 (.mv (oO 17))]) (oK [1, 2, 4, 6] (oS (oR [oM 18 6, oA 19 (.bin .neq 27 (oO 18) (oN 0))]) (oK [1, 2, 4, 6, 19] (.cond (oO 19) (oS (oR [oA 20 (.build [.int .i64 0, .int .i64 0, .int .i64 0, .int .i64 0, .int .i64 0, .int .i64 0, .int .i64 0, .int .i64 0, .int .i64 0, .slice none 0 0] []), oM 21 6, ⟨none, none, .store false 10 (oO 4) (oO 20), false⟩, oM 5 21]) (oK [4, 5] (.ret))) (.skip)))))) (oK [1, 2, 4] (oS (oR [oA 22 (.load true 3 (oO 2)), oM 23 1, oA 24 (.call (.func 107) [(oO 22), (oO 23)]), oA 25 (.nilc (oO 24)), oA 26 (.faddr 0 (oO 25)), oA 27 (.load true 10 (oO 26)), ⟨none, none, .store false 10 (oO 4) (oO 27), false⟩, oA 5 (.mv (oN 0))]) (oK [4, 5] (.ret))))))
def rv50 : List RV := [.cell 4 true 10, .tmp 5]
theorem is50 : FnIs Tryz.prog 50 28 c50 rv50 := ⟨⟨Tryz.f50, _, Tryz.func50, by kernel_rfl, rfl, rfl, by kernel_rfl, by kernel_rfl⟩, by decide⟩
def c52 : AC := oS (oR [oA 2 (.box (oO 0)), oA 4 (.alloc [.int .i64 0, .int .i64 0, .int .i64 0, .int .i64 0, .int .i64 0, .int .i64 0, .int .i64 0, .int .i64 0, .int .i64 0, .slice none 0 0])]) (oK [1, 2, 4] (oS (oR [oM 5 1, oM 6 1, oA 7 (.faddr 0 (oO 2)), oA 8 (.load false 1 (oO 7)), oA 9 (.len false (oO 8)), oA 10 (.makeSl 24 1 24 [.slice none 0 0] (oO 9) (oO 9)), oA 11 (.build [.int .i64 0, .int .i64 0, .int .i64 0, .int .i64 0, .int .i64 0, .int .i64 0, .int .i64 0, .int .i64 0, .int .i64 0, .slice none 0 0] [(3, 1, (oO 5)), (4, 1, (oN (-1))), (5, 1, (oN (-1))), (6, 1, (oO 6)), (9, 1, (oO 10))]), ⟨none, none, .store false 10 (oO 4) (oO 11), false⟩]) (oK [4] (.ret))))
def rv52 : List RV := [.cell 4 true 10]
theorem is52 : FnIs Tryz.prog 52 12 c52 rv52 := ⟨⟨Tryz.f52, _, Tryz.func52, by kernel_rfl, rfl, rfl, by kernel_rfl, by kernel_rfl⟩, by decide⟩
end Go.Proofs.YtcbabnbiinkafaaGreatDoor
end
section
open Go Go.Am
open Go.Am.Dat (cells)
namespace Go.Proofs.YtcbabnbiinkafaaGreatDoor
set_option maxHeartbeats 4000000
set_option maxRecDepth 100000
def cnt (p : Nat → Bool) : Nat → Nat
 | 0 => 0
 | t + 1 => if p t then cnt p t + 1 else 0
theorem wL (p : Nat → Bool) : ∀ (t m : Nat), m < cnt p t ↔ (m < t ∧ ∀ k, k < t → t ≤ k + m + 1 → p k = true)
 | 0, m => by simp [cnt]
 | t + 1, m => by
  rw [cnt]
  cases hp : p t with
  | false =>
   simp only [Bool.false_eq_true, if_false, Nat.not_lt_zero, false_iff, not_and]
   intro h1 h2
   have := h2 t (by omega) (by omega)
   rw [hp] at this; cases this
  | true =>
   simp only [if_true]
   cases m with
   | zero =>
    constructor
    · intro _
      refine ⟨by omega, fun k h1 h2 => ?_⟩
      have : k = t := by omega
      rw [this]; exact hp
    · intro _; omega
   | succ m =>
    have ih := wL p t m
    constructor
    · intro h
      obtain ⟨g1, g2⟩ := ih.1 (by omega)
      refine ⟨by omega, fun k h1 h2 => ?_⟩
      by_cases hk : k = t
      · rw [hk]; exact hp
      · exact g2 k (by omega) (by omega)
    · intro h
      have := ih.2 ⟨by omega, fun k h1 h2 => h.2 k (by omega) (by omega)⟩
      omega
theorem wR (p : Nat → Bool) (t : Nat) : ((cnt p (t + 1) : Nat) : Int) = if p t then (cnt p t : Int) + 1 else 0 := by
 rw [cnt]; split <;> simp
def btr (r : Rul) (s n : List Int) (k : Nat) : Bool := nF r (s.getD k 0) (n.getD k 0)
def ovk (r : Rul) (s n : List Int) (k : Nat) : Bool := over r (s.getD k 0) (n.getD k 0)
def GoodT (r : Rul) (s n : List Int) : Option Int → List Int → Prop
 | _, [] => True
 | prev, v :: l => (r.trig ≤ v ∧ v ≤ (s.length : Int) - 1) ∧ (∀ k : Nat, v - r.trig ≤ (k : Int) → (k : Int) ≤ v → btr r s n k = true) ∧ (∀ u, prev = some u → u < v ∧ ∃ k : Nat, u ≤ (k : Int) ∧ (k : Int) < v ∧ ovk r s n k = true) ∧ GoodT r s n (some v) l
theorem cnt_gt {r : Rul} {s n : List Int} {t : Nat} {run : Int} (ht : 0 ≤ r.trig) (hrun : run = (cnt (btr r s n) (t + 1) : Int)) (h : r.trig < run) : r.trig ≤ t ∧ ∀ k : Nat, (t : Int) - r.trig ≤ k → (k : Int) ≤ t → btr r s n k = true := by
 obtain ⟨T, hT⟩ : ∃ T : Nat, r.trig = (T : Int) := ⟨r.trig.toNat, by omega⟩
 rw [hT] at h ⊢
 have h2 : T < cnt (btr r s n) (t + 1) := by omega
 rw [wL] at h2
 exact ⟨by omega, fun k h3 h4 => h2.2 k (by omega) (by omega)⟩
theorem goodT (r : Rul) (s n : List Int) (hl : n.length = s.length) (ht : 0 ≤ r.trig) (hh : 0 ≤ r.hyst) : ∀ (m t : Nat) (armed : Bool) (prev : Option Int), s.length - t = m →
 (∀ u, prev = some u → u < (t : Int) ∧ (armed = true → ∃ k : Nat, u ≤ (k : Int) ∧ (k : Int) < t ∧ ovk r s n k = true)) → GoodT r s n prev (trg r (s.drop t) (n.drop t) t (cnt (btr r s n) t) armed)
 | 0, t, armed, prev, hm, hp => by
  rw [List.drop_eq_nil_of_le (by omega : s.length ≤ t), sL]; trivial
 | m + 1, t, armed, prev, hm, hp => by
  have h1 : t < s.length := by omega
  have h2 : t < n.length := by omega
  rw [ee 0 h1, ee 0 h2, trg]
  have hc : (if nF r (s.getD t 0) (n.getD t 0) then (cnt (btr r s n) t : Int) + 1 else 0) = (cnt (btr r s n) (t + 1) : Int) := (wR (btr r s n) t).symm
  simp only [hc]
  by_cases hg : ((armed || over r (s.getD t 0) (n.getD t 0)) && decide (r.trig < (cnt (btr r s n) (t + 1) : Int))) = true
  · rw [if_pos hg]
    simp only [Bool.and_eq_true, Bool.or_eq_true, decide_eq_true_eq] at hg
    obtain ⟨g1, g2⟩ := hg
    obtain ⟨g3, g4⟩ := cnt_gt ht rfl g2
    have g5 := g4 t (by omega) (by omega)
    refine ⟨⟨g3, by omega⟩, g4, fun u hu => ?_, goodT r s n hl ht hh m (t + 1) false (some t) (by omega) (fun u hu => ?_)⟩
    · obtain ⟨q1, q2⟩ := hp u hu
      refine ⟨q1, ?_⟩
      rcases g1 with g1 | g1
      · exact q2 g1
      · exfalso
        simp only [btr, nF, decide_eq_true_eq] at g5
        simp only [over, decide_eq_true_eq] at g1
        omega
    · cases hu; exact ⟨by omega, fun h => by cases h⟩
  · rw [if_neg hg]
    refine goodT r s n hl ht hh m (t + 1) _ prev (by omega) (fun u hu => ?_)
    obtain ⟨q1, q2⟩ := hp u hu
    refine ⟨by omega, fun ha => ?_⟩
    simp only [Bool.or_eq_true] at ha
    rcases ha with ha | ha
    · obtain ⟨k, k1, k2, k3⟩ := q2 ha
      exact ⟨k, k1, by omega, k3⟩
    · exact ⟨t, by omega, by omega, ha⟩
theorem goodT0 {r : Rul} {s n : List Int} (h : TrgOk r s n) : GoodT r s n none (iu r s n) := by
 have h2 := h.hr
 simp only [j3, Bool.and_eq_true, decide_eq_true_eq] at h2
 have := goodT r s n h.hln h2.2.1 h2.1.2.1 s.length 0 true none (by omega) (fun u hu => by cases hu)
 simpa [cnt, iu] using this
theorem wP (r : Rul) (s n : List Int) (hl : n.length = s.length) : ∀ (m t v : Nat), s.length - t = m → t ≤ v → v < s.length → r.trig < (cnt (btr r s n) (v + 1) : Int) →
 ∃ u l, trg r (s.drop t) (n.drop t) t (cnt (btr r s n) t) true = u :: l ∧ u ≤ (v : Int)
 | 0, t, v, hm, h1, h2, h3 => by omega
 | m + 1, t, v, hm, h1, h2, h3 => by
  have g1 : t < s.length := by omega
  have g2 : t < n.length := by omega
  rw [ee 0 g1, ee 0 g2, trg]
  have hc : (if nF r (s.getD t 0) (n.getD t 0) then (cnt (btr r s n) t : Int) + 1 else 0) = (cnt (btr r s n) (t + 1) : Int) := (wR (btr r s n) t).symm
  simp only [hc, Bool.true_or, Bool.true_and, decide_eq_true_eq]
  by_cases hg : r.trig < (cnt (btr r s n) (t + 1) : Int)
  · rw [if_pos hg]; exact ⟨_, _, rfl, by omega⟩
  · rw [if_neg hg]
    have : t ≠ v := fun e => hg (e ▸ h3)
    exact wP r s n hl m (t + 1) v (by omega) (by omega) h2 h3
theorem wQ {p q : Nat → Bool} (h : ∀ k, p k = true → q k = true) : ∀ t, cnt p t ≤ cnt q t
 | 0 => Nat.le_refl _
 | t + 1 => by
  have := wQ h t
  rw [cnt, cnt]
  cases hp : p t with
  | false => simp
  | true => rw [h t hp]; simp; omega
theorem later {r r' : Rul} {s n : List Int} (h : TrgOk r s n) (h' : TrgOk r' s n) (h1 : r.trig ≤ r'.trig) (h2 : r.off ≤ r'.off) (h3 : r.hyst = r'.hyst) (hne : iu r' s n ≠ []) :
 iu r s n ≠ [] ∧ (iu r s n).getD 0 0 ≤ (iu r' s n).getD 0 0 := by
 cases hL : iu r' s n with
 | nil => exact absurd hL hne
 | cons v l =>
  have hg := goodT0 h'
  rw [hL] at hg
  obtain ⟨⟨g1, g2⟩, g3, _, _⟩ := hg
  have hr' := h'.hr
  simp only [j3, Bool.and_eq_true, decide_eq_true_eq] at hr'
  obtain ⟨V, rfl⟩ : ∃ V : Nat, v = (V : Int) := ⟨v.toNat, by omega⟩
  obtain ⟨T, hT⟩ : ∃ T : Nat, r'.trig = (T : Int) := ⟨r'.trig.toNat, by omega⟩
  have hc' : T < cnt (btr r' s n) (V + 1) := by
   rw [wL]
   exact ⟨by omega, fun k q1 q2 => g3 k (by omega) (by omega)⟩
  have hm := wQ (p := btr r' s n) (q := btr r s n) (fun k hk => by
   simp only [btr, nF, decide_eq_true_eq] at hk ⊢
   omega) (V + 1)
  obtain ⟨u, l', e1, e2⟩ := wP r s n h.hln s.length 0 V (by omega) (by omega) (by omega) (by omega)
  have e3 : iu r s n = u :: l' := by simpa [cnt, iu] using e1
  rw [e3]
  exact ⟨by simp, by simpa using e2⟩
theorem wV (m : Ms) : fw (.agg [C.s (.int .i64 m.at_), .s (.int .i64 m.phase), .s (.int .i64 m.since), .s (.int .i64 m.serving), .s (.int .i64 m.target), .s (.int .i64 m.source), .s (.int .i64 m.path), .s (.int .i64 m.fresh), .s (.int .i64 m.got), .sl 1 (m.buf.map Dat.cells)]) = some m := by
 unfold fw
 have : Dat.dec (α := Ms) [C.s (.int .i64 m.at_), .s (.int .i64 m.phase), .s (.int .i64 m.since), .s (.int .i64 m.serving), .s (.int .i64 m.target), .s (.int .i64 m.source), .s (.int .i64 m.path), .s (.int .i64 m.fresh), .s (.int .i64 m.got), .sl 1 (m.buf.map Dat.cells)] = (fg (m.buf.map Dat.cells)).map fun r' => (⟨m.at_, m.phase, m.since, m.serving, m.target, m.source, m.path, m.fresh, m.got, r'⟩ : Ms) := rfl
 simp only [this, fm]
 rw [if_pos (show (Dat.agg Ms) = true from rfl)]
 rfl
structure Rw where
 m : Ms
 st : List T3
 ouw : List Gs
def maxL (l : List Gs) : Int := l.foldl (fun a o => max a (o.im - o.re)) 0
structure RwOk (n : Nw) (p : Ph) (w : Rw) : Prop where
 m : w.m = p.m
 st : w.st = p.stays
 no : ei p.m = false → p.out = -1 ∧ maxL w.ouw = p.longest
 yes : ei p.m = true → p.out = p.m.since ∧ ∃ l, w.ouw = l ++ [⟨p.out, 0⟩] ∧ maxL l = p.longest
 lim : p.longest ≤ n.limit
 nnw : 0 ≤ p.longest
abbrev t0 : T3 := ⟨0, 0, 0⟩
structure Chn (n : Nw) (l : List T3) (c t : Int) : Prop where
 ne : 0 < l.length
 last : (l.getD (l.length - 1) t0).x = c ∧ (l.getD (l.length - 1) t0).y ≤ t
 cell : ∀ i, i < l.length → isC n (l.getD i t0).x = true ∧ 0 ≤ (l.getD i t0).y ∧ (l.getD i t0).y ≤ t
 nxw : ∀ i, i + 1 < l.length → (l.getD i t0).y ≤ (l.getD i t0).z ∧ (l.getD i t0).z = (l.getD (i + 1) t0).y ∧ (l.getD (i + 1) t0).x ≠ (l.getD i t0).x
theorem Chn.later {n : Nw} {l : List T3} {c t u : Int} (h : Chn n l c t) (hu : t ≤ u) : Chn n l c u :=
 ⟨h.ne, ⟨h.last.1, by have := h.last.2; omega⟩, fun i hi => by have := h.cell i hi; exact ⟨this.1, this.2.1, by omega⟩, h.nxw⟩
structure All (n : Nw) (p : Ph) (w : Rw) : Prop where
 g : dO n p.m
 r : RwOk n p w
 c : Chn n p.stays p.m.serving p.m.at_
structure BufS (b : List (List Int)) : Prop where
 l : b.length ≤ 1000000
 r : ∀ x ∈ b, x.length ≤ 1000000
structure MsS (m : Ms) : Prop where
 b : BufS m.buf
 f : m.buf.flatten.length ≤ 1000000
theorem wU (b : List (List Int)) : (fO b).map (fun es => [C.sl 1 es]) = b.map Dat.cells := by rw [fO, List.map_map]; rfl
theorem wO (m : Ms) : dE [] (enc m) := by rw [kM]; simp [dE, dE.keysIns]
theorem nil_els (k : Nat) {E : Env} {U : Nat → Prop} {h : Array Obj} {v : Value} (hr : Rep E U h (.sl 1 (List.replicate k [C.s (.slice none 0 0)])) v) : Rep E U h (.sl 1 (List.replicate k [C.sl 1 []])) v := by
 have hd := ju hr
 generalize hes : List.replicate k [C.s (.slice none 0 0)] = es at hd
 have hl : es.length = k := by rw [← hes, List.length_replicate]
 have hg : ∀ (i : Nat) (e : List C), (List.replicate k [C.sl 1 []])[i]? = some e → i < k ∧ e = [C.sl 1 []] := fun i e he => by
  rw [List.getElem?_replicate] at he
  split at he
  · rename_i q; cases he; exact ⟨q, rfl⟩
  · cases he
 have hg2 : ∀ i, i < k → es[i]? = some [C.s (.slice none 0 0)] := fun i hi => by rw [← hes, List.getElem?_replicate, if_pos hi]
 cases hd with
 | sl0 _ a cap hc =>
  have : k = 0 := by simpa using hl.symm
  subst this
  exact .d (.sl0 1 a cap hc)
 | sl _ b off cap _ arr ty fz vf hU hb hcap hmax hsz hv hrr =>
  have hk : es.length = (List.replicate k [C.sl 1 []]).length := by rw [hl, List.length_replicate]
  rw [hk]
  refine .d (.sl _ b off cap 1 arr ty fz vf hU hb (by rw [← hk]; exact hcap) hmax (fun i e he => by rw [(hg i e he).2]; rfl) (fun i e j c he hj => ?_) (fun i e j c he hj => ?_))
  · obtain ⟨h1, rfl⟩ := hg i e he
    have hj0 : j = 0 := by have := (List.getElem?_eq_some_iff.1 hj).1; simpa using this
    subst hj0
    exact hv i _ 0 _ (hg2 i h1) rfl
  · obtain ⟨h1, rfl⟩ := hg i e he
    have hj0 : j = 0 := by have := (List.getElem?_eq_some_iff.1 hj).1; simpa using this
    subst hj0
    cases hj
    have := hrr i _ 0 _ (hg2 i h1) rfl
    generalize vf i 0 = u at *
    cases this
    exact .sl0 1 none 0 (by simp [maxLen])
theorem xa {E : Env} {U : Nat → Prop} {h : Array Obj} {cs : List C} {a b : C} {v : Value} (hr : Rep E U h (.agg (cs ++ [a])) v) (hab : ∀ u, Rep E U h a u → Rep E U h b u) : Rep E U h (.agg (cs ++ [b])) v := by
 cases hr with
 | d hd => cases hd
 | agg _ vs q1 q2 q3 =>
  refine .agg _ vs (by simpa using q1) (fun j c hj => ?_) q3
  rw [List.getElem?_append] at hj
  split at hj
  · rename_i hlt
    exact q2 j c (by rw [List.getElem?_append, if_pos hlt]; exact hj)
  · rename_i hlt
    have hj0 : j = cs.length := by have := (List.getElem?_eq_some_iff.1 hj).1; simp at this; omega
    subst hj0
    simp at hj
    subst hj
    exact hab _ (q2 cs.length a (by simp))
theorem FC.post {f : FuncId} {as0 : List C} {r r' : C} (hfc : FC Tryz.prog f as0 [] r []) (hp : ∀ E U h v, Rep E U h r v → Rep E U h r' v) : FC Tryz.prog f as0 [] r' [] :=
 ⟨hfc.1, fun E U vs w hg ha hi => (hfc.2 E U vs w hg ha hi).mono fun e w' ⟨v, E', U', he, hr, hc⟩ => ⟨v, E', U', he, hp _ _ _ _ hr, hc⟩⟩
theorem wZ (n : Nw) (c : Int) (hn : NwS n) : FC Tryz.prog 52 [enc n, enc c] [] (enc (eQ n c)) [] := by
 have hb := hn.c
 have key : FC Tryz.prog 52 [enc n, enc c] [] (.agg ([.s (.int .i64 0), .s (.int .i64 0), .s (.int .i64 0), .s (.int .i64 c), .s (.int .i64 (-1)), .s (.int .i64 (-1)), .s (.int .i64 c), .s (.int .i64 0), .s (.int .i64 0)] ++ [.sl 1 (List.replicate n.cells.length [C.s (.slice none 0 0)])])) [] := by
  refine dC [] is52 (by simp) (by simp [bj]) (by simp [an, ag]) (by simp [an, ag]) (by simp [aB]) (fun cx _ _ _ => dB [] 1500 ?_)
  delta c52 oO oN oA oM oT oG oR oQ oS oK
  simp (maxSteps := 4000000) -implicitDefEqProofs only [rv52, ec, List.cons_append, List.nil_append, InR, WU, Ent.of0, Ent.of1, Ent.of2, Ent.of3, Ent.of4, V, W3, ↓reduceIte, seval, reduceCtorEq]
  omega
 have e : (n.cells.map fun _ => ([] : List Int)).map Dat.cells = List.replicate n.cells.length [C.sl 1 []] := by
  rw [List.map_map]; exact List.map_const' (l := n.cells) (b := [C.sl 1 []])
 refine FC.post key (fun E U h v hr => ?_)
 have := xa hr (fun u hu => nil_els _ hu)
 rw [kM, eQ]
 simp only [e]
 exact this
def ent52 : Ent Tryz.prog := .of2 52 (fun n _ => NwS n) (fun (n : Nw) (c : Int) => enc (eQ n c)) (fun _ _ => wO _) (fun n c h => wZ n c h)
theorem hdn_msn : fw (.agg [C.s (.int .i64 0), .s (.int .i64 0), .s (.int .i64 0), .s (.int .i64 0), .s (.int .i64 0), .s (.int .i64 0), .s (.int .i64 0), .s (.int .i64 0), .s (.int .i64 0), .s (.slice none 0 0)]) = some ms0 := rfl
theorem wS (n : Nw) (c : Int) : dL [(eV n).2, if 0 ≤ c ∧ c ≤ (n.cells.length : Int) - 1 then 0 else 6] = cellR n c := by
 unfold cellR isC
 by_cases h1 : (eV n).2 = 0 <;> by_cases h2 : 0 ≤ c ∧ c ≤ (n.cells.length : Int) - 1 <;> simp [dL, h1, h2]
theorem Begin_c (n : Nw) (c : Int) (hn : NwS n) : FC Tryz.prog 50 [enc n, enc c] [] (.tup [enc (if cellR n c = 0 then eQ n c else ms0), enc (cellR n c)]) [] := by
 have hdn := gN n
 have hb := hn.c
 have hF := wS n c
 generalize cellR n c = F at *
 refine dC [] is50 (by simp) (by simp [bj]) (by simp [an, ag]) (by simp [an, ag]) (by simp [aB]) (fun cx _ hl _ => dB [jp, eY, dS, dR, uc n c (gy n c) hn rfl] 1500 ?_)
 by_cases h0 : F = 0
 · subst h0
   rw [if_pos rfl]
   delta c50 oO oN oA oM oT oG oR oQ oS oK
   simp (maxSteps := 4000000) -implicitDefEqProofs only [rv50, ec, kM, hdn, hn, jp, eY, dS, dR, uc, hF, phY, phC, wU, gy, InR, not_true_eq_false, WU, Ent.of0, Ent.of1, Ent.of2, Ent.of3, Ent.of4, V, W3, ↓reduceIte, seval, reduceCtorEq]
   omega
 · rw [if_neg h0]
   delta c50 oO oN oA oM oT oG oR oQ oS oK
   simp (maxSteps := 4000000) -implicitDefEqProofs only [rv50, ec, kM, ms0, hdn, hn, jp, eY, dS, dR, hF, h0, InR, not_true_eq_false, not_false_eq_true, WU, Ent.of0, Ent.of1, Ent.of2, Ent.of3, Ent.of4, V, W3, ↓reduceIte, seval, reduceCtorEq]
   omega
theorem wN (haw : Awake) (n : Nw) (c : Int) : FC Tryz.prog 7 [enc n, enc c] [] (enc true) [] := by
 have hdn := gN n
 by_cases hfew : few n = true
 rotate_left
 · have hf : few n = false := by simpa using hfew
   refine dC [] is7 (by simp) (by simp [bj]) (by simp [an, ag]) (by simp [an, ag]) (by simp [aB]) (fun cx _ _ _ => dB [ent21 haw, ent34] 1500 ?_)
   delta c7 oO oN oA oM oT oG oR oQ oS oK
   simp (maxSteps := 4000000) -implicitDefEqProofs only [rv7, ent21, ent34, ec, hdn, hf, not_true_eq_false, WU, Ent.of0, Ent.of1, Ent.of2, Ent.of3, Ent.of4, V, W3, ↓reduceIte, seval, reduceCtorEq]
 have hn := few_nws hfew
 have hbeg := Begin_c n c hn
 by_cases hd : cellR n c = 0
 · rw [if_pos hd, hd] at hbeg
   have hd0 := wV (eQ n c)
   refine dC [] is7 (by simp) (by simp [bj]) (by simp [an, ag]) (by simp [an, ag]) (by simp [aB]) (fun cx _ _ _ => dB [ent21 haw, ent34, ent37, ent40, ent41, ent49, ent51, ent52, entX 50 _ _ hbeg ⟨wO _, trivial, trivial⟩] 1500 ?_)
   delta c7 oO oN oA oM oT oG oR oQ oS oK
   simp (maxSteps := 4000000) -implicitDefEqProofs only [rv7, ent21, ent34, ent37, ent40, ent41, ent49, ent51, ent52, entX, mc, netI, ec, kM, hd0, hdn, hfew, hn, hd, not_true_eq_false, not_false_eq_true, WU, Ent.of0, Ent.of1, Ent.of2, Ent.of3, Ent.of4, V, W3, ↓reduceIte, seval, reduceCtorEq]
 · rw [if_neg hd] at hbeg
   have hd0 := wV ms0
   refine dC [] is7 (by simp) (by simp [bj]) (by simp [an, ag]) (by simp [an, ag]) (by simp [aB]) (fun cx _ _ _ => dB [ent21 haw, ent34, ent37, ent40, ent41, ent49, ent51, entX 50 _ _ hbeg ⟨wO _, trivial, trivial⟩] 1500 ?_)
   delta c7 oO oN oA oM oT oG oR oQ oS oK
   simp (maxSteps := 4000000) -implicitDefEqProofs only [rv7, ent21, ent34, ent37, ent40, ent41, ent49, ent51, entX, mc, netI, ec, kM, hd0, hdn_msn, hdn, hfew, hn, hd, not_true_eq_false, not_false_eq_true, WU, Ent.of0, Ent.of1, Ent.of2, Ent.of3, Ent.of4, V, W3, ↓reduceIte, seval, reduceCtorEq]
end Go.Proofs.YtcbabnbiinkafaaGreatDoor
end
section
open Go Go.Am
open Go.Am.Dat (cells)
namespace Go.Proofs.YtcbabnbiinkafaaGreatDoor
open Go.ChangeShapes Go.WideShapes Go.ChangeAt Go.RowKit
open Go.ChangeMaps (open_string shut_string)
set_option maxRecDepth 100000
theorem lifted7 (os : Os) (started : os.Started) (H : Type) (en : TypeId × Value → H) :
 ReturnsInHanded {} Tryz.checked os 7 .any (fun w args => (Rows.moveNetworksSpec.pre en Tryz.prog Tryz.f7 Rows.moveNetworksRow.domain false w args ∧ laidMetH Tryz.prog Rows.moveNetworksRow.laid w) ∧ sizedMet en Tryz.prog Tryz.f7 (OpenSpec.ofChange Rows.moveNetworksSpec) false w args)
  (Rows.moveNetworksSpec.post en Tryz.prog Tryz.f7 false true false false) := by
 refine returnsInHanded_of_change_and (C := Tryz.checked) (X := fun w _ => laidMetH Tryz.prog Rows.moveNetworksRow.laid w) (fun _ _ _ hh h => h.of_heap hh) ownOk started (by kernel_rfl) Tryz.func7
  (ChangeSpec.witness_shaped (enc := en) (C := Tryz.checked) (os := os) (X := fun w _ => laidMetH Tryz.prog Rows.moveNetworksRow.laid w) false (World.doorLaid Tryz.prog 89 os) #[.agg #[.slice none 0 0, .slice none 0 0, .int .i64 0], .int .i64 0] 8 rfl (doorShaped os _) (by kernel_rfl) (by kernel_rfl) (by kernel_rfl) (door_met os _)) ?_
 intro W base args ds gs before hval0 hW hcnd hsz hL _
 have hval : ∀ (j : Nat) t v, Tryz.f7.params[j]? = some t → args[j]? = some v → Value.okWide Tryz.prog W .any base t v := hval0
 have hW' := hW
 obtain ⟨p, q, hA0, hV, rfl, hfz, hnd⟩ := hW
 have hA : DataW.TrodAll en Tryz.prog W 0 (fun _ => true) true Tryz.f7.params.toList args.toList ds p := hA0
 rw [Tryz.params7] at hA hval
 obtain ⟨v0, vs0, d0w, ds0, p0, q0, hargs, rfl, rfl, h0, r0w⟩ := trodAll_cons hA
 obtain ⟨v1, vs1, d1, ds1, p1, q1, rfl, rfl, rfl, h1, r1⟩ := trodAll_cons r0w
 obtain ⟨rfl, rfl, rfl⟩ := trodAll_nil r1
 obtain rfl : args = #[v0, v1] := by cases args; simp_all
 obtain ⟨rfl, rfl⟩ := trodVars_none hV
 have lt0 : ∀ x ∈ p0, x.block < W.heap.size := by obtain ⟨m, hm⟩ := h0; exact DataW.trod_lt m _ _ _ hm
 obtain ⟨x0, g0, hx0⟩ := rNw.argS rfl Tryz.underlying47 (hval 0 47 v0 rfl rfl) h0
 obtain ⟨x1, rfl, rfl, rfl, w1⟩ := open_int Tryz.underlying3 (hval 1 3 v1 rfl rfl) h1
 clear hA0 hval0
 refine (law_walkG (wN awake_c x0 x1) (W := W) (vs := #[v0, .int .i64 x1]) (glAll hL) rfl (fun j c hj E => ?_)).mono fun e W' ⟨he, bel⟩ => ?_
 · match j, hj with
   | 0, hj => cases hj; exact hx0 E
   | 1, hj => cases hj; exact .d (.s _)
 · subst he
   exact ⟨_, rfl, _, _, _, [], _, [], hW', trodAll_mk1 (shut_bool Tryz.underlying4 _), (trodAll_cons_mk (Below.trod laidOut (by kernel_rfl) (of_decide_eq_true (by kernel_rfl)) h0 bel lt0) (trodAll_cons_mk (shut_int Tryz.underlying3 w1) trodAll_mk0)), rfl, bel.frame _, fun h => by cases h⟩
theorem jPlace7 : (Rows.moveNetworksRow.inPlace == Tryz.prog.inPlace 7) = true := by kernel_rfl
theorem jUnf7 : (Rows.moveNetworksRow.unfollowed == Tryz.prog.unfollowed 7) = true := by kernel_rfl
theorem jRec7 : (Rows.moveNetworksRow.recurses == Tryz.prog.recurses 7) = true := by kernel_rfl
theorem jNamed7 : (Rows.moveNetworksRow.named == Tryz.prog.varsNamed 7) = true := by kernel_rfl
theorem jKeys7 : (Rows.moveNetworksRow.plainKeys == Tryz.prog.plainKeys) = true := jKeys
theorem jLift7 : (Rows.moveNetworksRow.lifted == Tryz.prog.liftsFinal) = true := jLift
theorem jMake7 : (Tryz.prog.make == some Rows.moveNetworksRow.make) = true := jMake
theorem jVeil7 : Rows.moveNetworksRow.veiledFits Tryz.prog Tryz.f7.params.toList (Tryz.f7.params.toList ++ Rows.moveNetworksSpec.plain.varTypes Tryz.prog ++ Tryz.f7.resultTypes.toList) = true := by kernel_rfl
end Go.Proofs.YtcbabnbiinkafaaGreatDoor
end
