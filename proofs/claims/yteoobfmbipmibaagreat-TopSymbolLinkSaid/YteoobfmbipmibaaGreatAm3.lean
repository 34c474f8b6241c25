/- Part 3 of the proof of: TopSymbolLink returns true for every input and never panics: bits with their check, coded, scrambled, modulated, layered, with a matrix applied, are recovered behind equalizing by soft bits turned back by the register; conditions: none beyond the given statement. -/
import GoSem.Core.Float
import Derived.WideShapes
import Derived.ChangeArms
import Derived.OpenShut
import Derived.Test.YteoobfmbipmibaaGreatProg
import Derived.KernelRfl
import Derived.Test.YteoobfmbipmibaaGreatAm2
set_option linter.all false
section
namespace Go.Am
variable {P : Program} [Glob P]
open Dat (cells)
instance : DatL Bool where
 sz := 1
 agg := false
 cells b := [.s (.bool b)]
 dec | [.s (.bool b)] => some b | _ => none
 ok := by intro l a h; split at h <;> cases h; rfl
 data := fun a => rfl
 one := fun _ a => rfl
 dec_cells := fun a => rfl
instance : DatL ByteArray where
 sz := 1
 agg := false
 cells b := [.s (.string b)]
 dec | [.s (.string b)] => some b | _ => none
 ok := by intro l a h; split at h <;> cases h; rfl
 data := fun a => rfl
 one := fun _ a => rfl
 dec_cells := fun a => rfl
instance {α : Type} [DatL α] : DatL (List α) where
 sz := 1
 agg := false
 cells l := [.sl (Dat.sz α) (l.map cells)]
 dec
  | [.sl n es] => if n = Dat.sz α then eo es else none
  | _ => none
 ok := by
  intro l a h
  split at h
  · split at h
    · rename_i hn; rw [hn, dV h]
    · cases h
  · cases h
 nilv := some []
 nil_ok := by intro a h; cases h; exact ⟨rfl, _, rfl⟩
 data := fun a => rfl
 one := fun _ a => rfl
 dec_cells := fun a => by simp [g0]
theorem xe {α : Type} [Dat α] (h : Dat.agg α = false) (a : α) : cells a = [enc a] := by
 have h1 := Dat.one h a
 unfold enc
 rw [if_neg (by rw [h]; simp)]
 match hc : cells a, h1 with
 | [c], _ => rfl
def eW {α : Type} [Dat α] (c : C) : Option α :=
 match c with
 | .agg cs => if Dat.agg α = true then Dat.dec cs else none
 | .s (.slice none 0 0) => Dat.nilv
 | c => if Dat.agg α = true then none else Dat.dec [c]
theorem v9 (a : C) : bA a a := by cases a <;> simp [bA]
theorem ri : ∀ l : List C, bH l l
 | [] => trivial
 | a :: l => ⟨v9 a, ri l⟩
theorem zK (c : C) : leC c c := by cases c <;> simp [leC, ri]
theorem et (c : C) : bA c c := by
 cases c <;> simp [bA]
theorem eB {α : Type} [Dat α] {c : C} {a : α} (h : eW c = some a) : bA c (enc a) := by
 unfold eW at h
 split at h
 · split at h
   · rename_i hg
     have : enc a = .agg (cells a) := by unfold enc; rw [if_pos hg]
     rw [this, ← Dat.ok h]; simp [bA]
   · cases h
 · obtain ⟨hg, n, hc⟩ := Dat.nil_ok a h
   have : enc a = .sl n [] := by unfold enc; rw [if_neg (by rw [hg]; simp), hc]; rfl
   rw [this]; simp [bA]
 · split at h
   · cases h
   · rename_i hg
     have h2 := Dat.ok h
     rw [xe (by simpa using hg) a] at h2
     have h3 := (List.cons.inj h2).1
     rw [← h3]
     exact et c
theorem FC.le {f : FuncId} {args args' : List C} {chs : Chs} {r : C} {chs' : Chs} (h : bH args args') (hf : FC P f args' chs r chs') : FC P f args chs r chs' :=
 ⟨hf.1, fun E U vs w hg ha hi => by
  obtain ⟨h1, h2⟩ := mT (E := E) (U := U) (h := w.heap) h
  exact hf.2 E U vs w hg ⟨by rw [h1]; exact ha.1, h2 _ ha.2⟩ hi⟩
theorem WfR.plain {r : C} (h : dm [] r) : WfR [] r [] [] := ⟨fun k c h => by simp at h, fun k cs h => by simp at h, h, fun k c h => by simp at h⟩
def Ent.of1 {α : Type} [Dat α] (id : FuncId) (pre : α → Prop) (res : α → C) (hk : ∀ a, dm [] (res a)) (h : ∀ a, pre a → FC P id [enc a] [] (res a) []) : Ent P where
 id := id
 sp := fun args chs => match args, chs with
  | [x], [] => (eW x).bind fun a => some (pre a, res a, [], [])
  | _, _ => none
 ok := by
  intro args chs p r chs' nk hs hp
  split at hs
  · simp only [Option.bind_eq_some_iff, Option.some.injEq, Prod.mk.injEq] at hs
    obtain ⟨a, ha, rfl, rfl, rfl, rfl⟩ := hs
    exact ⟨(h a hp).le (args' := [_]) ⟨eB ha, trivial⟩, .plain (hk a)⟩
  · cases hs
def Ent.of0 (id : FuncId) (res : C) (hk : dm [] res) (h : FC P id [] [] res []) : Ent P where
 id := id
 sp := fun args chs => match args, chs with
  | [], [] => some (True, res, [], [])
  | _, _ => none
 ok := by
  intro args chs p r chs' nk hs hp
  split at hs
  · simp only [Option.some.injEq, Prod.mk.injEq] at hs
    obtain ⟨rfl, rfl, rfl, rfl⟩ := hs
    exact ⟨h, .plain hk⟩
  · cases hs
def Ent.of2 {α β : Type} [Dat α] [Dat β] (id : FuncId) (pre : α → β → Prop) (res : α → β → C) (hk : ∀ a b, dm [] (res a b)) (h : ∀ a b, pre a b → FC P id [enc a, enc b] [] (res a b) []) : Ent P where
 id := id
 sp := fun args chs => match args, chs with
  | [x, y], [] => (eW x).bind fun a => (eW y).bind fun b => some (pre a b, res a b, [], [])
  | _, _ => none
 ok := by
  intro args chs p r chs' nk hs hp
  split at hs
  · simp only [Option.bind_eq_some_iff, Option.some.injEq, Prod.mk.injEq] at hs
    obtain ⟨a, ha, b, hb, rfl, rfl, rfl, rfl⟩ := hs
    exact ⟨(h a b hp).le (args' := [_, _]) ⟨eB ha, eB hb, trivial⟩, .plain (hk a b)⟩
  · cases hs
def Ent.of3 {α β γ : Type} [Dat α] [Dat β] [Dat γ] (id : FuncId) (pre : α → β → γ → Prop) (res : α → β → γ → C) (hk : ∀ a b c, dm [] (res a b c)) (h : ∀ a b c, pre a b c → FC P id [enc a, enc b, enc c] [] (res a b c) []) : Ent P where
 id := id
 sp := fun args chs => match args, chs with
  | [x, y, z], [] => (eW x).bind fun a => (eW y).bind fun b => (eW z).bind fun c => some (pre a b c, res a b c, [], [])
  | _, _ => none
 ok := by
  intro args chs p r chs' nk hs hp
  split at hs
  · simp only [Option.bind_eq_some_iff, Option.some.injEq, Prod.mk.injEq] at hs
    obtain ⟨a, ha, b, hb, c, hc, rfl, rfl, rfl, rfl⟩ := hs
    exact ⟨(h a b c hp).le (args' := [_, _, _]) ⟨eB ha, eB hb, eB hc, trivial⟩, .plain (hk a b c)⟩
  · cases hs
theorem u7 (n : Int) : enc n = .s (.int .i64 n) := rfl
theorem yy (b : Bool) : enc b = .s (.bool b) := rfl
theorem enc_str (b : ByteArray) : enc b = .s (.string b) := rfl
theorem sN {α : Type} [DatL α] (l : List α) : enc l = .sl (Dat.sz α) (l.map cells) := rfl
theorem ko (n : Int) : cells n = [.s (.int .i64 n)] := rfl
theorem vw (n : Bool) : cells n = [.s (.bool n)] := rfl
theorem xp (n : ByteArray) : cells n = [.s (.string n)] := rfl
theorem vO {α : Type} [DatL α] (l : List α) : cells l = [.sl (Dat.sz α) (l.map cells)] := rfl
theorem wH : Dat.sz Int = 1 := rfl
theorem sz_bool : Dat.sz Bool = 1 := rfl
theorem sz_str : Dat.sz ByteArray = 1 := rfl
theorem sz_list {α : Type} [DatL α] : Dat.sz (List α) = 1 := rfl
theorem zy (n : Int) : eW (.s (.int .i64 n)) = some n := rfl
theorem wX (n : Bool) : eW (.s (.bool n)) = some n := rfl
theorem yz (n : ByteArray) : eW (.s (.string n)) = some n := rfl
theorem dec_int (n : Int) : Dat.dec [C.s (.int .i64 n)] = some n := rfl
theorem zb (n : Bool) : Dat.dec [C.s (.bool n)] = some n := rfl
theorem dec_str (n : ByteArray) : Dat.dec [C.s (.string n)] = some n := rfl
theorem zL {α : Type} [DatL α] (n : Nat) (es : List (List C)) : Dat.dec (α := List α) [C.sl n es] = if n = Dat.sz α then eo es else none := rfl
theorem yE {α : Type} [DatL α] : eW (α := List α) (.s (.slice none 0 0)) = some [] := rfl
theorem decV_sl {α : Type} [DatL α] (n : Nat) (es : List (List C)) : eW (α := List α) (.sl n es) = if n = Dat.sz α then eo es else none := rfl
theorem yG {α : Type} [Dat α] : eo (α := α) [] = some [] := rfl
theorem xN {α : Type} [Dat α] (l : List C) (ls : List (List C)) : eo (α := α) (l :: ls) = (Dat.dec l).bind fun a => (eo ls).map (a :: ·) := rfl
theorem yV (xs : List Int) (n : Nat) : List.getD (xs.map cells) n [C.s (.int .i64 0)] = [.s (.int .i64 (xs.getD n 0))] := by
 simp only [List.getD_eq_getElem?_getD, List.getElem?_map]
 cases xs[n]? <;> rfl
theorem wG (xs : List Bool) (n : Nat) : List.getD (xs.map cells) n [C.s (.bool false)] = [.s (.bool (xs.getD n false))] := by
 simp only [List.getD_eq_getElem?_getD, List.getElem?_map]
 cases xs[n]? <;> rfl
theorem yr (xs : List ByteArray) (n : Nat) : List.getD (xs.map cells) n [C.s (.string ⟨#[]⟩)] = [.s (.string (xs.getD n ⟨#[]⟩))] := by
 simp only [List.getD_eq_getElem?_getD, List.getElem?_map]
 cases xs[n]? <;> rfl
theorem dM {α : Type} [DatL α] (xs : List (List α)) (n : Nat) (d : List C) (h : n < xs.length) : List.getD (xs.map cells) n d = [.sl (Dat.sz α) ((xs.getD n []).map cells)] := by
 simp only [List.getD_eq_getElem?_getD, List.getElem?_map, List.getElem?_eq_getElem h]
 rfl
end Go.Am
namespace Go.Am
open Dat (cells)
structure Gs where
 re : Int
 im : Int
 deriving DecidableEq, Inhabited
instance : DatL Gs where
 sz := 2
 agg := true
 cells g := [.s (.int .i64 g.re), .s (.int .i64 g.im)]
 dec | [.s (.int .i64 a), .s (.int .i64 b)] => some ⟨a, b⟩ | _ => none
 ok := by intro l a h; split at h <;> cases h; rfl
 data := fun a => rfl
 one := fun h => by cases h
 dec_cells := fun a => rfl
theorem nb (g : Gs) : enc g = .agg [.s (.int .i64 g.re), .s (.int .i64 g.im)] := rfl
theorem sB (g : Gs) : cells g = [.s (.int .i64 g.re), .s (.int .i64 g.im)] := rfl
theorem sz_gs : Dat.sz Gs = 2 := rfl
theorem dec_gs (a b : Int) : Dat.dec [C.s (.int .i64 a), .s (.int .i64 b)] = some (⟨a, b⟩ : Gs) := rfl
theorem decV_gs (a b : Int) : eW (.agg [C.s (.int .i64 a), .s (.int .i64 b)]) = some (⟨a, b⟩ : Gs) := rfl
theorem getD_gs (xs : List Gs) (n : Nat) : List.getD (xs.map cells) n [C.s (.int .i64 0), .s (.int .i64 0)] = [.s (.int .i64 (xs.getD n ⟨0, 0⟩).re), .s (.int .i64 (xs.getD n ⟨0, 0⟩).im)] := by
 simp only [List.getD_eq_getElem?_getD, List.getElem?_map]
 cases xs[n]? <;> rfl
theorem sP (g : Gs) : Gs.mk g.re g.im = g := rfl
theorem xI {α : Type} (d k : Nat) (c : α) (m : List (Nat × α)) : List.lookup k ((d, c) :: m) = if k = d then some c else List.lookup k m := by
 rw [List.lookup_cons]
 by_cases h : k = d
 · simp [h]
 · have : (k == d) = false := by simp [h]
   rw [this, if_neg h]
theorem dT {α : Type} {l : List α} {i : Nat} (d : α) (h : i < l.length) : l.drop i = l.getD i d :: l.drop (i + 1) := by
 rw [List.drop_eq_getElem_cons h, List.getD_eq_getElem?_getD, List.getElem?_eq_getElem h]; rfl
theorem eL {α : Type} {l : List α} {i : Nat} (d : α) (h : i < l.length) : l.take (i + 1) = l.take i ++ [l.getD i d] := by
 rw [List.take_succ_eq_append_getElem h, List.getD_eq_getElem?_getD, List.getElem?_eq_getElem h]; rfl
theorem kI.list {α : Type} [DatL α] {n : Nat} {l : List α} (h : kI (.sl n (l.map cells))) : l.length ≤ 9223372036854775807 := by simpa using h.sl.1
theorem kI.inner {α : Type} [DatL α] {n : Nat} {l : List (List α)} (h : kI (.sl n (l.map cells))) (i : Nat) (hi : i < l.length) : (l.getD i []).length ≤ 9223372036854775807 := by
 have := h.sl.2 (cells l[i]) (List.mem_map.2 ⟨l[i], List.getElem_mem hi, rfl⟩) _ (List.mem_singleton.2 rfl)
 have h2 := this.sl.1
 rw [List.getD_eq_getElem?_getD, List.getElem?_eq_getElem hi]
 simpa using h2
end Go.Am
end
section
namespace Go.Am
open Dat (cells)
variable {P : Program} [Glob P]
structure Moved (U F : Nat → Prop) (w : World) (U' F' : Nat → Prop) (w' : World) : Prop where
 os : w'.os = w.os
 tape : w'.tape = w.tape
 output : w'.output = w.output
 size : w.heap.size ≤ w'.heap.size
 keep : ∀ b, U b → U' b ∧ w'.heap[b]? = w.heap[b]?
 rest : ∀ b, b < w.heap.size → ¬ F b → w'.heap[b]? = w.heap[b]?
 live : ∀ b, F' b → w.heap.size ≤ b ∨ F b
 newU : ∀ b, U' b → U b ∨ w.heap.size ≤ b ∨ F b
 out : ∀ b, F' b → ¬ U' b
 fpl : ∀ b, F' b → b < w'.heap.size
 lt : ∀ b, U' b → b < w'.heap.size
def YAt (P : Program) [Glob P] (l : Nat) (xs : List C) (R : Res) (Rt : Option Res) (Rf : Res) : Prop :=
 ∀ (E : Env) (U F : Nat → Prop) (w : World) (vs : Array Value), gm P U w.heap → mE E U w.heap xs vs → R.φ F U w.heap → (∀ b, F b → ¬ U b) → (∀ b, F b → b < w.heap.size) → (∀ b, U b → b < w.heap.size) →
  ∃ fn tmps assign body, (Instr.yield l vs).run P w = .ok (.round l fn tmps assign body) w ∧
   ∀ ro, RoundIn (FW ro) 0 P l fn tmps assign body w fun e w' => ∃ (b : Bool) (F' U' : Nat → Prop), e = .returned (.bool b) ∧
    (match b with | true => ∃ R', Rt = some R' ∧ R'.φ F' U' w'.heap | false => Rf.φ F' U' w'.heap) ∧ Moved U F w U' F' w'
def cd (ch : Chs) (kr : Nat) (b : Bool) (R : Res) : Eff := ⟨True, .s (.bool b), (kr, .res R) :: ag [(kr, .inner)] (af ch kr), [(kr, .inner)]⟩
def bE (ch : Chs) (kr : Nat) (Rt : Option Res) (Rf : Res) : List Eff :=
 match Rt with
 | some R => [cd ch kr true R, cd ch kr false Rf]
 | none => [cd ch kr false Rf]
theorem Ev.res {E : Env} {U F' U' : Nat → Prop} {w w' : World} {ch : Chs} {kr : Nat} {R R' : Res} (hi : Inv E U w.heap ch) (hl : lk ch kr = some (.res R)) (hm : Moved U (E kr).fp w U' F' w') (hφ : R'.φ F' U' w'.heap) (d : Nat) :
 Ev E U w ch [(kr, .inner)] d (dB E kr { E kr with fp := F' }) U' w' ((kr, .res R') :: ag [(kr, .inner)] (af ch kr)) := by
 have hkm := du hl
 have hd : ∀ c, (kr, c) ∉ af ch kr := fun c => dL hi.nd
 have hmem : ∀ k' c, (k', c) ∈ af ch kr → (k', c) ∈ ch ∧ k' ≠ kr := fun k' c h => ⟨eY h, fun e => hd c (e ▸ h)⟩
 have henv : ∀ k', [(kr, Sb.inner)].lookup k' = none → dB E kr { E kr with fp := F' } k' = E k' := fun k' h => by
  rw [fS] at h
  split at h
  · cases h
  · exact dP E _ (by assumption)
 have henvI : ∀ k', [(kr, Sb.inner)].lookup k' = some .inner → (dB E kr { E kr with fp := F' } k').toKE0 = (E k').toKE0 := fun k' h => by
  rw [fS] at h
  split at h
  · have e : k' = kr := by assumption
    subst e; rw [updE_same]
  · cases h
 have hsub : ∀ k' c', [(kr, Sb.inner)].lookup k' = some (.c c') → ∀ v, Rep E U w.heap (.own k') v → Rep (dB E kr { E kr with fp := F' }) U' w'.heap c' v := fun k' c' h => by
  rw [fS] at h; split at h <;> cases h
 refine Ev.gen (news := [(kr, .res R')]) (old := af ch kr) hi hm.os hm.tape hm.output hm.size (eE ch kr) hm.keep henv henvI hsub (fun k' c h => dP E _ (hmem k' c h).2)
  (fun k' c h b hb => hm.rest b (hi.fpl k' c (hmem k' c h).1 b hb) (fun hb' => hi.sep k' c kr _ (hmem k' c h).1 hkm (hmem k' c h).2 b hb hb')) (fun b hb1 hb2 => hm.rest b hb1 (hb2 kr _ hkm)) (by simp) (fun k' c h => ?_) (fun k' c h => ?_) (fun k' c h b hb => ?_) (fun k' c h b hb => ?_)
  (fun k1 x1 k2 x2 h1 h2 hne => ?_) (fun b hb => ?_) (fun k' c h b hb => ?_) hm.lt (fun k' cs h => ?_)
 · simp only [List.mem_singleton, Prod.mk.injEq] at h; obtain ⟨rfl, rfl⟩ := h; exact hd
 · simp only [List.mem_singleton, Prod.mk.injEq] at h; obtain ⟨rfl, rfl⟩ := h; simp only [dy, updE_same]; exact hφ
 · simp only [List.mem_singleton, Prod.mk.injEq] at h; obtain ⟨rfl, rfl⟩ := h; rw [updE_same] at hb
   rcases hm.live b hb with g | g
   · exact .inl g
   · exact .inr ⟨_, _, hkm, hd, g⟩
 · simp only [List.mem_singleton, Prod.mk.injEq] at h; obtain ⟨rfl, rfl⟩ := h; rw [updE_same] at hb; exact hm.fpl b hb
 · simp only [List.mem_singleton, Prod.mk.injEq] at h1 h2; exact absurd (h1.1.trans h2.1.symm) hne
 · rcases hm.newU b hb with g | g | g
   · exact .inl g
   · exact .inr (.inl g)
   · exact .inr (.inr ⟨_, _, hkm, hd, g⟩)
 · simp only [List.mem_singleton, Prod.mk.injEq] at h; obtain ⟨rfl, rfl⟩ := h; rw [updE_same] at hb; exact hm.out b hb
 · simp only [List.mem_singleton, Prod.mk.injEq] at h; exact absurd h.2 (by simp)
theorem OpM.yield {ro : Option Nat} {ρ : Operand → C} {ch : Chs} {d l kr : Nat} {xs : List C} {R Rf : Res} {Rt : Option Res} {fo : Operand} {aS : List Operand} (hfo : ρ fo = .s (.func (.yield l) #[] #[])) (hxs : aS.map ρ = xs) (hl : lk ch kr = some (.res R)) (hy : YAt P l xs R Rt Rf) :
 OpM P ro ρ ch d (.call fo aS) (bE ch kr Rt Rf) := by
 intro own o a E U w hc hi hg hρ K Q hK
 obtain ⟨args, ts, ho, ha⟩ := lc hc
 subst ha
 have hev : a.eval fo = .func (.yield l) #[] #[] := dx (hfo ▸ hρ fo (by simp [AOp.reads]))
 have hargs : mE E U w.heap xs (args.map a.eval) := by
  subst hxs
  refine ⟨by simp, fun j c hj => ?_⟩
  simp only [List.getElem?_map, Option.map_eq_some_iff, Array.getElem?_toList] at hj
  obtain ⟨x, hx, rfl⟩ := hj
  rw [eF (v := a.eval x) (by simp [hx])]
  exact hρ x (by simp only [AOp.reads]; exact List.mem_cons_of_mem _ (by simpa using Array.mem_of_getElem? hx))
 have hkm := du hl
 obtain ⟨fn, tmps, assign, body, hrun, hround⟩ := hy E U (E kr).fp w (args.map a.eval) hg hargs (hi.ok kr _ hkm) (hi.out kr _ hkm) (hi.fpl kr _ hkm) hi.lt
 have hrun2 : (execOp a.eval o).run P w = .ok (.round l fn tmps assign body) w := by
  simp only [execOp, ho, resolve, hev, Deferred.ofValue, Sem.run_bind, Sem.run_pure, Result.andThen_ok, invoke]
  simpa using hrun
 refine ⟨fun _ _ => trivial, ?_⟩
 rw [Oper.semAt_eq _ _ _ (by rw [ho]; simp), hrun2, Oper.uponIn_round]
 refine ⟨fun h => by simp [FW, Fence.wide] at h, (hround ro).mono fun e w' h => ?_⟩
 obtain ⟨b, F', U', rfl, hb, hm⟩ := h
 show K (a.put o.dst (.bool b)) w'
 cases b with
 | true =>
  obtain ⟨R', rfl, hφ⟩ := hb
  exact hK (cd ch kr true R') (by simp [bE]) _ _ _ _ (.d (.s _)) (Ev.res hi hl hm hφ d)
 | false =>
  exact hK (cd ch kr false Rf) (by unfold bE; cases Rt <;> simp) _ _ _ _ (.d (.s _)) (Ev.res hi hl hm hb d)
end Go.Am
end
section
namespace Go.Am
open Dat (cells)
variable {P : Program} [Glob P]
def av (bx : List Nat) : C → Bool
 | .own _ | .inn _ _ | .eptr _ _ _ | .iptr _ _ _ _ => false
 | .ptr k _ => aq bx k
 | .agg cs => ptrOnlys bx cs
 | .tup cs => ptrOnlys bx cs
 | .fn _ xs ys => ptrOnlys bx xs && ptrOnlys bx ys
 | _ => true
where ptrOnlys (bx : List Nat) : List C → Bool
 | [] => true
 | c :: cs => av bx c && ptrOnlys bx cs
theorem iy {bx : List Nat} : ∀ {cs : List C}, av.ptrOnlys bx cs = true → ∀ c ∈ cs, av bx c = true
 | [], _, c, h => by simp at h
 | x :: cs, h, c, hc => by
  simp only [av.ptrOnlys, Bool.and_eq_true] at h
  rcases List.mem_cons.1 hc with e | e
  · rw [e]; exact h.1
  · exact iy h.2 c e
theorem Rep.fixed {E E' : Env} {U : Nat → Prop} {h : Array Obj} {c : C} {v : Value} {bx : List Nat} (hr : Rep E U h c v) (hk : av bx c = true) (he : ∀ k ∈ bx, (E' k).toKE0 = (E k).toKE0) : Rep E' U h c v := by
 induction hr with
 | d hd => exact .d hd
 | ref cs b off arr ty fz vf hU hb hv hr => exact .ref cs b off arr ty fz vf hU hb hv hr
 | agg cs vs hl hr h1 ih => exact .agg cs vs hl (fun j c hj => ih j c hj (iy (by simpa only [av] using hk) c (List.mem_of_getElem? hj))) h1
 | tup cs vs hl hr ih => exact .tup cs vs hl (fun j c hj => ih j c hj (iy (by simpa only [av] using hk) c (List.mem_of_getElem? hj)))
 | fn f xs ys vs ws hl hr hl' hr' ih ih' =>
  simp only [av, Bool.and_eq_true] at hk
  exact .fn f xs ys vs ws hl (fun j c hj => ih j c hj (iy hk.1 c (List.mem_of_getElem? hj))) hl' (fun j c hj => ih' j c hj (iy hk.2 c (List.mem_of_getElem? hj)))
 | own k => simp [av] at hk
 | ptr k off => simp only [av] at hk; rw [← he k (eK.1 hk)]; exact .ptr k off
 | eptr k i j => simp [av] at hk
 | inn k i => simp [av] at hk
 | iptr k i n j => simp [av] at hk
def bn (bx : List Nat) : dz → dz
 | [] => []
 | (i, c) :: t => (i, match av bx c with | true => c | false => .any) :: bn bx t
theorem oa (bx : List Nat) : ∀ (t : dz) (i : Nat), gt (bn bx t) i = .any ∨ (gt (bn bx t) i = gt t i ∧ av bx (gt t i) = true)
 | [], i => .inl rfl
 | (j, c) :: t, i => by
  have ih := oa bx t i
  simp only [gt, bn, lk] at ih ⊢
  by_cases hj : j = i
  · rw [if_pos hj, if_pos hj]
    cases hp : av bx c with
    | true => exact .inr ⟨rfl, hp⟩
    | false => exact .inl rfl
  · rw [if_neg hj, if_neg hj]; exact ih
def bR : List Nat → Chs → Prop
 | [], _ => True
 | k :: ks, ch => (match lk ch k with | some (.box _) => True | _ => False) ∧ bR ks ch
def bh (bx : List Nat) : Chs → Prop
 | [] => True
 | (k, .box _) :: r => (k < 100000 ∨ aq bx k = true) ∧ bh bx r
 | (_, .row _ _ _) :: r => bh bx r
 | (_, .deep _ _ _ _ _) :: r => bh bx r
 | (_, .res _) :: r => bh bx r
theorem ll : ∀ {bx : List Nat} {ch : Chs}, bR bx ch → ∀ k ∈ bx, ∃ cs, (k, .box cs) ∈ ch
 | [], _, _, k, h => by simp at h
 | j :: ks, ch, h, k, hk => by
  rcases List.mem_cons.1 hk with e | e
  · subst e
    have h1 := h.1
    cases hl : lk ch k with
    | none => rw [hl] at h1; exact h1.elim
    | some c =>
     rw [hl] at h1
     cases c with
     | box cs => exact ⟨cs, du hl⟩
     | _ => exact h1.elim
  · exact ll h.2 k e
theorem lQ {bx : List Nat} : ∀ {ch : Chs}, bh bx ch → ∀ k cs, (k, .box cs) ∈ ch → 100000 ≤ k → k ∈ bx
 | [], _, k, cs, h, _ => by simp at h
 | (j, c0) :: r, h, k, cs, hm, hk => by
  rcases List.mem_cons.1 hm with e | e
  · cases e
    rcases h.1 with g | g
    · omega
    · exact eK.1 g
  · have hr : bh bx r := by cases c0 <;> first | exact h | exact h.2
    exact lQ hr k cs e hk
def bP (bx : List Nat) (ch : Chs) : Prop := bR bx ch ∧ bh bx ch
def lm (Eb : Env) (l D : Nat) (rec : Loop) (bx : List Nat) (tB : dz) (tmps : Array Value) (ch : Chs) : Res where
 φ F U h := ∃ Ec : Env, (∀ k c, (k, c) ∈ ch → dy Ec U h k c) ∧ (∀ k c k' c', (k, c) ∈ ch → (k', c') ∈ ch → k ≠ k' → ∀ b, (Ec k).fp b → ¬ (Ec k').fp b) ∧
  (∀ k c, (k, c) ∈ ch → ∀ b, (Ec k).fp b → F b ∧ b ≠ l ∧ b ≠ D) ∧ F l ∧ F D ∧ (∀ k ∈ bx, (Ec k).toKE0 = (Eb k).toKE0) ∧
  h[l]? = some (.loop rec) ∧ h[D]? = some (.deferred (some [])) ∧ (∀ j, Rep Eb U h (gt tB j) (tmps.getD j undef))
 mono := by
  intro F U U' h h' ⟨Ec, h1, h2, h3, h4, h5, h6, h7, h8, h9⟩ hU hF
  exact ⟨Ec, fun k c hm => (h1 k c hm).same hU (fun b hb => hF b (h3 k c hm b hb).1), h2, h3, h4, h5, h6, (hF l h4).trans h7, (hF D h5).trans h8, fun j => (h9 j).same hU⟩
def bW (P : Program) [Glob P] (cx : Cx) (Q : ASt → Prop) (k : List It) (t0 : dz) : Code → Chs → Prop
 | .exit id, ch =>
  match aI id k with
  | .cont k' => SG P cx Q k' ⟨t0, ch⟩
  | .out p => p ⟨t0, ch⟩
  | .none => False
 | .ret, ch => bu Q k ⟨t0, ch⟩
 | _, _ => False
def wa (J : Code → Chs → Prop) (Eb : Env) (l D : Nat) (rec : Option Code → Loop) (bx : List Nat) (tB : dz) (tmps : Array Value) : Res where
 φ F U h := ∃ jump ch, (ch.map (·.1)).Nodup ∧ bP bx ch ∧ J jump ch ∧ (lm Eb l D (rec (some jump)) bx tB tmps ch).φ F U h
 mono := by
  rintro F U U' h h' ⟨jump, ch, h1, h2, h3, h4⟩ hU hF
  exact ⟨jump, ch, h1, h2, h3, (lm Eb l D (rec (some jump)) bx tB tmps ch).mono F U U' h h' h4 hU hF⟩
def ItC (P : Program) [Glob P] (f : FuncId) (first caps : List C) (ich : Chs) (kr : Nat) (vals : Nat → List C) (N : Nat) (fin : Bool) : Prop :=
 ∀ (l : Nat) (R : Nat → Res) (Rf : Res), (∀ i, i < N → YAt P l (vals i) (R i) (if i + 1 < N ∨ fin = true then some (R (i + 1)) else none) Rf) →
  FCo P f (first ++ [.s (.func (.yield l) #[] #[])] ++ caps) ((kr, .res (R 0)) :: ich) ((.any, [(kr, .res Rf)]) :: if fin = true then [(.any, [(kr, .res (R N))])] else [])
theorem Holds.busy {cx : Cx} {E : Env} {U : Nat → Prop} {a : Act} {w : World} {s : ASt} {l D : Nat} {o oD o' : Obj} (hh : Holds P cx E U a w s) (hc : cx.hid = [(l, o), (D, oD)]) (hlD : l ≠ D) (hl : l < cx.w0.heap.size) :
 Holds P { cx with w0 := cx.w0.putObj l o', hid := [(l, o'), (D, oD)] } E U a (w.putObj l o') s := by
 obtain ⟨q1, q2, q3⟩ := hh.hid (l, o) (by rw [hc]; simp)
 obtain ⟨p1, p2, p3⟩ := hh.hid (D, oD) (by rw [hc]; simp)
 have hne : ∀ (w : World) b, b ≠ l → (w.putObj l o').heap[b]? = w.heap[b]? := fun w b hb => World.putObj_heap_other hb
 have hU : ∀ b, U b → U b ∧ (w.putObj l o').heap[b]? = w.heap[b]? := fun b hb => ⟨hb, hne w b (fun e => q2 (e ▸ hb))⟩
 have hF : ∀ k c, (k, c) ∈ s.ch → ∀ b, (E k).fp b → (w.putObj l o').heap[b]? = w.heap[b]? := fun k c hm b hb => hne w b (fun e => q3 k c hm (e ▸ hb))
 have hlw : l < w.heap.size := Nat.lt_of_lt_of_le hl hh.size
 have hdf : ∃ Ds : List Nat, a.defers = Ds.map ip ∧ Ds.Nodup ∧ ∀ D ∈ Ds, (cx.w0.putObj l o').heap.size ≤ D ∧ jA E U (w.putObj l o').heap s.ch D (.deferred (some [])) := by
  obtain ⟨Ds, d1, d2, d3⟩ := hh.df
  refine ⟨Ds, d1, d2, fun D hD => ?_⟩
  obtain ⟨e1, e2, e3, e4⟩ := d3 D hD
  exact ⟨by simpa using e1, (hne w D (by omega)).trans e2, e3, e4⟩
 refine ⟨hh.sz, hdf, fun i => (hh.tok i).same hU, ⟨hh.inv.nd, fun k c hm => (hh.inv.ok k c hm).same hU (hF k c hm), hh.inv.sep, hh.inv.out, fun k c hm b hb => by rw [World.putObj_size]; exact hh.inv.fpl k c hm b hb, fun b hb => by rw [World.putObj_size]; exact hh.inv.lt b hb⟩,
  hh.os, hh.tape, hh.output, by simpa using hh.size, fun b hb hx => ?_, fun b hb => ⟨(hh.keepA b hb).1, ?_⟩, fun k c hm b hb => by simpa using hh.live k c hm b hb, fun b hb => by simpa using hh.base b hb, hh.fix, fun p hp => ?_, hh.gok.mono hU⟩
 · by_cases hb' : b = l
   · subst hb'
     rw [World.putObj_heap_same hlw, World.putObj_heap_same hl]
   · rw [hne w b hb', hne cx.w0 b hb']
     exact hh.fr b (by simpa using hb) hx
 · have hbl : b ≠ l := fun e => q2 (e ▸ (hh.keepA b hb).1)
   rw [hne w b hbl, hne cx.w0 b hbl]; exact (hh.keepA b hb).2
 · simp only [List.mem_cons, List.not_mem_nil, or_false] at hp
   rcases hp with rfl | rfl
   · exact ⟨World.putObj_heap_same hlw, q2, q3⟩
   · exact ⟨(hne w D (Ne.symm hlD)).trans p1, p2, p3⟩
def bK (t : dz) : List Nat → List C → dz
 | p :: ps, v :: vs => bK (ar t p v) ps vs
 | _, _ => t
theorem ra {E : Env} {U : Nat → Prop} {h : Array Obj} : ∀ {ps : List Nat} {vs : List C} {aS : List Value} {t : dz} {tmps : Array Value}, vs.length = ps.length → aS.length = ps.length → (∀ p ∈ ps, p < tmps.size) →
 (∀ j, Rep E U h (gt t j) (tmps.getD j undef)) → (∀ (j : Nat) c v, vs[j]? = some c → aS[j]? = some v → Rep E U h c v) →
 ∀ j, Rep E U h (gt (bK t ps vs) j) (((ps.zip aS).foldl (fun tmps (q : Nat × Value) => tmps.setIfInBounds q.1 q.2) tmps).getD j undef)
 | [], vs, aS, t, tmps, _, _, _, h0, _, j => by simp only [bK, List.zip_nil_left, List.foldl_nil]; exact h0 j
 | p :: ps, [], aS, t, tmps, h1, _, _, _, _, j => by simp at h1
 | p :: ps, v :: vs, [], t, tmps, _, h1, _, _, _, j => by simp at h1
 | p :: ps, v :: vs, x :: aS, t, tmps, h1, h2, hp, h0, hv, j => by
  simp only [bK, List.zip_cons_cons, List.foldl_cons]
  refine ra (by simpa using h1) (by simpa using h2) (fun q hq => by simpa using hp q (List.mem_cons_of_mem _ hq)) (fun i => ?_) (fun i c v hc hx => hv (i + 1) c v (by simpa using hc) (by simpa using hx)) j
  rw [je]
  have hpl := hp p List.mem_cons_self
  by_cases hi : p = i
  · subst hi
    rw [if_pos rfl, eF (v := x) (by rw [Array.getElem?_setIfInBounds]; simp [hpl])]
    exact hv 0 v x rfl rfl
  · rw [if_neg hi]
    have : (tmps.setIfInBounds p x).getD i undef = tmps.getD i undef := by simp [Array.getD_eq_getD_getElem?, Array.getElem?_setIfInBounds_ne hi]
    rw [this]; exact h0 i
theorem pU : ∀ (l : List (Nat × Value)) (tmps : Array Value), (l.foldl (fun tmps (q : Nat × Value) => tmps.setIfInBounds q.1 q.2) tmps).size = tmps.size
 | [], _ => rfl
 | (_, _) :: l, tmps => by simp [pU l]
theorem xB {cx : Cx} {Eb Ec E2 : Env} {U F U2 : Nat → Prop} {w w3 : World} {l D : Nat} {ob : Obj} {a2 : Act} {st2 : ASt} {ch0 ch1 : Chs} {bx : List Nat} {tB : dz} {tmps : Array Value} (hh : Holds P cx E2 U2 a2 w3 st2)
 (cw : cx.w0 = w.putObj l ob) (cA : cx.A0 = U) (cX : cx.X = fun b => ∃ k c, (k, c) ∈ ch0 ∧ (Ec k).fp b) (cE : cx.E0 = Eb) (ch : cx.hid = [(l, ob), (D, .deferred (some []))]) (cf : ∀ k ∈ bx, cx.fx k) (hlD : l ≠ D)
 (hFU : ∀ b, F b → ¬ U b) (_hFs : ∀ b, F b → b < w.heap.size) (hX : ∀ k c, (k, c) ∈ ch0 → ∀ b, (Ec k).fp b → F b) (hFl : F l) (hFD : F D) (hsub : ∀ k c, (k, c) ∈ ch1 → (k, c) ∈ st2.ch) (hbx : bP bx ch1) (htB : ∀ j, Rep Eb U w.heap (gt tB j) (tmps.getD j undef)) (rec : Loop) :
 ∃ F', (lm Eb l D rec bx tB tmps ch1).φ F' U2 (w3.putObj l (.loop rec)).heap ∧ Moved U F w U2 F' (w3.putObj l (.loop rec)) := by
 obtain ⟨q1, q2, q3⟩ := hh.hid (l, ob) (by rw [ch]; simp)
 obtain ⟨p1, p2, p3⟩ := hh.hid (D, .deferred (some [])) (by rw [ch]; simp)
 have hl3 := lt_of_getElem? q1
 have hD3 := lt_of_getElem? p1
 have hne : ∀ b, b ≠ l → (w3.putObj l (.loop rec)).heap[b]? = w3.heap[b]? := fun b hb => World.putObj_heap_other hb
 have hne0 : ∀ b, b ≠ l → cx.w0.heap[b]? = w.heap[b]? := fun b hb => by rw [cw]; exact World.putObj_heap_other hb
 have hs0 : cx.w0.heap.size = w.heap.size := by rw [cw]; simp
 have hXF : ∀ b, cx.X b → F b := fun b hb => by rw [cX] at hb; obtain ⟨k, c, h1, h2⟩ := hb; exact hX k c h1 b h2
 have hkeep : ∀ b, U b → U2 b ∧ (w3.putObj l (.loop rec)).heap[b]? = w.heap[b]? := fun b hb => by
  have hbl : b ≠ l := fun e => hFU l hFl (e ▸ hb)
  have h := hh.keepA b (by rw [cA]; exact hb)
  exact ⟨h.1, (hne b hbl).trans (h.2.trans (hne0 b hbl))⟩
 refine ⟨fun b => (∃ k c, (k, c) ∈ ch1 ∧ (E2 k).fp b) ∨ b = l ∨ b = D, ⟨E2, fun k c hm => ?_, fun k c k' c' hm hm' => hh.inv.sep k c k' c' (hsub k c hm) (hsub k' c' hm'), fun k c hm b hb => ⟨.inl ⟨k, c, hm, hb⟩, fun e => q3 k c (hsub k c hm) (e ▸ hb), fun e => p3 k c (hsub k c hm) (e ▸ hb)⟩,
  .inr (.inl rfl), .inr (.inr rfl), fun k hk => ?_, World.putObj_heap_same hl3, (hne D (Ne.symm hlD)).trans p1, fun j => (htB j).same hkeep⟩, ?_⟩
 · exact (hh.inv.ok k c (hsub k c hm)).same (fun b hb => ⟨hb, hne b (fun e => q2 (e ▸ hb))⟩) (fun b hb => hne b (fun e => q3 k c (hsub k c hm) (e ▸ hb)))
 · obtain ⟨cs, hcs⟩ := ll hbx.1 k hk
   rw [← cE]; exact hh.fix k cs (cf k hk) (hsub k _ hcs)
 · refine ⟨hh.os.trans (by rw [cw]; rfl), hh.tape.trans (by rw [cw]; rfl), hh.output.trans (by rw [cw]; rfl), by rw [World.putObj_size, ← hs0]; exact hh.size, hkeep, fun b hb hF => ?_, fun b hb => ?_, fun b hb => ?_, fun b hb hu => ?_, fun b hb => ?_, fun b hb => by rw [World.putObj_size]; exact hh.inv.lt b hb⟩
   · have hbl : b ≠ l := fun e => hF (e ▸ hFl)
     exact (hne b hbl).trans ((hh.fr b (by rw [hs0]; exact hb) (fun hx => hF (hXF b hx))).trans (hne0 b hbl))
   · rcases hb with ⟨k, c, hm, hb⟩ | rfl | rfl
     · rcases hh.live k c (hsub k c hm) b hb with g | g
       · exact .inl (by rw [← hs0]; exact g)
       · exact .inr (hXF b g)
     · exact .inr hFl
     · exact .inr hFD
   · rcases hh.base b hb with g | g | g
     · exact .inl (by rw [← cA]; exact g)
     · exact .inr (.inl (by rw [← hs0]; exact g))
     · exact .inr (.inr (hXF b g))
   · rcases hb with ⟨k, c, hm, hb⟩ | rfl | rfl
     · exact hh.inv.out k c (hsub k c hm) b hb hu
     · exact q2 hu
     · exact p2 hu
   · rw [World.putObj_size]
     rcases hb with ⟨k, c, hm, hb⟩ | rfl | rfl
     · exact hh.inv.fpl k c (hsub k c hm) b hb
     · exact hl3
     · exact hD3
theorem yc {n hi : Nat} (hn : n ≤ 100000) {Eb : Env} {l D : Nat} {fn : FuncId} {tmps : Array Value} {ps : Array Tmp} {x y : Code} {assign body : AC} {bx : List Nat} {tB : dz} {vs : List C} {ch0 : Chs} {Rt : Option Res} {J : Code → Chs → Prop} {N' : ASt → Prop} {rec : LoopState → Option Code → Loop}
 (hrec : rec = fun s p => { state := s, pending := p, fn, tmps, params := ps, assign := x, body := y, defers := D }) (hnd : (ch0.map (·.1)).Nodup) (hbx0 : bP bx ch0) (hbig : ∀ k ∈ bx, 100000 ≤ k ∧ k < hi) (hlD : l ≠ D) (hsz : tmps.size = n) (hps : ∀ p ∈ ps.toList, p < n)
 (hvl : vs.length = ps.toList.length) (hvk : ∀ c ∈ vs, dm [] c) (htp : ∀ j, av bx (gt tB j) = true) (hx : dN P n assign x = some assign) (hy : dN P n body y = some body)
 (hrun : ∀ cx', cx'.n = n → cx'.hi = hi → SG P cx' (fun _ => False) [.c assign, .post (fun st1 => ∀ cx'', cx''.n = n → cx''.hi = hi → SG P cx'' (fun _ => False) [.c body, .rnd N' (fun j st' => bP bx st'.ch ∧ J j st'.ch)] st1)] ⟨bK tB ps.toList vs, ch0⟩)
 (hN : ∀ st', N' st' → ∃ ch1, (ch1.map (·.1)).Nodup ∧ bP bx ch1 ∧ (∀ k c, (k, c) ∈ ch1 → (k, c) ∈ st'.ch) ∧ Rt = some (lm Eb l D (rec .ready none) bx tB tmps ch1)) :
 YAt P l vs (lm Eb l D (rec .ready none) bx tB tmps ch0) Rt (wa J Eb l D (fun j => rec .done j) bx tB tmps) := by
 intro E U F w aS hg ha hφ hFU hFs hUl
 obtain ⟨Ec, h1, h2, h3, h4, h5, h6, h7, h8, h9⟩ := hφ
 have hsa : aS.size = ps.size := by rw [ha.1, hvl]; simp
 refine ⟨fn, (ps.zip aS).foldl (fun tmps (t, a) => tmps.setIfInBounds t a) tmps, x, y, ?_, fun ro => ?_⟩
 · have := run_yield (P := P) (args := aS) h7 (by rw [hrec]; exact hsa)
   rw [hrec] at this; exact this
 · have htm : (ps.zip aS).foldl (fun tmps (t, a) => tmps.setIfInBounds t a) tmps = (ps.toList.zip aS.toList).foldl (fun tmps (q : Nat × Value) => tmps.setIfInBounds q.1 q.2) tmps := by
    rw [← Array.foldl_toList, Array.toList_zip]
   rw [htm]
   generalize htm2 : (ps.toList.zip aS.toList).foldl (fun tmps (q : Nat × Value) => tmps.setIfInBounds q.1 q.2) tmps = tm
   have htz : tm.size = n := by rw [← htm2, pU]; exact hsz
   let cx1 : Cx := { n := n, A0 := U, w0 := w, X := fun b => ∃ k c, (k, c) ∈ ch0 ∧ (Ec k).fp b, E0 := Eb, hn := hn, ro := some l, hid := [(l, .loop (rec .ready none)), (D, .deferred (some []))], lo := 100000, hi := hi, hlo := Nat.le_refl _ }
   have hlw := hFs l h4
   have hslots : ∀ j, Rep Ec U w.heap (gt tB j) (tmps.getD j undef) := fun j => (h9 j).fixed (htp j) h6
   have hh1 : Holds P cx1 Ec U { tmps := tm, defers := [] } w ⟨bK tB ps.toList vs, ch0⟩ := by
    refine ⟨htz, ⟨[], rfl, .nil, fun D hD => by simp at hD⟩, fun j => ?_, ⟨hnd, h1, h2, fun k c hm b hb => hFU b (h3 k c hm b hb).1, fun k c hm b hb => hFs b (h3 k c hm b hb).1, hUl⟩, rfl, rfl, rfl, Nat.le_refl _, fun _ _ _ => rfl, fun b hb => ⟨hb, rfl⟩, fun k c hm b hb => .inr ⟨k, c, hm, hb⟩, fun b hb => .inl hb,
     fun k cs hk hm => h6 k (lQ hbx0.2 k cs hm (Cx.fx_ge hk)), fun p hp => ?_, hg⟩
    · rw [← htm2]
      exact ra (E := Ec) hvl (by simpa using hsa) (fun p hp => by rw [hsz]; exact hps p hp) hslots (fun i c v hc hv => by
       have := ha.2 i c hc
       rw [eF (v := v) (by simpa using hv)] at this
       exact this.env (hvk c (List.mem_of_getElem? hc)) (fun k hk => by simp at hk)) j
    · simp only [cx1, List.mem_cons, List.not_mem_nil, or_false] at hp
      rcases hp with rfl | rfl
      · exact ⟨h7, hFU l h4, fun k c hm hb => (h3 k c hm l hb).2.1 rfl⟩
      · exact ⟨h8, hFU D h5, fun k c hm hb => (h3 k c hm D hb).2.2 rfl⟩
   refine roundIn_of_wpIn (F := FW ro) (n := 0) trivial (wpIn_mono (hrun cx1 rfl rfl Ec U _ w hh1 x hx) (fun e a1 w1 he => ?_))
   cases e with
   | normal =>
    obtain ⟨E1, U1, st1, g1, g2⟩ := he
    obtain ⟨q1, _⟩ := g1.hid (l, .loop (rec .ready none)) (by simp [cx1])
    refine ⟨_, run_beginRound q1 (by rw [hrec]), ?_⟩
    have hh2 := g1.busy (o' := .loop { rec .ready none with state := .busy }) rfl hlD hlw
    refine wpIn_mono (g2 _ rfl rfl E1 U1 a1 _ hh2 y hy) (fun e a2 w3 he => ?_)
    have fin : ∀ (jump : Option Code) (E2 : Env) (U2 : Nat → Prop) (st2 : ASt) (ch1 : Chs), Holds P { cx1 with w0 := w.putObj l (.loop { rec .ready none with state := .busy }), hid := [(l, .loop { rec .ready none with state := .busy }), (D, .deferred (some []))] } E2 U2 a2 w3 st2 →
     (∀ k c, (k, c) ∈ ch1 → (k, c) ∈ st2.ch) → bP bx ch1 → (Instr.endRound l jump).run P w3 = .ok (.bool jump.isNone) (w3.putObj l (.loop (rec (if jump.isNone then .ready else .done) jump))) ∧
     ∃ F', (lm Eb l D (rec (if jump.isNone then .ready else .done) jump) bx tB tmps ch1).φ F' U2 (w3.putObj l (.loop (rec (if jump.isNone then .ready else .done) jump))).heap ∧ Moved U F w U2 F' (w3.putObj l (.loop (rec (if jump.isNone then .ready else .done) jump))) := fun jump E2 U2 st2 ch1 hh hsub hbx => by
     obtain ⟨r1, _⟩ := hh.hid (l, .loop { rec .ready none with state := .busy }) (by simp)
     refine ⟨?_, xB hh rfl rfl rfl rfl rfl hbig hlD hFU hFs (fun k c hm b hb => (h3 k c hm b hb).1) h4 h5 hsub hbx h9 _⟩
     have := run_endRound (P := P) jump r1
     rw [hrec] at this ⊢; exact this
    cases e with
    | normal =>
     obtain ⟨E2, U2, st2, s1, s2⟩ := he
     obtain ⟨ch1, c1, c2, c3, c4⟩ := hN st2 s2
     obtain ⟨f1, F', f2, f3⟩ := fin none E2 U2 st2 ch1 s1 c3 c2
     exact ⟨_, _, f1, true, F', U2, rfl, ⟨_, c4, f2⟩, f3⟩
    | ret =>
     obtain ⟨E2, U2, st2, s1, s2, s3⟩ := he
     obtain ⟨f1, F', f2, f3⟩ := fin (some .ret) E2 U2 st2 st2.ch s1 (fun _ _ h => h) s2
     exact ⟨_, _, f1, false, F', U2, rfl, ⟨_, _, s1.inv.nd, s2, s3, f2⟩, f3⟩
    | exit id =>
     obtain ⟨E2, U2, st2, s1, s2, s3⟩ := he
     obtain ⟨f1, F', f2, f3⟩ := fin (some (.exit id)) E2 U2 st2 st2.ch s1 (fun _ _ h => h) s2
     exact ⟨_, _, f1, false, F', U2, rfl, ⟨_, _, s1.inv.nd, s2, s3, f2⟩, f3⟩
    | goto t => exact he.elim
    | panic c => exact he.elim
    | outgrown => exact he.elim
   | ret => obtain ⟨_, _, _, _, hf⟩ := he; exact hf.elim
   | exit id => exact he.elim
   | goto t => exact he.elim
   | panic c => exact he.elim
   | outgrown => exact he.elim
end Go.Am
end
section
namespace Go.Am
open Dat (cells)
variable {P : Program} [Glob P]
theorem Holds.after {cx : Cx} {st : ASt} {E : Env} {U U3 F3 : Nat → Prop} {a : Act} {w w1 w3 : World} {l D : Nat} {rec : Loop} {o : Obj} {bx : List Nat} {ch : Chs} (hh : Holds P cx E U a w st)
 (hD : D = w.heap.size) (hl : l = w.heap.size + 1) (hw1 : w1.os = w.os ∧ w1.tape = w.tape ∧ w1.output = w.output ∧ w1.heap.size = w.heap.size + 2 ∧ ∀ b, b < w.heap.size → w1.heap[b]? = w.heap[b]?)
 (hm : Moved U (fun b => (∃ k c, (k, c) ∈ st.ch ∧ (E k).fp b) ∨ b = l ∨ b = D) w1 U3 F3 w3) (hφ : (lm E l D rec bx (bn bx st.t) a.tmps ch).φ F3 U3 w3.heap) (hnd : (ch.map (·.1)).Nodup) (hbx : bP bx ch) (hb0 : ∀ k ∈ bx, ∃ cs, (k, .box cs) ∈ st.ch) :
 ∃ E', Holds P cx E' U3 { a with defers := ip D :: a.defers } (w3.putObj l o) ⟨bn bx st.t, ch⟩ := by
 obtain ⟨Ec, h1, h2, h3, h4, h5, h6, h7, h8, h9⟩ := hφ
 obtain ⟨v1, v2, v3, v4, v5⟩ := hw1
 have hlD : l ≠ D := by omega
 have hl3 := lt_of_getElem? h7
 have hne : ∀ b, b ≠ l → (w3.putObj l o).heap[b]? = w3.heap[b]? := fun b hb => World.putObj_heap_other hb
 have hUl : ∀ b, U3 b → b ≠ l := fun b hb e => hm.out l h4 (e ▸ hb)
 have hU : ∀ b, U3 b → U3 b ∧ (w3.putObj l o).heap[b]? = w3.heap[b]? := fun b hb => ⟨hb, hne b (hUl b hb)⟩
 have hF1 : ∀ b, ((∃ k c, (k, c) ∈ st.ch ∧ (E k).fp b) ∨ b = l ∨ b = D) → cx.w0.heap.size ≤ b ∨ cx.X b := fun b hb => by
  have := hh.size
  rcases hb with ⟨k, c, g1, g2⟩ | rfl | rfl
  · exact hh.live k c g1 b g2
  · exact .inl (by omega)
  · exact .inl (by omega)
 have hold : ∀ b, b < w.heap.size → (∀ k c, (k, c) ∈ st.ch → ¬ (E k).fp b) → (w3.putObj l o).heap[b]? = w.heap[b]? := fun b hb hn => by
  rw [hne b (by omega), hm.rest b (by omega) (by rintro (⟨k, c, g1, g2⟩ | g | g); exact hn k c g1 g2; omega; omega)]
  exact v5 b hb
 have hkeep : ∀ b, U b → U3 b ∧ (w3.putObj l o).heap[b]? = w.heap[b]? := fun b hb => by
  have hlt := hh.inv.lt b hb
  exact ⟨(hm.keep b hb).1, (hne b (by omega)).trans ((hm.keep b hb).2.trans (v5 b hlt))⟩
 have hidden : ∀ b o', jA E U w.heap st.ch b o' → jA Ec U3 (w3.putObj l o).heap ch b o' := fun b o' ⟨g1, g2, g3⟩ => by
  have hlt := lt_of_getElem? g1
  have hnF : ¬ ((∃ k c, (k, c) ∈ st.ch ∧ (E k).fp b) ∨ b = l ∨ b = D) := by rintro (⟨k, c, q1, q2⟩ | q | q); exact g3 k c q1 q2; omega; omega
  refine ⟨(hold b hlt g3).trans g1, fun hu => ?_, fun k c hk hf => ?_⟩
  · rcases hm.newU b hu with q | q | q
    · exact g2 q
    · omega
    · exact hnF q
  · rcases hm.live b (h3 k c hk b hf).1 with q | q
    · omega
    · exact hnF q
 have hfp : ∀ k c, (k, c) ∈ ch → ∀ b, (Ec k).fp b → F3 b ∧ b ≠ l := fun k c hk b hb => ⟨(h3 k c hk b hb).1, (h3 k c hk b hb).2.1⟩
 refine ⟨Ec, hh.sz, ?_, fun i => ?_, ⟨hnd, fun k c hk => (h1 k c hk).same hU (fun b hb => hne b (hfp k c hk b hb).2), h2, fun k c hk b hb => hm.out b (hfp k c hk b hb).1, fun k c hk b hb => by rw [World.putObj_size]; exact hm.fpl b (hfp k c hk b hb).1, fun b hb => by rw [World.putObj_size]; exact hm.lt b hb⟩,
  hm.os.trans (v1.trans hh.os), hm.tape.trans (v2.trans hh.tape), hm.output.trans (v3.trans hh.output), ?_, fun b hb hx => ?_, fun b hb => ?_, fun k c hk b hb => ?_, fun b hb => ?_, fun k cs hk hm' => ?_, fun p hp => hidden _ _ (hh.hid p hp), hh.gok.mono hkeep⟩
 · obtain ⟨Ds, d1, d2, d3⟩ := hh.df
   refine ⟨D :: Ds, by rw [List.map_cons, ← d1], List.nodup_cons.2 ⟨fun hm' => ?_, d2⟩, fun D' hD' => ?_⟩
   · have := lt_of_getElem? (d3 D hm').2.1
     omega
   · rcases List.mem_cons.1 hD' with e | e
     · subst e
       refine ⟨by have := hh.size; omega, (hne D' (Ne.symm hlD)).trans h8, hm.out D' h5, fun k c hk hf => (h3 k c hk D' hf).2.2 rfl⟩
     · exact ⟨(d3 D' e).1, hidden _ _ (d3 D' e).2⟩
 · have := h9 i
   rcases oa bx st.t i with e | ⟨e, ep⟩
   · show Rep _ _ _ (gt (bn bx st.t) i) _
     rw [e]; exact .d (.any _)
   · exact (this.fixed (by rw [e]; exact ep) h6).same hU
 · rw [World.putObj_size]; have := hm.size; have := hh.size; omega
 · have hlt := hh.size
   rw [hold b (by omega) (fun k c hk hf => by
    rcases hh.live k c hk b hf with q | q
    · omega
    · exact hx q)]
   exact hh.fr b hb hx
 · have := hkeep b (hh.keepA b hb).1
   exact ⟨this.1, this.2.trans (hh.keepA b hb).2⟩
 · rcases hm.live b (hfp k c hk b hb).1 with q | q
   · have := hh.size; exact .inl (by omega)
   · exact hF1 b q
 · rcases hm.newU b hb with q | q | q
   · exact hh.base b q
   · have := hh.size; exact .inr (.inl (by omega))
   · exact .inr (hF1 b q)
 · have hkb := lQ hbx.2 k cs hm' (Cx.fx_ge hk)
   obtain ⟨cs0, hc0⟩ := hb0 k hkb
   exact (h6 k hkb).trans (hh.fix k cs0 hk hc0)
theorem j5 {cx : Cx} {Q : ASt → Prop} {k : List It} {st : ASt} {g : Operand} {ps : List Nat} {assign body : AC} {f : FuncId} {first caps : List C} {ich : Chs} {kr : Nat} {vals : Nat → List C} {N : Nat} {fin : Bool} (bx : List Nat) (sh : Nat → Chs)
 (hro : cx.ro = none) (hg : bj (aw P st.t g) = some (f, first, caps)) (hit : ItC P f first caps ich kr vals N fin) (hich : an (kr :: ae ich) ∧ bq ich st.ch) (hkc : (∀ c ∈ first ++ caps, dm (ae ich) c) ∧ ∀ k c, (k, c) ∈ ich → iR (ae ich) c)
 (hsh0 : bq (sh 0) st.ch ∧ bL (ae (sh 0)) (ae ich)) (hshn : ∀ i, i ≤ N → an (ae (sh i)) ∧ bP bx (sh i)) (hbig : ∀ k ∈ bx, 100000 ≤ k ∧ k < cx.hi + 100000)
 (hvl : ∀ i, i < N → (vals i).length = ps.length ∧ ∀ c ∈ vals i, dm [] c)
 (hround : ∀ i, i < N → ∀ cx', cx'.n = cx.n → cx'.hi = cx.hi + 100000 → SG P cx' (fun _ => False) [.c assign, .post (fun st1 => ∀ cx'', cx''.n = cx.n → cx''.hi = cx.hi + 100000 →
  SG P cx'' (fun _ => False) [.c body, .rnd (fun st' => (i + 1 < N ∨ fin = true) ∧ bq (sh (i + 1)) st'.ch) (fun j st' => bP bx st'.ch ∧ bW P cx Q k (bn bx st.t) j st'.ch)] st1)] ⟨bK (bn bx st.t) ps (vals i), sh i⟩)
 (hend : fin = true → SG P cx Q k ⟨bn bx st.t, sh N⟩) : SG P cx Q (.c (.rangeFunc g ps assign body) :: k) st := fC fun code hc E U a w hh => by
 cases code <;> simp only [dN, reduceCtorEq] at hc
 rename_i g' ps' x y
 split at hc
 · rename_i hps
   simp only [Option.bind_eq_some_iff, Option.map_eq_some_iff] at hc
   obtain ⟨a', c1, b', c2, c3⟩ := hc
   cases c3
   have hbs : ∀ i, i ≤ N → ∀ k ∈ bx, ∃ cs, (k, .box cs) ∈ sh i := fun i hi => ll (hshn i hi).2.1
   obtain ⟨fv, cv, hev, hl1, hr1, hl2, hr2⟩ := tR hg (hh.ev g)
   refine wpIn_rangeFunc (fun fn _ => ?_)
   have hround0 : (FW cx.ro).round = none := by rw [hro]; rfl
   rw [hround0]
   obtain ⟨rec, hrec⟩ : ∃ rec : LoopState → Option Code → Loop, rec = fun s p => { state := s, pending := p, fn, tmps := a.tmps, params := ps', assign := x, body := y, defers := w.heap.size } := ⟨_, rfl⟩
   generalize hW1 : (w.alloc (.deferred (some []))).alloc (.loop (rec .ready none)) = W1
   have hsize1 : W1.heap.size = w.heap.size + 2 := by rw [← hW1]; simp [World.size_alloc]
   have hL1 : W1.heap[w.heap.size + 1]? = some (.loop (rec .ready none)) := by
    rw [← hW1]; have := World.alloc_heap_new (w.alloc (.deferred (some []))) (.loop (rec .ready none)); rwa [World.size_alloc] at this
   have hD1 : W1.heap[w.heap.size]? = some (.deferred (some [])) := by
    rw [← hW1]
    show ((w.heap.push (.deferred (some []))).push (.loop (rec .ready none)))[w.heap.size]? = _
    rw [Array.getElem?_push, if_neg (by simp), Array.getElem?_push, if_pos rfl]
   have hold1 : ∀ b, b < w.heap.size → W1.heap[b]? = w.heap[b]? := fun b hb => by
    rw [← hW1]
    show ((w.heap.push (.deferred (some []))).push (.loop (rec .ready none)))[b]? = _
    rw [Array.getElem?_push, if_neg (by simp; omega), Array.getElem?_push, if_neg (by omega)]
   have hos1 : W1.os = w.os ∧ W1.tape = w.tape ∧ W1.output = w.output := by rw [← hW1]; exact ⟨rfl, rfl, rfl⟩
   have hkeep1 : ∀ b, U b → U b ∧ W1.heap[b]? = w.heap[b]? := fun b hb => ⟨hb, hold1 b (hh.inv.lt b hb)⟩
   let l := w.heap.size + 1
   let D := w.heap.size
   let J := bW P cx Q k (bn bx st.t)
   let R : Nat → Res := fun i => lm E l D (rec .ready none) bx (bn bx st.t) a.tmps (sh i)
   let Rf : Res := wa J E l D (fun j => rec .done j) bx (bn bx st.t) a.tmps
   have htp : ∀ j, av bx (gt (bn bx st.t) j) = true := fun j => by
    rcases oa bx st.t j with e | ⟨e, ep⟩
    · rw [e]; rfl
    · rw [e]; exact ep
   have hy : ∀ i, i < N → YAt P l (vals i) (R i) (if i + 1 < N ∨ fin = true then some (R (i + 1)) else none) Rf := fun i hi => by
    refine yc (n := cx.n) (hi := cx.hi + 100000) (assign := assign) (body := body) (N' := fun st' => (i + 1 < N ∨ fin = true) ∧ bq (sh (i + 1)) st'.ch) cx.hn hrec (by rw [← dU]; exact eS (hshn i (by omega)).1) (hshn i (by omega)).2 hbig (by show w.heap.size + 1 ≠ w.heap.size; omega) hh.sz
     (fun p hp => by simpa using Array.all_eq_true'.1 hps p (by simpa using hp)) (hvl i hi).1 (hvl i hi).2 htp c1 c2 (hround i hi) (fun st' hst => ?_)
    refine ⟨sh (i + 1), by rw [← dU]; exact eS (hshn (i + 1) (by omega)).1, (hshn (i + 1) (by omega)).2, fun k c hm => du (gH hst.2 (k, c) hm), ?_⟩
    rw [if_pos hst.1]
   have hF := hit l R Rf hy
   let F0 : Nat → Prop := fun b => (∃ k c, (k, c) ∈ sh 0 ∧ (E k).fp b) ∨ b = l ∨ b = D
   let xr : KE := { E kr with fp := F0 }
   let E1 := dB E kr xr
   have hE1 : ∀ k ∈ ae ich, E1 k = E k := fun k hk => dP E xr (fun e => by
    have := (eS hich.1)
    exact (List.nodup_cons.1 this).1 (e ▸ hk))
   have hsub0 : ∀ k c, (k, c) ∈ sh 0 → (k, c) ∈ st.ch := fun k c hm => du (gH hsh0.1 (k, c) hm)
   have hsubI : ∀ k c, (k, c) ∈ ich → (k, c) ∈ st.ch := fun k c hm => du (gH hich.2 (k, c) hm)
   have hkI : ∀ k c, (k, c) ∈ ich → k ∈ ae ich := fun k c hm => by rw [dU]; exact List.mem_map.2 ⟨_, hm, rfl⟩
   have hk0 : ∀ k c, (k, c) ∈ sh 0 → k ∈ ae (sh 0) := fun k c hm => by rw [dU]; exact List.mem_map.2 ⟨_, hm, rfl⟩
   have hargs : mE E1 U W1.heap (first ++ [.s (.func (.yield l) #[] #[])] ++ caps) (fv ++ #[.func (.yield l) #[] #[]] ++ cv) := by
    have up : ∀ c v, Rep E U w.heap c v → c ∈ first ++ caps → Rep E1 U W1.heap c v := fun c v hr hc => ((hr.same hkeep1).env (hkc.1 c hc) hE1)
    refine ⟨by simp only [Array.size_append, List.length_append, hl1, hl2]; rfl, fun j c hj => ?_⟩
    simp only [Array.getD_eq_getD_getElem?]
    rw [List.append_assoc, List.getElem?_append] at hj
    rw [Array.append_assoc, Array.getElem?_append, hl1]
    split at hj
    · rename_i hlt
      rw [if_pos hlt]
      have := up c _ (hr1 j c hj) (List.mem_append.2 (.inl (List.mem_of_getElem? hj)))
      simpa [Array.getD_eq_getD_getElem?] using this
    · rename_i hlt
      rw [if_neg hlt, Array.getElem?_append]
      rw [List.getElem?_append] at hj
      by_cases h2 : j - first.length < 1
      · have h0 : j - first.length = 0 := by omega
        rw [if_pos (by simpa using h2)] at hj
        rw [if_pos (by simpa using h2)]
        simp [h0] at hj ⊢
        subst hj
        exact .d (.s _)
      · rw [if_neg (by simpa using h2)] at hj
        rw [if_neg (by simpa using h2)]
        have := up c _ (hr2 _ c hj) (List.mem_append.2 (.inr (List.mem_of_getElem? hj)))
        simpa [Array.getD_eq_getD_getElem?] using this
   have hF0 : ∀ b, F0 b → (∃ k c, (k, c) ∈ st.ch ∧ (E k).fp b) ∨ b = l ∨ b = D := fun b hb => by
    rcases hb with ⟨k, c, g1, g2⟩ | g
    · exact .inl ⟨k, c, hsub0 k c g1, g2⟩
    · exact .inr g
   have hF0U : ∀ b, F0 b → ¬ U b := fun b hb hu => by
    have hlt := hh.inv.lt b hu
    rcases hF0 b hb with ⟨k, c, g1, g2⟩ | g | g
    · exact hh.inv.out k c g1 b g2 hu
    · have : b = w.heap.size + 1 := g; omega
    · have : b = w.heap.size := g; omega
   have hF0l : ∀ b, F0 b → b < W1.heap.size := fun b hb => by
    rcases hF0 b hb with ⟨k, c, g1, g2⟩ | g | g
    · have := hh.inv.fpl k c g1 b g2; omega
    · have : b = w.heap.size + 1 := g; omega
    · have : b = w.heap.size := g; omega
   have hφ0 : (R 0).φ F0 U W1.heap := by
    refine ⟨E, fun k c hm => (hh.inv.ok k c (hsub0 k c hm)).same hkeep1 (fun b hb => hold1 b (hh.inv.fpl k c (hsub0 k c hm) b hb)), fun k c k' c' hm hm' => hh.inv.sep k c k' c' (hsub0 k c hm) (hsub0 k' c' hm'), fun k c hm b hb => ⟨.inl ⟨k, c, hm, hb⟩, ?_, ?_⟩, .inr (.inl rfl), .inr (.inr rfl), fun k hk => rfl, hL1, hD1, fun j => ?_⟩
    · have := hh.inv.fpl k c (hsub0 k c hm) b hb; show b ≠ w.heap.size + 1; omega
    · have := hh.inv.fpl k c (hsub0 k c hm) b hb; show b ≠ w.heap.size; omega
    · rcases oa bx st.t j with e | ⟨e, ep⟩
      · rw [e]; exact .d (.any _)
      · rw [e]; exact (hh.tok j).same hkeep1
   have hinv1 : Inv E1 U W1.heap ((kr, .res (R 0)) :: ich) := by
    have hnd := eS hich.1
    have hne : ∀ k c, (k, c) ∈ ich → k ≠ kr := fun k c hm e => (List.nodup_cons.1 hnd).1 (e ▸ hkI k c hm)
    have hEk : E1 kr = xr := updE_same E kr xr
    have hfpI : ∀ k c, (k, c) ∈ ich → ∀ b, (E1 k).fp b → (E k).fp b := fun k c hm b hb => by rw [hE1 k (hkI k c hm)] at hb; exact hb
    have hsepI : ∀ k c, (k, c) ∈ ich → ∀ b, (E k).fp b → ¬ F0 b := fun k c hm b hb hf => by
     have hlt := hh.inv.fpl k c (hsubI k c hm) b hb
     rcases hf with ⟨k', c', g1, g2⟩ | g | g
     · have hkk : k ≠ k' := fun e => j3 hsh0.2 k' (hk0 k' c' g1) (e ▸ hkI k c hm)
       exact hh.inv.sep k c k' c' (hsubI k c hm) (hsub0 k' c' g1) hkk b hb g2
     · have : b = w.heap.size + 1 := g; omega
     · have : b = w.heap.size := g; omega
    refine ⟨by rw [dU] at hnd; exact hnd, fun k c hm => ?_, fun k c k' c' hm hm' hne' b hb hb' => ?_, fun k c hm b hb => ?_, fun k c hm b hb => ?_, fun b hb => by have := hh.inv.lt b hb; omega⟩
    · rcases List.mem_cons.1 hm with e | e
      · cases e
        show (R 0).φ (E1 kr).fp U W1.heap
        rw [hEk]; exact hφ0
      · have := (hh.inv.ok k c (hsubI k c e)).same hkeep1 (fun b hb => hold1 b (hh.inv.fpl k c (hsubI k c e) b hb))
        exact this.env (hkI k c e) (hkc.2 k c e) hE1
    · rcases List.mem_cons.1 hm with e | e <;> rcases List.mem_cons.1 hm' with e' | e'
      · cases e; cases e'; exact hne' rfl
      · cases e; rw [hEk] at hb; exact hsepI k' c' e' b (hfpI k' c' e' b hb') hb
      · cases e'; rw [hEk] at hb'; exact hsepI k c e b (hfpI k c e b hb) hb'
      · exact hh.inv.sep k c k' c' (hsubI k c e) (hsubI k' c' e') hne' b (hfpI k c e b hb) (hfpI k' c' e' b hb')
    · rcases List.mem_cons.1 hm with e | e
      · cases e; rw [hEk] at hb; exact hF0U b hb
      · exact hh.inv.out k c (hsubI k c e) b (hfpI k c e b hb)
    · rcases List.mem_cons.1 hm with e | e
      · cases e; rw [hEk] at hb; exact hF0l b hb
      · have := hh.inv.fpl k c (hsubI k c e) b (hfpI k c e b hb); omega
   have hcall := hF.2 E1 U _ W1 (hh.gok.mono hkeep1) hargs hinv1
   refine ⟨w.heap.size + 1, [{ target := .collected w.heap.size, args := #[] }], W1, { target := .fn (.func f) cv, args := fv ++ #[.func (.yield (w.heap.size + 1)) #[] #[]] }, W1, f, fv ++ #[.func (.yield (w.heap.size + 1)) #[] #[]] ++ cv, W1, ?_, ?_, fun _ _ => trivial, ?_, fun h => by simp [FW, Fence.wide] at h, ?_⟩
   · rw [← hW1, hrec]; exact run_enterLoop_outer _ _ _ _ _
   · simp only [resolve, hev]
     simp [go_sem]
   · simp only [invoke, nw hF.1]
   · refine pX (hcall.mono fun e w3 h => ?_)
     obtain ⟨o, ho, v, E', U', rfl, _, hce⟩ := h
     have hmv : ∀ Rz, o.2 = [(kr, .res Rz)] → Rz.φ (E' kr).fp U' w3.heap ∧ Moved U (fun b => (∃ k c, (k, c) ∈ st.ch ∧ (E k).fp b) ∨ b = l ∨ b = D) W1 U' (E' kr).fp w3 := fun Rz hz => by
      have hkm : (kr, Ch.res Rz) ∈ o.2 := by rw [hz]; simp
      have hfps : ∀ b, (∃ k0 c0, (k0, c0) ∈ (kr, Ch.res (R 0)) :: ich ∧ (E1 k0).fp b) → (∃ k c, (k, c) ∈ st.ch ∧ (E k).fp b) ∨ b = l ∨ b = D := fun b ⟨k0, c0, g1, g2⟩ => by
       rcases List.mem_cons.1 g1 with e | e
       · cases e
         have : (E1 kr).fp = F0 := by show (dB E kr xr kr).fp = F0; rw [updE_same]
         rw [this] at g2
         exact hF0 b g2
       · rw [hE1 k0 (hkI k0 c0 e)] at g2; exact .inl ⟨k0, c0, hsubI k0 c0 e, g2⟩
      refine ⟨hce.inv.ok kr _ hkm, hce.os, hce.tape, hce.output, hce.size, hce.keep, fun b hb hn => hce.rest b hb (fun k0 c0 g1 g2 => hn (hfps b ⟨k0, c0, g1, g2⟩)), fun b hb => ?_, fun b hb => ?_, hce.inv.out kr _ hkm, hce.inv.fpl kr _ hkm, hce.inv.lt⟩
      · rcases hce.live kr _ hkm b hb with q | q
        · exact .inl q
        · exact .inr (hfps b q)
      · rcases hce.newU b hb with q | q | q
        · exact .inl q
        · exact .inr (.inl q)
        · exact .inr (.inr (hfps b q))
     have hb0 : ∀ k ∈ bx, ∃ cs, (k, .box cs) ∈ st.ch := fun k hk => by
      obtain ⟨cs, hcs⟩ := hbs 0 (Nat.zero_le _) k hk
      exact ⟨cs, hsub0 k _ hcs⟩
     have hw1 : W1.os = w.os ∧ W1.tape = w.tape ∧ W1.output = w.output ∧ W1.heap.size = w.heap.size + 2 ∧ ∀ b, b < w.heap.size → W1.heap[b]? = w.heap[b]? := ⟨hos1.1, hos1.2.1, hos1.2.2, hsize1, hold1⟩
     rcases List.mem_cons.1 ho with e | e
     ·
      subst e
      obtain ⟨⟨jump, ch, n1, n2, n3, n4⟩, hm⟩ := hmv Rf rfl
      have hrl : w3.heap[l]? = some (.loop (rec .done (some jump))) := n4.choose_spec.2.2.2.2.2.2.1
      obtain ⟨Ez, hz⟩ := hh.after (o := .loop { rec .done (some jump) with state := .exhausted }) rfl rfl hw1 hm n4 n1 n2 hb0
      refine ⟨some jump, w3.putObj l (.loop { rec .done (some jump) with state := .exhausted }), ?_, ?_⟩
      · have := run_endLoop (P := P) hrl (by rw [hrec]; simp)
        rw [hrec] at this ⊢; exact this
      · show jump.wpIn (FW cx.ro) 0 P (WE P cx Q k) _ _
        cases jump with
        | exit id =>
         refine wpIn_exit ?_
         simp only [J, bW] at n3
         cases hk : aI id k with
         | cont k' => rw [hk] at n3; exact kQ k k' _ _ hk (n3 _ _ _ _ hz)
         | out p => rw [hk] at n3; exact mj k p _ _ hk ⟨_, _, _, hz, n3⟩
         | none => rw [hk] at n3; exact n3.elim
        | ret => exact wpIn_ret (lW k _ _ ⟨_, _, _, hz, n3⟩)
        | _ => exact n3.elim
     · cases hfin : fin with
       | false => rw [hfin] at e; simp at e
       | true =>
        rw [hfin] at e
        simp only [if_true, List.mem_singleton] at e
        subst e
        obtain ⟨hφ, hm⟩ := hmv (R N) rfl
        have hrl : w3.heap[l]? = some (.loop (rec .ready none)) := hφ.choose_spec.2.2.2.2.2.2.1
        obtain ⟨Ez, hz⟩ := hh.after (o := .loop { rec .ready none with state := .exhausted }) rfl rfl hw1 hm hφ (by rw [← dU]; exact eS (hshn N (Nat.le_refl _)).1) (hshn N (Nat.le_refl _)).2 hb0
        refine ⟨none, w3.putObj l (.loop { rec .ready none with state := .exhausted }), ?_, ?_⟩
        · have := run_endLoop (P := P) hrl (by rw [hrec]; simp)
          rw [hrec] at this ⊢; exact this
        · exact hend hfin _ _ _ _ hz
 · cases hc
end Go.Am
end
section
namespace Go.Am
open Dat (cells)
variable {P : Program} [Glob P] {cx : Cx} {Q : ASt → Prop} {k : List It} {st : ASt}
def cH (b : Nat) : List Nat → List (Nat × Nat)
 | [] => []
 | k :: ks => (k, b + k) :: cH b ks
def bQ (ks : List Nat) (m : List (Nat × Nat)) : dz → dz
 | [] => []
 | (i, c) :: t => (i, match aJ ks c with | true => ai m c | false => .any) :: bQ ks m t
theorem wn {b : Nat} : ∀ {ks : List Nat} {k : Nat}, k ∈ ks → rn (cH b ks) k = b + k
 | [], k, h => by simp at h
 | j :: ks, k, h => by
  simp only [rn, cH, lk]
  by_cases hj : j = k
  · rw [if_pos hj, hj]; rfl
  · rw [if_neg hj]
    have := wn (b := b) (ks := ks) (k := k) (by rcases List.mem_cons.1 h with e | e; exact absurd e.symm hj; exact e)
    simpa only [rn] using this
theorem sY {ks : List Nat} : ∀ c : C, aJ ks c = true → dm ks c := by
 intro c
 have h : ∀ (n : Nat) (c : C), SizeOf.sizeOf c ≤ n → aJ ks c = true → dm ks c := by
  intro n
  induction n with
  | zero => intro c hc; cases c <;> simp at hc
  | succ n ih =>
   intro c hc hk
   have hl : ∀ cs : List C, SizeOf.sizeOf cs ≤ n → aJ.keysBs ks cs = true → dm.keysIns ks cs := by
    intro cs
    induction cs with
    | nil => intro _ _; trivial
    | cons x xs ihx =>
     intro hx hkx
     simp at hx
     simp only [aJ.keysBs, Bool.and_eq_true] at hkx
     exact ⟨ih x (by omega) hkx.1, ihx (by omega) hkx.2⟩
   cases c with
   | agg cs => simp at hc; exact hl cs (by omega) hk
   | tup cs => simp at hc; exact hl cs (by omega) hk
   | fn f xs ys => simp at hc; simp only [aJ, Bool.and_eq_true] at hk; exact ⟨hl xs (by omega) hk.1, hl ys (by omega) hk.2⟩
   | own k => exact eK.1 hk
   | ptr k off => exact eK.1 hk
   | eptr k i j => exact eK.1 hk
   | inn k i => exact eK.1 hk
   | iptr k i n j => exact eK.1 hk
   | _ => trivial
 exact h _ c (Nat.le_refl _)
theorem vi (ks : List Nat) (m : List (Nat × Nat)) : ∀ (t : dz) (i : Nat), gt (bQ ks m t) i = .any ∨ (gt (bQ ks m t) i = ai m (gt t i) ∧ aJ ks (gt t i) = true)
 | [], i => .inl rfl
 | (j, c) :: t, i => by
  have ih := vi ks m t i
  simp only [gt, bQ, lk] at ih ⊢
  by_cases hj : j = i
  · rw [if_pos hj, if_pos hj]
    cases hp : aJ ks c with
    | true => exact .inr ⟨rfl, hp⟩
    | false => exact .inl rfl
  · rw [if_neg hj, if_neg hj]; exact ih
def de (b : Nat) (s : ASt) : ASt := ⟨bQ (ae s.ch) (cH b (ae s.ch)) s.t, ap (cH b (ae s.ch)) s.ch⟩
theorem eP.sh (b : Nat) (hb : cx.hi ≤ b) (hk : aY (ae st.ch) st.ch = true) : eP P cx st (de b st) := fun E U a w hh => by
 obtain ⟨ks, hks⟩ : ∃ ks, ae st.ch = ks := ⟨_, rfl⟩
 obtain ⟨m, hm⟩ : ∃ m, cH b ks = m := ⟨_, rfl⟩
 have hrn : ∀ k ∈ ks, rn m k = b + k := fun k hk => by rw [← hm]; exact wn hk
 have hin : ∀ k c, (k, c) ∈ st.ch → k ∈ ks := fun k c h => by rw [← hks, dU]; exact List.mem_map.2 ⟨_, h, rfl⟩
 let E' : Env := fun j => match ks.find? (fun k => rn m k == j) with | some k => E k | none => E j
 have hE : ∀ k ∈ ks, E' (rn m k) = E k := fun k hk => by
  simp only [E']
  cases hfnd : ks.find? (fun k' => rn m k' == rn m k) with
  | none =>
   have := List.find?_eq_none.1 hfnd k hk
   simp at this
  | some k' =>
   have h1 := List.find?_some hfnd
   have h2 := List.mem_of_find?_eq_some hfnd
   have h3 : rn m k' = rn m k := by simpa using h1
   rw [hrn k' h2, hrn k hk] at h3
   have : k' = k := by omega
   rw [this]
 have hch : ∀ k c, (k, c) ∈ ap m st.ch → ∃ k0 c0, (k0, c0) ∈ st.ch ∧ k = rn m k0 ∧ c = aH m c0 ∧ E' k = E k0 := fun k c h => by
  obtain ⟨k0, c0, h0, rfl, rfl⟩ := fd h
  exact ⟨k0, c0, h0, rfl, rfl, hE k0 (hin k0 c0 h0)⟩
 have hkc : ∀ k c, (k, c) ∈ st.ch → iR ks c := fun k c h => by
  cases c with
  | box cs => exact jr fun c hc => sY c (by rw [← hks]; exact j4 hk k cs h c hc)
  | _ => trivial
 have hid : ∀ D o, jA E U w.heap st.ch D o → jA E' U w.heap (ap m st.ch) D o := fun D o ⟨h1, h2, h3⟩ => ⟨h1, h2, fun k c h hf => by
  obtain ⟨k0, c0, h0, _, _, e⟩ := hch k c h
  rw [e] at hf
  exact h3 k0 c0 h0 hf⟩
 have e1 : de b st = ⟨bQ ks m st.t, ap m st.ch⟩ := by simp only [de, hks, hm]
 rw [e1]
 refine ⟨E', U, hh.sz, ?_, fun i => ?_, ⟨?_, fun k c h => ?_, fun k c k' c' h h' hne x hx hx' => ?_, fun k c h x hx => ?_, fun k c h x hx => ?_, hh.inv.lt⟩, hh.os, hh.tape, hh.output, hh.size, hh.fr, hh.keepA, fun k c h x hx => ?_, hh.base, fun k cs hk h => ?_, fun p hp => hid _ _ (hh.hid p hp), hh.gok⟩
 · obtain ⟨Ds, h1, h2, h3⟩ := hh.df
   exact ⟨Ds, h1, h2, fun D hD => ⟨(h3 D hD).1, hid _ _ (h3 D hD).2⟩⟩
 · rcases vi ks m st.t i with e | ⟨e, ek⟩
   · show Rep _ _ _ (gt (bQ ks m st.t) i) _
     rw [e]; exact .d (.any _)
   · show Rep _ _ _ (gt (bQ ks m st.t) i) _
     rw [e]; exact (hh.tok i).ren (sY _ ek) hE
 · have e2 : (ap m st.ch).map (·.1) = ks.map (rn m) := by rw [gB, ← hks, dU, List.map_map, List.map_map]; rfl
   rw [e2]
   refine kY (by rw [← hks, dU]; exact hh.inv.nd) (fun x hx y hy e => ?_)
   rw [hrn x hx, hrn y hy] at e; omega
 · obtain ⟨k0, c0, h0, rfl, rfl, e⟩ := hch k c h
   exact (hh.inv.ok k0 c0 h0).ren (hin k0 c0 h0) (hkc k0 c0 h0) hE
 · obtain ⟨k0, c0, h0, rfl, rfl, e⟩ := hch k c h
   obtain ⟨k1, c1, h1, rfl, rfl, e'⟩ := hch k' c' h'
   rw [e] at hx; rw [e'] at hx'
   exact hh.inv.sep k0 c0 k1 c1 h0 h1 (fun e => hne (by rw [e])) x hx hx'
 · obtain ⟨k0, c0, h0, rfl, rfl, e⟩ := hch k c h
   rw [e] at hx; exact hh.inv.out k0 c0 h0 x hx
 · obtain ⟨k0, c0, h0, rfl, rfl, e⟩ := hch k c h
   rw [e] at hx; exact hh.inv.fpl k0 c0 h0 x hx
 · obtain ⟨k0, c0, h0, rfl, rfl, e⟩ := hch k c h
   rw [e] at hx; exact hh.live k0 c0 h0 x hx
 · obtain ⟨k0, c0, h0, rfl, _, _⟩ := hch k _ h
   have h2 := hk.2
   rw [hrn k0 (hin k0 c0 h0)] at h2
   omega
theorem S_sh (b : Nat) (hb : cx.hi ≤ b) (hk : aY (ae st.ch) st.ch = true) (h : SG P cx Q k (de b st)) : SG P cx Q k st := kN (eP.sh b hb hk) h
end Go.Am
end
section
namespace Go.Am
open Dat (cells)
variable {P : Program} [Glob P] {cx : Cx} {Q : ASt → Prop} {k : List It} {st : ASt}
def bN : C → C
 | .isl n _ es => .sl n es
 | c => c
theorem ua (c : C) : aE (bN c) = true := by cases c <;> rfl
theorem uy {m : List (Nat × Sb)} (hm : jm m) {c : C} (h : aE c = true) : aE (aj m c) = true := by
 cases c with
 | own k =>
  simp only [aj]
  cases hl : m.lookup k with
  | none => rfl
  | some s =>
   cases s with
   | c x => exact hm k x hl
   | inner => rfl
 | ptr k o => simp only [aj]; cases hl : m.lookup k with | none => rfl | some s => cases s <;> rfl
 | eptr k i j => simp only [aj]; cases hl : m.lookup k with | none => rfl | some s => cases s <;> rfl
 | inn k i => simp only [aj]; split <;> rfl
 | iptr k i n j => simp only [aj]; split <;> rfl
 | isl n t es => cases h
 | _ => rfl
def di (kk : Nat) (cs : List C) (s : ASt) : ASt := ⟨bB [(kk, .inner)] s.t, (kk, .box ((cs.map bN).map (aj [(kk, .inner)]))) :: ag [(kk, .inner)] (af s.ch kk)⟩
theorem eP.fzb (kk : Nat) {cs : List C} (hl : lk st.ch kk = some (.box cs)) : eP P cx st (di kk cs st) := fun E U a w hh => by
 have hkm := du hl
 have hi := hh.inv
 obtain ⟨⟨hnil, arr, ty, b1, b2, b3⟩, hf, hin⟩ := hi.ok kk _ hkm
 let x : KE := { E kk with fp := fun b => (E kk).nil = false ∧ (E kk).blk = b }
 let U' : Nat → Prop := fun b => U b ∨ ∃ i q, ff cs i = some q ∧ ((E kk).inn i).nil = false ∧ ((E kk).inn i).blk = b
 have hinfp : ∀ b, (∃ i q, ff cs i = some q ∧ ((E kk).inn i).nil = false ∧ ((E kk).inn i).blk = b) → (E kk).fp b := fun b h => (hf.fp b).2 (.inr h)
 have hkeep : ∀ b, U b → U' b ∧ w.heap[b]? = w.heap[b]? := fun b hb => ⟨.inl hb, rfl⟩
 have henv : ∀ k', [(kk, Sb.inner)].lookup k' = none → dB E kk x k' = E k' := fun k' h => by
  rw [fS] at h
  split at h
  · cases h
  · exact dP E x (by assumption)
 have henvI : ∀ k', [(kk, Sb.inner)].lookup k' = some .inner → (dB E kk x k').toKE0 = (E k').toKE0 := fun k' h => by
  rw [fS] at h
  split at h
  · have e : k' = kk := by assumption
    subst e; rw [updE_same]
  · cases h
 have hsub : ∀ k' c', [(kk, Sb.inner)].lookup k' = some (.c c') → ∀ v, Rep E U w.heap (.own k') v → Rep (dB E kk x) U' w.heap c' v := fun k' c' h => by
  rw [fS] at h; split at h <;> cases h
 have hno : jm [(kk, Sb.inner)] := fun k' x' h => by rw [fS] at h; split at h <;> cases h
 have hrep : ∀ c v, Rep E U w.heap c v → Rep (dB E kk x) U' w.heap (aj [(kk, .inner)] c) v := fun c v hr => hr.mono hkeep henv henvI hsub
 have hd : ∀ c, (kk, c) ∉ af st.ch kk := fun c => dL hi.nd
 have hmem : ∀ k' c, (k', c) ∈ af st.ch kk → (k', c) ∈ st.ch ∧ k' ≠ kk := fun k' c h => ⟨eY h, fun e => hd c (e ▸ h)⟩
 have hbI : ff ((cs.map bN).map (aj [(kk, .inner)])) = noI := lw fun j c hj => by
  simp only [List.getElem?_map, Option.map_eq_some_iff] at hj
  obtain ⟨c1, ⟨c0, _, rfl⟩, rfl⟩ := hj
  exact uy hno (ua c0)
 have hok : dy (dB E kk x) U' w.heap kk (.box ((cs.map bN).map (aj [(kk, .inner)]))) := by
  simp only [dy, updE_same, hbI]
  refine ⟨⟨hnil, arr, ty, b1, by simpa using b2, fun j c hj => .inl ?_⟩, ⟨fun b => ⟨fun h => .inl h, fun h => by rcases h with h | ⟨i, q, h, _⟩; exact h; cases h⟩, fun i q h => (by cases h), fun i j q q' _ h => (by cases h)⟩, fun i n t es h => by cases h⟩
  simp only [List.getElem?_map, Option.map_eq_some_iff] at hj
  obtain ⟨c1, ⟨c0, h0, rfl⟩, rfl⟩ := hj
  rcases b3 j c0 h0 with ⟨r1, r2⟩ | ⟨⟨n, t, es, rfl⟩, r2⟩
  · have hni := mY r1
    have : bN c0 = c0 := by cases c0 <;> first | rfl | cases hni
    rw [this]
    exact ⟨hrep _ _ r1, r2⟩
  · have hI : ff cs j = some (n, t, es) := by simp only [ff, h0, lB]
    refine ⟨?_, by rw [r2]; exact gL _⟩
    rw [r2]
    exact .d (mC (hin j n t es hI) hkeep (fun hn => ⟨.inr ⟨j, _, hI, hn, rfl⟩, rfl⟩))
 have he := Ev.gen (w1 := w) (E' := dB E kk x) (U' := U') (news := [(kk, .box ((cs.map bN).map (aj [(kk, .inner)])))]) (old := af st.ch kk) (d := 0) hi rfl rfl rfl (Nat.le_refl _) (eE st.ch kk) hkeep henv henvI hsub (fun k' c h => dP E x (hmem k' c h).2)
  (fun _ _ _ _ _ => rfl) (fun _ _ _ => rfl) (by simp) (fun k' c h => ?_) (fun k' c h => ?_) (fun k' c h b hb => ?_) (fun k' c h b hb => ?_)
  (fun k1 x1 k2 x2 h1 h2 hne => ?_) (fun b hb => ?_) (fun k' c h b hb hu => ?_) (fun b hb => ?_) (fun k' cs' h => ?_)
 · exact ⟨_, _, hh.ghost (by decide) he⟩
 · simp only [List.mem_singleton, Prod.mk.injEq] at h; obtain ⟨rfl, rfl⟩ := h; exact hd
 · simp only [List.mem_singleton, Prod.mk.injEq] at h; obtain ⟨rfl, rfl⟩ := h; exact hok
 · simp only [List.mem_singleton, Prod.mk.injEq] at h; obtain ⟨rfl, rfl⟩ := h; rw [updE_same] at hb; exact .inr ⟨_, _, hkm, hd, (hf.fp b).2 (.inl hb)⟩
 · simp only [List.mem_singleton, Prod.mk.injEq] at h; obtain ⟨rfl, rfl⟩ := h; rw [updE_same] at hb; exact hi.fpl _ _ hkm b ((hf.fp b).2 (.inl hb))
 · simp only [List.mem_singleton, Prod.mk.injEq] at h1 h2; exact absurd (h1.1.trans h2.1.symm) hne
 · rcases hb with hb | hb
   · exact .inl hb
   · exact .inr (.inr ⟨_, _, hkm, hd, hinfp b hb⟩)
 · simp only [List.mem_singleton, Prod.mk.injEq] at h; obtain ⟨rfl, rfl⟩ := h; rw [updE_same] at hb
   rcases hu with hu | ⟨i, q, h1, h2, h3⟩
   · exact hi.out _ _ hkm b ((hf.fp b).2 (.inl hb)) hu
   · exact hf.ne i q h1 h2 hb.1 (h3.trans hb.2.symm)
 · rcases hb with hb | hb
   · exact hi.lt b hb
   · exact hi.fpl _ _ hkm b (hinfp b hb)
 · simp only [List.mem_singleton, Prod.mk.injEq] at h; obtain ⟨rfl, _⟩ := h
   exact .inr ⟨⟨cs, hkm⟩, by rw [updE_same]⟩
theorem nZ (kk : Nat) {cs : List C} (hl : lk st.ch kk = some (.box cs)) (h : SG P cx Q k (di kk cs st)) : SG P cx Q k st := kN (eP.fzb kk hl) h
end Go.Am
end
section
namespace Go.Am
open Dat (cells)
open Ieee
def IsD (d : Datum) (n : Int) : Prop := ∃ (s : Bool) (k : Nat) (e : Nat), d = .number s (k * 2 ^ e) (-(e : Int)) ∧ n = if s then -(k : Int) else (k : Int)
def IsF (x : Nat) (n : Int) : Prop := IsD (FloatKind.f64.format.read x) n
theorem nm {k : Nat} (hk : k ≠ 0) (d : Nat) : (k * 2 ^ d).log2 = k.log2 + d := by
 have h : k * 2 ^ d ≠ 0 := Nat.mul_ne_zero hk (by have := Nat.two_pow_pos d; omega)
 apply Nat.le_antisymm
 · have := (Nat.log2_lt (k := k.log2 + d + 1) h).2 (by
    have h1 := Nat.lt_log2_self (n := k)
    have : 2 ^ (k.log2 + d + 1) = 2 ^ (k.log2 + 1) * 2 ^ d := by rw [← Nat.pow_add]; congr 1; omega
    rw [this]
    exact Nat.mul_lt_mul_of_pos_right h1 (Nat.two_pow_pos d))
   omega
 · rw [Nat.le_log2 h, Nat.pow_add]
   exact Nat.mul_le_mul_right _ (Nat.log2_self_le hk)
theorem qw (way : Toward) (s : Bool) (k d : Nat) : way.cut s (k * 2 ^ d) d = k := by
 by_cases hk : k = 0
 · subst hk
   unfold Toward.cut
   simp only [Nat.zero_mul, Nat.zero_div, Nat.zero_mod]
   cases way <;> simp
 · have hl := nm hk d
   unfold Toward.cut
   have hm : min d ((k * 2 ^ d).log2 + 2) = d := by omega
   have hp := Nat.two_pow_pos d
   simp only [hm, Nat.shiftLeft_eq, Nat.one_mul, Nat.mul_div_cancel _ hp, Nat.mul_mod_left]
   cases way <;> simp
theorem uS (x : Nat) : double.read x = (if x % 9223372036854775808 < 4503599627370496 then .number (x / 9223372036854775808 % 2 == 1) (x % 9223372036854775808) (-1074)
 else if x % 9223372036854775808 < 9218868437227405312 then .number (x / 9223372036854775808 % 2 == 1) (4503599627370496 + x % 9223372036854775808 % 4503599627370496) (-1074 + (x % 9223372036854775808 / 4503599627370496 - 1 : Nat))
 else if x % 9223372036854775808 = 9218868437227405312 then .infinity (x / 9223372036854775808 % 2 == 1) else .nan (x / 9223372036854775808 % 2 == 1) (x % 9223372036854775808 - 9218868437227405312)) := by
 have hlp : Ieee.double.leastPlace = -1074 := by decide
 have hbi : Ieee.double.binade = 4503599627370496 := by decide
 have hin : Ieee.double.infRung = 9218868437227405312 := by decide
 have hsw : Ieee.double.signWeight = 9223372036854775808 := by decide
 unfold Format.read
 rw [hlp, hbi, hin, hsw]
theorem sU (s : Bool) (k e : Nat) (hk : k < 9007199254740992) : IsD (Ieee.double.read (Ieee.double.nearest s (k * 2 ^ e) (-(e : Int)))) (if s then -(k : Int) else (k : Int)) := by
 have hlp : Ieee.double.leastPlace = -1074 := by decide
 have hbi : Ieee.double.binade = 4503599627370496 := by decide
 have hin : Ieee.double.infRung = 9218868437227405312 := by decide
 have hsw : Ieee.double.signWeight = 9223372036854775808 := by decide
 have hfb : Ieee.double.fractionBits = 52 := rfl
 by_cases h0 : k = 0
 · subst h0
   refine ⟨s, 0, 1074, ?_, by simp⟩
   unfold Format.nearest
   rw [uS, Nat.zero_mul, if_pos rfl]
   unfold Format.word
   rw [hsw]
   cases s <;> simp [-Nat.reducePow, -Int.reducePow]
 · have hm0 : k * 2 ^ e ≠ 0 := Nat.mul_ne_zero h0 (by have := Nat.two_pow_pos e; omega)
   have hL : k.log2 ≤ 52 := by
    have := (Nat.log2_lt (k := 53) h0).2 (by simpa using hk)
    omega
   have hlog := nm h0 e
   obtain ⟨f, hf⟩ : ∃ f, k.log2 + f = 52 := ⟨52 - k.log2, by omega⟩
   have hlast : max (-(e : Int) + ((k * 2 ^ e).log2 : Int) - (52 : Nat)) (-1074) = -(f : Int) := by rw [hlog]; push_cast; omega
   have hK1 : 4503599627370496 ≤ k * 2 ^ f := by
    have h1 := Nat.log2_self_le h0
    have h2 := Nat.mul_le_mul_right (2 ^ f) h1
    rw [← Nat.pow_add, hf] at h2
    exact h2
   have hK2 : k * 2 ^ f < 9007199254740992 := by
    have h1 := Nat.lt_log2_self (n := k)
    have h2 := Nat.mul_lt_mul_of_pos_right h1 (Nat.two_pow_pos f)
    rw [← Nat.pow_add, show k.log2 + 1 + f = 53 by omega] at h2
    exact h2
   have hkept : Toward.even.cut s ((k * 2 ^ e) <<< (-(e : Int) - -(f : Int)).toNat) (-(f : Int) - -(e : Int)).toNat = k * 2 ^ f := by
    have e1 : (-(e : Int) - -(f : Int)).toNat = f - e := by omega
    have e2 : (-(f : Int) - -(e : Int)).toNat = e - f := by omega
    rw [e1, e2, Nat.shiftLeft_eq, Nat.mul_assoc, ← Nat.pow_add]
    by_cases hd : e ≤ f
    · rw [show e + (f - e) = f by omega, show e - f = 0 by omega]
      simpa using qw .even s (k * 2 ^ f) 0
    · rw [show e + (f - e) = f + (e - f) by omega, Nat.pow_add, ← Nat.mul_assoc]
      exact qw .even s (k * 2 ^ f) (e - f)
   refine ⟨s, k, f, ?_, rfl⟩
   unfold Format.nearest
   rw [if_neg hm0, hfb, hlp, hlast]
   dsimp only
   rw [hkept, hbi, hin]
   have hf52 : f ≤ 52 := by omega
   generalize k * 2 ^ f = K at hK1 hK2 ⊢
   clear hkept hlast hL hlog hm0 h0 hf hk hlp hbi hin hfb
   have hr : (-(f : Int) - -1074).toNat = 1074 - f := by omega
   rw [hr]
   have hmin : min ((1074 - f) * 4503599627370496 + K) 9218868437227405312 = (1074 - f) * 4503599627370496 + K := by
    apply Nat.min_eq_left
    omega
   rw [hmin]
   rw [uS]
   unfold Format.word
   rw [hsw]
   have hR : (1074 - f) * 4503599627370496 + K < 9223372036854775808 := by omega
   have hs1 : (if s then 9223372036854775808 + ((1074 - f) * 4503599627370496 + K) else (1074 - f) * 4503599627370496 + K) / 9223372036854775808 % 2 = if s then 1 else 0 := by cases s <;> simp <;> omega
   have hs2 : (if s then 9223372036854775808 + ((1074 - f) * 4503599627370496 + K) else (1074 - f) * 4503599627370496 + K) % 9223372036854775808 = (1074 - f) * 4503599627370496 + K := by cases s <;> simp <;> omega
   rw [hs1, hs2, if_neg (by omega), if_pos (by omega)]
   have hq : ((1074 - f) * 4503599627370496 + K) / 4503599627370496 = 1075 - f := by omega
   have hq2 : 4503599627370496 + ((1074 - f) * 4503599627370496 + K) % 4503599627370496 = K := by omega
   rw [hq, hq2]
   have hq3 : (-1074 : Int) + ((1075 - f - 1 : Nat) : Int) = -(f : Int) := by omega
   rw [hq3]
   cases s <;> simp
theorem lD {d : Datum} {n : Int} (h : IsD d n) (hn : -9007199254740992 < n ∧ n < 9007199254740992) : IsF (FloatKind.f64.format.write d) n := by
 obtain ⟨s, k, e, rfl, hk⟩ := h
 have : k < 9007199254740992 := by cases s <;> simp at hk <;> omega
 rw [hk]
 exact sU s k e this
theorem ns {n : Int} (hn : -9007199254740992 < n ∧ n < 9007199254740992) : IsF (FloatKind.f64.nearest n) n := by
 refine lD (d := .number (decide (n < 0)) n.natAbs 0) ⟨decide (n < 0), n.natAbs, 0, by simp, ?_⟩ hn
 by_cases h : n < 0 <;> simp [h] <;> omega
theorem nG (s : Bool) (m u : Nat) : signed s m u = (if s then -(m : Int) else (m : Int)) * 2 ^ u := by
 unfold signed
 cases s <;> simp [Nat.shiftLeft_eq, Int.neg_mul]
theorem u4 {a b : Datum} {n m : Int} (ha : IsD a n) (hb : IsD b m) : ∃ d, a.sum b = some d ∧ IsD d (n + m) := by
 obtain ⟨s, k, e, rfl, hk⟩ := ha
 obtain ⟨t, l, f, rfl, hl⟩ := hb
 simp only [Datum.sum]
 refine ⟨_, rfl, ?_⟩
 obtain ⟨g, hg1, hg2⟩ : ∃ g : Nat, min (-(e : Int)) (-(f : Int)) = -(g : Int) ∧ e ≤ g ∧ f ≤ g := ⟨max e f, by omega, by omega, by omega⟩
 rw [hg1, show (-(e : Int) - -(g : Int)).toNat = g - e by omega, show (-(f : Int) - -(g : Int)).toNat = g - f by omega, nG, nG]
 have hT : (if s = true then -((k * 2 ^ e : Nat) : Int) else ((k * 2 ^ e : Nat) : Int)) * 2 ^ (g - e) + (if t = true then -((l * 2 ^ f : Nat) : Int) else ((l * 2 ^ f : Nat) : Int)) * 2 ^ (g - f) = (n + m) * 2 ^ g := by
  have h1 : (2 : Int) ^ g = 2 ^ e * 2 ^ (g - e) := by rw [← Int.pow_add]; congr 1; omega
  have h2 : (2 : Int) ^ g = 2 ^ f * 2 ^ (g - f) := by rw [← Int.pow_add]; congr 1; omega
  rw [Int.add_mul]
  conv => rhs; lhs; rw [h1]
  conv => rhs; rhs; rw [h2]
  rw [hk, hl]
  cases s <;> cases t <;> simp [Int.neg_mul, Int.mul_assoc]
 rw [hT]
 have hp : (0 : Int) < 2 ^ g := Int.pow_pos (by decide)
 generalize n + m = N
 refine ⟨if N * 2 ^ g = 0 then s && t else decide (N * 2 ^ g < 0), N.natAbs, g, ?_, ?_⟩
 · rw [Int.natAbs_mul, Int.natAbs_pow]; rfl
 · by_cases h0 : N = 0
   · subst h0; simp
   · have h1 : N * 2 ^ g ≠ 0 := Int.mul_ne_zero h0 (by omega)
     rw [if_neg h1]
     by_cases h2 : N < 0
     · have h3 : N * 2 ^ g < 0 := Int.mul_neg_of_neg_of_pos h2 hp
       simp only [h3, decide_true, if_true]; omega
     · have h3 : ¬ N * 2 ^ g < 0 := by have := Int.mul_nonneg (show 0 ≤ N by omega) (show (0 : Int) ≤ 2 ^ g by omega); omega
       simp only [h3, decide_false, Bool.false_eq_true, if_false]; omega
theorem isD_opp {a : Datum} {n : Int} (ha : IsD a n) : IsD a.opposite (-n) := by
 obtain ⟨s, k, e, rfl, hk⟩ := ha
 refine ⟨!s, k, e, rfl, ?_⟩
 rw [hk]; cases s <;> simp
theorem uD {a b : Datum} {n m : Int} (ha : IsD a n) (hb : IsD b m) : ∃ d, a.product b = some d ∧ IsD d (n * m) := by
 obtain ⟨s, k, e, rfl, hk⟩ := ha
 obtain ⟨t, l, f, rfl, hl⟩ := hb
 refine ⟨_, rfl, s ^^ t, k * l, e + f, ?_, ?_⟩
 · congr 1
   · rw [Nat.pow_add]; simp only [Nat.mul_assoc, Nat.mul_left_comm]
   · push_cast; omega
 · rw [hk, hl]; cases s <;> cases t <;> simp [Int.neg_mul, Int.mul_neg]
theorem add_F {a b : Nat} {n m : Int} (ha : IsF a n) (hb : IsF b m) (h : -9007199254740992 < n + m ∧ n + m < 9007199254740992) : ∃ x, FloatKind.f64.format.add a b = some x ∧ IsF x (n + m) := by
 obtain ⟨d, h1, h2⟩ := u4 ha hb
 exact ⟨_, by unfold Format.add; rw [h1]; rfl, lD h2 h⟩
theorem sub_F {a b : Nat} {n m : Int} (ha : IsF a n) (hb : IsF b m) (h : -9007199254740992 < n - m ∧ n - m < 9007199254740992) : ∃ x, FloatKind.f64.format.sub a b = some x ∧ IsF x (n - m) := by
 obtain ⟨d, h1, h2⟩ := u4 ha (isD_opp hb)
 exact ⟨_, by unfold Format.sub; rw [h1]; rfl, lD (by rw [Int.sub_eq_add_neg]; exact h2) h⟩
theorem rB {a b : Nat} {n m : Int} (ha : IsF a n) (hb : IsF b m) (h : -9007199254740992 < n * m ∧ n * m < 9007199254740992) : ∃ x, FloatKind.f64.format.mul a b = some x ∧ IsF x (n * m) := by
 obtain ⟨d, h1, h2⟩ := uD ha hb
 exact ⟨_, by unfold Format.mul; rw [h1]; rfl, lD h2 h⟩
theorem lV {a : Nat} {n : Int} (ha : IsF a n) : (FloatKind.f64.decode a).toInt .zero = some n := by
 obtain ⟨s, k, e, h, hk⟩ := ha
 unfold FloatKind.decode
 rw [h]
 unfold Datum.toInt Datum.integral
 have e1 : (-(e : Int)).toNat = 0 := by omega
 have e2 : (-(-(e : Int))).toNat = e := by omega
 simp only [e1, e2, Nat.shiftLeft_zero, qw, nG, hk]
 cases s <;> simp
end Go.Am
end
section
namespace Go.Am
open Dat (cells)
structure Fz where
 x : Nat
 y : Nat
 deriving DecidableEq, Inhabited
instance : DatL Fz where
 sz := 1
 agg := false
 cells z := [.s (.complex .f64 z.x z.y)]
 dec | [.s (.complex .f64 a b)] => some ⟨a, b⟩ | _ => none
 ok := by intro l a h; split at h <;> cases h; rfl
 data := fun a => rfl
 one := fun _ => by first | rfl | trivial | (intros; rfl)
 dec_cells := fun a => rfl
theorem x3 (z : Fz) : cells z = [.s (.complex .f64 z.x z.y)] := rfl
theorem pD : Dat.sz Fz = 1 := rfl
theorem n5 (xs : List Fz) (n : Nat) : List.getD (xs.map cells) n [C.s (.complex .f64 0 0)] = [.s (.complex .f64 (xs.getD n ⟨0, 0⟩).x (xs.getD n ⟨0, 0⟩).y)] := by
 simp only [List.getD_eq_getElem?_getD, List.getElem?_map]
 cases xs[n]? <;> rfl
def IsC (z : Fz) (g : Gs) : Prop := IsF z.x g.re ∧ IsF z.y g.im
def jq (a b : Fz) : Fz := match aN .mul a.x a.y b.x b.y with | some (x, y) => ⟨x, y⟩ | none => ⟨0, 0⟩
def addW (a b : Fz) : Fz := match aN .add a.x a.y b.x b.y with | some (x, y) => ⟨x, y⟩ | none => ⟨0, 0⟩
def toW (g : Gs) : Fz := ⟨FloatKind.f64.nearest g.re, FloatKind.f64.nearest g.im⟩
theorem tI : IsC ⟨0, 0⟩ ⟨0, 0⟩ := by
 have e : FloatKind.f64.nearest 0 = 0 := by decide
 have : IsF 0 0 := by have := ns (n := 0) (by omega); rwa [e] at this
 exact ⟨this, this⟩
theorem isC_toW {g : Gs} (h : g.re.natAbs ≤ 9007199254740991 ∧ g.im.natAbs ≤ 9007199254740991) : IsC (toW g) g := ⟨ns (by omega), ns (by omega)⟩
theorem mulW_c {a b : Fz} {g h : Gs} (ha : IsC a g) (hb : IsC b h) {A B : Nat} (h1 : g.re.natAbs ≤ A ∧ g.im.natAbs ≤ A) (h2 : h.re.natAbs ≤ B ∧ h.im.natAbs ≤ B) (hAB : 2 * (A * B) ≤ 9007199254740991) :
 aN .mul a.x a.y b.x b.y = some ((jq a b).x, (jq a b).y) ∧ IsC (jq a b) ⟨g.re * h.re - g.im * h.im, g.re * h.im + g.im * h.re⟩ := by
 have mb : ∀ {u v : Int}, u.natAbs ≤ A → v.natAbs ≤ B → (u * v).natAbs ≤ A * B := fun hu hv => by rw [Int.natAbs_mul]; exact Nat.mul_le_mul hu hv
 have m1 := mb h1.1 h2.1
 have m2 := mb h1.2 h2.2
 have m3 := mb h1.1 h2.2
 have m4 := mb h1.2 h2.1
 generalize A * B = N at *
 obtain ⟨p, p1, p2⟩ := rB ha.1 hb.1 (by omega)
 obtain ⟨q, q1, q2⟩ := rB ha.2 hb.2 (by omega)
 obtain ⟨r, r1, r2⟩ := rB ha.1 hb.2 (by omega)
 obtain ⟨s, s1, s2⟩ := rB ha.2 hb.1 (by omega)
 obtain ⟨t, t1, t2⟩ := sub_F p2 q2 (by omega)
 obtain ⟨u, u1, u2⟩ := add_F r2 s2 (by omega)
 have e : aN .mul a.x a.y b.x b.y = some (t, u) := by simp [aN, fN, p1, q1, r1, s1, t1, u1]
 have e2 : jq a b = ⟨t, u⟩ := by unfold jq; rw [e]
 rw [e2]
 exact ⟨e, t2, u2⟩
theorem addW_c {a b : Fz} {g h : Gs} (ha : IsC a g) (hb : IsC b h) {A B : Nat} (h1 : g.re.natAbs ≤ A ∧ g.im.natAbs ≤ A) (h2 : h.re.natAbs ≤ B ∧ h.im.natAbs ≤ B) (hAB : A + B ≤ 9007199254740991) :
 aN .add a.x a.y b.x b.y = some ((addW a b).x, (addW a b).y) ∧ IsC (addW a b) ⟨g.re + h.re, g.im + h.im⟩ := by
 obtain ⟨t, t1, t2⟩ := add_F ha.1 hb.1 (by omega)
 obtain ⟨u, u1, u2⟩ := add_F ha.2 hb.2 (by omega)
 have e : aN .add a.x a.y b.x b.y = some (t, u) := by simp [aN, fN, t1, u1]
 have e2 : addW a b = ⟨t, u⟩ := by unfold addW; rw [e]
 rw [e2]
 exact ⟨e, t2, u2⟩
def ofF (x : Nat) : Int := ((FloatKind.f64.decode x).toInt .zero).getD 0
def ofW (z : Fz) : Gs := ⟨ofF z.x, ofF z.y⟩
theorem ofF_c {x : Nat} {n : Int} (h : IsF x n) : (FloatKind.f64.decode x).toInt .zero = some n ∧ ofF x = n := by
 have := lV h
 exact ⟨this, by unfold ofF; rw [this]; rfl⟩
end Go.Am
end
section
namespace Go.Am
open Dat (cells)
variable {P : Program}
structure ReadsAs (P : Program) (t : TypeId) (α : Type) [DatL α] : Prop where
 sz : P.cellsOf t = Dat.sz α
 pos : 0 < Dat.sz α
 rd : ∀ {H : Type} (en : TypeId × Value → H) (w : World) (sp : Nat → Bool) (fuel : Nat) (cs : List Value) (x : DataW H × List MemPlace), DataW.trod en P w 0 sp true fuel t cs = some x →
  ∃ a : α, (cells a).length = Dat.sz α ∧ cs.length = Dat.sz α ∧ ∀ (j : Nat) (c : C), (cells a)[j]? = some c → RepD (fun b => b < w.heap.size) w.heap c (cs.getD j undef) ∧ (cs.getD j undef).oneCell' = true
theorem ReadsAs.int {t : TypeId} (ht : P.underlying t = some (.int .i64)) (hc : P.cellsOf t = 1) : ReadsAs P t Int := by
 refine ⟨hc, by decide, fun en w sp fuel cs x h => ?_⟩
 obtain ⟨n, rfl, _, _⟩ := DataW.trod_int ht h
 refine ⟨n, rfl, rfl, fun j c hj => ?_⟩
 cases j with
 | zero =>
  simp only [cells, List.getElem?_cons_zero, Option.some.injEq] at hj
  subst hj
  exact ⟨.s _, rfl⟩
 | succ j => simp [cells] at hj
theorem cells?_get {w : World} {a : Addr} {n : Nat} {cs : List Value} (h : w.cells? 0 a n = some cs) : cs.length = n ∧ ∀ j, j < n → w.cell? (a.add j) = cs[j]? := by
 unfold World.cells? at h
 rw [if_pos (Nat.zero_le _)] at h
 exact ⟨by simpa using mapM_some_length h, fun j hj => mapM_some_get h j j (by simp [hj])⟩
theorem oX (a : Addr) (n m : Nat) : ((a.add n).add m).block = a.block ∧ ((a.add n).add m).off = a.off + n + m := by
 unfold Addr.add
 split <;> split <;> simp_all <;> omega
theorem cell?_inv {w : World} {a : Addr} {v : Value} (h : w.cell? a = some v) : a.spot = none ∧ ∃ arr ty fz, w.heap[a.block]? = some (.cells arr ty fz) ∧ arr[a.off]? = some v := by
 unfold World.cell? at h
 split at h
 · rename_i arr ty fz hh
   split at h
   · cases h
   · rename_i hs
     exact ⟨by cases hq : a.spot <;> simp_all, arr, ty, fz, hh, h⟩
 · cases h
theorem ReadsAs.list {t e : TypeId} {α : Type} [DatL α] (he : ReadsAs P e α) (ht : P.underlying t = some (.slice e)) (hc : P.cellsOf t = 1) : ReadsAs P t (List α) := by
 refine ⟨hc, (by show 0 < 1; decide), fun en w sp fuel cs x h => ?_⟩
 rcases DataW.trod_slice ht h with ⟨rfl, _⟩ | ⟨a, len, cap, elems, rest, n, _, rfl, _, _, hl, hm, hlen, hel, _, _⟩
 · refine ⟨[], rfl, rfl, fun j c hj => ?_⟩
   cases j with
   | zero =>
    simp only [cells, List.getElem?_cons_zero, Option.some.injEq] at hj
    subst hj
    exact ⟨.sl0 _ _ _ (by simp [maxLen]), rfl⟩
   | succ j => simp [cells] at hj
 · have hpos := he.pos
   rcases Nat.eq_zero_or_pos len with h0 | h0
   · subst h0
     refine ⟨[], rfl, rfl, fun j c hj => ?_⟩
     cases j with
     | zero =>
      simp only [cells, List.getElem?_cons_zero, Option.some.injEq] at hj
      subst hj
      exact ⟨.sl0 _ _ _ hm, rfl⟩
     | succ j => simp [cells] at hj
   · have hget : ∀ i, i < len → ∃ q : α × List Value, w.cells? 0 (a.add (i * Dat.sz α)) (Dat.sz α) = some q.2 ∧ (cells q.1).length = Dat.sz α ∧ ∀ (j : Nat) (c : C), (cells q.1)[j]? = some c → RepD (fun b => b < w.heap.size) w.heap c (q.2.getD j undef) ∧ (q.2.getD j undef).oneCell' = true := fun i hi => by
      have h1 := hel i hi
      rw [List.getElem?_eq_getElem (by omega), Option.bind_eq_some_iff] at h1
      obtain ⟨ci, h2, h3⟩ := h1
      obtain ⟨q, h4, h5, h6⟩ := he.rd en w sp n ci _ h3
      exact ⟨(q, ci), by rw [← he.sz]; exact h2, h4, h6⟩
     have hex : ∀ i : Nat, ∃ q : α × List Value, i < len → w.cells? 0 (a.add (i * Dat.sz α)) (Dat.sz α) = some q.2 ∧ (cells q.1).length = Dat.sz α ∧ ∀ (j : Nat) (c : C), (cells q.1)[j]? = some c → RepD (fun b => b < w.heap.size) w.heap c (q.2.getD j undef) ∧ (q.2.getD j undef).oneCell' = true := fun i => by
      by_cases hi : i < len
      · obtain ⟨q, hq⟩ := hget i hi; exact ⟨q, fun _ => hq⟩
      · obtain ⟨q, _⟩ := hget 0 h0; exact ⟨q, fun h => absurd h hi⟩
     obtain ⟨f, hf⟩ := Classical.axiomOfChoice hex
     let l : List α := (List.range len).map fun i => (f i).1
     have hll : l.length = len := by simp [l]
     have hli : ∀ (i : Nat) (e : List C), (l.map cells)[i]? = some e → i < len ∧ e = cells (f i).1 := fun i e h => by
      rw [List.getElem?_map, List.getElem?_map, Option.map_map, Option.map_eq_some_iff] at h
      obtain ⟨k, h1, rfl⟩ := h
      have hi := (List.getElem?_eq_some_iff.1 h1).1
      simp only [List.length_range] at hi
      rw [List.getElem?_range hi] at h1
      cases h1
      exact ⟨hi, rfl⟩
     have hcell : ∀ i, i < len → ∀ j, j < Dat.sz α → w.cell? ((a.add (i * Dat.sz α)).add j) = some ((f i).2.getD j undef) := fun i hi j hj => by
      obtain ⟨h1, h2, h3⟩ := hf i hi
      obtain ⟨g1, g2⟩ := cells?_get h1
      rw [g2 j hj, List.getD_eq_getElem?_getD, List.getElem?_eq_getElem (by omega)]; rfl
     obtain ⟨hsp, arr, ty, fz, hh, _⟩ := cell?_inv (hcell 0 h0 0 hpos)
     have hsp' : a.spot = none := by simpa [Addr.add] using hsp
     rw [(oX a _ _).1] at hh
     obtain ⟨b, off, spot⟩ := a
     simp only at hsp'
     subst hsp'
     have hb : b < w.heap.size := by
      rcases Nat.lt_or_ge b w.heap.size with h | h
      · exact h
      · have hh' : w.heap[b]? = some (.cells arr ty fz) := hh
        rw [Array.getElem?_eq_none h] at hh'; cases hh'
     refine ⟨l, rfl, rfl, fun j c hj => ?_⟩
     cases j with
     | succ j => simp [cells] at hj
     | zero =>
      simp only [cells, List.getElem?_cons_zero, Option.some.injEq] at hj
      subst hj
      refine ⟨?_, rfl⟩
      have hmain : RepD (fun b => b < w.heap.size) w.heap (.sl (Dat.sz α) (l.map cells)) (.slice (some ⟨b, off, none⟩) (l.map cells).length cap) := by
       refine .sl (l.map cells) b off cap (Dat.sz α) arr ty fz (fun i j => (f i).2.getD j undef) hb hh (by simpa [hll] using hl) hm (fun i e h => ?_) (fun i e j c h1 h2 => ?_) (fun i e j c h1 h2 => ?_)
       · obtain ⟨g1, rfl⟩ := hli i e h
         exact (hf i g1).2.1
       · obtain ⟨g1, rfl⟩ := hli i e h1
         obtain ⟨q1, q2, q3⟩ := hf i g1
         have hj : j < Dat.sz α := by have := (List.getElem?_eq_some_iff.1 h2).1; omega
         obtain ⟨_, arr2, ty2, fz2, hh2, hg⟩ := cell?_inv (hcell i g1 j hj)
         rw [(oX _ _ _).1] at hh2
         rw [(oX _ _ _).2] at hg
         have hh2' : w.heap[b]? = some (.cells arr2 ty2 fz2) := hh2
         have hh' : w.heap[b]? = some (.cells arr ty fz) := hh
         rw [hh'] at hh2'
         cases hh2'
         exact ⟨hg, (q3 j c h2).2⟩
       · obtain ⟨g1, rfl⟩ := hli i e h1
         exact ((hf i g1).2.2 j c h2).1
      simpa [hll] using hmain
theorem eN {t tf : TypeId} {fs : Array Field} {β : Type} [DatL β] (hf : ReadsAs P tf β) (ht : P.underlying t = some (.struct fs)) {H : Type} {en : TypeId × Value → H} {w : World} {sp : Nat → Bool} {fuel : Nat} {cs : List Value} {x : DataW H × List MemPlace}
 (h : DataW.trod en P w 0 sp true fuel t cs = some x) (i : Nat) {f : Field} (hi : fs[i]? = some f) (hft : f.type = tf) : cs.length = P.cellsOf t ∧ ∃ b : β, (cells b).length = Dat.sz β ∧
  ∀ (j : Nat) (c : C), (cells b)[j]? = some c → RepD (fun b => b < w.heap.size) w.heap c (cs.getD (f.offset + j) undef) ∧ (cs.getD (f.offset + j) undef).oneCell' = true := by
 obtain ⟨xs, n, _, _, hl, hxs, hx⟩ := DataW.trod_struct ht h
 refine ⟨hl, ?_⟩
 have h1 := hx i f hi
 have hi' : i < xs.length := by rw [hxs]; exact (Array.getElem?_eq_some_iff.1 hi).1
 rw [List.getElem?_eq_getElem hi', hft] at h1
 obtain ⟨b, h2, h3, h4⟩ := hf.rd en w sp n _ _ h1
 refine ⟨b, h2, fun j c hj => ?_⟩
 have hj' : j < Dat.sz β := by have := (List.getElem?_eq_some_iff.1 hj).1; omega
 have h5 := h4 j c hj
 have e : ((cs.drop f.offset).take (P.cellsOf tf)).getD j undef = cs.getD (f.offset + j) undef := by
  rw [hf.sz]
  simp only [List.getD_eq_getElem?_getD, List.getElem?_take, List.getElem?_drop, if_pos hj']
 rw [e] at h5
 exact h5
theorem ReadsAs.arg {t e : TypeId} {α : Type} [DatL α] (h : ReadsAs P t (List α)) (ht : P.underlying t = some (.slice e)) {H : Type} {en : TypeId × Value → H} {W : World} {r : Reach} {base : Nat} {sp : Nat → Bool} {v : Value} {d : DataW H} {ps : List MemPlace}
 (hval : Value.okWide P W r base t v) (hd : DataW.Trod en P W 0 sp true t v d ps) : ∃ l : List α, ∀ E, Rep E (fun b => b < W.heap.size) W.heap (enc l) v := by
 obtain ⟨a, len, cap, rfl⟩ := WideShapes.okWide_slice ht hval
 obtain ⟨fuel, hf⟩ := hd
 obtain ⟨l, _, _, h3⟩ := h.rd en W sp fuel _ _ hf
 exact ⟨l, fun E => .d (h3 0 _ rfl).1⟩
theorem ReadsAs.argS {t : TypeId} {fs : Array Field} {α : Type} [DatL α] (h : ReadsAs P t α) (hag : Dat.agg α = true) (ht : P.underlying t = some (.struct fs)) {H : Type} {en : TypeId × Value → H} {W : World} {r : Reach} {base : Nat} {sp : Nat → Bool} {v : Value} {d : DataW H} {ps : List MemPlace}
 (hval : Value.okWide P W r base t v) (hd : DataW.Trod en P W 0 sp true t v d ps) : ∃ a : α, ∀ E, Rep E (fun b => b < W.heap.size) W.heap (enc a) v := by
 obtain ⟨vs, rfl, _⟩ := WideShapes.okWide_struct ht hval
 obtain ⟨fuel, hf⟩ := hd
 obtain ⟨a, h1, h2, h3⟩ := h.rd en W sp fuel _ _ hf
 have hc : (Value.agg vs).cells = vs := by simp [Value.cells]
 rw [hc] at h2 h3
 have e : ∀ j, vs.toList.getD j undef = vs.getD j undef := fun j => by simp [List.getD_eq_getElem?_getD, Array.getD_eq_getD_getElem?]
 refine ⟨a, fun E => ?_⟩
 rw [enc, if_pos hag]
 refine .agg _ vs (by simpa [h1] using h2) (fun j c hj => .d (by have := (h3 j c hj).1; rwa [e] at this)) (fun j hj => ?_)
 have hj' : j < (cells a).length := by rw [h1, ← h2]; simpa using hj
 have := (h3 j _ (List.getElem?_eq_getElem hj')).2
 rwa [e] at this
theorem xD [Glob P] {f : FuncId} {args : List C} (hF : FC P f args [] (enc true) []) {vs : Array Value} {W : World} (hg : gm P (fun b => b < W.heap.size) W.heap) (hs : vs.size = args.length)
 (ha : ∀ (j : Nat) (c : C), args[j]? = some c → ∀ E, Rep E (fun b => b < W.heap.size) W.heap c (vs.getD j undef)) :
 Calls P f vs W fun e w' => e = .returned (.bool true) ∧ RowKit.Below W.heap.size W w' := by
 refine (hF.2 default (fun b => b < W.heap.size) vs W hg ⟨hs, fun j c hj => ha j c hj _⟩ ⟨by simp, fun k c h => by simp at h, fun k c _ _ h => by simp at h, fun k c h => by simp at h, fun k c h => by simp at h, fun b hb => hb⟩).mono ?_
 rintro e w' ⟨v, E', U', rfl, hr, hce⟩
 have : v = .bool true := dx hr
 subst this
 exact ⟨rfl, hce.os, hce.tape, hce.output, hce.size, fun k hk => hce.rest k hk (fun k c h => by simp at h)⟩
theorem yn [Glob P] (hg0 : Glob.gl P = []) {f : FuncId} {args : List C} (hF : FC P f args [] (enc true) []) {vs : Array Value} {W : World} (hs : vs.size = args.length)
 (ha : ∀ (j : Nat) (c : C), args[j]? = some c → ∀ E, Rep E (fun b => b < W.heap.size) W.heap c (vs.getD j undef)) (hi : ∀ U h, Glob.inv P U h := by intros; trivial) :
 Calls P f vs W fun e w' => e = .returned (.bool true) ∧ RowKit.Below W.heap.size W w' :=
 xD hF ⟨fun g cs h => (by rw [hg0] at h; cases h), hi _ _⟩ hs ha
end Go.Am
end
section
namespace Go.Am
open Dat (cells)
def v0 := And.intro @u7 <| And.intro @yy <| And.intro @enc_str <| And.intro @sN <| And.intro @nb <| And.intro @sB <| And.intro @sz_gs <| And.intro @dec_gs <| And.intro @decV_gs <| And.intro @getD_gs <| And.intro @sP <| And.intro @wH <| And.intro @sz_bool <| And.intro @sz_str <| And.intro @sz_list <| And.intro @zy <| And.intro @wX <| And.intro @yz <| And.intro @yE <| And.intro @decV_sl <| And.intro @dec_int <| And.intro @zb <| And.intro @dec_str <| And.intro @zL <| And.intro @yG <| And.intro @xN <| And.intro @g0 <| And.intro @yV <| And.intro @wG <| And.intro @yr <| And.intro @ko <| And.intro @vw <| And.intro @xp <| And.intro @vO <| And.intro @Option.getD_some.{0} <| And.intro @Option.getD_none.{0} <| And.intro @Option.map_some.{0, 0} <| And.intro @Option.map_none.{0, 0} <| And.intro @Option.bind_some.{0, 0} <| @Option.bind_none.{0, 0}
def v1 := And.intro @Option.some.injEq.{0} <| And.intro @true_and <| And.intro @and_true <| And.intro @and_self <| And.intro @Int.lt_irrefl <| And.intro @Nat.lt_irrefl <| And.intro @Nat.zero_add <| And.intro @Nat.add_zero <| And.intro @Bool.false_eq_true <| And.intro @Bool.not_true <| And.intro @Bool.not_false <| And.intro @Bool.true_eq_false <| And.intro @decide_true <| And.intro @decide_false <| And.intro @decide_eq_true_eq <| And.intro @Bool.not_eq_true' <| And.intro @decide_eq_false_iff_not <| And.intro @List.map_cons.{0, 0} <| And.intro @List.map_nil.{0, 0} <| And.intro @List.length_cons.{0} <| And.intro @List.length_nil.{0} <| And.intro @List.length_map.{0, 0} <| And.intro @List.take_succ_cons.{0} <| And.intro @List.take_zero.{0} <| And.intro @List.take_nil.{0} <| And.intro @List.drop_succ_cons.{0} <| And.intro @List.drop_zero.{0} <| And.intro @List.drop_nil.{0} <| And.intro @List.headD_cons.{0} <| And.intro @List.getD_cons_zero.{0} <| And.intro @List.getD_cons_succ.{0} <| And.intro @List.cons_append.{0} <| And.intro @List.nil_append.{0} <| And.intro @List.append_nil.{0} <| And.intro @List.all_cons.{0} <| And.intro @List.all_nil.{0} <| And.intro @Bool.and_true <| And.intro @Bool.true_and <| And.intro @Bool.and_self <| @List.isEmpty_nil.{0}
def v2 := And.intro @List.isEmpty_cons.{0} <| And.intro @List.replicate_succ.{0} <| And.intro @List.replicate_zero.{0} <| And.intro @List.set_cons_zero.{0} <| And.intro @List.set_cons_succ.{0} <| And.intro @List.lookup_nil.{0, 0} <| And.intro @xI <| And.intro @Option.isSome_none.{0} <| And.intro @Option.isSome_some.{0} <| And.intro @Int.toNat_natCast <| And.intro @Int.toNat_zero <| And.intro @and_false <| And.intro @false_and <| And.intro @imp_self <| And.intro @true_implies <| And.intro @false_implies <| And.intro @C.s.injEq <| And.intro @C.sl.injEq <| And.intro @C.tup.injEq <| And.intro @C.agg.injEq <| And.intro @C.own.injEq <| And.intro @Go.Value.int.injEq <| And.intro @Go.Value.bool.injEq <| And.intro @Go.Value.string.injEq <| And.intro @Bool.or_false <| And.intro @Bool.or_self <| And.intro @Bool.false_or <| And.intro @Bool.or_true <| And.intro @Bool.true_or <| And.intro @ER.cont.injEq <| And.intro @List.getElem?_cons_zero.{0} <| And.intro @List.getElem?_cons_succ.{0} <| And.intro @List.getElem?_nil.{0} <| And.intro @List.contains_cons.{0} <| And.intro @List.contains_nil.{0} <| @beq_self_eq_true.{0}
def V := And.intro @v0 <| And.intro @v1 <| @v2
end Go.Am
end
section
namespace Go.Am
open Dat (cells)
variable {P : Program} [Glob P] {cx : Cx} {Q : ASt → Prop} {k : List It} {st : ASt}
theorem gQ {x : AC} (h : SG P cx Q (.c x :: k) st) : SG P cx Q (.c (.cut x) :: k) st := fC fun code hc E U a w hh => by
 simp only [dN, Option.map_eq_some_iff] at hc
 obtain ⟨x', h1, h2⟩ := hc
 cases h2
 exact h E U a w hh code h1
end Go.Am
end
section
namespace Go.Am
open Dat (cells)
variable {P : Program} [Glob P] {cx : Cx} {Q : ASt → Prop} {k : List It} {st : ASt}
def Recs (P : Program) [Glob P] : List AO → ASt → List (AO × ASt × Eff) → ASt → Prop
 | [], s, [], s' => s' = s
 | o :: os, s, r :: R, s' => r = (o, s, r.2.2) ∧ StepE P o s r.2.2 ∧ (o.tot = true ∨ (r.2.2.ch = s.ch ∧ r.2.2.sub = [])) ∧ Recs P os (aA o.dst r.2.2 s) R s'
 | _, _, _, _ => False
theorem qK : ∀ (aos : List AO) (s : ASt) (R : List (AO × ASt × Eff)) (s' : ASt), Recs P aos s R s' → R.length = aos.length ∧
 (∀ (j : Nat) r, R[j]? = some r → aos[j]? = some r.1 ∧ r.2.1 = stS (aos.zip (R.map (·.2.2))) (fun i => decide (i < j)) s ∧ StepE P r.1 r.2.1 r.2.2 ∧ (r.1.tot = true ∨ (r.2.2.ch = r.2.1.ch ∧ r.2.2.sub = []))) ∧
 s' = stS (aos.zip (R.map (·.2.2))) (fun i => decide (i < aos.length)) s
 | [], s, [], s', h => by
  simp only [Recs] at h
  subst h
  exact ⟨rfl, fun j r h => by simp at h, rfl⟩
 | [], s, _ :: _, s', h => by simp [Recs] at h
 | _ :: _, s, [], s', h => by simp [Recs] at h
 | o :: os, s, r :: R, s', h => by
  obtain ⟨h0, h1, h2, h3⟩ := h
  have hp : aA o.dst r.2.2 s = stF (o, r.2.2) s := by
   simp only [aA, stF, chF]
   rcases h2 with h | ⟨h, _⟩
   · rw [if_pos h]
   · by_cases ht : o.tot = true
     · rw [if_pos ht]
     · rw [if_neg ht, h]
  rw [hp] at h3
  obtain ⟨l1, l2, l3⟩ := qK os _ R s' h3
  have shift : ∀ j, stS (os.zip (R.map (·.2.2))) (fun i => decide (i < j)) (stF (o, r.2.2) s) = stS ((o :: os).zip ((r :: R).map (·.2.2))) (fun i => decide (i < j + 1)) s := fun j => by
   simp only [stS, List.map_cons, List.zip_cons_cons, dC, Nat.zero_lt_succ, decide_true, if_true]
   have : ∀ (fs : List (ASt → ASt)) (k : Nat) (a : ASt), dC fs (fun i => decide (i < j)) k a = dC fs (fun i => decide (i < j + 1)) (k + 1) a := by
    intro fs
    induction fs with
    | nil => intro k a; rfl
    | cons f r ih =>
     intro k a
     simp only [dC]
     rw [ih]
     by_cases hk : k < j
     · simp [hk]
     · simp [hk]
   exact this _ 0 _
  refine ⟨by simp [l1], fun j q hj => ?_, ?_⟩
  · cases j with
    | zero =>
     simp only [List.getElem?_cons_zero, Option.some.injEq] at hj
     subst hj
     have e0 : stS ((o :: os).zip ((r :: R).map (·.2.2))) (fun i => decide (i < 0)) s = s := iw _ _ 0 s (fun k f _ hs => by simp at hs)
     rw [e0]
     have g1 : r.1 = o := by rw [h0]
     have g2 : r.2.1 = s := by rw [h0]
     rw [g1, g2]
     exact ⟨rfl, rfl, h1, h2⟩
    | succ j =>
     simp only [List.getElem?_cons_succ] at hj ⊢
     rw [← shift j]
     exact l2 j q hj
  · rw [l3, shift]; rfl
def reC (P : Program) [Glob P] (L : List (Ent P)) (t : dz) (h : Chs) (o : AO) (v : C) : Option Eff → Prop
 | some e2 => o.guard = none ∧ e2.cond ∧ e2.v = v ∧ e2.ch = h ∧ e2.sub = []
 | none => match bl L (aw P t) h (o.dst.getD 0) o.op with
  | .cal (.eff e2) => o.guard = none ∧ e2.cond ∧ e2.v = v ∧ e2.ch = h ∧ e2.sub = []
  | _ => False
def jh : List Operand → List Nat
 | [] => []
 | .tmp t :: l => t :: jh l
 | _ :: l => jh l
theorem oJ {x : Nat} : ∀ {l : List Operand}, x ∈ l.filterMap (fun x => match x with | .tmp t => some t | _ => none) → x ∈ jh l
 | [], h => by simp at h
 | y :: l, h => by
  simp only [List.mem_filterMap, List.mem_cons] at h
  obtain ⟨z, hz, hx⟩ := h
  rcases hz with rfl | hz
  · cases z with
    | tmp t => simp only [Option.some.injEq] at hx; subst hx; exact List.mem_cons_self
    | _ => cases hx
  · have ih := oJ (l := l) (List.mem_filterMap.2 ⟨z, hz, hx⟩)
    cases y with
    | tmp t => exact List.mem_cons_of_mem _ ih
    | _ => exact ih
def fixS (m : List (Nat × Sb)) (t : dz) : List Nat → Prop
 | [] => True
 | x :: l => aj m (gt t x) = gt t x ∧ fixS m t l
theorem sr {m : List (Nat × Sb)} {t : dz} {x : Nat} : ∀ {l : List Nat}, fixS m t l → x ∈ l → aj m (gt t x) = gt t x
 | [], _, h => by cases h
 | y :: l, h, hx => by
  rcases List.mem_cons.1 hx with rfl | hx
  · exact h.1
  · exact sr h.2 hx
def robC (P : Program) [Glob P] (L : List (Ent P)) (e j : Nat) : Option (AO × ASt × Eff) → Option (AO × ASt × Eff) → Prop
 | some (o, s, ef), some (_, se, efe) =>
  aj efe.sub ef.v = ef.v ∧ fixS efe.sub (if j < e then s.t else se.t) (jh o.op.reads) ∧
   reC P L s.t (if j < e then efe.ch else se.ch) o ef.v (ak (aw P s.t) (if j < e then efe.ch else se.ch) (o.dst.getD 0) o.op)
 | _, _ => False
def nc (P : Program) [Glob P] (L : List (Ent P)) (e : Nat) (R : List (AO × ASt × Eff)) : List Nat → Prop
 | [] => True
 | j :: rb => robC P L e j (R[j]?) (R[e]?) ∧ nc P L e R rb
theorem wW {L : List (Ent P)} {t : dz} {h : Chs} {o : AO} {v : C} : ∀ {q : Option Eff}, reC P L t h o v q → o.guard = none
 | some _, hr => hr.1
 | none, hr => by
  simp only [reC] at hr
  split at hr
  · exact hr.1
  · cases hr
theorem zk {L : List (Ent P)} {t : dz} {h : Chs} {o : AO} {v : C} (hr : reC P L t h o v (ak (aw P t) h (o.dst.getD 0) o.op)) : ∃ ef2, StepE P o ⟨t, h⟩ ef2 ∧ ef2.v = v ∧ ef2.ch = h ∧ ef2.sub = [] := by
 cases hq : ak (aw P t) h (o.dst.getD 0) o.op with
 | some e2 =>
  rw [hq] at hr
  obtain ⟨h1, h2, h3, h4, h5⟩ := hr
  exact ⟨e2, .yes e2 (by rw [h1]; rfl) (.f hq h2), h3, h4, h5⟩
 | none =>
  rw [hq] at hr
  simp only [reC] at hr
  split at hr
  · rename_i e2 hm
    obtain ⟨h1, h2, h3, h4, h5⟩ := hr
    have hop : OpR P (aw P t) h (o.dst.getD 0) o.op ⟨True, e2.v, e2.ch, e2.sub⟩ := by
     unfold bl at hm
     split at hm
     · rename_i fo aS ho
       rw [ho]
       cases hm' : bZ L h (o.dst.getD 0) (bj (aw P t fo)) (List.map (aw P t) aS) with
       | eff e =>
        rw [hm'] at hm
        cases hm
        exact kB hm' h2
       | _ => rw [hm'] at hm; cases hm
     · cases hm
    exact ⟨⟨True, e2.v, e2.ch, e2.sub⟩, .yes _ (by rw [h1]; rfl) hop, h3, h4, h5⟩
  · cases hr
theorem tU {L : List (Ent P)} {e : Nat} {R : List (AO × ASt × Eff)} : ∀ {rb : List Nat}, nc P L e R rb → ∀ j ∈ rb, robC P L e j (R[j]?) (R[e]?)
 | [], _, j, hj => by cases hj
 | i :: rb, h, j, hj => by
  rcases List.mem_cons.1 hj with rfl | hj
  · exact h.1
  · exact tU h.2 j hj
theorem S_draw1 {e : Nat} {rb : List Nat} {os : List AO} {L : List (Ent P)} {R : List (AO × ASt × Eff)} {st' : ASt} (he9 : e ≠ 999) (hR : Recs P os st R st') (hrob : nc P L e R rb) (h2 : SG P cx Q k st') : SG P cx Q (.c (.draw e rb os) :: k) st := fC fun code hc E U a w hh => by
 obtain ⟨id, ops, rfl⟩ : ∃ id ops, code = .region id ops true := by
  cases code with
  | region id ops draw =>
   cases draw with
   | false => simp [dN] at hc
   | true => exact ⟨id, ops, rfl⟩
  | _ => simp [dN] at hc
 · simp only [dN, Option.bind_eq_some_iff] at hc
   obtain ⟨r, h3, h4⟩ := hc
   split at h4
   · rename_i hok
     simp only [Option.some.injEq, AC.draw.injEq, true_and] at h4
     subst h4
     obtain ⟨g1, g2⟩ := jt h3
     have g2' : ∀ (j : Nat) o ao, ops[j]? = some o → r[j]? = some ao → gM P cx.n ops o ao := fun j o ao ho ha => g2 j o ao (by simpa using ho) ha
     simp only [Bool.and_eq_true] at hok
     obtain ⟨l1, l2, l3⟩ := qK _ _ _ _ hR
     have hget : ∀ (j : Nat) ao ef, r[j]? = some ao → (R.map (·.2.2))[j]? = some ef → ∃ q, R[j]? = some q ∧ q.1 = ao ∧ q.2.2 = ef := fun j ao ef ha he => by
      rw [List.getElem?_map, Option.map_eq_some_iff] at he
      obtain ⟨q, hq, rfl⟩ := he
      have := (l2 j q hq).1
      rw [ha] at this
      exact ⟨q, hq, by cases this; rfl, rfl⟩
     have hchain : ∀ (j : Nat) ao ef, r[j]? = some ao → (R.map (·.2.2))[j]? = some ef → StepE P ao (stS (r.zip (R.map (·.2.2))) (fun i => decide (i < j)) st) ef ∧ (ao.tot = true ∨ (ef.ch = (stS (r.zip (R.map (·.2.2))) (fun i => decide (i < j)) st).ch ∧ ef.sub = [])) := fun j ao ef ha he => by
      obtain ⟨q, hq, rfl, rfl⟩ := hget j ao ef ha he
      obtain ⟨_, q2, q3, q4⟩ := l2 j q hq
      rw [← q2]
      exact ⟨q3, q4⟩
     have hrb : ∀ j ∈ rb, RobAt P r (R.map (·.2.2)) st e j := fun j hj ao ef aoe efe ha he hae hee => by
      obtain ⟨q, hq, rfl, rfl⟩ := hget j ao ef ha he
      obtain ⟨qe, hqe, rfl, rfl⟩ := hget e aoe efe hae hee
      obtain ⟨_, q2, _, _⟩ := l2 j q hq
      obtain ⟨_, qe2, _, _⟩ := l2 e qe hqe
      have hC := tU hrob j hj
      rw [hq, hqe] at hC
      obtain ⟨o, s, ef⟩ := q
      obtain ⟨oe, se, efe⟩ := qe
      simp only at q2 qe2
      obtain ⟨c1, c2, c3⟩ := hC
      have hmin : ∀ x, gt (if j < e then s.t else se.t) x = gt (stS (r.zip (R.map (·.2.2))) (fun i => decide (i < min j e)) st).t x := fun x => by
       by_cases hje : j < e
       · rw [if_pos hje, Nat.min_eq_left (Nat.le_of_lt hje), q2]
       · rw [if_neg hje, Nat.min_eq_right (by omega), qe2]
      refine ⟨c1, fun x hx => ?_, ?_⟩
      · have hgd := wW c3
        have hx2 : x ∈ jh o.op.reads := by
         simp only [AO.slots, hgd, List.append_nil] at hx
         exact oJ hx
        have := sr c2 hx2
        rw [hmin] at this; exact this
      · rw [← q2, ← qe2]
        exact zk c3
     refine wpIn_region_any hok.2 (zB (by simpa using g1.symm) (by rw [List.length_map, l1]) g2' he9 hok.1 hchain hrb l3 (fun E' U' a' w' h => h2 E' U' a' w' h) ops.size _ E U a _ (by simp) ?_ (fun j o ho hs => ?_) ?_)
     · have : ((List.range ops.size).countP fun i => !((Array.replicate ops.size false).getD i false)) = (List.range ops.size).length := List.countP_eq_length.2 (fun i hi => by
        have := List.mem_range.1 hi
        simp [Array.getD_eq_getD_getElem?, this])
       simpa using this
     · exfalso
       by_cases h : j < ops.size <;> simp [Array.getD_eq_getD_getElem?, h] at hs
     · have e0 : stS (r.zip (R.map (·.2.2))) (fun i => (Array.replicate ops.size false).getD i false) st = st := iw _ _ 0 st (fun k f _ hs => by
        exfalso
        by_cases h : k < ops.size <;> simp [Array.getD_eq_getD_getElem?, h] at hs)
       rw [e0]
       exact ⟨hh.sz, hh.df, hh.tok, hh.inv, hh.os, hh.tape, hh.output, hh.size, hh.fr, hh.keepA, hh.live, hh.base, hh.fix, hh.hid, hh.gok⟩
   · cases h4
def drS (P : Program) [Glob P] (L : List (Ent P)) (cx : Cx) (Q : ASt → Prop) (k : List It) (e : Nat) (rb : List Nat) : Nat → Md → List AO → ASt → List (AO × ASt × Eff) → Prop
 | _ + 1, .run, [], st, R => nc P L e R rb ∧ SG P cx Q k st
 | n + 1, .run, ⟨dst, none, op, tot⟩ :: os, st, R => drS P L cx Q k e rb n (.eff (ak (aw P st.t) st.ch (dst.getD 0) op)) (⟨dst, none, op, tot⟩ :: os) st R
 | n + 1, .eff (some ef), ⟨dst, none, op, tot⟩ :: os, st, R => ef.cond ∧ bM true ⟨dst, none, op, tot⟩ ef st ∧ drS P L cx Q k e rb n .run os (aA dst ef st) (R ++ [(⟨dst, none, op, tot⟩, st, ef)])
 | n + 1, .eff none, ⟨dst, none, op, tot⟩ :: os, st, R => drS P L cx Q k e rb n (bl L (aw P st.t) st.ch (dst.getD 0) op) (⟨dst, none, op, tot⟩ :: os) st R
 | n + 1, .cal (.eff ef), ⟨dst, none, op, tot⟩ :: os, st, R => ef.cond ∧ bM true ⟨dst, none, op, tot⟩ ef st ∧ drS P L cx Q k e rb n .run os (aA dst ef st) (R ++ [(⟨dst, none, op, tot⟩, st, ⟨True, ef.v, ef.ch, ef.sub⟩)])
 | _, _, _, _, _ => False
def okD (P : Program) [Glob P] (L : List (Ent P)) (m : Md) (os : List AO) (st : ASt) : Prop :=
 match m, os with
 | .eff o, ⟨dst, none, op, _⟩ :: _ => o = ak (aw P st.t) st.ch (dst.getD 0) op
 | .cal r, ⟨dst, none, op, _⟩ :: _ => bl L (aw P st.t) st.ch (dst.getD 0) op = .cal r
 | _, _ => True
theorem wf {L : List (Ent P)} {e : Nat} {rb : List Nat} (n : Nat) (m : Md) (os : List AO) (st : ASt) (R : List (AO × ASt × Eff)) (h : drS P L cx Q k e rb n m os st R) (hm : okD P L m os st) :
 ∃ R' st', Recs P os st R' st' ∧ nc P L e (R ++ R') rb ∧ SG P cx Q k st' := by
 induction n generalizing m os st R with
 | zero => unfold drS at h; exact h.elim
 | succ n ih =>
  generalize hN : n + 1 = N at h
  unfold drS at h
  split at h
  all_goals (try cases hN)
  · exact ⟨[], _, rfl, by rw [List.append_nil]; exact h.1, h.2⟩
  · exact ih _ _ _ _ h rfl
  · rename_i ef dst op tot os
    obtain ⟨h1, h2, h3⟩ := h
    obtain ⟨R', st', g1, g2, g3⟩ := ih _ _ _ _ h3 (by unfold okD; trivial)
    refine ⟨(⟨dst, none, op, tot⟩, st, ef) :: R', st', ⟨rfl, .yes ef rfl (.f hm.symm h1), o6 h2 rfl, g1⟩, ?_, g3⟩
    rw [List.append_cons]; exact g2
  · rename_i dst op tot os
    have hmd : ∃ r, bl L (aw P st.t) st.ch (dst.getD 0) op = .cal r := by unfold bl; split <;> exact ⟨_, rfl⟩
    obtain ⟨r, hr⟩ := hmd
    rw [hr] at h
    exact ih _ _ _ _ h hr
  · rename_i ef dst op tot os
    obtain ⟨h1, h2, h3⟩ := h
    have hop : OpR P (aw P st.t) st.ch (dst.getD 0) op ⟨True, ef.v, ef.ch, ef.sub⟩ := by
     simp only [okD] at hm
     unfold bl at hm
     split at hm
     · rename_i fo aS
       cases hm' : bZ L st.ch (dst.getD 0) (bj (aw P st.t fo)) (List.map (aw P st.t) aS) with
       | eff e =>
        rw [hm'] at hm
        cases hm
        exact kB hm' h1
       | _ => rw [hm'] at hm; cases hm
     · cases hm
    obtain ⟨R', st', g1, g2, g3⟩ := ih _ _ _ _ h3 (by unfold okD; trivial)
    refine ⟨(⟨dst, none, op, tot⟩, st, ⟨True, ef.v, ef.ch, ef.sub⟩) :: R', st', ⟨rfl, .yes _ rfl hop, ?_, g1⟩, ?_, g3⟩
    · exact o6 (ef := ⟨True, ef.v, ef.ch, ef.sub⟩) (by unfold bM at h2 ⊢; exact h2) rfl
    · rw [List.append_cons]; exact g2
  · exact h.elim
theorem tw {e : Nat} {rb : List Nat} {os : List AO} (L : List (Ent P)) (n : Nat) (h : drS P L cx Q k e rb n .run os st []) (he9 : (e == 999) = false := by rfl) : SG P cx Q (.c (.draw e rb os) :: k) st := by
 obtain ⟨R', st', g1, g2, g3⟩ := wf n .run os st [] h (by unfold okD; trivial)
 exact S_draw1 (by simpa using he9) g1 g2 g3
end Go.Am
end
section
namespace Go.Am
open Dat (cells)
variable {P : Program} [Glob P]
section core
variable {cx : Cx} {ops : Array Oper} {aos : List AO} {Q : Exit → Act → World → Prop}
theorem vt {T : (Nat → Bool) → ASt} (hops : ops.size = aos.length) (hm : ∀ (j : Nat) o ao, ops[j]? = some o → aos[j]? = some ao → gM P cx.n ops o ao)
 (hlt : ∀ (j : Nat) l, (ops.toList.map dv)[j]? = some l → ∀ p ∈ l, p < j)
 (hgo : ∀ (S : Nat → Bool) (j : Nat) o ao, ops[j]? = some o → aos[j]? = some ao → S j = false → (∀ p ∈ dv o, S p = true) → (∀ (i : Nat) l, (ops.toList.map dv)[i]? = some l → S i = true → ∀ p ∈ l, S p = true) →
  ∃ ef2, StepE P ao (T S) ef2 ∧ LeS (aA ao.dst ef2 (T S)) (T (fun i => i == j || S i)))
 (hend : ∀ S : Nat → Bool, (∀ i, i < ops.size → S i = true) → ∀ E' U' a' w', Holds P cx E' U' a' w' (T S) → Q .normal a' w') :
 ∀ (fuel : Nat) (listed : Array Bool) (E : Env) (U : Nat → Prop) (a : Act) (w : World), listed.size = ops.size → ((List.range ops.size).countP fun i => !(listed.getD i false)) = fuel →
  (∀ (j : Nat) o, ops[j]? = some o → listed.getD j false = true → ∀ p ∈ dv o, listed.getD p false = true) →
  Holds P cx E U a w (T (fun i => listed.getD i false)) → wpAnyIn (FW cx.ro) 0 P .any ops Q fuel listed a w := by
 have atEnd : ∀ (listed : Array Bool) (E : Env) (U : Nat → Prop) (a : Act) (w : World), (∀ i, i < ops.size → listed.getD i false = true) → Holds P cx E U a w (T (fun i => listed.getD i false)) → Q .normal a w := fun listed E U a w hall hh => hend _ hall E U a w hh
 intro fuel
 induction fuel with
 | zero =>
  intro listed E U a w hls hcnt hcl hh
  have hall : ∀ i, i < ops.size → listed.getD i false = true := fun i hi => by
   have := List.countP_eq_zero.1 hcnt i (List.mem_range.2 hi)
   simpa using this
  refine ⟨?_, atEnd listed E U a w hall hh⟩
  apply List.filter_eq_nil_iff.2
  intro i hi hf
  simp only [Bool.and_eq_true] at hf
  have hi' := List.mem_range.1 hi
  have h1 := hall i hi'
  have h2 : listed.getD i true = listed.getD i false := by
   have hlt : i < listed.size := by omega
   simp [Array.getD_eq_getD_getElem?, Array.getElem?_eq_getElem hlt]
  rw [h2, h1] at hf
  simp at hf
 | succ fuel ih =>
  intro listed E U a w hls hcnt hcl hh
  have hsome : ∃ i, i < ops.size ∧ listed.getD i false = false := by
   rcases Classical.em (∃ i, i < ops.size ∧ listed.getD i false = false) with h | h
   · exact h
   · exfalso
     have : ((List.range ops.size).countP fun i => !(listed.getD i false)) = 0 := List.countP_eq_zero.2 (fun i hi => by
      cases hf : listed.getD i false with
      | true => simp
      | false => exact absurd ⟨i, List.mem_range.1 hi, hf⟩ h)
     omega
  have hgd : ∀ i, i < ops.size → listed.getD i true = listed.getD i false := fun i hi => by
   have hlt : i < listed.size := by omega
   simp [Array.getD_eq_getD_getElem?, Array.getElem?_eq_getElem hlt]
  refine ⟨fun hnil => ?_, fun j hj => ?_⟩
  · exfalso
    obtain ⟨i, h1, h2, h3⟩ := kU hsome
    have hnot := List.filter_eq_nil_iff.1 hnil i (List.mem_range.2 h1)
    apply hnot
    obtain ⟨o, ho⟩ : ∃ o, ops[i]? = some o := ⟨_, Array.getElem?_eq_getElem h1⟩
    simp only [Bool.and_eq_true]
    refine ⟨by rw [hgd i h1, h2]; rfl, ?_⟩
    simp only [ho, Option.map_some, Option.getD_some]
    rw [Array.all_eq_true']
    intro e he
    simp only [Bool.or_eq_true]
    by_cases hb : Region.binds .any e = true
    · right
      have hp : e.on ∈ dv o := List.mem_map.2 ⟨e, List.mem_filter.2 ⟨by simpa using he, hb⟩, rfl⟩
      exact h3 _ (hlt i (dv o) (by simp [ho]) _ hp)
    · left; simpa using hb
  · have hj2 := List.mem_filter.1 hj
    have hjm := List.mem_range.1 hj2.1
    have hjr := hj2.2
    simp only [Bool.and_eq_true] at hjr
    obtain ⟨o, ho⟩ : ∃ o, ops[j]? = some o := ⟨_, Array.getElem?_eq_getElem hjm⟩
    obtain ⟨ao, hao⟩ : ∃ ao, aos[j]? = some ao := ⟨_, List.getElem?_eq_getElem (by omega)⟩
    have hSj : listed.getD j false = false := by
     have := hjr.1
     rw [hgd j hjm] at this
     simpa using this
    have hpreds : ∀ p ∈ dv o, listed.getD p false = true := fun p hp => by
     obtain ⟨e, he, rfl⟩ := List.mem_map.1 hp
     obtain ⟨he1, he2⟩ := List.mem_filter.1 he
     have := hjr.2
     simp only [ho, Option.map_some, Option.getD_some] at this
     rw [Array.all_eq_true'] at this
     have := this e (by simpa using he1)
     simpa [he2] using this
    have hclS : ∀ (i : Nat) l, (ops.toList.map dv)[i]? = some l → listed.getD i false = true → ∀ p ∈ l, listed.getD p false = true := fun i l hi hs p hp => by
     simp only [List.getElem?_map, Option.map_eq_some_iff, Array.getElem?_toList] at hi
     obtain ⟨o', ho', rfl⟩ := hi
     exact hcl i o' ho' hs p hp
    obtain ⟨ef2, hst2, hnext⟩ := hgo (fun i => listed.getD i false) j o ao ho hao hSj hpreds hclS
    have hS' : (fun i => (listed.setIfInBounds j true).getD i false) = fun i => i == j || listed.getD i false := by
     funext i
     rw [eZ _ _ _ (by omega)]
    have hstep := qG (Q := Q) (K := wpAnyIn (FW cx.ro) 0 P .any ops Q fuel (listed.setIfInBounds j true)) (hm j o ao ho hao) hst2 hh (fun E' U' a' w' h =>
     ih (listed.setIfInBounds j true) E' U' a' w' (by simpa using hls)
      (by
       have e : (fun i => !((listed.setIfInBounds j true).getD i false)) = fun i => !(i == j || listed.getD i false) := by
        funext i; rw [eZ _ _ _ (by omega)]
       rw [e]
       have := mZ (S := fun i => listed.getD i false) hjm hSj
       omega)
      (fun i o' ho' hs p hp => by
       rw [eZ _ _ _ (by omega)] at hs ⊢
       simp only [Bool.or_eq_true, beq_iff_eq] at hs ⊢
       right
       rcases hs with rfl | hs
       · rw [ho] at ho'; cases ho'; exact hpreds p hp
       · exact hcl i o' ho' hs p hp)
      (by rw [hS']; exact h.le hnext))
    unfold wpOpIn
    rw [ho]
    rcases hstep with ⟨e, h⟩ | ⟨e, h⟩
    · simp only [e, if_true]; exact h
    · simp only [e, Bool.false_eq_true, if_false]; exact ⟨fun _ _ => trivial, h⟩
end core
variable {cx : Cx} {Q : ASt → Prop} {k : List It} {st : ASt}
def Shut (rb : List Nat) (S : Nat → Bool) : Prop := ∀ c ∈ rb, S (c % 100) = true → S (c / 100) = true
theorem S_draws {rb : List Nat} {os : List AO} {T : (Nat → Bool) → ASt} (h0 : LeS st (T fun _ => false))
 (hgo : ∀ (S : Nat → Bool) (j : Nat) ao, os[j]? = some ao → S j = false → (∀ c ∈ rb, c % 100 = j → S (c / 100) = true) → Shut rb S → ∃ ef2, StepE P ao (T S) ef2 ∧ LeS (aA ao.dst ef2 (T S)) (T (fun i => i == j || S i)))
 (hend : ∀ S : Nat → Bool, (∀ i, i < os.length → S i = true) → SG P cx Q k (T S)) : SG P cx Q (.c (.draw 999 rb os) :: k) st := fC fun code hc E U a w hh => by
 obtain ⟨id, ops, rfl⟩ : ∃ id ops, code = .region id ops true := by
  cases code with
  | region id ops draw =>
   cases draw with
   | false => simp [dN] at hc
   | true => exact ⟨id, ops, rfl⟩
  | _ => simp [dN] at hc
 simp only [dN, Option.bind_eq_some_iff] at hc
 obtain ⟨r, h3, h4⟩ := hc
 split at h4
 · rename_i hok
   simp only [Option.some.injEq, AC.draw.injEq, true_and] at h4
   subst h4
   obtain ⟨g1, g2⟩ := jt h3
   have g2' : ∀ (j : Nat) o ao, ops[j]? = some o → r[j]? = some ao → gM P cx.n ops o ao := fun j o ao ho ha => g2 j o ao (by simpa using ho) ha
   simp only [Bool.and_eq_true] at hok
   obtain ⟨hok1, hmix⟩ := hok
   simp only [nP, if_true, Bool.and_eq_true] at hok1
   obtain ⟨ok1, ok2⟩ := hok1
   have hlt : ∀ (j : Nat) l, (ops.toList.map dv)[j]? = some l → ∀ p ∈ l, p < j := fun j l hj p hp => by
    have hz : (l, j) ∈ (ops.toList.map dv).zipIdx := by
     rw [List.mk_mem_zipIdx_iff_getElem?]; exact hj
    have := List.all_eq_true.1 ok1 (l, j) hz
    simpa using List.all_eq_true.1 this p hp
   have hbit : ∀ c ∈ rb, c % 100 < ops.size ∧ ((j8 (ops.toList.map dv) []).getD (c % 100) 0).testBit (c / 100) = true := fun c hc => by
    have := List.all_eq_true.1 ok2 c hc
    simpa using this
   have hcl : ∀ S : Nat → Bool, (∀ (i : Nat) l, (ops.toList.map dv)[i]? = some l → S i = true → ∀ p ∈ l, S p = true) → Shut rb S := fun S hS c hc hs => by
    obtain ⟨b1, b2⟩ := hbit c hc
    obtain ⟨o', ho'⟩ : ∃ o', ops[c % 100]? = some o' := ⟨_, Array.getElem?_eq_getElem b1⟩
    exact ir hS hlt (ops.toList.map dv) [] (by simp) (fun j i h => by simp at h) (c % 100) (c / 100) b2 (dv o') (by simp [ho']) (hS (c % 100) (dv o') (by simp [ho']) hs)
   refine wpIn_region_any hmix (vt (T := T) (by simpa using g1.symm) g2' hlt (fun S j o ao ho hao hSj hpreds hclS => hgo S j ao hao hSj (fun c hc hcj => ?_) (hcl S hclS)) (fun S hS E' U' a' w' h => hend S (fun i hi => hS i (by have := g1; simp at this; omega)) E' U' a' w' h) ops.size _ E U a _ (by simp) ?_ (fun j o ho hs => ?_) ?_)
   · obtain ⟨b1, b2⟩ := hbit c hc
     rw [hcj] at b2
     exact ir hclS hlt (ops.toList.map dv) [] (by simp) (fun j i h => by simp at h) j (c / 100) b2 (dv o) (by simp [ho]) hpreds
   · have : ((List.range ops.size).countP fun i => !((Array.replicate ops.size false).getD i false)) = (List.range ops.size).length := List.countP_eq_length.2 (fun i hi => by
      have := List.mem_range.1 hi
      simp [Array.getD_eq_getD_getElem?, this])
     simpa using this
   · exfalso
     by_cases h : j < ops.size <;> simp [Array.getD_eq_getD_getElem?, h] at hs
   · have e0 : (fun i => (Array.replicate ops.size false).getD i false) = fun _ => false := by
      funext i
      by_cases h : i < ops.size <;> simp [Array.getD_eq_getD_getElem?, h]
     rw [e0]
     have hh := hh.le h0
     exact ⟨hh.sz, hh.df, hh.tok, hh.inv, hh.os, hh.tape, hh.output, hh.size, hh.fr, hh.keepA, hh.live, hh.base, hh.fix, hh.hid, hh.gok⟩
 · cases h4
end Go.Am
namespace Go.Am
open Dat (cells)
variable {P : Program} [Glob P] {cx : Cx} {Q : ASt → Prop} {k : List It} {st : ASt}
def fh (S : Nat → Bool) (t0 : dz) : List (Nat × Nat × C) → dz
 | [] => t0
 | (i, d, v) :: wr => (d, if S i = true then v else .any) :: fh S t0 wr
def pt : List (Nat × Nat × C) → Prop
 | [] => True
 | (_, d, _) :: wr => (∀ w ∈ wr, w.2.1 ≠ d) ∧ pt wr
theorem gg (d : Nat) (c : C) (t : dz) (x : Nat) : gt ((d, c) :: t) x = if d = x then c else gt t x := by
 by_cases h : d = x
 · subst h; rw [if_pos rfl]; simp [gt, lk]
 · rw [if_neg h]; simp [gt, lk, h]
theorem nz {S S' : Nat → Bool} {t0 : dz} {x : Nat} : ∀ {wr : List (Nat × Nat × C)}, (∀ w ∈ wr, w.2.1 = x → S w.1 = S' w.1) → gt (fh S t0 wr) x = gt (fh S' t0 wr) x
 | [], _ => rfl
 | (i, d, v) :: wr, h => by
  simp only [fh, gg]
  rw [nz (wr := wr) fun w hw => h w (List.mem_cons_of_mem _ hw)]
  by_cases hx : d = x
  · rw [if_pos hx, if_pos hx, h (i, d, v) List.mem_cons_self hx]
  · rw [if_neg hx, if_neg hx]
theorem rg {S : Nat → Bool} {t0 : dz} {i d : Nat} {v : C} : ∀ {wr : List (Nat × Nat × C)}, pt wr → (i, d, v) ∈ wr → gt (fh S t0 wr) d = if S i = true then v else .any
 | [], _, h => by cases h
 | (j, e, w) :: wr, hn, h => by
  simp only [fh, gg]
  rcases List.mem_cons.1 h with h | h
  · cases h; rw [if_pos rfl]
  · have : ¬ e = d := fun hh => hn.1 _ h hh.symm
    rw [if_neg this]
    exact rg hn.2 h
theorem qn {S : Nat → Bool} {t0 : dz} {m : List (Nat × Sb)} {x : Nat} (h0 : aj m (gt t0 x) = gt t0 x) : ∀ {wr : List (Nat × Nat × C)}, (∀ w ∈ wr, S w.1 = true → w.2.1 = x → aj m w.2.2 = w.2.2) → aj m (gt (fh S t0 wr) x) = gt (fh S t0 wr) x
 | [], _ => h0
 | (i, d, v) :: wr, h => by
  simp only [fh, gg]
  by_cases hx : d = x
  · rw [if_pos hx]
    split
    · rename_i hs; exact h (i, d, v) List.mem_cons_self hs hx
    · cases m <;> simp [aj]
  · rw [if_neg hx]
    exact qn h0 fun w hw => h w (List.mem_cons_of_mem _ hw)
theorem S_fam {rb : List Nat} {os : List AO} (wr : List (Nat × Nat × C)) (g : (Nat → Bool) → Chs) (hd : pt wr) (h0 : g (fun _ => false) = st.ch) (hn0 : (st.ch.map (·.1)).Nodup)
 (hgo : ∀ (S : Nat → Bool) (j : Nat) ao, os[j]? = some ao → S j = false → (∀ c ∈ rb, c % 100 = j → S (c / 100) = true) → Shut rb S →
  ∃ ef2, StepE P ao ⟨fh S st.t wr, g S⟩ ef2 ∧ (match ao.dst with | none => ∀ w ∈ wr, w.1 ≠ j | some d => (j, d, ef2.v) ∈ wr ∧ ∀ w ∈ wr, w.1 = j → w.2.1 = d) ∧
   (∀ w ∈ wr, S w.1 = true → ao.dst ≠ some w.2.1 → aj ef2.sub w.2.2 = w.2.2) ∧ (∀ x, aj ef2.sub (gt st.t x) = gt st.t x) ∧ ((g (fun i => i == j || S i)).map (·.1)).Nodup ∧ ∀ p ∈ g (fun i => i == j || S i), lk ef2.ch p.1 = some p.2)
 (hend : ∀ S : Nat → Bool, (∀ i, i < os.length → S i = true) → SG P cx Q k ⟨fh S st.t wr, g S⟩) : SG P cx Q (.c (.draw 999 rb os) :: k) st := by
 refine S_draws (T := fun S => ⟨fh S st.t wr, g S⟩) ⟨fun x => ?_, ?_, ?_⟩ (fun S j ao hj hSj hp hs => ?_) hend
 · show gt (fh _ st.t wr) x = .any ∨ gt st.t x = gt (fh _ st.t wr) x
   clear hd hgo hend
   induction wr with
   | nil => exact .inr rfl
   | cons w wr ih =>
    obtain ⟨i, d, v⟩ := w
    simp only [fh, gg]
    by_cases hx : d = x
    · left; rw [if_pos hx]; rfl
    · rw [if_neg hx]; exact ih
 · simp only [h0]; exact hn0
 · intro p hp
   simp only [h0] at hp
   exact e7 hn0 hp
 · obtain ⟨ef2, h1, h2, h3, h4, h5, h6⟩ := hgo S j ao hj hSj hp hs
   refine ⟨ef2, h1, fun x => .inr ?_, h5, h6⟩
   show gt (bw ao.dst ef2.sub ef2.v (fh S st.t wr)) x = gt (fh (fun i => i == j || S i) st.t wr) x
   rw [iH]
   by_cases hx : ao.dst = some x
   · rw [if_pos hx]
     rw [hx] at h2
     rw [rg hd h2.1]
     simp
   · rw [if_neg hx, qn (h4 x) fun w hw hs hwx => h3 w hw hs (by rw [hwx]; exact hx)]
     refine nz fun w hw hwx => ?_
     have hwj : w.1 ≠ j := fun hwj => by
      cases hd2 : ao.dst with
      | none => rw [hd2] at h2; exact h2 w hw hwj
      | some d =>
       rw [hd2] at h2
       have := h2.2 w hw hwj
       apply hx; rw [hd2, ← this, hwx]
     simp [hwj]
end Go.Am
end
section
namespace Go.Am
open Dat (cells)
variable {P : Program} [Glob P]
def nx (ρ : Operand → C) (ch : Chs) (d : Nat) (op : AOp) (v : C) (h : Chs) (m : List (Nat × Sb)) : Prop :=
 match ak ρ ch d op with
 | some e => e.cond ∧ e.v = v ∧ e.ch = h ∧ e.sub = m
 | none => False
theorem jP {o : AO} {st : ASt} {v : C} {h : Chs} {m : List (Nat × Sb)} (hg : o.guard = none) (hk : nx (aw P st.t) st.ch (o.dst.getD 0) o.op v h m) : StepE P o st ⟨True, v, h, m⟩ := by
 unfold nx at hk
 split at hk
 · rename_i e he
   obtain ⟨h1, rfl, rfl, rfl⟩ := hk
   refine .yes _ (by rw [hg]; rfl) (.f (ef := ⟨True, e.v, e.ch, e.sub⟩) ?_ trivial)
   obtain ⟨c, v, ch, s⟩ := e
   have : c = True := propext ⟨fun _ => trivial, fun _ => h1⟩
   rw [he, this]
 · cases hk
def rJ (L : List (Ent P)) (ch : Chs) (d : Nat) (q : Option (FuncId × List C × List C)) (aS : List C) (v : C) (h : Chs) (m : List (Nat × Sb)) : Prop :=
 match bZ L ch d q aS with
 | .eff e => e.cond ∧ e.v = v ∧ e.ch = h ∧ e.sub = m
 | _ => False
theorem q9 {L : List (Ent P)} {o : AO} {st : ASt} {fo : Operand} {aS : List Operand} {v : C} {h : Chs} {m : List (Nat × Sb)} (hg : o.guard = none) (ho : o.op = .call fo aS)
 (hk : rJ L st.ch (o.dst.getD 0) (bj (aw P st.t fo)) (aS.map (aw P st.t)) v h m) : StepE P o st ⟨True, v, h, m⟩ := by
 unfold rJ at hk
 split at hk
 · rename_i e he
   obtain ⟨h1, rfl, rfl, rfl⟩ := hk
   exact .yes _ (by rw [hg]; rfl) (by rw [ho]; exact kB he h1)
 · cases hk
end Go.Am
end
section
namespace Go.Am
open Dat (cells)
def w0 := And.intro @am.eq_1 <| And.intro @am.eq_2 <| And.intro @am.eq_3 <| And.intro @am.eq_4 <| And.intro @am.eq_5 <| And.intro @am.eq_6 <| And.intro @am.eq_7 <| And.intro @am.eq_8 <| And.intro @am.eq_9 <| And.intro @am.eq_10 <| And.intro @am.eq_11 <| And.intro @am.eq_12 <| And.intro @am.eq_13 <| And.intro @am.eq_14 <| And.intro @am.eq_15 <| And.intro @am.eq_16 <| And.intro @am.eq_17 <| And.intro @am.eq_18 <| And.intro @am.eq_19 <| And.intro @am.eq_20 <| And.intro @am.eq_21 <| And.intro @am.eq_22 <| And.intro @am.eq_23 <| And.intro @am.eq_24 <| And.intro @am.eq_25 <| And.intro @am.eq_26 <| And.intro @am.eq_27 <| And.intro @am.eq_28 <| And.intro @am.eq_29 <| And.intro @am.eq_30 <| And.intro @am.eq_31 <| And.intro @am.eq_32 <| And.intro @am.eq_33 <| And.intro @am.eq_34 <| And.intro @am.eq_35 <| And.intro @am.eq_36 <| And.intro @am.eq_37 <| And.intro @am.eq_38 <| And.intro @bJ.eq_1 <| @bJ.eq_2
def w1 := And.intro @bJ.eq_3 <| And.intro @bJ.eq_4 <| And.intro @bJ.eq_5 <| And.intro @bJ.eq_6 <| And.intro @bJ.eq_7 <| And.intro @bl.eq_1 <| And.intro @bl.eq_2 <| And.intro @bZ.eq_1 <| And.intro @bZ.eq_2 <| And.intro @ak.eq_1 <| And.intro @ak.eq_2 <| And.intro @ak.eq_3 <| And.intro @ak.eq_4 <| And.intro @ak.eq_5 <| And.intro @ak.eq_6 <| And.intro @ak.eq_7 <| And.intro @ak.eq_8 <| And.intro @ak.eq_9 <| And.intro @ak.eq_10 <| And.intro @ak.eq_11 <| And.intro @ak.eq_12 <| And.intro @ak.eq_13 <| And.intro @ak.eq_14 <| And.intro @ak.eq_18 <| And.intro @ak.eq_19 <| And.intro @ak.eq_20 <| And.intro @ak.eq_21 <| And.intro @ak.eq_24 <| And.intro @ak.eq_25 <| And.intro @ak.eq_26 <| And.intro @ak.eq_27 <| And.intro @ak.eq_28 <| And.intro @ak.eq_29 <| And.intro @ak.eq_30 <| @ak.eq_31
def w2 := And.intro @ak.eq_33 <| And.intro @ak.eq_34 <| And.intro @aw.eq_1 <| And.intro @aw.eq_2 <| And.intro @aw.eq_3 <| And.intro @aw.eq_4 <| And.intro @gt.eq_1 <| And.intro @lk.eq_1 <| And.intro @lk.eq_2 <| And.intro @ar.eq_1 <| And.intro @ar.eq_2 <| And.intro @af.eq_1 <| And.intro @af.eq_2 <| And.intro @bw.eq_1 <| And.intro @bw.eq_2 <| And.intro @aA.eq_1 <| And.intro @bB.eq_1 <| And.intro @bB.eq_2 <| And.intro @aj.eq_1 <| And.intro @aj.eq_2 <| And.intro @aj.eq_3 <| And.intro @aj.eq_4 <| And.intro @aj.eq_5 <| And.intro @aj.eq_6 <| And.intro @aj.eq_7 <| And.intro @aj.eq_8 <| And.intro @aj.eq_9 <| And.intro @aj.subCs.eq_1 <| And.intro @aj.subCs.eq_2 <| And.intro @bM.eq_1 <| And.intro @bM.eq_2 <| And.intro @aI.eq_1 <| And.intro @aI.eq_2 <| And.intro @aI.eq_3 <| And.intro @aI.eq_4 <| And.intro @aI.eq_5 <| And.intro @aI.eq_6 <| And.intro @bv.eq_1 <| @bv.eq_2
def w3 := And.intro @aq.eq_1 <| And.intro @aq.eq_2 <| And.intro @ah.eq_1 <| And.intro @ah.eq_2 <| And.intro @aK.eq_1 <| And.intro @aK.eq_2 <| And.intro @aK.eq_3 <| And.intro @aK.eq_4 <| And.intro @aK.eq_5 <| And.intro @aK.eq_6 <| And.intro @aK.eq_7 <| And.intro @aK.eq_8 <| And.intro @aK.eq_9 <| And.intro @aK.eq_10 <| And.intro @aW.eq_1 <| And.intro @aW.eq_2 <| And.intro @aW.eq_3 <| And.intro @ay.eq_1 <| And.intro @bm.eq_1 <| And.intro @bm.eq_2 <| And.intro @bk.eq_1 <| And.intro @bk.eq_2 <| And.intro @ax.eq_1 <| And.intro @ax.eq_2 <| And.intro @ax.eq_3 <| And.intro @ag.eq_1 <| And.intro @ag.eq_2 <| And.intro @ag.eq_3 <| And.intro @aD.eq_1 <| And.intro @aD.eq_2 <| And.intro @aB.eq_1 <| And.intro @aB.eq_2 <| And.intro @aB.eq_3 <| And.intro @aB.eq_4 <| And.intro @aB.eq_5 <| And.intro @aB.eq_6 <| And.intro @aB.eq_7 <| And.intro @aB.eq_8 <| And.intro @aB.eq_9 <| @aB.eq_10
def w4 := And.intro @aB.eq_11 <| And.intro @aB.eq_12 <| And.intro @aB.eq_13 <| And.intro @aB.eq_14 <| And.intro @aB.eq_15 <| And.intro @aB.eq_16 <| And.intro @aB.eq_17 <| And.intro @aB.eq_18 <| And.intro @aB.eq_19 <| And.intro @aB.eq_20 <| And.intro @aB.eq_21 <| And.intro @aB.eq_22 <| And.intro @aB.eq_23 <| And.intro @aB.eq_24 <| And.intro @cr.eq_1 <| And.intro @cr.eq_2 <| And.intro @cr.eq_3 <| And.intro @cB.eq_1 <| And.intro @aU.eq_1 <| And.intro @aU.eq_2 <| And.intro @aU.eq_3 <| And.intro @aU.eq_4 <| And.intro @aU.eq_5 <| And.intro @aN.eq_1 <| And.intro @aN.eq_2 <| And.intro @aN.eq_3 <| And.intro @aN.eq_4 <| And.intro @cj.eq_1 <| And.intro @cj.eq_2 <| And.intro @cj.eq_3 <| And.intro @cj.eq_4 <| And.intro @cj.eq_5 <| And.intro @be.eq_1 <| And.intro @be.eq_2 <| And.intro @be.eq_3 <| And.intro @be.eq_4 <| And.intro @be.eq_5 <| And.intro @be.eq_6 <| And.intro @be.eq_7 <| @be.eq_8
def w5 := And.intro @be.eq_9 <| And.intro @be.eq_10 <| And.intro @be.eq_11 <| And.intro @be.eq_12 <| And.intro @be.eq_13 <| And.intro @be.eq_14 <| And.intro @be.eq_15 <| And.intro @be.eq_16 <| And.intro @cD.eq_1 <| And.intro @cD.eq_2 <| And.intro @cD.eq_3 <| And.intro @cD.eq_4 <| And.intro @cC.eq_1 <| And.intro @cC.eq_2 <| And.intro @aT.eq_1 <| And.intro @aT.eq_2 <| And.intro @au.eq_1 <| And.intro @aP.eq_1 <| And.intro @aP.eq_2 <| And.intro @aP.eq_3 <| And.intro @aP.eq_4 <| And.intro @ca.eq_1 <| And.intro @ca.eq_2 <| And.intro @ca.eq_3 <| And.intro @ca.eq_4 <| And.intro @ca.eq_5 <| And.intro @cT.eq_1 <| And.intro @cT.eq_2 <| And.intro @zC.eq_1 <| And.intro @zC.eq_2 <| And.intro @argS.eq_1 <| And.intro @argS.eq_2 <| And.intro @br.eq_1 <| And.intro @cm.eq_1 <| And.intro @cm.eq_2 <| And.intro @dg.eq_1 <| And.intro @dg.eq_2 <| And.intro @cu.eq_1 <| And.intro @aO.eq_1 <| @aO.eq_2
def w6 := And.intro @aO.eq_3 <| And.intro @aO.eq_4 <| And.intro @aO.eq_5 <| And.intro @aO.eq_6 <| And.intro @bG.eq_1 <| And.intro @bG.eq_2 <| And.intro @bp.eq_1 <| And.intro @bp.eq_2 <| And.intro @bq.eq_1 <| And.intro @bq.eq_2 <| And.intro @cF.eq_1 <| And.intro @cF.eq_2 <| And.intro @leC.eq_1 <| And.intro @leC.eq_2 <| And.intro @leC.eq_3 <| And.intro @leC.eq_4 <| And.intro @leC.eq_5 <| And.intro @bH.eq_1 <| And.intro @bH.eq_2 <| And.intro @bH.eq_3 <| And.intro @bA.eq_1 <| And.intro @bA.eq_2 <| And.intro @bA.eq_3 <| And.intro @dh.eq_1 <| And.intro @cG.eq_1 <| And.intro @cS.eq_1 <| And.intro @cS.eq_2 <| And.intro @an.eq_1 <| And.intro @an.eq_2 <| And.intro @ae.eq_1 <| And.intro @ae.eq_2 <| And.intro @cq.eq_1 <| And.intro @cq.eq_2 <| And.intro @bS.eq_1 <| And.intro @bS.eq_2 <| And.intro @dc.eq_1 <| And.intro @aC.eq_1 <| And.intro @aC.eq_2 <| And.intro @aC.eq_3 <| @aC.eq_4
def w7 := And.intro @aC.viewCs.eq_1 <| And.intro @aC.viewCs.eq_2 <| And.intro @aM.eq_1 <| And.intro @aM.eq_2 <| And.intro @aM.eq_3 <| And.intro @aM.eq_4 <| And.intro @aM.eq_5 <| And.intro @aM.eq_6 <| And.intro @aM.eq_7 <| And.intro @aM.flatCs.eq_1 <| And.intro @aM.flatCs.eq_2 <| And.intro @aR.eq_1 <| And.intro @aR.eq_2 <| And.intro @aR.eq_3 <| And.intro @aR.eq_4 <| And.intro @aR.LensOks.eq_1 <| And.intro @aR.LensOks.eq_2 <| And.intro @aR.LensOks.eq_3 <| And.intro @Value.oneCell'.eq_1 <| And.intro @Value.oneCell'.eq_2 <| And.intro @Value.oneCell'.eq_3 <| And.intro @da.eq_1 <| And.intro @Ent.mk3.eq_1 <| And.intro @cK.eq_1 <| And.intro @cK.eq_2 <| And.intro @dd.eq_1 <| And.intro @cY.eq_1 <| And.intro @cN.eq_1 <| And.intro @cN.eq_2 <| And.intro @cn.eq_1 <| And.intro @cO.eq_1 <| And.intro @cJ.eq_1 <| And.intro @cz.eq_1 <| And.intro @cz.eq_2 <| And.intro @cp.eq_1 <| And.intro @cp.eq_2 <| And.intro @cZ.eq_1 <| And.intro @co.eq_1 <| And.intro @cR.eq_1 <| @cR.eq_2
def w8 := And.intro @cM.eq_1 <| And.intro @cM.eq_2 <| And.intro @cI.eq_1 <| And.intro @cI.eq_2 <| And.intro @rn.eq_1 <| And.intro @ai.eq_1 <| And.intro @ai.eq_2 <| And.intro @ai.eq_3 <| And.intro @ai.eq_4 <| And.intro @ai.eq_5 <| And.intro @ai.eq_6 <| And.intro @ai.eq_7 <| And.intro @ai.eq_8 <| And.intro @ai.eq_9 <| And.intro @ai.renCs.eq_1 <| And.intro @ai.renCs.eq_2 <| And.intro @aH.eq_1 <| And.intro @aH.eq_2 <| And.intro @ap.eq_1 <| And.intro @ap.eq_2 <| And.intro @aQ.eq_1 <| And.intro @aQ.eq_2 <| And.intro @aQ.eq_3 <| And.intro @aQ.viewOks.eq_1 <| And.intro @aQ.viewOks.eq_2 <| And.intro @bT.eq_1 <| And.intro @bT.eq_2 <| And.intro @bD.eq_1 <| And.intro @bD.eq_2 <| And.intro @bD.eq_3 <| And.intro @bD.eq_4 <| And.intro @bD.eq_5 <| And.intro @bD.eq_6 <| And.intro @bD.flatBs.eq_1 <| And.intro @bD.flatBs.eq_2 <| And.intro @bF.eq_1 <| And.intro @bF.eq_2 <| And.intro @bF.eq_3 <| And.intro @bY.eq_1 <| @bY.eq_2
def w9 := And.intro @cc.eq_1 <| And.intro @cc.eq_2 <| And.intro @bV.eq_1 <| And.intro @bV.eq_2 <| And.intro @bL.eq_1 <| And.intro @bL.eq_2 <| And.intro @aJ.eq_1 <| And.intro @aJ.eq_2 <| And.intro @aJ.eq_3 <| And.intro @aJ.eq_4 <| And.intro @aJ.eq_5 <| And.intro @aJ.eq_6 <| And.intro @aJ.eq_7 <| And.intro @aJ.eq_8 <| And.intro @aJ.eq_9 <| And.intro @aJ.keysBs.eq_1 <| And.intro @aJ.keysBs.eq_2 <| And.intro @bU.eq_1 <| And.intro @bU.eq_2 <| And.intro @aY.eq_1 <| And.intro @aY.eq_2 <| And.intro @aY.eq_3 <| And.intro @cb.eq_1 <| And.intro @cb.eq_2 <| And.intro @cV.eq_1 <| And.intro @cV.eq_2 <| And.intro @bO.eq_1 <| And.intro @bO.eq_2 <| And.intro @ce.eq_1 <| And.intro @ce.eq_2 <| And.intro @aG.eq_1 <| And.intro @aG.eq_2 <| And.intro @aG.eq_3 <| And.intro @aG.eq_4 <| And.intro @aG.eq_5 <| And.intro @aG.eq_6 <| And.intro @aG.eq_7 <| And.intro @aG.passKs.eq_1 <| And.intro @aG.passKs.eq_2 <| @aG.passKs.eq_3
def w10 := And.intro @aG.passKs.eq_4 <| And.intro @aG.passKs.eq_5 <| And.intro @aX.eq_1 <| And.intro @aX.eq_2 <| And.intro @aX.eq_3 <| And.intro @aX.eq_4 <| And.intro @aX.eq_5 <| And.intro @aX.eq_6 <| And.intro @aX.eq_7 <| And.intro @bX.eq_1 <| And.intro @bX.eq_2 <| And.intro @aL.eq_1 <| And.intro @aL.eq_2 <| And.intro @aL.eq_3 <| And.intro @aL.eq_4 <| And.intro @aL.eq_5 <| And.intro @aL.lendKs.eq_1 <| And.intro @aL.lendKs.eq_2 <| And.intro @aL.lendKs.eq_3 <| And.intro @aL.lendKs.eq_4 <| And.intro @bo.eq_1 <| And.intro @bj.eq_1 <| And.intro @bj.eq_2 <| And.intro @bj.eq_3 <| And.intro @bj.eq_4 <| And.intro @cP.eq_1 <| And.intro @aZ.eq_1 <| And.intro @setInn.eq_1 <| And.intro @bC.eq_1 <| And.intro @bI.eq_1 <| And.intro @bI.eq_2 <| And.intro @bI.eq_3 <| And.intro @cg.eq_1 <| And.intro @aE.eq_1 <| And.intro @aE.eq_2 <| And.intro @cU.eq_1 <| And.intro @bu.eq_1 <| And.intro @bu.eq_2 <| And.intro @bu.eq_3 <| @bu.eq_4
def w11 := And.intro @bu.eq_5 <| And.intro @bu.eq_6 <| And.intro @bz.eq_1 <| And.intro @bz.eq_2 <| And.intro @az.eq_1 <| And.intro @az.eq_2 <| And.intro @az.eq_3 <| And.intro @aV.eq_1 <| And.intro @aV.eq_2 <| And.intro @Glob.gl.eq_1 <| And.intro @bg.eq_1 <| And.intro @bg.eq_2 <| And.intro @bg.eq_3 <| And.intro @bg.eq_4 <| And.intro @bg.eq_5 <| And.intro @db.eq_1 <| And.intro @db.eq_2 <| And.intro @cL.eq_1 <| And.intro @cL.eq_2 <| And.intro @b0.eq_1 <| And.intro @cW.eq_1 <| And.intro @aF.eq_1 <| And.intro @aF.eq_2 <| And.intro @aF.eq_3 <| And.intro @bf.eq_1 <| And.intro @bf.eq_2 <| And.intro @cH.eq_1 <| And.intro @cH.eq_2 <| And.intro @bQ.eq_1 <| And.intro @bQ.eq_2 <| And.intro @de.eq_1 <| And.intro @bn.eq_1 <| And.intro @bn.eq_2 <| And.intro @av.eq_1 <| And.intro @av.eq_2 <| And.intro @av.eq_3 <| And.intro @av.eq_4 <| And.intro @av.eq_5 <| And.intro @av.eq_6 <| @av.eq_7
def w12 := And.intro @av.eq_8 <| And.intro @av.eq_9 <| And.intro @av.ptrOnlys.eq_1 <| And.intro @av.ptrOnlys.eq_2 <| And.intro @bR.eq_1 <| And.intro @bR.eq_2 <| And.intro @bh.eq_1 <| And.intro @bh.eq_2 <| And.intro @bh.eq_3 <| And.intro @bh.eq_4 <| And.intro @bh.eq_5 <| And.intro @bP.eq_1 <| And.intro @bW.eq_1 <| And.intro @bW.eq_2 <| And.intro @bW.eq_3 <| And.intro @bK.eq_1 <| And.intro @bK.eq_2 <| And.intro @bE.eq_1 <| And.intro @bE.eq_2 <| And.intro @cd.eq_1 <| And.intro @cQ.eq_1 <| And.intro @bN.eq_1 <| And.intro @bN.eq_2 <| And.intro @di.eq_1 <| @undef.eq_1
def W := And.intro @w0 <| And.intro @w1 <| And.intro @w2 <| And.intro @w3 <| And.intro @w4 <| And.intro @w5 <| And.intro @w6 <| And.intro @w7 <| And.intro @w8 <| And.intro @w9 <| And.intro @w10 <| And.intro @w11 <| @w12
end Go.Am
end
section
namespace Go.Am
open Dat (cells)
variable {P : Program} [Glob P] {cx : Cx} {Q : ASt → Prop} {k : List It} {st : ASt} {ch : Chs} {d : Nat}
theorem us {ρ : Operand → C} {fo : Operand} {aS : List Operand} {L : List (Ent P)} {e : Eff} {f : FuncId} {first caps : List C} {ks : List Nat} (hfo : bj (ρ fo) = some (f, first, caps)) (h : cn L ch d f (first ++ aS.map ρ ++ caps) ks = .eff e) (hcond : e.cond) : OpR P ρ ch d (.call fo aS) ⟨True, e.v, e.ch, e.sub⟩ := by
 unfold cn cO cJ cz at h
 split at h
 · rename_i chs hg
   obtain ⟨g1, g2⟩ := mH hg
   exact pJ (L := L) hfo g1 g2 h hcond
 · cases h
def qj (P : Program) [Glob P] (cx : Cx) (Q : ASt → Prop) (k : List It) (os : List AO) (st : ASt) (i : Nat) : CR → Prop
 | .eff e => e.cond ∧ DG P cx Q false k os (aA (some i) ⟨True, e.v, e.ch, e.sub⟩ st)
 | _ => False
theorem t3 (L : List (Ent P)) (ks : List Nat) {i : Nat} {f : FuncId} {aS : List Operand} {os : List AO} (h : qj P cx Q k os st i (cn L st.ch i f (aS.map (aw P st.t)) ks)) : DG P cx Q false k (⟨some i, none, .call (.func f) aS, false⟩ :: os) st := by
 unfold qj at h
 split at h
 · rename_i e he
   refine nO (ef := ⟨True, e.v, e.ch, e.sub⟩) (.yes _ rfl ?_) (by simp [bM]) h.2
   exact us (L := L) (f := f) (first := []) (caps := []) rfl (by simpa using he) h.1
 · cases h
theorem D_mv {i : Nat} {x : Operand} {os : List AO} (h : DG P cx Q false k os (aA (some i) ⟨True, aw P st.t x, st.ch, []⟩ st)) : DG P cx Q false k (⟨some i, none, .mv x, false⟩ :: os) st :=
 nO (jP rfl (by simp [nx, ak])) (by simp [bM]) h
theorem yq {own : Bool} {op : Op} {t ty : TypeId} {sz len : Nat} {z : List Value} {parts : List (Nat × Operand)} (hc : ib P own op t = some (.mkSl true ty sz z len parts)) :
 ∃ (tt : TypeId) (ps : Array (Nat × Operand)), op = .buildSlice tt len ps ∧ ps.toList = parts ∧ P.underlying tt = some (.slice ty) ∧ gS P ty = some z ∧ ez P ty = some sz ∧ len * sz ≤ 2 ^ 24 ∧ z.length = sz ∧ len ≤ 2 ^ 24 := by
 have h0 : ee P own op t = some (.mkSl true ty sz z len parts) := by
  unfold ib at hc
  split at hc
  · cases hc
  · exact hc
 cases op
 case buildSlice tt n ps =>
  simp only [ee] at h0
  split at h0
  · rename_i e hu
    simp only [Option.bind_eq_some_iff] at h0
    obtain ⟨z', hz, n', hn, h0⟩ := h0
    split at h0
    · rename_i hl
      simp only [Option.some.injEq, AOp.mkSl.injEq] at h0
      obtain ⟨_, rfl, rfl, rfl, rfl, rfl⟩ := h0
      exact ⟨_, _, rfl, rfl, hu, hz, hn, hl.1, hl.2.1, hl.2.2⟩
    · cases h0
  · cases h0
 all_goals
  exfalso
  simp only [ee] at h0
  repeat' (first | (cases h0; done) | (split at h0) | (simp [Option.bind_eq_some_iff, Option.map_eq_some_iff] at h0; done))
def rowE (sz : Nat) (ty : TypeId) (i : Nat) (es : List (List C)) (st : ASt) : Eff := ⟨True, .own i, (i, .row sz ty es) :: ag [(i, .c .any)] (af st.ch i), [(i, .c .any)]⟩
theorem yg {ro : Option Nat} {ρ : Operand → C} {i : Nat} {ty : TypeId} {sz len : Nat} {z : List Value} {parts : List (Nat × Operand)} {es : List (List C)} (h1 : z.all (·.oneCell') = true)
 (hf : bk sz (List.replicate len (z.map .s)) (parts.map fun q => (q.1, ρ q.2)) = some es) (hlen : es.length = len) : OpM P ro ρ ch i (.mkSl true ty sz z len parts) [⟨True, .own i, (i, .row sz ty es) :: ag [(i, .c .any)] (af ch i), [(i, .c .any)]⟩] := by
 intro own o a E U w hc hi hg hρ K Q hK
 obtain ⟨tt, ps, ho, rfl, hu, hz, hs, hbig, hzl, hl⟩ := yq hc
 have hmax : len ≤ maxLen := Nat.le_trans hl (by decide)
 have key : ∀ (zero : Array Value), (len * sz ≠ 0 → zero = z.toArray) →
  ∃ cells', Instr.fill (fun i => some (i * sz, sz)) ((Array.range (len * sz)).map (zero[· % zero.size]!)) (ps.toList.map fun (i, x) => (i, a.eval x)) = some cells' ∧ kV U w.heap sz es cells' := by
  intro zero h2
  refine mn (E := E) sz ps.toList _ _ _ es (jR z sz len hzl h1 zero h2) (by simp) (fun j pp q hp hq' => ?_) hf
  rw [List.getElem?_map, hp] at hq'
  cases hq'
  exact ⟨rfl, hρ pp.2 (List.mem_map.2 ⟨pp, List.mem_of_getElem? hp, rfl⟩)⟩
 have hrun : ∃ cells', (execOp a.eval o).run P w = .ok (.value (.slice (some ⟨w.heap.size, 0, none⟩) len len)) (w.alloc (.cells cells' ty)) ∧ kV U w.heap sz es cells' := by
  have hmap : (ps.map fun (i, x) => (i, a.eval x)).toList = ps.toList.map fun (i, x) => (i, a.eval x) := by simp
  by_cases h0 : len * sz = 0
  · obtain ⟨c1, g1, g2⟩ := key #[] (fun h => absurd h0 h)
    refine ⟨c1, ?_, g2⟩
    have := fH (P := P) (w := w) (parts := ps.map fun (i, x) => (i, a.eval x)) (cells := c1) hu hz hs hbig (fun zero h => by
     rw [hmap]
     have : (Array.range (len * sz)).map (zero[· % zero.size]!) = (Array.range (len * sz)).map ((#[] : Array Value)[· % (#[] : Array Value).size]!) := by rw [h0, Array.range_zero']; simp
     rw [this]; exact g1)
    simp only [execOp, ho, Sem.run_bind, this, Result.andThen_ok, Sem.run_pure]
  · obtain ⟨c1, g1, g2⟩ := key z.toArray (fun _ => rfl)
    refine ⟨c1, ?_, g2⟩
    have := fH (P := P) (w := w) (parts := ps.map fun (i, x) => (i, a.eval x)) (cells := c1) hu hz hs hbig (fun zero h => by rw [hmap, h h0]; exact g1)
    simp only [execOp, ho, Sem.run_bind, this, Result.andThen_ok, Sem.run_pure]
 obtain ⟨cells', r1, r2⟩ := hrun
 have hgood := lA (P := P) (d := i) (ch := ch) (p := True) (ty := ty) hi r1 r2 hlen.symm hmax
 exact dK.wp (fun c h => by rw [ho] at h; cases h) hgood (fun v E' U' w' g1 g2 => hK _ (List.mem_singleton.2 rfl) v E' U' w' g1 g2)
theorem qv {i : Nat} {ty : TypeId} {sz len : Nat} {z : List Value} {parts : List (Nat × Operand)} {os : List AO} (es : List (List C)) (h1 : z.all (·.oneCell') = true)
 (hf : bk sz (List.replicate len (z.map .s)) (parts.map fun q => (q.1, aw P st.t q.2)) = some es) (hlen : es.length = len) (h : DG P cx Q false k os (aA (some i) (rowE sz ty i es st) st)) :
 DG P cx Q false k (⟨some i, none, .mkSl true ty sz z len parts, false⟩ :: os) st :=
 m8 rfl (yg h1 hf hlen) (fun ef he => by rw [List.mem_singleton.1 he]; exact h)
def refS (i kk : Nat) (cs : List C) (s : ASt) : ASt := ⟨ar (bB [(kk, .c .any)] s.t) i (.ref cs), ag [(kk, .c .any)] (af s.ch kk)⟩
theorem eP.refB {i kk : Nat} {cs : List C} (hl : lk st.ch kk = some (.box cs)) (hd : cs.all aW = true) (hp : gt st.t i = .ptr kk 0) : eP P cx st (refS i kk cs st) := fun E U a w hh => by
 have hkm := du hl
 have hi := hh.inv
 obtain ⟨⟨hnil, arr, ty, b1, b2, b3⟩, hf, hin⟩ := hi.ok kk _ hkm
 let U' : Nat → Prop := fun b => U b ∨ b = (E kk).blk
 have hown : (E kk).fp (E kk).blk := (hf.fp _).2 (.inl ⟨hnil, rfl⟩)
 have hkeep : ∀ b, U b → U' b ∧ w.heap[b]? = w.heap[b]? := fun b hb => ⟨.inl hb, rfl⟩
 have hdd : ∀ c, (kk, c) ∉ af st.ch kk := fun c => dL hi.nd
 have hsub : ∀ k' c', [(kk, Sb.c .any)].lookup k' = some (.c c') → ∀ v, Rep E U w.heap (.own k') v → Rep E U' w.heap c' v := fun k' c' h v _ => by
  rw [fS] at h
  split at h
  · cases h; exact .d (.any _)
  · cases h
 have he := Ev.gen (w1 := w) (E' := E) (U' := U') (news := []) (old := af st.ch kk) (m := [(kk, .c .any)]) (d := 0) hi rfl rfl rfl (Nat.le_refl _) (eE st.ch kk) hkeep (fun _ _ => rfl) (fun _ _ => rfl) hsub (fun _ _ _ => rfl)
  (fun _ _ _ _ _ => rfl) (fun _ _ _ => rfl) (by simp) (fun k' c h => (by cases h)) (fun k' c h => (by cases h)) (fun k' c h b hb => (by cases h)) (fun k' c h b hb => (by cases h))
  (fun k1 x1 k2 x2 h1 h2 hne => (by cases h1)) (fun b hb => ?_) (fun k' c h b hb hu => (by cases h)) (fun b hb => ?_) (fun k' cs' h => (by cases h))
 · have h1 := hh.ghost (by decide) he
   refine ⟨_, _, h1.slots fun j => ?_⟩
   by_cases hj : i = j
   · subst hj
     simp only [je, if_true]
     have hv := ii (hp ▸ hh.tok i)
     rw [hv]
     refine .ref cs _ 0 arr ty (0, 0) (fun j => arr.getD j undef) (.inr rfl) b1 (fun j c hj => ?_) (fun j c hj => ?_)
     · have hjl : j < arr.size := by rw [b2]; exact (List.getElem?_eq_some_iff.1 hj).1
       have hda := List.all_eq_true.1 hd c (List.mem_of_getElem? hj)
       refine ⟨by simp [Array.getD_eq_getD_getElem?, Array.getElem?_eq_getElem hjl], ?_⟩
       rcases b3 j c hj with ⟨_, r2⟩ | ⟨⟨n, t, es, rfl⟩, _⟩
       · exact r2
       · cases hda
     · have hda := List.all_eq_true.1 hd c (List.mem_of_getElem? hj)
       rcases b3 j c hj with ⟨r1, _⟩ | ⟨⟨n, t, es, rfl⟩, _⟩
       · have r3 : RepD U w.heap c (arr.getD j undef) := by
          cases c with
          | s v => cases r1 with | d h => exact h
          | sl n es => cases r1 with | d h => exact h
          | _ => cases hda
         exact r3.mono hkeep
       · cases hda
   · have := h1.tok j
     simp only [je, if_neg hj]
     exact this
 · rcases hb with hb | rfl
   · exact .inl hb
   · exact .inr (.inr ⟨_, _, hkm, hdd, hown⟩)
 · rcases hb with hb | rfl
   · exact hi.lt b hb
   · exact hi.fpl _ _ hkm _ hown
theorem S_refB (i kk : Nat) {cs : List C} (hl : lk st.ch kk = some (.box cs)) (hd : cs.all aW = true) (hp : gt st.t i = .ptr kk 0) (h : SG P cx Q k (refS i kk cs st)) : SG P cx Q k st := kN (eP.refB hl hd hp) h
end Go.Am
end
section
namespace Go.Am
open Dat (cells)
theorem opF_un (ρ : Operand → C) (ch : Chs) (d : Nat) (op : UnOp) (x : Operand) : ak ρ ch d (.un op x) = (
 match op, ρ x with
 | .neg, .s (.int k n) => some ⟨InR k (-n), .s (.int k (-n)), ch, []⟩
 | .not, .s (.bool b) => some ⟨True, .s (.bool (!b)), ch, []⟩
 | _, _ => none : Option Eff) := rfl
theorem opF_ssl (ρ : Operand → C) (ch : Chs) (d : Nat) (sz : Nat) (x : Operand) (lo hi mx : Option Operand) : ak ρ ch d (.ssl sz x lo hi mx) = (
 match ρ x with
 | .sl n es =>
  if n = sz then
   match aT ρ lo 0, aT ρ hi es.length, aT ρ mx es.length with
   | some l, some h, some m => some ⟨0 ≤ l ∧ l ≤ h ∧ h ≤ es.length ∧ (mx.isSome = true → hi.isSome = true ∧ h ≤ m ∧ m ≤ es.length), .sl sz ((es.take h.toNat).drop l.toNat), ch, []⟩
   | _, _, _ => none
  else none
 | .own k =>
  match lk ch k, mx with
  | some (.row n ty es), none =>
   if n = sz then
    match aT ρ lo 0, aT ρ hi es.length with
    | some l, some h => some ⟨0 ≤ l ∧ l ≤ h ∧ h ≤ es.length, .own k, ar (ag [(k, .c .any)] ch) k (.row n ty ((es.take h.toNat).drop l.toNat)), [(k, .c .any)]⟩
    | _, _ => none
   else none
  | _, _ => none
 | .s (.slice none 0 0) =>
  match aT ρ lo 0, aT ρ hi 0, mx with
  | some l, some h, none => some ⟨0 ≤ l ∧ l ≤ h ∧ h ≤ 0, .s (.slice none 0 0), ch, []⟩
  | _, _, _ => none
 | _ => none : Option Eff) := rfl
theorem opF_len (ρ : Operand → C) (ch : Chs) (d : Nat) (str : Bool) (x : Operand) : ak ρ ch d (.len str x) = (
 match ρ x, str with
 | .inn k i, false =>
  match aZ ch k i with
  | some (p, _, _, es) => some ⟨p, .s (.int .i64 (es.length : Int)), ch, []⟩
  | _ => none
 | c, str => (ca ch str c).map fun (n : Nat) => ⟨True, .s (.int .i64 (n : Int)), ch, []⟩ : Option Eff) := rfl
def W3 := And.intro @opF_un <| And.intro @opF_ssl <| And.intro @opF_len <| And.intro @W <| And.intro @ite_true.{1} <| And.intro @ite_false.{1} <| And.intro @if_true.{1} <| And.intro @if_false.{1} <| And.intro @forall_const.{0} <| And.intro @forall_const.{1} <| And.intro @implies_true.{0} @implies_true.{1}
def WU := And.intro @Int.cast_ofNat_Int <| And.intro @Int.natCast_one <| And.intro @Int.natCast_zero <| And.intro @ne_eq.{1} not_false_eq_true
end Go.Am
end
section
namespace Go.Am
def bx (a b : Int) : Int := (a + b) % 2
def fD (j : Nat) (l : List Int) : List Int := (List.range l.length).map fun i => if i / 2 ^ j % 2 = 0 then bx (l.getD i 0) (l.getD (i + 2 ^ j) 0) else l.getD i 0
def dH : Nat → List Int → List Int
 | 0, l => l
 | j + 1, l => fD j (dH j l)
theorem fy (j : Nat) (l : List Int) : (fD j l).length = l.length := by simp [fD]
theorem gG : ∀ (j : Nat) (l : List Int), (dH j l).length = l.length
 | 0, _ => rfl
 | j + 1, l => by rw [dH, fy, gG j l]
theorem iE {j i : Nat} {l : List Int} (h : i < l.length) : (fD j l).getD i 0 = if i / 2 ^ j % 2 = 0 then bx (l.getD i 0) (l.getD (i + 2 ^ j) 0) else l.getD i 0 := by
 rw [fD, List.getD_eq_getElem?_getD, List.getElem?_map, List.getElem?_range h]; rfl
theorem pc {a b : List Int} (hl : a.length = b.length) (h : ∀ i, i < a.length → a.getD i 0 = b.getD i 0) : a = b := by
 apply List.ext_getElem hl
 intro i h1 h2
 have := h i h1
 rw [List.getD_eq_getElem?_getD, List.getD_eq_getElem?_getD, List.getElem?_eq_getElem h1, List.getElem?_eq_getElem h2] at this
 exact this
theorem gx {a b : List Int} {i : Nat} : (a ++ b).getD i 0 = if i < a.length then a.getD i 0 else b.getD (i - a.length) 0 := by
 split
 · rw [List.getD_eq_getElem?_getD, List.getElem?_append_left (by assumption), List.getD_eq_getElem?_getD]
 · rw [List.getD_eq_getElem?_getD, List.getElem?_append_right (by omega), List.getD_eq_getElem?_getD]
theorem sS {j k : Nat} (hj : j < k) {a b : List Int} (ha : a.length = 2 ^ k) (hb : b.length = 2 ^ k) : fD j (a ++ b) = fD j a ++ fD j b := by
 have hp : 2 ^ k = 2 ^ j * (2 * 2 ^ (k - j - 1)) := by
  rw [← Nat.mul_assoc, ← Nat.pow_succ, ← Nat.pow_add]; congr 1; omega
 have hpos : 0 < 2 ^ j := Nat.pow_pos (by decide)
 refine pc (by simp [fy]) (fun i hi => ?_)
 rw [fy, List.length_append, ha, hb] at hi
 rw [iE (by rw [List.length_append]; omega), gx, gx, gx, fy, ha]
 generalize 2 ^ (k - j - 1) = m at *
 generalize hJ : 2 ^ j = J at *
 by_cases h : i < 2 ^ k
 · rw [if_pos h, if_pos h, iE (by omega), hJ]
   by_cases hc : i / J % 2 = 0
   · rw [if_pos hc, if_pos hc]
     have : i + J < 2 ^ k := by
      rw [hp] at h ⊢
      have h1 : i / J < 2 * m := by rw [Nat.div_lt_iff_lt_mul hpos, Nat.mul_comm]; exact h
      have h2 : i / J + 1 < 2 * m := by omega
      have h3 := Nat.div_add_mod i J
      have h4 := Nat.mod_lt i hpos
      have h5 : J * (i / J + 1 + 1) ≤ J * (2 * m) := Nat.mul_le_mul_left _ h2
      rw [Nat.mul_add, Nat.mul_add] at h5
      omega
     rw [if_pos this]
   · rw [if_neg hc, if_neg hc]
 · rw [if_neg h, if_neg h, iE (by omega), hJ]
   have hsub : i = (i - 2 ^ k) + J * (2 * m) := by rw [← hp]; omega
   have hdiv : i / J = (i - 2 ^ k) / J + 2 * m := by
    conv => lhs; rw [hsub]
    rw [Nat.add_mul_div_left _ _ hpos]
   have hc : i / J % 2 = (i - 2 ^ k) / J % 2 := by rw [hdiv]; omega
   rw [hc, if_neg (by omega : ¬ i + J < 2 ^ k), show i + J - 2 ^ k = i - 2 ^ k + J by omega]
theorem vK {k : Nat} {a b : List Int} (ha : a.length = 2 ^ k) (hb : b.length = 2 ^ k) : fD k (a ++ b) = (List.zipWith bx a b) ++ b := by
 have hpos : 0 < 2 ^ k := Nat.pow_pos (by decide)
 refine pc (by rw [fy]; simp [ha, hb]) (fun i hi => ?_)
 rw [fy, List.length_append, ha, hb] at hi
 rw [iE (by rw [List.length_append]; omega), gx, gx, gx, List.length_zipWith, ha, hb, Nat.min_self]
 by_cases h : i < 2 ^ k
 · rw [Nat.div_eq_of_lt h, if_pos (by rfl), if_pos h, if_neg (by omega), if_pos h, Nat.add_sub_cancel]
   rw [List.getD_eq_getElem?_getD (l := List.zipWith bx a b), List.getElem?_zipWith, List.getD_eq_getElem?_getD, List.getD_eq_getElem?_getD, List.getElem?_eq_getElem (by omega), List.getElem?_eq_getElem (by omega)]
   rfl
 · have hd : i / 2 ^ k = 1 := Nat.div_eq_of_lt_le (by omega) (by omega)
   rw [hd, if_neg (by decide), if_neg h, if_neg h]
theorem ol {k : Nat} {a b : List Int} (ha : a.length = 2 ^ k) (hb : b.length = 2 ^ k) : ∀ j, j ≤ k → dH j (a ++ b) = dH j a ++ dH j b
 | 0, _ => rfl
 | j + 1, h => by
  rw [dH, ol ha hb j (by omega), sS (k := k) (by omega) (by rw [gG, ha]) (by rw [gG, hb])]; rfl
theorem xF {k : Nat} {a b : List Int} (ha : a.length = 2 ^ k) (hb : b.length = 2 ^ k) : dH (k + 1) (a ++ b) = List.zipWith bx (dH k a) (dH k b) ++ dH k b := by
 rw [dH, ol ha hb k (Nat.le_refl _), vK (by rw [gG, ha]) (by rw [gG, hb])]
def isB (x : Int) : Prop := x = 0 ∨ x = 1
theorem bx_bit {a b : Int} (ha : isB a) (hb : isB b) : isB (bx a b) := by
 unfold isB bx at *; rcases ha with rfl | rfl <;> rcases hb with rfl | rfl <;> decide
theorem kl : ∀ (j : Nat) (l : List Int), (∀ i, isB (l.getD i 0)) → ∀ i, isB ((dH j l).getD i 0)
 | 0, _, h => h
 | j + 1, l, h => fun i => by
  have ih := kl j l h
  rw [dH]
  by_cases hi : i < (dH j l).length
  · rw [iE hi]
    split
    · exact bx_bit (ih _) (ih _)
    · exact ih _
  · rw [List.getD_eq_getElem?_getD, List.getElem?_eq_none (by rw [fy]; omega)]; exact .inl rfl
def szP (n : Int) : Int := if n < -n then -n else n
def sgP (n : Int) : Int := if n < 0 then -1 else if n = 0 then 0 else 1
def fP (a b : Int) : Int := (if szP b < szP a then szP b else szP a) * sgP a * sgP b
def gP (a b v : Int) : Int := if v = 1 then b - a else b + a
def fQ (isInfo : Nat → Bool) : Nat → Nat → List Int → List Int
 | 0, from', soft => [if isInfo from' = true ∧ soft.getD 0 0 < 0 then 1 else 0]
 | k + 1, from', soft =>
  let a := soft.take (2 ^ k)
  let b := soft.drop (2 ^ k)
  let head := fQ isInfo k from' (List.zipWith fP a b)
  let v := dH k head
  head ++ fQ isInfo k (from' + 2 ^ k) ((List.range (2 ^ k)).map fun i => gP (a.getD i 0) (b.getD i 0) (v.getD i 0))
theorem nT (isInfo : Nat → Bool) : ∀ (k f : Nat) (s : List Int), (fQ isInfo k f s).length = 2 ^ k
 | 0, _, _ => rfl
 | k + 1, f, s => by
  simp only [fQ, List.length_append, nT isInfo k]
  rw [Nat.pow_succ]; omega
def fc (x s : Int) : Prop := (x = 0 ∧ 0 < s) ∨ (x = 1 ∧ s < 0)
theorem f_sign {x y a b : Int} (ha : fc x a) (hb : fc y b) : fc (bx x y) (fP a b) := by
 unfold fc at *
 rcases ha with ⟨rfl, ha⟩ | ⟨rfl, ha⟩ <;> rcases hb with ⟨rfl, hb⟩ | ⟨rfl, hb⟩
 · refine .inl ⟨by decide, ?_⟩
   have h1 : sgP a = 1 := by unfold sgP; rw [if_neg (by omega), if_neg (by omega)]
   have h2 : sgP b = 1 := by unfold sgP; rw [if_neg (by omega), if_neg (by omega)]
   unfold fP szP
   rw [h1, h2]
   split <;> split <;> split <;> omega
 · refine .inr ⟨by decide, ?_⟩
   have h1 : sgP a = 1 := by unfold sgP; rw [if_neg (by omega), if_neg (by omega)]
   have h2 : sgP b = -1 := by unfold sgP; rw [if_pos (by omega)]
   unfold fP szP
   rw [h1, h2]
   split <;> split <;> split <;> omega
 · refine .inr ⟨by decide, ?_⟩
   have h1 : sgP a = -1 := by unfold sgP; rw [if_pos (by omega)]
   have h2 : sgP b = 1 := by unfold sgP; rw [if_neg (by omega), if_neg (by omega)]
   unfold fP szP
   rw [h1, h2]
   split <;> split <;> split <;> omega
 · refine .inl ⟨by decide, ?_⟩
   have h1 : sgP a = -1 := by unfold sgP; rw [if_pos (by omega)]
   have h2 : sgP b = -1 := by unfold sgP; rw [if_pos (by omega)]
   unfold fP szP
   rw [h1, h2]
   split <;> split <;> split <;> omega
theorem g_sign {x y a b : Int} (hx : isB x) (hy : isB y) (ha : fc (bx x y) a) (hb : fc y b) : fc y (gP a b x) := by
 unfold fc gP bx at *
 rcases hx with rfl | rfl <;> rcases hy with rfl | rfl <;> simp at ha hb ⊢ <;> omega
theorem tN (isInfo : Nat → Bool) : ∀ (k f : Nat) (u s : List Int), u.length = 2 ^ k → s.length = 2 ^ k → (∀ i, isB (u.getD i 0)) → (∀ i, i < 2 ^ k → isInfo (f + i) = false → u.getD i 0 = 0) →
 (∀ i, i < 2 ^ k → fc ((dH k u).getD i 0) (s.getD i 0)) → fQ isInfo k f s = u
 | 0, f, u, s, hu, hs, hb, hi, hg => by
  match u, hu with
  | [x], _ =>
   have h0 := hg 0 (by decide)
   have h1 := hi 0 (by decide)
   simp only [dH, List.getD_cons_zero, Nat.add_zero] at h0 h1
   simp only [fQ]
   congr 1
   rcases h0 with ⟨rfl, h⟩ | ⟨rfl, h⟩
   · rw [if_neg (by omega)]
   · rw [if_pos]
     refine ⟨?_, h⟩
     cases hq : isInfo f with
     | true => rfl
     | false => have := h1 hq; omega
 | k + 1, f, u, s, hu, hs, hb, hi, hg => by
  have hp : 2 ^ (k + 1) = 2 ^ k + 2 ^ k := by rw [Nat.pow_succ]; omega
  have ha : (u.take (2 ^ k)).length = 2 ^ k := by rw [List.length_take]; omega
  have hbl : (u.drop (2 ^ k)).length = 2 ^ k := by rw [List.length_drop]; omega
  have hsa : (s.take (2 ^ k)).length = 2 ^ k := by rw [List.length_take]; omega
  have hsb : (s.drop (2 ^ k)).length = 2 ^ k := by rw [List.length_drop]; omega
  have hua : ∀ i, i < 2 ^ k → (u.take (2 ^ k)).getD i 0 = u.getD i 0 := fun i h => by
   rw [List.getD_eq_getElem?_getD, List.getElem?_take, if_pos h, List.getD_eq_getElem?_getD]
  have hub : ∀ i, (u.drop (2 ^ k)).getD i 0 = u.getD (2 ^ k + i) 0 := fun i => by
   rw [List.getD_eq_getElem?_getD, List.getElem?_drop, List.getD_eq_getElem?_getD]
  have hsa' : ∀ i, i < 2 ^ k → (s.take (2 ^ k)).getD i 0 = s.getD i 0 := fun i h => by
   rw [List.getD_eq_getElem?_getD, List.getElem?_take, if_pos h, List.getD_eq_getElem?_getD]
  have hsb' : ∀ i, (s.drop (2 ^ k)).getD i 0 = s.getD (2 ^ k + i) 0 := fun i => by
   rw [List.getD_eq_getElem?_getD, List.getElem?_drop, List.getD_eq_getElem?_getD]
  have hba : ∀ i, isB ((u.take (2 ^ k)).getD i 0) := fun i => by
   by_cases h : i < 2 ^ k
   · rw [hua i h]; exact hb i
   · rw [List.getD_eq_getElem?_getD, List.getElem?_eq_none (by omega)]; exact .inl rfl
  have hbb : ∀ i, isB ((u.drop (2 ^ k)).getD i 0) := fun i => by rw [hub]; exact hb _
  have hw : dH (k + 1) u = List.zipWith bx (dH k (u.take (2 ^ k))) (dH k (u.drop (2 ^ k))) ++ dH k (u.drop (2 ^ k)) := by
   rw [← xF ha hbl, List.take_append_drop]
  generalize hA : u.take (2 ^ k) = A at *
  generalize hB : u.drop (2 ^ k) = B at *
  generalize hSA : s.take (2 ^ k) = SA at *
  generalize hSB : s.drop (2 ^ k) = SB at *
  have hwA := kl k A hba
  have hwB := kl k B hbb
  have hlA : (dH k A).length = 2 ^ k := by rw [gG, ha]
  have hlB : (dH k B).length = 2 ^ k := by rw [gG, hbl]
  have hzl : (List.zipWith bx (dH k A) (dH k B)).length = 2 ^ k := by rw [List.length_zipWith, hlA, hlB, Nat.min_self]
  have hz : ∀ (f : Int → Int → Int) (p q : List Int), p.length = 2 ^ k → q.length = 2 ^ k → ∀ i, i < 2 ^ k → (List.zipWith f p q).getD i 0 = f (p.getD i 0) (q.getD i 0) := fun f p q h1 h2 i h => by
   rw [List.getD_eq_getElem?_getD, List.getElem?_zipWith, List.getD_eq_getElem?_getD, List.getD_eq_getElem?_getD, List.getElem?_eq_getElem (by omega), List.getElem?_eq_getElem (by omega)]; rfl
  have g1 : ∀ i, i < 2 ^ k → fc (bx ((dH k A).getD i 0) ((dH k B).getD i 0)) (SA.getD i 0) := fun i h => by
   have := hg i (by omega)
   rw [hw, gx, hzl, if_pos h, hz _ _ _ hlA hlB i h, ← hsa' i h] at this
   exact this
  have g2 : ∀ i, i < 2 ^ k → fc ((dH k B).getD i 0) (SB.getD i 0) := fun i h => by
   have := hg (2 ^ k + i) (by omega)
   rw [hw, gx, hzl, if_neg (by omega), Nat.add_sub_cancel_left, ← hsb' i] at this
   exact this
  have e1 : fQ isInfo k f (List.zipWith fP SA SB) = A := by
   refine tN isInfo k f A _ ha (by rw [List.length_zipWith, hsa, hsb, Nat.min_self]) hba (fun i h hn => by rw [hua i h]; exact hi i (by omega) hn) (fun i h => ?_)
   rw [hz _ _ _ hsa hsb i h]
   have := f_sign (g1 i h) (g2 i h)
   have e : bx (bx ((dH k A).getD i 0) ((dH k B).getD i 0)) ((dH k B).getD i 0) = (dH k A).getD i 0 := by
    rcases hwA i with h | h <;> rcases hwB i with h' | h' <;> rw [h, h'] <;> decide
   rw [e] at this
   exact this
  have e2 : fQ isInfo k (f + 2 ^ k) ((List.range (2 ^ k)).map fun i => gP (SA.getD i 0) (SB.getD i 0) ((dH k A).getD i 0)) = B := by
   refine tN isInfo k (f + 2 ^ k) B _ hbl (by simp) hbb (fun i h hn => by rw [hub]; exact hi (2 ^ k + i) (by omega) (by rw [← hn]; congr 1; omega)) (fun i h => ?_)
   have e : ((List.range (2 ^ k)).map fun i => gP (SA.getD i 0) (SB.getD i 0) ((dH k A).getD i 0)).getD i 0 = gP (SA.getD i 0) (SB.getD i 0) ((dH k A).getD i 0) := by
    rw [List.getD_eq_getElem?_getD, List.getElem?_map, List.getElem?_range h]; rfl
   rw [e]
   exact g_sign (hwA i) (hwB i) (g1 i h) (g2 i h)
  have e3 : A ++ B = u := by rw [← hA, ← hB, List.take_append_drop]
  simp only [fQ]
  rw [hSA, hSB, e1, e2, e3]
end Go.Am
end
section
open Go Go.Am
open Go.Am.Dat (cells)
namespace Go.Proofs.YteoobfmbipmibaaGreat
set_option maxRecDepth 100000
instance : Glob Tryz.prog := { gl := [] }
def oO (k : Nat) : Operand := .tmp k
def oN (n : Int) : Operand := .const (.int .i64 n)
def oA (d : Nat) (op : AOp) : AO := ⟨some d, none, op, false⟩
def oM (d k : Nat) : AO := ⟨some d, none, .mv (.tmp k), false⟩
def oT (d : Nat) (op : AOp) : AO := ⟨some d, none, op, true⟩
def oG (d g : Nat) (w : Bool) (op : AOp) : AO := ⟨some d, some (g, w), op, false⟩
def oR (l : List AO) : AC := .region false l
def oQ (l : List AO) : AC := .region true l
def oS (a b : AC) : AC := .seq a b
def oK (l : List Nat) (a : AC) : AC := .keep l a
def c3l1 : AC := oS (oS (oR [oM 284 22, oM 285 21, oA 286 (.len false (oO 285)), oA 287 (.bin .lss 3 (oO 284) (oO 286)), oM 288 287, oG 289 288 true (.faddr 11 (oO 2)), oG 290 288 true (.load false 1 (oO 289)), oG 291 288 true (.len false (oO 290)), oG 292 288 true (.bin .gtr 3 (oO 291) (oN 0)), oA 293 (.pick (oO 288) (oO 292) (.const (.bool false)))]) (oK [1, 2, 5, 17, 21, 22, 293] (.cond (oO 293) (.skip) (.exit 0)))) (oK [1, 2, 5, 17, 21, 22] (oS (.block 1 (oS (oQ [oA 296 (.faddr 11 (oO 2)), oA 297 (.load false 1 (oO 296)), oA 298 (.mvs (oO 22)), oA 299 (.faddr 11 (oO 2)), oA 300 (.load false 1 (oO 299)), oA 301 (.len false (oO 300)), oA 302 (.bin .rem 3 (oO 298) (oO 301)), oA 303 (.iaddr 2 [.int .i64 0, .int .i64 0] (oO 297) (oO 302)), oA 304 (.load true 2 (oO 303)), oA 23 (.alloc [.int .i64 0, .int .i64 0]), ⟨none, none, .store false 2 (oO 23) (oO 304), true⟩]) (oK [1, 2, 5, 17, 21, 22, 23] (oQ [oM 305 21, oA 306 (.mvs (oO 22)), oM 307 21, oA 308 (.mvs (oO 22)), oA 309 (.iaddr 2 [.int .i64 0, .int .i64 0] (oO 307) (oO 308)), oA 310 (.load true 2 (oO 309)), oA 311 (.faddr 0 (oO 23)), oA 312 (.load false 1 (oO 311)), oA 313 (.mvs (oO 17)), oA 314 (.bin .mul 3 (oN 2) (oO 313)), oA 315 (.bin .sub 3 (oO 314) (oN 1)), oA 316 (.call (.func 30) [(oO 312), (oO 315)]), oA 317 (.mvs (oO 17)), oA 318 (.bin .sub 3 (oO 316) (oO 317)), oA 319 (.bin .add 3 (oO 318) (oN 1)), oA 320 (.faddr 1 (oO 23)), oA 321 (.load false 1 (oO 320)), oA 322 (.mvs (oO 17)), oA 323 (.bin .mul 3 (oN 2) (oO 322)), oA 324 (.bin .sub 3 (oO 323) (oN 1)), oA 325 (.call (.func 30) [(oO 321), (oO 324)]), oM 326 17, oA 327 (.bin .sub 3 (oO 325) (oO 326)), oA 328 (.bin .add 3 (oO 327) (oN 1)), oA 329 (.build [.int .i64 0, .int .i64 0] [(0, 1, (oO 319)), (1, 1, (oO 328))]), oA 330 (.call (.func 29) [(oO 310), (oO 329)]), oT 331 (.iaddr 2 [.int .i64 0, .int .i64 0] (oO 305) (oO 306)), ⟨none, none, .store false 2 (oO 331) (oO 330), true⟩])))) (oK [1, 2, 5, 17, 21, 22] (oR [oM 294 22, oA 295 (.bin .add 3 (oO 294) (oN 1)), oM 22 295]))))
def c3l2 : AC := oS (oS (oR [oM 380 30, oA 381 (.faddr 4 (oO 5)), oA 382 (.load false 1 (oO 381)), oA 383 (.bin .lss 3 (oO 380) (oO 382))]) (oK [1, 2, 5, 25, 27, 29, 30, 383] (.cond (oO 383) (.skip) (.exit 2)))) (oK [1, 2, 5, 25, 27, 29, 30] (oS (.block 3 (oQ [oM 386 29, oM 387 27, oA 388 (.mvs (oO 30)), oA 389 (.iaddr 1 [.int .i64 0] (oO 387) (oO 388)), oA 390 (.load false 1 (oO 389)), oA 391 (.bin .mul 3 (oN 2) (oO 390)), oA 392 (.bin .sub 3 (oN 1) (oO 391)), oM 393 25, oM 394 30, oA 395 (.iaddr 1 [.int .i64 0] (oO 393) (oO 394)), oA 396 (.load false 1 (oO 395)), oA 397 (.ext (.mx true) [(oN (-1000)), (oO 396)]), oA 398 (.ext (.mx false) [(oN 1000), (oO 397)]), oA 399 (.bin .mul 3 (oO 392) (oO 398)), oA 400 (.mkSl false 3 1 [.int .i64 0] 1 [(0, (oO 399))]), oT 401 (.app 24 3 1 8 [.int .i64 0] (oO 386) (oO 400)), oT 29 (.mv (oO 401))])) (oK [1, 2, 5, 25, 27, 29, 30] (oR [oM 384 30, oA 385 (.bin .add 3 (oO 384) (oN 1)), oM 30 385]))))
def c3 : AC := oS (oR [oA 2 (.box (oO 0)), oA 4 (.mv (.const (.bool false)))]) (oK [1, 2] (oS (oS (oR [oA 35 (.call (.func 4) []), oA 36 (.un .not (oO 35)), oM 37 36, oG 38 37 false (.call (.func 5) []), oG 39 37 false (.un .not (oO 38)), oA 40 (.pick (oO 37) (.const (.bool true)) (oO 39))]) (oK [1, 2, 40] (.cond (oO 40) (oS (oR [oA 4 (.mv (.const (.bool false)))]) (oK [4] (.ret))) (.skip)))) (oK [1, 2] (oS (oR [oA 41 (.faddr 0 (oO 2)), oA 42 (.load true 5 (oO 41)), oA 5 (.alloc [.int .i64 0, .int .i64 0, .int .i64 0, .slice none 0 0, .int .i64 0]), ⟨none, none, .store false 5 (oO 5) (oO 42), false⟩]) (oK [1, 2, 5] (oS (oS (oQ [oA 43 (.load true 5 (oO 5)), oM 44 1, oT 45 (.call (.func 6) [(oO 43), (oO 44)]), oT 46 (.un .not (oO 45)), oT 47 (.mv (oO 46)), oG 48 47 false (.faddr 4 (oO 5)), oG 49 47 false (.load false 1 (oO 48)), oG 50 47 false (.faddr 2 (oO 5)), oG 51 47 false (.load true 2 (oO 50)), oG 52 47 false (.call (.func 7) [(oO 51)]), ⟨some 53, some (47, false), .bin .lss 3 (oO 49) (oO 52), true⟩, oT 54 (.pick (oO 47) (.const (.bool true)) (oO 53)), oT 55 (.mv (oO 54)), ⟨some 56, some (55, false), .faddr 5 (oO 2), true⟩, ⟨some 57, some (55, false), .load false 1 (oO 56), true⟩, ⟨some 58, some (55, false), .call (.func 8) [(oO 57)], true⟩, ⟨some 59, some (55, false), .bin .neq 3 (oO 58) (oN 0), true⟩, oT 60 (.pick (oO 55) (.const (.bool true)) (oO 59)), oT 61 (.mv (oO 60)), ⟨some 62, some (61, false), .faddr 6 (oO 2), true⟩, ⟨some 63, some (61, false), .faddr 1 (oO 62), true⟩, ⟨some 64, some (61, false), .load false 1 (oO 63), true⟩, ⟨some 65, some (61, false), .len false (oO 64), true⟩, ⟨some 66, some (61, false), .bin .gtr 3 (oO 65) (oN 12), true⟩, oT 67 (.pick (oO 61) (.const (.bool true)) (oO 66)), oT 68 (.mv (oO 67)), ⟨some 69, some (68, false), .faddr 6 (oO 2), true⟩, ⟨some 70, some (68, false), .faddr 2 (oO 69), true⟩, ⟨some 71, some (68, false), .load false 1 (oO 70), true⟩, ⟨some 72, some (68, false), .len false (oO 71), true⟩, ⟨some 73, some (68, false), .bin .gtr 3 (oO 72) (oN 12), true⟩, oT 74 (.pick (oO 68) (.const (.bool true)) (oO 73)), oT 75 (.mv (oO 74)), ⟨some 76, some (75, false), .faddr 6 (oO 2), true⟩, ⟨some 77, some (75, false), .load true 3 (oO 76), true⟩, ⟨some 78, some (75, false), .call (.func 9) [(oO 77)], true⟩, ⟨some 79, some (75, false), .bin .neq 3 (oO 78) (oN 0), true⟩, oT 80 (.pick (oO 75) (.const (.bool true)) (oO 79)), oT 81 (.mv (oO 80)), ⟨some 82, some (81, false), .faddr 9 (oO 2), true⟩, ⟨some 83, some (81, false), .load false 1 (oO 82), true⟩, ⟨some 84, some (81, false), .call (.func 10) [(oO 83)], true⟩, ⟨some 85, some (81, false), .bin .neq 3 (oO 84) (oN 0), true⟩, oT 86 (.pick (oO 81) (.const (.bool true)) (oO 85))]) (oK [1, 2, 5, 86] (.cond (oO 86) (oS (oR [oA 4 (.mv (.const (.bool true)))]) (oK [4] (.ret))) (.skip)))) (oK [1, 2, 5] (oS (oS (oQ [oT 87 (.faddr 10 (oO 2)), oT 88 (.load false 1 (oO 87)), oT 89 (.len false (oO 88)), oT 90 (.bin .gtr 3 (oO 89) (oN 2)), oT 91 (.mv (oO 90)), ⟨some 92, some (91, false), .faddr 10 (oO 2), true⟩, ⟨some 93, some (91, false), .load false 1 (oO 92), true⟩, ⟨some 94, some (91, false), .call (.func 11) [(oO 93)], true⟩, ⟨some 95, some (91, false), .bin .neq 3 (oO 94) (oN 0), true⟩, oT 96 (.pick (oO 91) (.const (.bool true)) (oO 95)), oT 97 (.mv (oO 96)), oG 98 97 false (.faddr 10 (oO 2)), oG 99 97 false (.load false 1 (oO 98)), oG 100 97 false (.len false (oO 99)), oG 101 97 false (.faddr 10 (oO 2)), oG 102 97 false (.load false 1 (oO 101)), oG 103 97 false (.iaddr 1 [.slice none 0 0] (oO 102) (oN 0)), oG 104 97 false (.load false 1 (oO 103)), oG 105 97 false (.len false (oO 104)), ⟨some 106, some (97, false), .bin .neq 3 (oO 100) (oO 105), true⟩, oT 107 (.pick (oO 97) (.const (.bool true)) (oO 106)), oT 108 (.mv (oO 107)), oG 109 108 false (.faddr 4 (oO 5)), oG 110 108 false (.load false 1 (oO 109)), oG 111 108 false (.faddr 9 (oO 2)), oG 112 108 false (.load false 1 (oO 111)), oG 113 108 false (.faddr 10 (oO 2)), oG 114 108 false (.load false 1 (oO 113)), oG 115 108 false (.len false (oO 114)), oG 116 108 false (.bin .mul 3 (oO 112) (oO 115)), ⟨some 117, some (108, false), .bin .rem 3 (oO 110) (oO 116), true⟩, ⟨some 118, some (108, false), .bin .neq 3 (oO 117) (oN 0), true⟩, oT 119 (.pick (oO 108) (.const (.bool true)) (oO 118))]) (oK [1, 2, 5, 119] (.cond (oO 119) (oS (oR [oA 4 (.mv (.const (.bool true)))]) (oK [4] (.ret))) (.skip)))) (oK [1, 2, 5] (oS (oQ [oA 121 (.load true 5 (oO 5)), oA 122 (.call (.func 13) [(oO 121)]), oM 123 1, oA 124 (.call (.func 14) [(oO 123)]), oA 125 (.faddr 5 (oO 2)), oA 126 (.load false 1 (oO 125)), oT 127 (.call (.func 12) [(oO 122), (oO 124), (oO 126)]), oT 120 (.mv (oO 127)), oA 128 (.extr (oO 120) 0), oA 129 (.extr (oO 120) 1), oM 6 128, oT 7 (.mv (oO 129))]) (oK [1, 2, 5, 6, 7] (oS (oS (oR [oM 130 7, oA 131 (.bin .neq 41 (oO 130) (oN 0)), oM 132 131, oG 133 132 false (.mv (oO 6)), oG 134 132 false (.call (.func 15) [(oO 133)]), oG 135 132 false (.bin .neq 3 (oO 134) (oN 0)), oA 136 (.pick (oO 132) (.const (.bool true)) (oO 135)), oM 137 136, oG 138 137 false (.mv (oO 6)), oG 139 137 false (.len false (oO 138)), oG 140 137 false (.faddr 4 (oO 5)), oG 141 137 false (.load false 1 (oO 140)), oG 142 137 false (.bin .neq 3 (oO 139) (oO 141)), oA 143 (.pick (oO 137) (.const (.bool true)) (oO 142))]) (oK [1, 2, 5, 6, 143] (.cond (oO 143) (oS (oR [oA 4 (.mv (.const (.bool false)))]) (oK [4] (.ret))) (.skip)))) (oK [1, 2, 5, 6] (oS (oR [oA 145 (.faddr 6 (oO 2)), oA 146 (.load true 3 (oO 145)), oA 147 (.call (.func 17) [(oO 146)]), oM 148 6, oA 149 (.call (.func 14) [(oO 148)]), oA 150 (.call (.func 16) [(oO 147), (oO 149)]), oM 144 150, oA 151 (.extr (oO 144) 0), oA 152 (.extr (oO 144) 1), oM 8 151, oM 9 152]) (oK [1, 2, 5, 8, 9] (oS (oS (oR [oM 153 9, oA 154 (.bin .neq 41 (oO 153) (oN 0)), oM 155 154, oG 156 155 false (.mv (oO 8)), oG 157 155 false (.call (.func 18) [(oO 156)]), oG 158 155 false (.bin .neq 3 (oO 157) (oN 0)), oA 159 (.pick (oO 155) (.const (.bool true)) (oO 158)), oM 160 159, oG 161 160 false (.mv (oO 8)), oG 162 160 false (.len false (oO 161)), oG 163 160 false (.faddr 4 (oO 5)), oG 164 160 false (.load false 1 (oO 163)), oG 165 160 false (.bin .neq 3 (oO 162) (oO 164)), oA 166 (.pick (oO 160) (.const (.bool true)) (oO 165))]) (oK [1, 2, 5, 8, 166] (.cond (oO 166) (oS (oR [oA 4 (.mv (.const (.bool false)))]) (oK [4] (.ret))) (.skip)))) (oK [1, 2, 5, 8] (oS (oQ [oA 168 (.faddr 9 (oO 2)), oA 169 (.load false 1 (oO 168)), oM 170 8, oA 171 (.call (.func 14) [(oO 170)]), oT 172 (.call (.func 19) [(oO 169), (oO 171)]), oT 167 (.mv (oO 172)), oA 173 (.extr (oO 167) 0), oA 174 (.extr (oO 167) 1), oM 10 173, oT 11 (.mv (oO 174))]) (oK [1, 2, 5, 10, 11] (oS (oS (oR [oM 175 11, oA 176 (.bin .neq 41 (oO 175) (oN 0)), oM 177 176, oG 178 177 false (.mv (oO 10)), oG 179 177 false (.call (.func 20) [(oO 178)]), oG 180 177 false (.bin .neq 3 (oO 179) (oN 0)), oA 181 (.pick (oO 177) (.const (.bool true)) (oO 180)), oM 182 181, oG 183 182 false (.mv (oO 10)), oG 184 182 false (.len false (oO 183)), oG 185 182 false (.faddr 4 (oO 5)), oG 186 182 false (.load false 1 (oO 185)), oG 187 182 false (.faddr 9 (oO 2)), oG 188 182 false (.load false 1 (oO 187)), oG 189 182 false (.bin .quo 3 (oO 186) (oO 188)), oG 190 182 false (.bin .neq 3 (oO 184) (oO 189)), oA 191 (.pick (oO 182) (.const (.bool true)) (oO 190))]) (oK [1, 2, 5, 10, 191] (.cond (oO 191) (oS (oR [oA 4 (.mv (.const (.bool false)))]) (oK [4] (.ret))) (.skip)))) (oK [1, 2, 5, 10] (oS (oQ [oA 193 (.faddr 10 (oO 2)), oA 194 (.load false 1 (oO 193)), oA 195 (.len false (oO 194)), oM 196 10, oA 197 (.call (.func 22) [(oO 196)]), oT 198 (.call (.func 21) [(oO 195), (oO 197)]), oT 192 (.mv (oO 198)), oA 199 (.extr (oO 192) 0), oA 200 (.extr (oO 192) 1), oM 12 199, oT 13 (.mv (oO 200))]) (oK [1, 2, 5, 10, 12, 13] (oS (oS (oR [oM 201 13, oA 202 (.bin .neq 41 (oO 201) (oN 0)), oM 203 202, oG 204 203 false (.mv (oO 12)), oG 205 203 false (.call (.func 23) [(oO 204)]), oG 206 203 false (.bin .neq 3 (oO 205) (oN 0)), oA 207 (.pick (oO 203) (.const (.bool true)) (oO 206)), oM 208 207, oG 209 208 false (.mv (oO 12)), oG 210 208 false (.len false (oO 209)), oG 211 208 false (.faddr 10 (oO 2)), oG 212 208 false (.load false 1 (oO 211)), oG 213 208 false (.len false (oO 212)), oG 214 208 false (.bin .neq 3 (oO 210) (oO 213)), oA 215 (.pick (oO 208) (.const (.bool true)) (oO 214))]) (oK [1, 2, 5, 10, 12, 215] (.cond (oO 215) (oS (oR [oA 4 (.mv (.const (.bool false)))]) (oK [4] (.ret))) (.skip)))) (oK [1, 2, 5, 10, 12] (oS (oR [oA 217 (.faddr 10 (oO 2)), oA 218 (.load false 1 (oO 217)), oA 219 (.call (.func 25) [(oO 218)]), oM 220 12, oA 221 (.call (.func 25) [(oO 220)]), oA 222 (.call (.func 24) [(oO 219), (oO 221)]), oM 216 222, oA 223 (.extr (oO 216) 0), oA 224 (.extr (oO 216) 1), oM 14 223, oM 15 224]) (oK [1, 2, 5, 10, 12, 14, 15] (oS (oS (oR [oM 225 15, oA 226 (.bin .neq 41 (oO 225) (oN 0)), oM 227 226, oG 228 227 false (.mv (oO 14)), oG 229 227 false (.call (.func 23) [(oO 228)]), oG 230 227 false (.bin .neq 3 (oO 229) (oN 0)), oA 231 (.pick (oO 227) (.const (.bool true)) (oO 230))]) (oK [1, 2, 5, 10, 12, 14, 15, 231] (.cond (oO 231) (oS (oR [oM 232 15, oA 233 (.bin .eql 41 (oO 232) (oN 8)), oM 4 233]) (oK [4] (.ret))) (.skip)))) (oK [1, 2, 5, 10, 12, 14] (oS (oR [oA 235 (.faddr 10 (oO 2)), oA 236 (.load false 1 (oO 235)), oA 237 (.call (.func 25) [(oO 236)]), oM 238 14, oA 239 (.call (.func 25) [(oO 238)]), oA 240 (.call (.func 26) [(oO 237), (oO 239)]), oM 234 240, oA 241 (.extr (oO 234) 0), oA 242 (.extr (oO 234) 1), oA 243 (.extr (oO 234) 2), oM 16 241, oM 17 242, oM 18 243]) (oK [1, 2, 5, 10, 12, 16, 17, 18] (oS (oS (oR [oM 244 18, oA 245 (.bin .neq 41 (oO 244) (oN 0))]) (oK [1, 2, 5, 10, 12, 16, 17, 18, 245] (.cond (oO 245) (oS (oR [oM 246 18, oA 247 (.bin .eql 41 (oO 246) (oN 27)), oM 248 247, oG 249 248 false (.mv (oO 18)), oG 250 248 false (.bin .eql 41 (oO 249) (oN 8)), oA 251 (.pick (oO 248) (.const (.bool true)) (oO 250)), oM 4 251]) (oK [4] (.ret))) (.skip)))) (oK [1, 2, 5, 10, 12, 16, 17] (oS (oS (oR [oM 252 16, oA 253 (.call (.func 23) [(oO 252)]), oA 254 (.bin .neq 3 (oO 253) (oN 0)), oM 255 254, oG 256 255 false (.mv (oO 16)), oG 257 255 false (.len false (oO 256)), oG 258 255 false (.mv (oO 12)), oG 259 255 false (.len false (oO 258)), oG 260 255 false (.bin .neq 3 (oO 257) (oO 259)), oA 261 (.pick (oO 255) (.const (.bool true)) (oO 260)), oM 262 261, oG 263 262 false (.mv (oO 17)), oG 264 262 false (.call (.func 27) [(oO 263), (oN 1), (oN 10000000)]), oG 265 262 false (.un .not (oO 264)), oA 266 (.pick (oO 262) (.const (.bool true)) (oO 265))]) (oK [1, 2, 5, 10, 16, 17, 266] (.cond (oO 266) (oS (oR [oA 4 (.mv (.const (.bool false)))]) (oK [4] (.ret))) (.skip)))) (oK [1, 2, 5, 10, 16, 17] (oS (oR [oM 268 16, oA 269 (.call (.func 25) [(oO 268)]), oA 270 (.call (.func 28) [(oO 269)]), oM 267 270, oA 271 (.extr (oO 267) 0), oA 272 (.extr (oO 267) 1), oM 19 271, oM 20 272]) (oK [1, 2, 5, 10, 17, 19, 20] (oS (oS (oR [oM 273 20, oA 274 (.bin .neq 41 (oO 273) (oN 0)), oM 275 274, oG 276 275 false (.mv (oO 19)), oG 277 275 false (.len false (oO 276)), oG 278 275 false (.mv (oO 10)), oG 279 275 false (.len false (oO 278)), oG 280 275 false (.bin .neq 3 (oO 277) (oO 279)), oA 281 (.pick (oO 275) (.const (.bool true)) (oO 280))]) (oK [1, 2, 5, 17, 19, 281] (.cond (oO 281) (oS (oR [oA 4 (.mv (.const (.bool false)))]) (oK [4] (.ret))) (.skip)))) (oK [1, 2, 5, 17, 19] (oS (oR [oM 282 19, oA 283 (.call (.func 22) [(oO 282)]), oM 21 283]) (oK [1, 2, 5, 17, 21] (oS (oS (oR [oA 22 (.mv (oN 0))]) (oK [1, 2, 5, 17, 21, 22] (.block 0 (.loop c3l1)))) (oK [1, 2, 5, 17, 21] (.fz [21] (oS (oR [oA 332 (.faddr 9 (oO 2)), oA 333 (.load false 1 (oO 332)), oM 334 17, oM 335 21, oA 336 (.build [.int .i64 0, .int .i64 0, .slice none 0 0] [(0, 1, (oO 333)), (1, 1, (oO 334)), (2, 1, (oO 335))]), oA 24 (.alloc [.int .i64 0, .int .i64 0, .slice none 0 0]), ⟨none, none, .store false 3 (oO 24) (oO 336), false⟩]) (oK [1, 2, 5, 24] (oS (oS (oR [oA 337 (.load true 3 (oO 24)), oA 338 (.call (.func 31) [(oO 337)]), oA 339 (.bin .neq 3 (oO 338) (oN 0))]) (oK [1, 2, 5, 24, 339] (.cond (oO 339) (oS (oR [oA 4 (.mv (.const (.bool true)))]) (oK [4] (.ret))) (.skip)))) (oK [1, 2, 5, 24] (oS (oR [oA 341 (.load true 3 (oO 24)), oA 342 (.call (.func 33) [(oO 341)]), oA 343 (.call (.func 32) [(oO 342)]), oM 340 343, oA 344 (.extr (oO 340) 0), oA 345 (.extr (oO 340) 1), oM 25 344, oM 26 345]) (oK [1, 2, 5, 25, 26] (oS (oQ [oA 347 (.faddr 6 (oO 2)), oA 348 (.load true 3 (oO 347)), oA 349 (.call (.func 17) [(oO 348)]), oA 350 (.faddr 4 (oO 5)), oA 351 (.load false 1 (oO 350)), oT 352 (.call (.func 34) [(oO 349), (oO 351)]), oT 346 (.mv (oO 352)), oA 353 (.extr (oO 346) 0), oA 354 (.extr (oO 346) 1), oM 27 353, oT 28 (.mv (oO 354))]) (oK [1, 2, 5, 25, 26, 27, 28] (oS (oS (oR [oM 355 26, oA 356 (.bin .neq 41 (oO 355) (oN 0)), oM 357 356, oG 358 357 false (.mv (oO 28)), oG 359 357 false (.bin .neq 41 (oO 358) (oN 0)), oA 360 (.pick (oO 357) (.const (.bool true)) (oO 359)), oM 361 360, oG 362 361 false (.mv (oO 25)), oG 363 361 false (.len false (oO 362)), oG 364 361 false (.faddr 4 (oO 5)), oG 365 361 false (.load false 1 (oO 364)), oG 366 361 false (.bin .neq 3 (oO 363) (oO 365)), oA 367 (.pick (oO 361) (.const (.bool true)) (oO 366)), oM 368 367, oG 369 368 false (.mv (oO 27)), oG 370 368 false (.len false (oO 369)), oG 371 368 false (.faddr 4 (oO 5)), oG 372 368 false (.load false 1 (oO 371)), oG 373 368 false (.bin .neq 3 (oO 370) (oO 372)), oA 374 (.pick (oO 368) (.const (.bool true)) (oO 373)), oM 375 374, oG 376 375 false (.mv (oO 27)), oG 377 375 false (.call (.func 35) [(oO 376)]), oG 378 375 false (.un .not (oO 377)), oA 379 (.pick (oO 375) (.const (.bool true)) (oO 378))]) (oK [1, 2, 5, 25, 27, 379] (.cond (oO 379) (oS (oR [oA 4 (.mv (.const (.bool false)))]) (oK [4] (.ret))) (.skip)))) (oK [1, 2, 5, 25, 27] (oS (oR [oA 29 (.mv (.const (.slice none 0 0)))]) (oK [1, 2, 5, 25, 27, 29] (.nilrow 29 1 3 (oS (oS (oR [oA 30 (.mv (oN 0))]) (oK [1, 2, 5, 25, 27, 29, 30] (.block 2 (.loop c3l2)))) (oK [1, 2, 5, 29] (.fz [29] (oS (oQ [oM 403 29, oA 404 (.faddr 5 (oO 2)), oA 405 (.load false 1 (oO 404)), oA 406 (.faddr 2 (oO 5)), oA 407 (.load true 2 (oO 406)), oA 408 (.call (.func 7) [(oO 407)]), oT 409 (.call (.func 36) [(oO 403), (oO 405), (oO 408)]), oT 402 (.mv (oO 409)), oA 410 (.extr (oO 402) 0), oA 411 (.extr (oO 402) 1), oM 31 410, oT 32 (.mv (oO 411))]) (oK [1, 5, 31, 32] (oS (oS (oR [oM 412 32, oA 413 (.bin .neq 41 (oO 412) (oN 0)), oM 414 413, oG 415 414 false (.mv (oO 31)), oG 416 414 false (.call (.func 37) [(oO 415)]), oG 417 414 false (.bin .neq 3 (oO 416) (oN 0)), oA 418 (.pick (oO 414) (.const (.bool true)) (oO 417))]) (oK [1, 5, 31, 418] (.cond (oO 418) (oS (oR [oA 4 (.mv (.const (.bool false)))]) (oK [4] (.ret))) (.skip)))) (oK [1, 5, 31] (oS (oR [oA 420 (.load true 5 (oO 5)), oA 421 (.call (.func 13) [(oO 420)]), oM 422 31, oA 423 (.call (.func 38) [(oO 421), (oO 422)]), oM 419 423, oA 424 (.extr (oO 419) 0), oA 425 (.extr (oO 419) 1), oM 33 424, oM 34 425]) (oK [1, 33, 34] (oS (oR [oM 426 34, oA 427 (.bin .eql 41 (oO 426) (oN 0)), oM 428 427, oG 429 428 true (.mv (oO 33)), oG 430 428 true (.mv (oO 1)), oG 431 428 true (.call (.func 39) [(oO 429), (oO 430)]), oA 432 (.pick (oO 428) (oO 431) (.const (.bool false))), oM 4 432]) (oK [4] (.ret)))))))))))))))))))))))))))))))))))))))))))))))))))))))))))))))))))))
def c4 : AC := oS (oR [oA 0 (.mv (.const (.bool false)))]) (oK [] (oS (oR [oA 6 (.build [.int .i64 0, .int .i64 0] [(0, 1, (oN 3)), (1, 1, (oN 3))]), oA 7 (.mkSl false 3 1 [.int .i64 0] 1 [(0, (oN 1))]), oA 8 (.call (.func 40) [(oO 6), (oO 7)]), oM 5 8, oA 9 (.extr (oO 5) 0), oA 10 (.extr (oO 5) 1), oM 1 9, oM 2 10]) (oK [1, 2] (oS (oR [oA 12 (.mkSl false 3 1 [.int .i64 0] 3 [(0, (oN 1)), (1, (oN 2)), (2, (oN 3))]), oA 13 (.build [.int .i64 0, .slice none 0 0] [(0, 1, (oN 2)), (1, 1, (oO 12))]), oA 14 (.mkSl false 3 1 [.int .i64 0] 4 [(0, (oN 4)), (1, (oN 3)), (2, (oN (-2))), (3, (oN (-5)))]), oA 15 (.call (.func 41) [(oO 13), (oO 14)]), oM 11 15, oA 16 (.extr (oO 11) 0), oA 17 (.extr (oO 11) 1), oM 3 16, oM 4 17]) (oK [1, 2, 3, 4] (oS (oR [oM 18 2, oA 19 (.bin .eql 41 (oO 18) (oN 0)), oM 20 19, oG 21 20 true (.mv (oO 1)), oG 22 20 true (.mkSl false 3 1 [.int .i64 0] 3 [(0, (oN 0)), (1, (oN 1)), (2, (oN 1))]), oG 23 20 true (.call (.func 39) [(oO 21), (oO 22)]), oA 24 (.pick (oO 20) (oO 23) (.const (.bool false))), oM 25 24, oG 26 25 true (.mv (oO 4)), oG 27 25 true (.bin .eql 41 (oO 26) (oN 0)), oA 28 (.pick (oO 25) (oO 27) (.const (.bool false))), oM 29 28, oG 30 29 true (.mv (oO 3)), oG 31 29 true (.mkSl false 3 1 [.int .i64 0] 3 [(0, (oN 1)), (1, (oN 0)), (2, (oN 1))]), oG 32 29 true (.call (.func 39) [(oO 30), (oO 31)]), oA 33 (.pick (oO 29) (oO 32) (.const (.bool false))), oM 0 33]) (oK [0] (.ret))))))))
def rv4 : List RV := [.tmp 0]
theorem is4 : FnIs Tryz.prog 4 34 c4 rv4 := ⟨⟨Tryz.f4, _, Tryz.func4, by kernel_rfl, rfl, rfl, by kernel_rfl, by kernel_rfl⟩, by decide⟩
def c5 : AC := oS (oR [oA 0 (.mv (.const (.bool false)))]) (oK [] (oS (oR [oA 6 (.mkSl false 3 1 [.int .i64 0] 4 [(0, (oN 0)), (1, (oN 1)), (2, (oN 1)), (3, (oN 0))]), oA 7 (.call (.func 19) [(oN 4), (oO 6)]), oM 5 7, oA 8 (.extr (oO 5) 0), oA 9 (.extr (oO 5) 1), oM 1 8, oM 2 9]) (oK [1, 2] (oS (oR [oA 11 (.build [.int .i64 0, .int .i64 0] [(0, 1, (oN 5)), (1, 1, (oN 1))]), oA 12 (.mkSl false 62 2 [.int .i64 0, .int .i64 0] 1 [(0, (oO 11))]), oA 13 (.build [.int .i64 0, .int .i64 0, .slice none 0 0] [(0, 1, (oN 4)), (1, 1, (oN 2)), (2, 1, (oO 12))]), oA 14 (.call (.func 32) [(oO 13)]), oM 10 14, oA 15 (.extr (oO 10) 0), oA 16 (.extr (oO 10) 1), oM 3 15, oM 4 16]) (oK [1, 2, 3, 4] (oS (oR [oM 17 2, oA 18 (.bin .eql 41 (oO 17) (oN 0)), oM 19 18, oG 20 19 true (.mv (oO 1)), oG 21 19 true (.build [.int .i64 0, .int .i64 0] [(0, 1, (oN 3)), (1, 1, (oN (-1)))]), oG 22 19 true (.mkSl false 62 2 [.int .i64 0, .int .i64 0] 1 [(0, (oO 21))]), oG 23 19 true (.call (.func 42) [(oO 20), (oO 22)]), oA 24 (.pick (oO 19) (oO 23) (.const (.bool false))), oM 25 24, oG 26 25 true (.mv (oO 4)), oG 27 25 true (.bin .eql 41 (oO 26) (oN 0)), oA 28 (.pick (oO 25) (oO 27) (.const (.bool false))), oM 29 28, oG 30 29 true (.mv (oO 3)), oG 31 29 true (.mkSl false 3 1 [.int .i64 0] 4 [(0, (oN 48)), (1, (oN 8)), (2, (oN (-8))), (3, (oN 24))]), oG 32 29 true (.call (.func 39) [(oO 30), (oO 31)]), oA 33 (.pick (oO 29) (oO 32) (.const (.bool false))), oM 0 33]) (oK [0] (.ret))))))))
def rv5 : List RV := [.tmp 0]
theorem is5 : FnIs Tryz.prog 5 34 c5 rv5 := ⟨⟨Tryz.f5, _, Tryz.func5, by kernel_rfl, rfl, rfl, by kernel_rfl, by kernel_rfl⟩, by decide⟩
def c6 : AC := oS (oR [oA 2 (.box (oO 0)), oA 4 (.mv (.const (.bool false)))]) (oK [1, 2] (oS (oR [oA 5 (.faddr 2 (oO 2)), oA 6 (.faddr 1 (oO 5)), oA 7 (.load false 1 (oO 6)), oA 8 (.len false (oO 7)), oA 9 (.bin .leq 3 (oO 8) (oN 66)), oM 10 9, oG 11 10 true (.load true 5 (oO 2)), oG 12 10 true (.call (.func 43) [(oO 11)]), oG 13 10 true (.bin .eql 3 (oO 12) (oN 0)), oA 14 (.pick (oO 10) (oO 13) (.const (.bool false))), oM 15 14, oG 16 15 true (.faddr 4 (oO 2)), oG 17 15 true (.load false 1 (oO 16)), oG 18 15 true (.bin .leq 3 (oO 17) (oN 80)), oA 19 (.pick (oO 15) (oO 18) (.const (.bool false))), oM 20 19, oG 21 20 true (.mv (oO 1)), oG 22 20 true (.call (.func 15) [(oO 21)]), oG 23 20 true (.bin .eql 3 (oO 22) (oN 0)), oA 24 (.pick (oO 20) (oO 23) (.const (.bool false))), oM 25 24, oG 26 25 true (.mv (oO 1)), oG 27 25 true (.len false (oO 26)), oG 28 25 true (.faddr 0 (oO 2)), oG 29 25 true (.faddr 0 (oO 28)), oG 30 25 true (.load false 1 (oO 29)), oG 31 25 true (.bin .add 3 (oO 27) (oO 30)), oG 32 25 true (.faddr 2 (oO 2)), oG 33 25 true (.faddr 1 (oO 32)), oG 34 25 true (.load false 1 (oO 33)), oG 35 25 true (.len false (oO 34)), oG 36 25 true (.bin .eql 3 (oO 31) (oO 35)), oA 37 (.pick (oO 25) (oO 36) (.const (.bool false))), oM 4 37]) (oK [4] (.ret))))
def rv6 : List RV := [.tmp 4]
theorem is6 : FnIs Tryz.prog 6 38 c6 rv6 := ⟨⟨Tryz.f6, _, Tryz.func6, by kernel_rfl, rfl, rfl, by kernel_rfl, by kernel_rfl⟩, by decide⟩
def c7 : AC := oS (oR [oA 1 (.box (oO 0)), oA 2 (.mv (oN 0))]) (oK [1] (oS (oR [oA 3 (.faddr 0 (oO 1)), oA 4 (.load false 1 (oO 3)), oA 5 (.call (.func 44) [(oO 4)]), oM 2 5]) (oK [2] (.ret))))
def rv7 : List RV := [.tmp 2]
theorem is7 : FnIs Tryz.prog 7 6 c7 rv7 := ⟨⟨Tryz.f7, _, Tryz.func7, by kernel_rfl, rfl, rfl, by kernel_rfl, by kernel_rfl⟩, by decide⟩
def c8 : AC := oS (oR [oA 2 (.mv (oN 0))]) (oK [0] (oS (oS (oR [oM 3 0, oA 4 (.call (.func 27) [(oO 3), (oN 0), (oN 3)]), oA 5 (.un .not (oO 4))]) (oK [5] (.cond (oO 5) (oS (oR [oA 2 (.mv (oN 15))]) (oK [2] (.ret))) (.skip)))) (oK [] (oS (oR [oA 2 (.mv (oN 0))]) (oK [2] (.ret))))))
def rv8 : List RV := [.tmp 2]
theorem is8 : FnIs Tryz.prog 8 6 c8 rv8 := ⟨⟨Tryz.f8, _, Tryz.func8, by kernel_rfl, rfl, rfl, by kernel_rfl, by kernel_rfl⟩, by decide⟩
def mB : AC := oS (oS (oR [oM 12 3, oA 13 (.faddr 1 (oO 1)), oA 14 (.load false 1 (oO 13)), oA 15 (.len false (oO 14)), oA 16 (.bin .lss 3 (oO 12) (oO 15))]) (oK [1, 3, 16] (.cond (oO 16) (.skip) (.exit 0)))) (oK [1, 3] (oS (.block 1 (oS (oS (oQ [oA 19 (.faddr 1 (oO 1)), oA 20 (.load false 1 (oO 19)), oA 21 (.mvs (oO 3)), oA 22 (.iaddr 1 [.int .i64 0] (oO 20) (oO 21)), oA 23 (.load false 1 (oO 22)), oA 24 (.faddr 0 (oO 1)), oA 25 (.load false 1 (oO 24)), oA 26 (.bin .sub 3 (oO 25) (oN 1)), oT 27 (.call (.func 27) [(oO 23), (oN 0), (oO 26)]), oT 28 (.un .not (oO 27))]) (oK [1, 3, 28] (.cond (oO 28) (oS (oR [oA 2 (.mv (oN 2))]) (oK [2] (.ret))) (.skip)))) (oK [1, 3] (oS (oQ [oT 29 (.mv (oO 3)), oT 30 (.bin .gtr 3 (oO 29) (oN 0)), oT 31 (.mv (oO 30)), oG 32 31 true (.faddr 1 (oO 1)), oG 33 31 true (.load false 1 (oO 32)), oG 34 31 true (.mv (oO 3)), oG 35 31 true (.iaddr 1 [.int .i64 0] (oO 33) (oO 34)), oG 36 31 true (.load false 1 (oO 35)), oG 37 31 true (.faddr 1 (oO 1)), oG 38 31 true (.load false 1 (oO 37)), oG 39 31 true (.mv (oO 3)), oG 40 31 true (.bin .sub 3 (oO 39) (oN 1)), oG 41 31 true (.iaddr 1 [.int .i64 0] (oO 38) (oO 40)), oG 42 31 true (.load false 1 (oO 41)), ⟨some 43, some (31, true), .bin .leq 3 (oO 36) (oO 42), true⟩, oT 44 (.pick (oO 31) (oO 43) (.const (.bool false)))]) (oK [1, 3, 44] (.cond (oO 44) (oS (oR [oA 2 (.mv (oN 9))]) (oK [2] (.ret))) (.skip))))))) (oK [1, 3] (oR [oM 17 3, oA 18 (.bin .add 3 (oO 17) (oN 1)), oM 3 18]))))
def c9 : AC := oS (oR [oA 1 (.box (oO 0)), oA 2 (.mv (oN 0))]) (oK [1] (oS (oS (oR [oA 4 (.faddr 0 (oO 1)), oA 5 (.load false 1 (oO 4)), oA 6 (.call (.func 27) [(oO 5), (oN 2), (oN 10)]), oA 7 (.un .not (oO 6))]) (oK [1, 7] (.cond (oO 7) (oS (oR [oA 2 (.mv (oN 2))]) (oK [2] (.ret))) (.skip)))) (oK [1] (oS (oS (oR [oA 8 (.faddr 1 (oO 1)), oA 9 (.load false 1 (oO 8)), oA 10 (.len false (oO 9)), oA 11 (.bin .eql 3 (oO 10) (oN 0))]) (oK [1, 11] (.cond (oO 11) (oS (oR [oA 2 (.mv (oN 10))]) (oK [2] (.ret))) (.skip)))) (oK [1] (oS (oS (oR [oA 3 (.mv (oN 0))]) (oK [1, 3] (.block 0 (.loop mB)))) (oK [1] (oS (oS (oR [oA 45 (.faddr 1 (oO 1)), oA 46 (.load false 1 (oO 45)), oA 47 (.iaddr 1 [.int .i64 0] (oO 46) (oN 0)), oA 48 (.load false 1 (oO 47)), oA 49 (.bin .neq 3 (oO 48) (oN 0))]) (oK [1, 49] (.cond (oO 49) (oS (oR [oA 2 (.mv (oN 3))]) (oK [2] (.ret))) (.skip)))) (oK [1] (oS (oS (oR [oA 50 (.faddr 2 (oO 1)), oA 51 (.load false 1 (oO 50)), oA 52 (.len false (oO 51)), oA 53 (.faddr 0 (oO 1)), oA 54 (.load false 1 (oO 53)), oA 55 (.bin .neq 3 (oO 52) (oO 54))]) (oK [1, 55] (.cond (oO 55) (oS (oR [oA 2 (.mv (oN 10))]) (oK [2] (.ret))) (.skip)))) (oK [1] (oS (oS (oR [oA 56 (.faddr 2 (oO 1)), oA 57 (.load false 1 (oO 56)), oA 58 (.call (.func 35) [(oO 57)]), oA 59 (.un .not (oO 58))]) (oK [59] (.cond (oO 59) (oS (oR [oA 2 (.mv (oN 15))]) (oK [2] (.ret))) (.skip)))) (oK [] (oS (oR [oA 2 (.mv (oN 0))]) (oK [2] (.ret))))))))))))))))
def rv9 : List RV := [.tmp 2]
theorem is9 : FnIs Tryz.prog 9 60 c9 rv9 := ⟨⟨Tryz.f9, _, Tryz.func9, by kernel_rfl, rfl, rfl, by kernel_rfl, by kernel_rfl⟩, by decide⟩
def c10 : AC := oS (oR [oA 2 (.mv (oN 0))]) (oK [0] (oS (oS (oR [oM 3 0, oA 4 (.bin .neq 3 (oO 3) (oN 2)), oM 5 4, oG 6 5 true (.mv (oO 0)), oG 7 5 true (.bin .neq 3 (oO 6) (oN 4)), oA 8 (.pick (oO 5) (oO 7) (.const (.bool false))), oM 9 8, oG 10 9 true (.mv (oO 0)), oG 11 9 true (.bin .neq 3 (oO 10) (oN 6)), oA 12 (.pick (oO 9) (oO 11) (.const (.bool false)))]) (oK [12] (.cond (oO 12) (oS (oR [oA 2 (.mv (oN 15))]) (oK [2] (.ret))) (.skip)))) (oK [] (oS (oR [oA 2 (.mv (oN 0))]) (oK [2] (.ret))))))
def rv10 : List RV := [.tmp 2]
theorem is10 : FnIs Tryz.prog 10 13 c10 rv10 := ⟨⟨Tryz.f10, _, Tryz.func10, by kernel_rfl, rfl, rfl, by kernel_rfl, by kernel_rfl⟩, by decide⟩
def c11l1 : AC := oS (oS (oR [oM 41 4, oM 42 0, oM 43 3, oA 44 (.iaddr 1 [.slice none 0 0] (oO 42) (oO 43)), oA 45 (.load false 1 (oO 44)), oA 46 (.len false (oO 45)), oA 47 (.bin .lss 3 (oO 41) (oO 46))]) (oK [0, 3, 4, 47] (.cond (oO 47) (.skip) (.exit 2)))) (oK [0, 3, 4] (oS (.block 3 (oS (oR [oM 50 0, oM 51 3, oA 52 (.iaddr 1 [.slice none 0 0] (oO 50) (oO 51)), oA 53 (.load false 1 (oO 52)), oM 54 4, oA 55 (.iaddr 2 [.int .i64 0, .int .i64 0] (oO 53) (oO 54)), oA 56 (.load true 2 (oO 55)), oA 57 (.call (.func 45) [(oO 56), (oN 1000)]), oA 58 (.un .not (oO 57))]) (oK [0, 3, 4, 58] (.cond (oO 58) (oS (oR [oA 2 (.mv (oN 2))]) (oK [2] (.ret))) (.skip))))) (oK [0, 3, 4] (oR [oM 48 4, oA 49 (.bin .add 3 (oO 48) (oN 1)), oM 4 49]))))
def c11l2 : AC := oS (oS (oR [oM 11 3, oM 12 0, oA 13 (.len false (oO 12)), oA 14 (.bin .lss 3 (oO 11) (oO 13))]) (oK [0, 3, 14] (.cond (oO 14) (.skip) (.exit 0)))) (oK [0, 3] (oS (.block 1 (oS (oS (oQ [oM 17 0, oM 18 3, oT 19 (.iaddr 1 [.slice none 0 0] (oO 17) (oO 18)), oT 20 (.load false 1 (oO 19)), oT 21 (.len false (oO 20)), oT 22 (.bin .eql 3 (oO 21) (oN 0)), oT 23 (.mv (oO 22)), oG 24 23 false (.mv (oO 0)), oG 25 23 false (.mv (oO 3)), oG 26 23 false (.iaddr 1 [.slice none 0 0] (oO 24) (oO 25)), oG 27 23 false (.load false 1 (oO 26)), oG 28 23 false (.len false (oO 27)), oG 29 23 false (.mv (oO 0)), oG 30 23 false (.iaddr 1 [.slice none 0 0] (oO 29) (oN 0)), oG 31 23 false (.load false 1 (oO 30)), oG 32 23 false (.len false (oO 31)), ⟨some 33, some (23, false), .bin .neq 3 (oO 28) (oO 32), true⟩, oT 34 (.pick (oO 23) (.const (.bool true)) (oO 33))]) (oK [0, 3, 34] (.cond (oO 34) (oS (oR [oA 2 (.mv (oN 10))]) (oK [2] (.ret))) (.skip)))) (oK [0, 3] (oS (oS (oR [oM 35 0, oM 36 3, oA 37 (.iaddr 1 [.slice none 0 0] (oO 35) (oO 36)), oA 38 (.load false 1 (oO 37)), oA 39 (.len false (oO 38)), oA 40 (.bin .gtr 3 (oO 39) (oN 4))]) (oK [0, 3, 40] (.cond (oO 40) (oS (oR [oA 2 (.mv (oN 8))]) (oK [2] (.ret))) (.skip)))) (oK [0, 3] (oS (oR [oA 4 (.mv (oN 0))]) (oK [0, 3, 4] (.block 2 (.loop c11l1))))))))) (oK [0, 3] (oR [oM 15 3, oA 16 (.bin .add 3 (oO 15) (oN 1)), oM 3 16]))))
def c11 : AC := oS (oR [oA 2 (.mv (oN 0))]) (oK [0] (oS (oS (oR [oM 5 0, oA 6 (.len false (oO 5)), oA 7 (.bin .eql 3 (oO 6) (oN 0))]) (oK [0, 7] (.cond (oO 7) (oS (oR [oA 2 (.mv (oN 10))]) (oK [2] (.ret))) (.skip)))) (oK [0] (oS (oS (oR [oM 8 0, oA 9 (.len false (oO 8)), oA 10 (.bin .gtr 3 (oO 9) (oN 4))]) (oK [0, 10] (.cond (oO 10) (oS (oR [oA 2 (.mv (oN 8))]) (oK [2] (.ret))) (.skip)))) (oK [0] (oS (oS (oR [oA 3 (.mv (oN 0))]) (oK [0, 3] (.block 0 (.loop c11l2)))) (oK [] (oS (oR [oA 2 (.mv (oN 0))]) (oK [2] (.ret))))))))))
def rv11 : List RV := [.tmp 2]
theorem is11 : FnIs Tryz.prog 11 59 c11 rv11 := ⟨⟨Tryz.f11, _, Tryz.func11, by kernel_rfl, rfl, rfl, by kernel_rfl, by kernel_rfl⟩, by decide⟩
def c12 : AC := oS (oR [oA 3 (.box (oO 0)), oA 6 (.mv (.const (.slice none 0 0))), oA 7 (.mv (oN 0))]) (oK [1, 2, 3] (oS (oQ [oA 9 (.load true 5 (oO 3)), oA 10 (.call (.func 47) [(oO 9)]), oM 11 1, oA 12 (.call (.func 48) [(oO 11)]), oM 13 1, oA 14 (.len false (oO 13)), oA 15 (.faddr 0 (oO 3)), oA 16 (.faddr 0 (oO 15)), oA 17 (.load false 1 (oO 16)), oA 18 (.bin .add 3 (oO 14) (oO 17)), oA 19 (.faddr 2 (oO 3)), oA 20 (.faddr 1 (oO 19)), oA 21 (.load false 1 (oO 20)), oA 22 (.len false (oO 21)), oA 23 (.bin .eql 3 (oO 18) (oO 22)), oA 24 (.call (.func 49) [(oO 23), (oN 10)]), oM 25 2, oT 26 (.call (.func 50) [(oO 25)]), oT 27 (.call (.func 49) [(oO 26), (oN 15)]), oT 28 (.mkSl false 41 1 [.int .i64 0] 4 [(0, (oO 10)), (1, (oO 12)), (2, (oO 24)), (3, (oO 27))]), oT 29 (.call (.func 46) [(oO 28)]), oT 8 (.mv (oO 29))]) (oK [1, 2, 3, 8] (oS (oS (oR [oM 30 8, oA 31 (.bin .neq 41 (oO 30) (oN 0))]) (oK [1, 2, 3, 8, 31] (.cond (oO 31) (oS (oR [oM 32 8, oA 6 (.mv (.const (.slice none 0 0))), oM 7 32]) (oK [6, 7] (.ret))) (.skip)))) (oK [1, 2, 3] (oS (oQ [oA 33 (.faddr 2 (oO 3)), oA 34 (.load true 2 (oO 33)), oA 35 (.faddr 0 (oO 3)), oA 36 (.load true 2 (oO 35)), oM 37 1, oA 38 (.call (.func 53) [(oO 36), (oO 37)]), oA 39 (.call (.func 52) [(oO 34), (oO 38)]), oA 40 (.mvs (oO 2)), oA 41 (.faddr 4 (oO 3)), oA 42 (.load false 1 (oO 41)), oT 43 (.call (.func 51) [(oO 39), (oO 40), (oO 42)]), oT 6 (.mv (oO 43)), oT 7 (.mv (oN 0))]) (oK [6, 7] (.ret))))))))
def rv12 : List RV := [.tmp 6, .tmp 7]
theorem is12 : FnIs Tryz.prog 12 44 c12 rv12 := ⟨⟨Tryz.f12, _, Tryz.func12, by kernel_rfl, rfl, rfl, by kernel_rfl, by kernel_rfl⟩, by decide⟩
def c13 : AC := oS (oR [oA 1 (.box (oO 0)), oA 2 (.alloc [.int .i64 0, .int .i64 0, .int .i64 0, .slice none 0 0, .int .i64 0])]) (oK [1, 2] (oS (oQ [oA 3 (.faddr 0 (oO 1)), oA 4 (.load true 2 (oO 3)), oA 5 (.faddr 2 (oO 1)), oA 6 (.load true 2 (oO 5)), oA 7 (.call (.func 54) [(oO 6)]), oA 8 (.faddr 4 (oO 1)), oA 9 (.load false 1 (oO 8)), oT 10 (.build [.int .i64 0, .int .i64 0, .int .i64 0, .slice none 0 0, .int .i64 0] [(0, 2, (oO 4)), (2, 2, (oO 7)), (4, 1, (oO 9))]), ⟨none, none, .store false 5 (oO 2) (oO 10), true⟩]) (oK [2] (.ret))))
def rv13 : List RV := [.cell 2 true 5]
theorem is13 : FnIs Tryz.prog 13 11 c13 rv13 := ⟨⟨Tryz.f13, _, Tryz.func13, by kernel_rfl, rfl, rfl, by kernel_rfl, by kernel_rfl⟩, by decide⟩
def c14 : AC := oS (oR [oA 2 (.mv (.const (.slice none 0 0)))]) (oK [0] (oS (oR [oA 3 (.mkSl true 3 1 [.int .i64 0] 0 []), oM 4 0, oA 5 (.app 24 3 1 8 [.int .i64 0] (oO 3) (oO 4)), oM 2 5]) (oK [2] (.ret))))
def rv14 : List RV := [.tmp 2]
theorem is14 : FnIs Tryz.prog 14 6 c14 rv14 := ⟨⟨Tryz.f14, _, Tryz.func14, by kernel_rfl, rfl, rfl, by kernel_rfl, by kernel_rfl⟩, by decide⟩
def c15 : AC := oS (oR [oA 2 (.mv (oN 0))]) (oK [0] (oS (oS (oR [oM 3 0, oA 4 (.len false (oO 3)), oA 5 (.bin .eql 3 (oO 4) (oN 0))]) (oK [0, 5] (.cond (oO 5) (oS (oR [oA 2 (.mv (oN 10))]) (oK [2] (.ret))) (.skip)))) (oK [0] (oS (oS (oR [oM 6 0, oA 7 (.len false (oO 6)), oA 8 (.bin .gtr 3 (oO 7) (oN 200))]) (oK [0, 8] (.cond (oO 8) (oS (oR [oA 2 (.mv (oN 8))]) (oK [2] (.ret))) (.skip)))) (oK [0] (oS (oR [oM 9 0, oA 10 (.call (.func 55) [(oO 9)]), oM 2 10]) (oK [2] (.ret))))))))
def rv15 : List RV := [.tmp 2]
theorem is15 : FnIs Tryz.prog 15 11 c15 rv15 := ⟨⟨Tryz.f15, _, Tryz.func15, by kernel_rfl, rfl, rfl, by kernel_rfl, by kernel_rfl⟩, by decide⟩
def c17 : AC := oS (oR [oA 1 (.box (oO 0)), oA 2 (.alloc [.int .i64 0, .slice none 0 0, .slice none 0 0])]) (oK [1, 2] (oS (oQ [oA 3 (.faddr 0 (oO 1)), oA 4 (.load false 1 (oO 3)), oA 5 (.faddr 1 (oO 1)), oA 6 (.load false 1 (oO 5)), oA 7 (.call (.func 14) [(oO 6)]), oA 8 (.faddr 2 (oO 1)), oA 9 (.load false 1 (oO 8)), oA 10 (.call (.func 14) [(oO 9)]), oT 11 (.build [.int .i64 0, .slice none 0 0, .slice none 0 0] [(0, 1, (oO 4)), (1, 1, (oO 7)), (2, 1, (oO 10))]), ⟨none, none, .store false 3 (oO 2) (oO 11), true⟩]) (oK [2] (.ret))))
def rv17 : List RV := [.cell 2 true 3]
theorem is17 : FnIs Tryz.prog 17 12 c17 rv17 := ⟨⟨Tryz.f17, _, Tryz.func17, by kernel_rfl, rfl, rfl, by kernel_rfl, by kernel_rfl⟩, by decide⟩
def c18 : AC := oS (oR [oA 2 (.mv (oN 0))]) (oK [0] (oS (oS (oR [oM 3 0, oA 4 (.len false (oO 3)), oA 5 (.bin .eql 3 (oO 4) (oN 0))]) (oK [0, 5] (.cond (oO 5) (oS (oR [oA 2 (.mv (oN 10))]) (oK [2] (.ret))) (.skip)))) (oK [0] (oS (oS (oR [oM 6 0, oA 7 (.len false (oO 6)), oA 8 (.bin .gtr 3 (oO 7) (oN 400))]) (oK [0, 8] (.cond (oO 8) (oS (oR [oA 2 (.mv (oN 8))]) (oK [2] (.ret))) (.skip)))) (oK [0] (oS (oS (oR [oM 9 0, oA 10 (.call (.func 35) [(oO 9)]), oA 11 (.un .not (oO 10))]) (oK [11] (.cond (oO 11) (oS (oR [oA 2 (.mv (oN 15))]) (oK [2] (.ret))) (.skip)))) (oK [] (oS (oR [oA 2 (.mv (oN 0))]) (oK [2] (.ret))))))))))
def rv18 : List RV := [.tmp 2]
theorem is18 : FnIs Tryz.prog 18 12 c18 rv18 := ⟨⟨Tryz.f18, _, Tryz.func18, by kernel_rfl, rfl, rfl, by kernel_rfl, by kernel_rfl⟩, by decide⟩
def c19r1 : AC := .block 1 (oQ [oA 27 (.load false 1 (oO 7)), oM 28 8, oA 29 (.call (.func 64) [(oO 28)]), oA 30 (.mkSl false 62 2 [.int .i64 0, .int .i64 0] 1 [(0, (oO 29))]), oT 31 (.app 32 62 2 16 [.int .i64 0, .int .i64 0] (oO 27) (oO 30)), ⟨none, none, .store true 1 (oO 7) (oO 31), true⟩])
def c19 : AC := oS (oR [oA 4 (.mv (.const (.slice none 0 0))), oA 5 (.mv (oN 0))]) (oK [0, 1] (oS (oS (oR [oM 9 0, oA 10 (.call (.func 62) [(oO 9)]), oM 11 1, oA 12 (.call (.func 58) [(oO 11)]), oA 13 (.mkSl false 41 1 [.int .i64 0] 2 [(0, (oO 10)), (1, (oO 12))]), oA 14 (.call (.func 56) [(oO 13)]), oM 6 14]) (oK [0, 1, 6] (oS (oR [oM 15 6, oA 16 (.bin .neq 41 (oO 15) (oN 0))]) (oK [0, 1, 6, 16] (.cond (oO 16) (oS (oR [oM 17 6, oA 4 (.mv (.const (.slice none 0 0))), oM 5 17]) (oK [4, 5] (.ret))) (.skip)))))) (oK [0, 1] (oS (oS (oR [oM 18 1, oA 19 (.len false (oO 18)), oM 20 0, oA 21 (.bin .rem 3 (oO 19) (oO 20)), oA 22 (.bin .neq 3 (oO 21) (oN 0))]) (oK [0, 1, 22] (.cond (oO 22) (oS (oR [oA 4 (.mv (.const (.slice none 0 0))), oA 5 (.mv (oN 10))]) (oK [4, 5] (.ret))) (.skip)))) (oK [0, 1] (oS (oR [oA 7 (.alloc [.slice none 0 0])]) (oK [0, 1, 7] (oS (oS (oR [oM 23 1, oM 24 0, oA 25 (.call (.func 63) [(oO 23), (oO 24)])]) (oK [7, 25] (.block 0 (.rangeFunc (oO 25) [26] (oR [oM 8 26]) c19r1)))) (oK [7] (oS (oR [oA 32 (.load false 1 (oO 7)), oM 4 32, oA 5 (.mv (oN 0))]) (oK [4, 5] (.ret))))))))))))
def rv19 : List RV := [.tmp 4, .tmp 5]
theorem is19 : FnIs Tryz.prog 19 33 c19 rv19 := ⟨⟨Tryz.f19, _, Tryz.func19, by kernel_rfl, rfl, rfl, by kernel_rfl, by kernel_rfl⟩, by decide⟩
def c20l1 : AC := oS (oS (oR [oM 10 3, oM 11 0, oA 12 (.len false (oO 11)), oA 13 (.bin .lss 3 (oO 10) (oO 12))]) (oK [0, 3, 13] (.cond (oO 13) (.skip) (.exit 0)))) (oK [0, 3] (oS (.block 1 (oS (oR [oM 16 0, oM 17 3, oA 18 (.iaddr 2 [.int .i64 0, .int .i64 0] (oO 16) (oO 17)), oA 19 (.load true 2 (oO 18)), oA 20 (.call (.func 45) [(oO 19), (oN 100000000)]), oA 21 (.un .not (oO 20))]) (oK [0, 3, 21] (.cond (oO 21) (oS (oR [oA 2 (.mv (oN 2))]) (oK [2] (.ret))) (.skip))))) (oK [0, 3] (oR [oM 14 3, oA 15 (.bin .add 3 (oO 14) (oN 1)), oM 3 15]))))
def c20 : AC := oS (oR [oA 2 (.mv (oN 0))]) (oK [0] (oS (oS (oR [oM 4 0, oA 5 (.len false (oO 4)), oA 6 (.bin .eql 3 (oO 5) (oN 0))]) (oK [0, 6] (.cond (oO 6) (oS (oR [oA 2 (.mv (oN 10))]) (oK [2] (.ret))) (.skip)))) (oK [0] (oS (oS (oR [oM 7 0, oA 8 (.len false (oO 7)), oA 9 (.bin .gtr 3 (oO 8) (oN 200))]) (oK [0, 9] (.cond (oO 9) (oS (oR [oA 2 (.mv (oN 8))]) (oK [2] (.ret))) (.skip)))) (oK [0] (oS (oS (oR [oA 3 (.mv (oN 0))]) (oK [0, 3] (.block 0 (.loop c20l1)))) (oK [] (oS (oR [oA 2 (.mv (oN 0))]) (oK [2] (.ret))))))))))
def rv20 : List RV := [.tmp 2]
theorem is20 : FnIs Tryz.prog 20 22 c20 rv20 := ⟨⟨Tryz.f20, _, Tryz.func20, by kernel_rfl, rfl, rfl, by kernel_rfl, by kernel_rfl⟩, by decide⟩
def c22 : AC := oS (oR [oA 2 (.mv (.const (.slice none 0 0)))]) (oK [0] (oS (oR [oA 3 (.mkSl true 62 2 [.int .i64 0, .int .i64 0] 0 []), oM 4 0, oA 5 (.app 32 62 2 16 [.int .i64 0, .int .i64 0] (oO 3) (oO 4)), oM 2 5]) (oK [2] (.ret))))
def rv22 : List RV := [.tmp 2]
theorem is22 : FnIs Tryz.prog 22 6 c22 rv22 := ⟨⟨Tryz.f22, _, Tryz.func22, by kernel_rfl, rfl, rfl, by kernel_rfl, by kernel_rfl⟩, by decide⟩
def c23l1 : AC := oS (oS (oR [oM 11 3, oM 12 0, oA 13 (.len false (oO 12)), oA 14 (.bin .lss 3 (oO 11) (oO 13))]) (oK [0, 3, 14] (.cond (oO 14) (.skip) (.exit 0)))) (oK [0, 3] (oS (.block 1 (oS (oS (oR [oM 17 0, oM 18 3, oA 19 (.iaddr 1 [.slice none 0 0] (oO 17) (oO 18)), oA 20 (.load false 1 (oO 19)), oA 21 (.call (.func 20) [(oO 20)]), oM 4 21]) (oK [0, 3, 4] (oS (oR [oM 22 4, oA 23 (.bin .neq 3 (oO 22) (oN 0))]) (oK [0, 3, 4, 23] (.cond (oO 23) (oS (oR [oM 24 4, oM 2 24]) (oK [2] (.ret))) (.skip)))))) (oK [0, 3] (oS (oQ [oM 25 0, oA 26 (.mvs (oO 3)), oA 27 (.iaddr 1 [.slice none 0 0] (oO 25) (oO 26)), oA 28 (.load false 1 (oO 27)), oA 29 (.len false (oO 28)), oM 30 0, oA 31 (.iaddr 1 [.slice none 0 0] (oO 30) (oN 0)), oA 32 (.load false 1 (oO 31)), oA 33 (.len false (oO 32)), oT 34 (.bin .neq 3 (oO 29) (oO 33))]) (oK [0, 3, 34] (.cond (oO 34) (oS (oR [oA 2 (.mv (oN 13))]) (oK [2] (.ret))) (.skip))))))) (oK [0, 3] (oR [oM 15 3, oA 16 (.bin .add 3 (oO 15) (oN 1)), oM 3 16]))))
def c23 : AC := oS (oR [oA 2 (.mv (oN 0))]) (oK [0] (oS (oS (oR [oM 5 0, oA 6 (.len false (oO 5)), oA 7 (.bin .eql 3 (oO 6) (oN 0))]) (oK [0, 7] (.cond (oO 7) (oS (oR [oA 2 (.mv (oN 10))]) (oK [2] (.ret))) (.skip)))) (oK [0] (oS (oS (oR [oM 8 0, oA 9 (.len false (oO 8)), oA 10 (.bin .gtr 3 (oO 9) (oN 4))]) (oK [0, 10] (.cond (oO 10) (oS (oR [oA 2 (.mv (oN 8))]) (oK [2] (.ret))) (.skip)))) (oK [0] (oS (oS (oR [oA 3 (.mv (oN 0))]) (oK [0, 3] (.block 0 (.loop c23l1)))) (oK [] (oS (oR [oA 2 (.mv (oN 0))]) (oK [2] (.ret))))))))))
def rv23 : List RV := [.tmp 2]
theorem is23 : FnIs Tryz.prog 23 35 c23 rv23 := ⟨⟨Tryz.f23, _, Tryz.func23, by kernel_rfl, rfl, rfl, by kernel_rfl, by kernel_rfl⟩, by decide⟩
def c24 : AC := oS (oR [oA 4 (.mv (.const (.slice none 0 0))), oA 5 (.mv (oN 0))]) (oK [0, 1] (oS (oS (oR [oM 7 0, oA 8 (.call (.func 70) [(oO 7)]), oM 9 1, oA 10 (.call (.func 71) [(oO 9)]), oA 11 (.mkSl false 41 1 [.int .i64 0] 2 [(0, (oO 8)), (1, (oO 10))]), oA 12 (.call (.func 56) [(oO 11)]), oM 6 12]) (oK [0, 1, 6] (oS (oR [oM 13 6, oA 14 (.bin .neq 41 (oO 13) (oN 0))]) (oK [0, 1, 6, 14] (.cond (oO 14) (oS (oR [oM 15 6, oA 4 (.mv (.const (.slice none 0 0))), oM 5 15]) (oK [4, 5] (.ret))) (.skip)))))) (oK [0, 1] (oS (oR [oM 16 0, oM 17 1, oA 18 (.call (.func 72) [(oO 16), (oO 17), (oN 100000000)]), oA 19 (.extr (oO 18) 0), oA 20 (.extr (oO 18) 1), oM 4 19, oM 5 20]) (oK [4, 5] (.ret))))))
def rv24 : List RV := [.tmp 4, .tmp 5]
theorem is24 : FnIs Tryz.prog 24 21 c24 rv24 := ⟨⟨Tryz.f24, _, Tryz.func24, by kernel_rfl, rfl, rfl, by kernel_rfl, by kernel_rfl⟩, by decide⟩
def c25l1 : AC := oS (oS (oR [oM 5 4, oM 6 0, oA 7 (.len false (oO 6)), oA 8 (.bin .lss 3 (oO 5) (oO 7))]) (oK [0, 3, 4, 8] (.cond (oO 8) (.skip) (.exit 0)))) (oK [0, 3, 4] (oS (.block 1 (oR [oM 11 3, oM 12 0, oM 13 4, oA 14 (.iaddr 1 [.slice none 0 0] (oO 12) (oO 13)), oA 15 (.load false 1 (oO 14)), oA 16 (.call (.func 22) [(oO 15)]), oA 17 (.mkSl false 32 1 [.slice none 0 0] 1 [(0, (oO 16))]), oA 18 (.app 31 32 1 24 [.slice none 0 0] (oO 11) (oO 17)), oM 3 18])) (oK [0, 3, 4] (oR [oM 9 4, oA 10 (.bin .add 3 (oO 9) (oN 1)), oM 4 10]))))
def c25 : AC := oS (oR [oA 2 (.mv (.const (.slice none 0 0)))]) (oK [0] (oS (oR [oA 3 (.mv (.const (.slice none 0 0)))]) (oK [0, 3] (.nilrow 3 1 32 (oS (oS (oR [oA 4 (.mv (oN 0))]) (oK [0, 3, 4] (.block 0 (.loop c25l1)))) (oK [3] (.fz [3] (oS (oR [oM 19 3, oM 2 19]) (oK [2] (.ret))))))))))
def rv25 : List RV := [.tmp 2]
theorem is25 : FnIs Tryz.prog 25 20 c25 rv25 := ⟨⟨Tryz.f25, _, Tryz.func25, by kernel_rfl, rfl, rfl, by kernel_rfl, by kernel_rfl⟩, by decide⟩
def c27 : AC := oS (oR [oA 6 (.mv (.const (.bool false)))]) (oK [0, 1, 2] (oS (oR [oM 7 1, oM 8 0, oA 9 (.bin .leq 3 (oO 7) (oO 8)), oM 10 9, oG 11 10 true (.mv (oO 0)), oG 12 10 true (.mv (oO 2)), oG 13 10 true (.bin .leq 3 (oO 11) (oO 12)), oA 14 (.pick (oO 10) (oO 13) (.const (.bool false))), oM 6 14]) (oK [6] (.ret))))
def rv27 : List RV := [.tmp 6]
theorem is27 : FnIs Tryz.prog 27 15 c27 rv27 := ⟨⟨Tryz.f27, _, Tryz.func27, by kernel_rfl, rfl, rfl, by kernel_rfl, by kernel_rfl⟩, by decide⟩
def c28l1 : AC := oS (oR [oA 24 (.bin .lss 3 (oO 23) (oO 22))]) (oK [0, 5, 6, 17, 18, 21, 22, 23, 24] (oS (.cond (oO 24) (.skip) (.exit 2)) (oK [0, 5, 6, 17, 18, 21, 22, 23] (oS (.block 3 (oS (oR [oA 25 (.iaddr 1 [.slice none 0 0] (oO 21) (oO 23)), oA 26 (.load false 1 (oO 25)), oM 8 26]) (oK [0, 5, 6, 8, 17, 18, 21, 22, 23] (oR [oM 27 5, oM 28 8, oM 29 6, oA 30 (.iaddr 2 [.int .i64 0, .int .i64 0] (oO 28) (oO 29)), oA 31 (.load true 2 (oO 30)), oA 32 (.mkSl false 62 2 [.int .i64 0, .int .i64 0] 1 [(0, (oO 31))]), oA 33 (.app 32 62 2 16 [.int .i64 0, .int .i64 0] (oO 27) (oO 32)), oM 5 33])))) (oK [0, 5, 6, 17, 18, 21, 22, 23] (oR [oA 34 (.bin .add 3 (oO 23) (oN 1)), oM 23 34]))))))
def c28l2 : AC := oS (oR [oA 19 (.bin .lss 3 (oO 18) (oO 17))]) (oK [0, 5, 17, 18, 19] (oS (.cond (oO 19) (.skip) (.exit 0)) (oK [0, 5, 17, 18] (oS (.block 1 (oS (oR [oM 20 18, oM 6 20]) (oK [0, 5, 6, 17, 18] (oS (oR [oM 21 0, oA 22 (.len false (oO 21)), oA 23 (.mv (oN 0))]) (oK [0, 5, 6, 17, 18, 21, 22, 23] (.block 2 (.loop c28l1))))))) (oK [0, 5, 17, 18] (oR [oA 35 (.bin .add 3 (oO 18) (oN 1)), oM 18 35]))))))
def c28 : AC := oS (oR [oA 2 (.mv (.const (.slice none 0 0))), oA 3 (.mv (oN 0))]) (oK [0] (oS (oS (oR [oM 9 0, oA 10 (.call (.func 71) [(oO 9)]), oM 4 10]) (oK [0, 4] (oS (oR [oM 11 4, oA 12 (.bin .neq 41 (oO 11) (oN 0))]) (oK [0, 4, 12] (.cond (oO 12) (oS (oR [oM 13 4, oA 2 (.mv (.const (.slice none 0 0))), oM 3 13]) (oK [2, 3] (.ret))) (.skip)))))) (oK [0] (oS (oR [oA 5 (.mv (.const (.slice none 0 0)))]) (oK [0, 5] (.nilrow 5 2 62 (oS (oS (oR [oM 14 0, oA 15 (.iaddr 1 [.slice none 0 0] (oO 14) (oN 0)), oA 16 (.load false 1 (oO 15)), oA 17 (.len false (oO 16)), oA 18 (.mv (oN 0))]) (oK [0, 5, 17, 18] (.block 0 (.loop c28l2)))) (oK [5] (.fz [5] (oS (oR [oM 36 5, oM 2 36, oA 3 (.mv (oN 0))]) (oK [2, 3] (.ret))))))))))))
def rv28 : List RV := [.tmp 2, .tmp 3]
theorem is28 : FnIs Tryz.prog 28 37 c28 rv28 := ⟨⟨Tryz.f28, _, Tryz.func28, by kernel_rfl, rfl, rfl, by kernel_rfl, by kernel_rfl⟩, by decide⟩
def c29 : AC := oS (oR [oA 2 (.box (oO 0)), oA 3 (.box (oO 1)), oA 4 (.alloc [.int .i64 0, .int .i64 0])]) (oK [2, 3, 4] (oS (oR [oA 5 (.faddr 0 (oO 2)), oA 6 (.load false 1 (oO 5)), oA 7 (.faddr 0 (oO 3)), oA 8 (.load false 1 (oO 7)), oA 9 (.bin .add 3 (oO 6) (oO 8)), oA 10 (.faddr 1 (oO 2)), oA 11 (.load false 1 (oO 10)), oA 12 (.faddr 1 (oO 3)), oA 13 (.load false 1 (oO 12)), oA 14 (.bin .add 3 (oO 11) (oO 13)), oA 15 (.build [.int .i64 0, .int .i64 0] [(0, 1, (oO 9)), (1, 1, (oO 14))]), ⟨none, none, .store false 2 (oO 4) (oO 15), false⟩]) (oK [4] (.ret))))
def rv29 : List RV := [.cell 4 true 2]
theorem is29 : FnIs Tryz.prog 29 16 c29 rv29 := ⟨⟨Tryz.f29, _, Tryz.func29, by kernel_rfl, rfl, rfl, by kernel_rfl, by kernel_rfl⟩, by decide⟩
def c30 : AC := oS (oR [oA 4 (.mv (oN 0))]) (oK [0, 1] (oS (oR [oM 5 0, oM 6 1, oA 7 (.bin .rem 3 (oO 5) (oO 6)), oM 0 7]) (oK [0, 1] (oS (oS (oR [oM 8 0, oA 9 (.bin .lss 3 (oO 8) (oN 0))]) (oK [0, 1, 9] (.cond (oO 9) (oR [oM 10 0, oM 11 1, oA 12 (.bin .add 3 (oO 10) (oO 11)), oM 0 12]) (.skip)))) (oK [0] (oS (oR [oM 13 0, oM 4 13]) (oK [4] (.ret))))))))
def rv30 : List RV := [.tmp 4]
theorem is30 : FnIs Tryz.prog 30 14 c30 rv30 := ⟨⟨Tryz.f30, _, Tryz.func30, by kernel_rfl, rfl, rfl, by kernel_rfl, by kernel_rfl⟩, by decide⟩
def c31 : AC := oS (oR [oA 1 (.box (oO 0)), oA 2 (.mv (oN 0))]) (oK [1] (oS (oS (oR [oA 4 (.faddr 0 (oO 1)), oA 5 (.load false 1 (oO 4)), oA 6 (.call (.func 10) [(oO 5)]), oM 3 6]) (oK [1, 3] (oS (oR [oM 7 3, oA 8 (.bin .neq 3 (oO 7) (oN 0))]) (oK [1, 3, 8] (.cond (oO 8) (oS (oR [oM 9 3, oM 2 9]) (oK [2] (.ret))) (.skip)))))) (oK [1] (oS (oS (oR [oA 10 (.faddr 1 (oO 1)), oA 11 (.load false 1 (oO 10)), oA 12 (.call (.func 27) [(oO 11), (oN 1), (oN 10000000)]), oA 13 (.un .not (oO 12))]) (oK [1, 13] (.cond (oO 13) (oS (oR [oA 2 (.mv (oN 2))]) (oK [2] (.ret))) (.skip)))) (oK [1] (oS (oR [oA 14 (.faddr 2 (oO 1)), oA 15 (.load false 1 (oO 14)), oA 16 (.call (.func 20) [(oO 15)]), oM 2 16]) (oK [2] (.ret))))))))
def rv31 : List RV := [.tmp 2]
theorem is31 : FnIs Tryz.prog 31 17 c31 rv31 := ⟨⟨Tryz.f31, _, Tryz.func31, by kernel_rfl, rfl, rfl, by kernel_rfl, by kernel_rfl⟩, by decide⟩
def c32 : AC := oS (oR [oA 1 (.box (oO 0)), oA 2 (.mv (.const (.slice none 0 0))), oA 3 (.mv (oN 0))]) (oK [1] (oS (oS (oR [oA 5 (.load true 3 (oO 1)), oA 6 (.call (.func 79) [(oO 5)]), oM 4 6]) (oK [1, 4] (oS (oR [oM 7 4, oA 8 (.bin .neq 41 (oO 7) (oN 0))]) (oK [1, 4, 8] (.cond (oO 8) (oS (oR [oM 9 4, oA 2 (.mv (.const (.slice none 0 0))), oM 3 9]) (oK [2, 3] (.ret))) (.skip)))))) (oK [1] (oS (oR [oA 10 (.load true 3 (oO 1)), oA 11 (.call (.func 80) [(oO 10), (.func 81)]), oM 2 11, oA 3 (.mv (oN 0))]) (oK [2, 3] (.ret))))))
def rv32 : List RV := [.tmp 2, .tmp 3]
theorem is32 : FnIs Tryz.prog 32 12 c32 rv32 := ⟨⟨Tryz.f32, _, Tryz.func32, by kernel_rfl, rfl, rfl, by kernel_rfl, by kernel_rfl⟩, by decide⟩
def c33 : AC := oS (oR [oA 1 (.box (oO 0)), oA 2 (.alloc [.int .i64 0, .int .i64 0, .slice none 0 0])]) (oK [1, 2] (oS (oQ [oA 3 (.faddr 0 (oO 1)), oA 4 (.load false 1 (oO 3)), oA 5 (.faddr 1 (oO 1)), oA 6 (.load false 1 (oO 5)), oA 7 (.faddr 2 (oO 1)), oA 8 (.load false 1 (oO 7)), oA 9 (.call (.func 22) [(oO 8)]), oT 10 (.build [.int .i64 0, .int .i64 0, .slice none 0 0] [(0, 1, (oO 4)), (1, 1, (oO 6)), (2, 1, (oO 9))]), ⟨none, none, .store false 3 (oO 2) (oO 10), true⟩]) (oK [2] (.ret))))
def rv33 : List RV := [.cell 2 true 3]
theorem is33 : FnIs Tryz.prog 33 11 c33 rv33 := ⟨⟨Tryz.f33, _, Tryz.func33, by kernel_rfl, rfl, rfl, by kernel_rfl, by kernel_rfl⟩, by decide⟩
def c34r1 : AC := .block 1 (oS (oR [oA 23 (.load false 1 (oO 7)), oM 24 8, oA 25 (.mkSl false 3 1 [.int .i64 0] 1 [(0, (oO 24))]), oA 26 (.app 24 3 1 8 [.int .i64 0] (oO 23) (oO 25)), ⟨none, none, .store true 1 (oO 7) (oO 26), false⟩]) (oK [3, 7, 21] (oS (oR [oA 27 (.load false 1 (oO 7)), oA 28 (.len false (oO 27)), oA 29 (.load false 1 (oO 3)), oA 30 (.bin .eql 3 (oO 28) (oO 29))]) (oK [3, 7, 21, 30] (.cond (oO 30) (.exit 0) (.skip))))))
def c34 : AC := oS (oR [oA 2 (.box (oO 0)), oA 3 (.box (oO 1)), oA 4 (.mv (.const (.slice none 0 0))), oA 5 (.mv (oN 0))]) (oK [2, 3] (oS (oS (oQ [oA 9 (.load true 3 (oO 2)), oA 10 (.call (.func 57) [(oO 9)]), oA 11 (.load false 1 (oO 3)), oT 12 (.call (.func 65) [(oO 11), (oN 1), (oN 400)]), oT 13 (.call (.func 69) [(oO 12), (oN 2)]), oT 14 (.mkSl false 41 1 [.int .i64 0] 2 [(0, (oO 10)), (1, (oO 13))]), oT 15 (.call (.func 56) [(oO 14)]), oT 6 (.mv (oO 15))]) (oK [2, 3, 6] (oS (oR [oM 16 6, oA 17 (.bin .neq 41 (oO 16) (oN 0))]) (oK [2, 3, 6, 17] (.cond (oO 17) (oS (oR [oM 18 6, oA 4 (.mv (.const (.slice none 0 0))), oM 5 18]) (oK [4, 5] (.ret))) (.skip)))))) (oK [2, 3] (oS (oR [oA 7 (.alloc [.slice none 0 0])]) (oK [2, 3, 7] (oS (oS (oR [oA 19 (.load true 3 (oO 2)), oA 20 (.call (.func 60) [(oO 19)]), oA 21 (.mkFn (.func 82) [(oO 20)] [])]) (oK [3, 7, 21] (.block 0 (.rangeFunc (oO 21) [22] (oR [oM 8 22]) c34r1)))) (oK [7] (oS (oR [oA 31 (.load false 1 (oO 7)), oM 4 31, oA 5 (.mv (oN 0))]) (oK [4, 5] (.ret))))))))))
def rv34 : List RV := [.tmp 4, .tmp 5]
theorem is34 : FnIs Tryz.prog 34 32 c34 rv34 := ⟨⟨Tryz.f34, _, Tryz.func34, by kernel_rfl, rfl, rfl, by kernel_rfl, by kernel_rfl⟩, by decide⟩
def c35l1 : AC := oS (oS (oR [oM 4 3, oM 5 0, oA 6 (.len false (oO 5)), oA 7 (.bin .lss 3 (oO 4) (oO 6))]) (oK [0, 3, 7] (.cond (oO 7) (.skip) (.exit 0)))) (oK [0, 3] (oS (.block 1 (oS (oR [oM 10 0, oM 11 3, oA 12 (.iaddr 1 [.int .i64 0] (oO 10) (oO 11)), oA 13 (.load false 1 (oO 12)), oA 14 (.bin .neq 3 (oO 13) (oN 0)), oM 15 14, oG 16 15 true (.mv (oO 0)), oG 17 15 true (.mv (oO 3)), oG 18 15 true (.iaddr 1 [.int .i64 0] (oO 16) (oO 17)), oG 19 15 true (.load false 1 (oO 18)), oG 20 15 true (.bin .neq 3 (oO 19) (oN 1)), oA 21 (.pick (oO 15) (oO 20) (.const (.bool false)))]) (oK [0, 3, 21] (.cond (oO 21) (oS (oR [oA 2 (.mv (.const (.bool false)))]) (oK [2] (.ret))) (.skip))))) (oK [0, 3] (oR [oM 8 3, oA 9 (.bin .add 3 (oO 8) (oN 1)), oM 3 9]))))
def c35 : AC := oS (oR [oA 2 (.mv (.const (.bool false)))]) (oK [0] (oS (oS (oR [oA 3 (.mv (oN 0))]) (oK [0, 3] (.block 0 (.loop c35l1)))) (oK [] (oS (oR [oA 2 (.mv (.const (.bool true)))]) (oK [2] (.ret))))))
def rv35 : List RV := [.tmp 2]
theorem is35 : FnIs Tryz.prog 35 22 c35 rv35 := ⟨⟨Tryz.f35, _, Tryz.func35, by kernel_rfl, rfl, rfl, by kernel_rfl, by kernel_rfl⟩, by decide⟩
def c36 : AC := oS (oR [oA 6 (.mv (.const (.slice none 0 0))), oA 7 (.mv (oN 0))]) (oK [0, 1, 2] (oS (oS (oR [oM 9 0, oA 10 (.call (.func 83) [(oO 9)]), oM 11 1, oA 12 (.call (.func 50) [(oO 11)]), oA 13 (.call (.func 49) [(oO 12), (oN 15)]), oM 14 2, oA 15 (.call (.func 84) [(oO 14)]), oA 16 (.call (.func 49) [(oO 15), (oN 2)]), oA 17 (.mkSl false 41 1 [.int .i64 0] 3 [(0, (oO 10)), (1, (oO 13)), (2, (oO 16))]), oA 18 (.call (.func 46) [(oO 17)]), oM 8 18]) (oK [0, 1, 2, 8] (oS (oR [oM 19 8, oA 20 (.bin .neq 41 (oO 19) (oN 0))]) (oK [0, 1, 2, 8, 20] (.cond (oO 20) (oS (oR [oM 21 8, oA 6 (.mv (.const (.slice none 0 0))), oM 7 21]) (oK [6, 7] (.ret))) (.skip)))))) (oK [0, 1, 2] (oS (oR [oM 22 0, oM 23 1, oM 24 2, oA 25 (.call (.func 85) [(oO 22), (oO 23), (oO 24)]), oM 6 25, oA 7 (.mv (oN 0))]) (oK [6, 7] (.ret))))))
def rv36 : List RV := [.tmp 6, .tmp 7]
theorem is36 : FnIs Tryz.prog 36 26 c36 rv36 := ⟨⟨Tryz.f36, _, Tryz.func36, by kernel_rfl, rfl, rfl, by kernel_rfl, by kernel_rfl⟩, by decide⟩
def c37 : AC := oS (oR [oA 2 (.mv (oN 0))]) (oK [0] (oS (oR [oM 3 0, oA 4 (.call (.func 86) [(oO 3), (oN 200), (oN 1000000000)]), oM 2 4]) (oK [2] (.ret))))
def rv37 : List RV := [.tmp 2]
theorem is37 : FnIs Tryz.prog 37 5 c37 rv37 := ⟨⟨Tryz.f37, _, Tryz.func37, by kernel_rfl, rfl, rfl, by kernel_rfl, by kernel_rfl⟩, by decide⟩
def c38 : AC := oS (oR [oA 2 (.box (oO 0)), oA 4 (.mv (.const (.slice none 0 0))), oA 5 (.mv (oN 0))]) (oK [1, 2] (oS (oS (oR [oA 8 (.load true 5 (oO 2)), oA 9 (.call (.func 47) [(oO 8)]), oM 10 1, oA 11 (.call (.func 87) [(oO 10)]), oA 12 (.mkSl false 41 1 [.int .i64 0] 2 [(0, (oO 9)), (1, (oO 11))]), oA 13 (.call (.func 46) [(oO 12)]), oM 6 13]) (oK [1, 2, 6] (oS (oR [oM 14 6, oA 15 (.bin .neq 41 (oO 14) (oN 0))]) (oK [1, 2, 6, 15] (.cond (oO 15) (oS (oR [oM 16 6, oA 4 (.mv (.const (.slice none 0 0))), oM 5 16]) (oK [4, 5] (.ret))) (.skip)))))) (oK [1, 2] (oS (oS (oR [oM 17 1, oA 18 (.len false (oO 17)), oA 19 (.faddr 2 (oO 2)), oA 20 (.faddr 0 (oO 19)), oA 21 (.load false 1 (oO 20)), oA 22 (.bin .shl 3 (oN 1) (oO 21)), oA 23 (.bin .neq 3 (oO 18) (oO 22))]) (oK [1, 2, 23] (.cond (oO 23) (oS (oR [oA 4 (.mv (.const (.slice none 0 0))), oA 5 (.mv (oN 10))]) (oK [4, 5] (.ret))) (.skip)))) (oK [1, 2] (oS (oR [oA 24 (.faddr 2 (oO 2)), oA 25 (.load true 2 (oO 24)), oM 26 1, oA 27 (.call (.func 88) [(oO 25), (oO 26)]), oM 7 27]) (oK [2, 7] (oS (oS (oR [oA 28 (.faddr 0 (oO 2)), oA 29 (.load true 2 (oO 28)), oM 30 7, oA 31 (.call (.func 89) [(oO 29), (oO 30)]), oA 32 (.un .not (oO 31))]) (oK [2, 7, 32] (.cond (oO 32) (oS (oR [oA 4 (.mv (.const (.slice none 0 0))), oA 5 (.mv (oN 21))]) (oK [4, 5] (.ret))) (.skip)))) (oK [2, 7] (oS (oR [oM 33 7, oM 34 7, oA 35 (.len false (oO 34)), oA 36 (.faddr 0 (oO 2)), oA 37 (.faddr 0 (oO 36)), oA 38 (.load false 1 (oO 37)), oA 39 (.bin .sub 3 (oO 35) (oO 38)), oA 40 (.ssl 1 (oO 33) none (some (oO 39)) none), oM 4 40, oA 5 (.mv (oN 0))]) (oK [4, 5] (.ret))))))))))))
def rv38 : List RV := [.tmp 4, .tmp 5]
theorem is38 : FnIs Tryz.prog 38 41 c38 rv38 := ⟨⟨Tryz.f38, _, Tryz.func38, by kernel_rfl, rfl, rfl, by kernel_rfl, by kernel_rfl⟩, by decide⟩
def c39l1 : AC := oS (oS (oR [oM 11 5, oM 12 0, oA 13 (.len false (oO 12)), oA 14 (.bin .lss 3 (oO 11) (oO 13))]) (oK [0, 1, 5, 14] (.cond (oO 14) (.skip) (.exit 0)))) (oK [0, 1, 5] (oS (.block 1 (oS (oQ [oM 17 0, oA 18 (.mvs (oO 5)), oA 19 (.iaddr 1 [.int .i64 0] (oO 17) (oO 18)), oA 20 (.load false 1 (oO 19)), oM 21 1, oM 22 5, oA 23 (.iaddr 1 [.int .i64 0] (oO 21) (oO 22)), oA 24 (.load false 1 (oO 23)), oT 25 (.bin .neq 3 (oO 20) (oO 24))]) (oK [0, 1, 5, 25] (.cond (oO 25) (oS (oR [oA 4 (.mv (.const (.bool false)))]) (oK [4] (.ret))) (.skip))))) (oK [0, 1, 5] (oR [oM 15 5, oA 16 (.bin .add 3 (oO 15) (oN 1)), oM 5 16]))))
def c39 : AC := oS (oR [oA 4 (.mv (.const (.bool false)))]) (oK [0, 1] (oS (oS (oR [oM 6 0, oA 7 (.len false (oO 6)), oM 8 1, oA 9 (.len false (oO 8)), oA 10 (.bin .neq 3 (oO 7) (oO 9))]) (oK [0, 1, 10] (.cond (oO 10) (oS (oR [oA 4 (.mv (.const (.bool false)))]) (oK [4] (.ret))) (.skip)))) (oK [0, 1] (oS (oS (oR [oA 5 (.mv (oN 0))]) (oK [0, 1, 5] (.block 0 (.loop c39l1)))) (oK [] (oS (oR [oA 4 (.mv (.const (.bool true)))]) (oK [4] (.ret))))))))
def rv39 : List RV := [.tmp 4]
theorem is39 : FnIs Tryz.prog 39 26 c39 rv39 := ⟨⟨Tryz.f39, _, Tryz.func39, by kernel_rfl, rfl, rfl, by kernel_rfl, by kernel_rfl⟩, by decide⟩
def c40 : AC := oS (oR [oA 2 (.box (oO 0)), oA 4 (.mv (.const (.slice none 0 0))), oA 5 (.mv (oN 0))]) (oK [1, 2] (oS (oS (oR [oA 7 (.load true 2 (oO 2)), oA 8 (.call (.func 90) [(oO 7)]), oM 9 1, oA 10 (.call (.func 48) [(oO 9)]), oA 11 (.mkSl false 41 1 [.int .i64 0] 2 [(0, (oO 8)), (1, (oO 10))]), oA 12 (.call (.func 46) [(oO 11)]), oM 6 12]) (oK [1, 2, 6] (oS (oR [oM 13 6, oA 14 (.bin .neq 41 (oO 13) (oN 0))]) (oK [1, 2, 6, 14] (.cond (oO 14) (oS (oR [oM 15 6, oA 4 (.mv (.const (.slice none 0 0))), oM 5 15]) (oK [4, 5] (.ret))) (.skip)))))) (oK [1, 2] (oS (oR [oA 16 (.load true 2 (oO 2)), oM 17 1, oA 18 (.call (.func 91) [(oO 16), (oO 17)]), oM 4 18, oA 5 (.mv (oN 0))]) (oK [4, 5] (.ret))))))
def rv40 : List RV := [.tmp 4, .tmp 5]
theorem is40 : FnIs Tryz.prog 40 19 c40 rv40 := ⟨⟨Tryz.f40, _, Tryz.func40, by kernel_rfl, rfl, rfl, by kernel_rfl, by kernel_rfl⟩, by decide⟩
def c41 : AC := oS (oR [oA 2 (.box (oO 0)), oA 4 (.mv (.const (.slice none 0 0))), oA 5 (.mv (oN 0))]) (oK [1, 2] (oS (oS (oR [oA 7 (.load true 2 (oO 2)), oA 8 (.call (.func 92) [(oO 7)]), oM 9 1, oA 10 (.call (.func 83) [(oO 9)]), oA 11 (.mkSl false 41 1 [.int .i64 0] 2 [(0, (oO 8)), (1, (oO 10))]), oA 12 (.call (.func 46) [(oO 11)]), oM 6 12]) (oK [1, 2, 6] (oS (oR [oM 13 6, oA 14 (.bin .neq 41 (oO 13) (oN 0))]) (oK [1, 2, 6, 14] (.cond (oO 14) (oS (oR [oM 15 6, oA 4 (.mv (.const (.slice none 0 0))), oM 5 15]) (oK [4, 5] (.ret))) (.skip)))))) (oK [1, 2] (oS (oS (oR [oM 16 1, oA 17 (.len false (oO 16)), oA 18 (.faddr 0 (oO 2)), oA 19 (.load false 1 (oO 18)), oA 20 (.bin .shl 3 (oN 1) (oO 19)), oA 21 (.bin .neq 3 (oO 17) (oO 20))]) (oK [1, 2, 21] (.cond (oO 21) (oS (oR [oA 4 (.mv (.const (.slice none 0 0))), oA 5 (.mv (oN 10))]) (oK [4, 5] (.ret))) (.skip)))) (oK [1, 2] (oS (oR [oA 22 (.load true 2 (oO 2)), oM 23 1, oA 24 (.call (.func 88) [(oO 22), (oO 23)]), oM 4 24, oA 5 (.mv (oN 0))]) (oK [4, 5] (.ret))))))))
def rv41 : List RV := [.tmp 4, .tmp 5]
theorem is41 : FnIs Tryz.prog 41 25 c41 rv41 := ⟨⟨Tryz.f41, _, Tryz.func41, by kernel_rfl, rfl, rfl, by kernel_rfl, by kernel_rfl⟩, by decide⟩
def c42l1 : AC := oS (oS (oR [oM 11 5, oM 12 0, oA 13 (.len false (oO 12)), oA 14 (.bin .lss 3 (oO 11) (oO 13))]) (oK [0, 1, 5, 14] (.cond (oO 14) (.skip) (.exit 0)))) (oK [0, 1, 5] (oS (.block 1 (oS (oQ [oM 17 0, oA 18 (.mvs (oO 5)), oA 19 (.iaddr 2 [.int .i64 0, .int .i64 0] (oO 17) (oO 18)), oA 20 (.load true 2 (oO 19)), oM 21 1, oM 22 5, oA 23 (.iaddr 2 [.int .i64 0, .int .i64 0] (oO 21) (oO 22)), oA 24 (.load true 2 (oO 23)), oT 25 (.ext (.eqs true [0, 0]) [(oO 20), (oO 24)])]) (oK [0, 1, 5, 25] (.cond (oO 25) (oS (oR [oA 4 (.mv (.const (.bool false)))]) (oK [4] (.ret))) (.skip))))) (oK [0, 1, 5] (oR [oM 15 5, oA 16 (.bin .add 3 (oO 15) (oN 1)), oM 5 16]))))
def c42 : AC := oS (oR [oA 4 (.mv (.const (.bool false)))]) (oK [0, 1] (oS (oS (oR [oM 6 0, oA 7 (.len false (oO 6)), oM 8 1, oA 9 (.len false (oO 8)), oA 10 (.bin .neq 3 (oO 7) (oO 9))]) (oK [0, 1, 10] (.cond (oO 10) (oS (oR [oA 4 (.mv (.const (.bool false)))]) (oK [4] (.ret))) (.skip)))) (oK [0, 1] (oS (oS (oR [oA 5 (.mv (oN 0))]) (oK [0, 1, 5] (.block 0 (.loop c42l1)))) (oK [] (oS (oR [oA 4 (.mv (.const (.bool true)))]) (oK [4] (.ret))))))))
def rv42 : List RV := [.tmp 4]
theorem is42 : FnIs Tryz.prog 42 26 c42 rv42 := ⟨⟨Tryz.f42, _, Tryz.func42, by kernel_rfl, rfl, rfl, by kernel_rfl, by kernel_rfl⟩, by decide⟩
def c43 : AC := oS (oR [oA 1 (.box (oO 0)), oA 2 (.mv (oN 0))]) (oK [1] (oS (oS (oR [oA 5 (.faddr 0 (oO 1)), oA 6 (.load true 2 (oO 5)), oA 7 (.call (.func 93) [(oO 6)]), oM 3 7]) (oK [1, 3] (oS (oR [oM 8 3, oA 9 (.bin .neq 3 (oO 8) (oN 0))]) (oK [1, 3, 9] (.cond (oO 9) (oS (oR [oM 10 3, oM 2 10]) (oK [2] (.ret))) (.skip)))))) (oK [1] (oS (oS (oR [oA 11 (.faddr 2 (oO 1)), oA 12 (.load true 2 (oO 11)), oA 13 (.call (.func 94) [(oO 12)]), oM 4 13]) (oK [1, 4] (oS (oR [oM 14 4, oA 15 (.bin .neq 3 (oO 14) (oN 0))]) (oK [1, 4, 15] (.cond (oO 15) (oS (oR [oM 16 4, oM 2 16]) (oK [2] (.ret))) (.skip)))))) (oK [1] (oS (oS (oR [oA 17 (.faddr 2 (oO 1)), oA 18 (.faddr 1 (oO 17)), oA 19 (.load false 1 (oO 18)), oA 20 (.len false (oO 19)), oA 21 (.faddr 0 (oO 1)), oA 22 (.faddr 0 (oO 21)), oA 23 (.load false 1 (oO 22)), oA 24 (.bin .leq 3 (oO 20) (oO 23))]) (oK [1, 24] (.cond (oO 24) (oS (oR [oA 2 (.mv (oN 10))]) (oK [2] (.ret))) (.skip)))) (oK [1] (oS (oR [oA 25 (.faddr 4 (oO 1)), oA 26 (.load false 1 (oO 25)), oA 27 (.call (.func 95) [(oO 26)]), oM 2 27]) (oK [2] (.ret))))))))))
def rv43 : List RV := [.tmp 2]
theorem is43 : FnIs Tryz.prog 43 28 c43 rv43 := ⟨⟨Tryz.f43, _, Tryz.func43, by kernel_rfl, rfl, rfl, by kernel_rfl, by kernel_rfl⟩, by decide⟩
def c44l1 : AC := oS (oS (oR [oM 5 4, oM 6 0, oA 7 (.bin .lss 3 (oO 5) (oO 6))]) (oK [0, 3, 4, 7] (.cond (oO 7) (.skip) (.exit 0)))) (oK [0, 3, 4] (oS (.block 1 (oR [oM 10 3, oA 11 (.bin .mul 3 (oN 2) (oO 10)), oM 3 11])) (oK [0, 3, 4] (oR [oM 8 4, oA 9 (.bin .add 3 (oO 8) (oN 1)), oM 4 9]))))
def c44 : AC := oS (oR [oA 2 (.mv (oN 0))]) (oK [0] (oS (oR [oA 3 (.mv (oN 1))]) (oK [0, 3] (oS (oS (oR [oA 4 (.mv (oN 0))]) (oK [0, 3, 4] (.block 0 (.loop c44l1)))) (oK [3] (oS (oR [oM 12 3, oM 2 12]) (oK [2] (.ret))))))))
def rv44 : List RV := [.tmp 2]
theorem is44 : FnIs Tryz.prog 44 13 c44 rv44 := ⟨⟨Tryz.f44, _, Tryz.func44, by kernel_rfl, rfl, rfl, by kernel_rfl, by kernel_rfl⟩, by decide⟩
def c45 : AC := oS (oR [oA 2 (.box (oO 0)), oA 4 (.mv (.const (.bool false)))]) (oK [1, 2] (oS (oR [oA 5 (.faddr 0 (oO 2)), oA 6 (.load false 1 (oO 5)), oM 7 1, oA 8 (.un .neg (oO 7)), oM 9 1, oA 10 (.call (.func 27) [(oO 6), (oO 8), (oO 9)]), oM 11 10, oG 12 11 true (.faddr 1 (oO 2)), oG 13 11 true (.load false 1 (oO 12)), oG 14 11 true (.mv (oO 1)), oG 15 11 true (.un .neg (oO 14)), oG 16 11 true (.mv (oO 1)), oG 17 11 true (.call (.func 27) [(oO 13), (oO 15), (oO 16)]), oA 18 (.pick (oO 11) (oO 17) (.const (.bool false))), oM 4 18]) (oK [4] (.ret))))
def rv45 : List RV := [.tmp 4]
theorem is45 : FnIs Tryz.prog 45 19 c45 rv45 := ⟨⟨Tryz.f45, _, Tryz.func45, by kernel_rfl, rfl, rfl, by kernel_rfl, by kernel_rfl⟩, by decide⟩
def c46l1 : AC := oS (oR [oA 8 (.bin .lss 3 (oO 7) (oO 6))]) (oK [5, 6, 7, 8] (oS (.cond (oO 8) (.skip) (.exit 0)) (oK [5, 6, 7] (oS (.block 1 (oS (oR [oA 9 (.iaddr 1 [.int .i64 0] (oO 5) (oO 7)), oA 10 (.load false 1 (oO 9)), oM 4 10]) (oK [4, 5, 6, 7] (oS (oR [oM 11 4, oA 12 (.bin .neq 41 (oO 11) (oN 0))]) (oK [4, 5, 6, 7, 12] (.cond (oO 12) (oS (oR [oM 13 4, oM 2 13]) (oK [2] (.ret))) (.skip))))))) (oK [5, 6, 7] (oR [oA 14 (.bin .add 3 (oO 7) (oN 1)), oM 7 14]))))))
def c46 : AC := oS (oR [oA 2 (.mv (oN 0))]) (oK [0] (oS (oS (oR [oM 5 0, oA 6 (.len false (oO 5)), oA 7 (.mv (oN 0))]) (oK [5, 6, 7] (.block 0 (.loop c46l1)))) (oK [] (oS (oR [oA 2 (.mv (oN 0))]) (oK [2] (.ret))))))
def rv46 : List RV := [.tmp 2]
theorem is46 : FnIs Tryz.prog 46 15 c46 rv46 := ⟨⟨Tryz.f46, _, Tryz.func46, by kernel_rfl, rfl, rfl, by kernel_rfl, by kernel_rfl⟩, by decide⟩
def c47 : AC := oS (oR [oA 1 (.box (oO 0)), oA 2 (.mv (oN 0))]) (oK [1] (oS (oQ [oA 3 (.faddr 0 (oO 1)), oA 4 (.load true 2 (oO 3)), oA 5 (.call (.func 90) [(oO 4)]), oA 6 (.faddr 2 (oO 1)), oA 7 (.load true 2 (oO 6)), oA 8 (.call (.func 92) [(oO 7)]), oA 9 (.faddr 2 (oO 1)), oA 10 (.faddr 1 (oO 9)), oA 11 (.load false 1 (oO 10)), oA 12 (.len false (oO 11)), oA 13 (.faddr 0 (oO 1)), oA 14 (.faddr 0 (oO 13)), oA 15 (.load false 1 (oO 14)), oA 16 (.bin .gtr 3 (oO 12) (oO 15)), oA 17 (.call (.func 49) [(oO 16), (oN 10)]), oA 18 (.faddr 4 (oO 1)), oA 19 (.load false 1 (oO 18)), oT 20 (.call (.func 96) [(oO 19)]), oT 21 (.call (.func 49) [(oO 20), (oN 2)]), oT 22 (.mkSl false 41 1 [.int .i64 0] 4 [(0, (oO 5)), (1, (oO 8)), (2, (oO 17)), (3, (oO 21))]), oT 23 (.call (.func 46) [(oO 22)]), oT 2 (.mv (oO 23))]) (oK [2] (.ret))))
def rv47 : List RV := [.tmp 2]
theorem is47 : FnIs Tryz.prog 47 24 c47 rv47 := ⟨⟨Tryz.f47, _, Tryz.func47, by kernel_rfl, rfl, rfl, by kernel_rfl, by kernel_rfl⟩, by decide⟩
def c48 : AC := oS (oR [oA 2 (.mv (oN 0))]) (oK [0] (oS (oR [oM 3 0, oA 4 (.call (.func 97) [(oO 3), (oN 200), (.func 98), (oN 15)]), oM 2 4]) (oK [2] (.ret))))
def rv48 : List RV := [.tmp 2]
theorem is48 : FnIs Tryz.prog 48 5 c48 rv48 := ⟨⟨Tryz.f48, _, Tryz.func48, by kernel_rfl, rfl, rfl, by kernel_rfl, by kernel_rfl⟩, by decide⟩
def c49 : AC := oS (oR [oA 4 (.mv (oN 0))]) (oK [0, 1] (oS (oS (oR [oM 5 0]) (oK [1, 5] (.cond (oO 5) (oS (oR [oA 4 (.mv (oN 0))]) (oK [4] (.ret))) (.skip)))) (oK [1] (oS (oR [oM 6 1, oM 4 6]) (oK [4] (.ret))))))
def rv49 : List RV := [.tmp 4]
theorem is49 : FnIs Tryz.prog 49 7 c49 rv49 := ⟨⟨Tryz.f49, _, Tryz.func49, by kernel_rfl, rfl, rfl, by kernel_rfl, by kernel_rfl⟩, by decide⟩
def c50 : AC := oS (oR [oA 2 (.mv (.const (.bool false)))]) (oK [0] (oS (oR [oM 3 0, oA 4 (.call (.func 99) [(oO 3), (oN 0), (oN 3)]), oM 2 4]) (oK [2] (.ret))))
def rv50 : List RV := [.tmp 2]
theorem is50 : FnIs Tryz.prog 50 5 c50 rv50 := ⟨⟨Tryz.f50, _, Tryz.func50, by kernel_rfl, rfl, rfl, by kernel_rfl, by kernel_rfl⟩, by decide⟩
def c51r1 : AC := .block 1 (oQ [oA 17 (.load false 1 (oO 7)), oA 18 (.load false 1 (oO 3)), oM 19 9, oA 20 (.iaddr 1 [.int .i64 0] (oO 18) (oO 19)), oA 21 (.load false 1 (oO 20)), oA 22 (.mkSl false 3 1 [.int .i64 0] 1 [(0, (oO 21))]), oT 23 (.app 24 3 1 8 [.int .i64 0] (oO 17) (oO 22)), ⟨none, none, .store true 1 (oO 7) (oO 23), true⟩])
def c51 : AC := oS (oR [oA 3 (.box (oO 0)), oA 6 (.mv (.const (.slice none 0 0)))]) (oK [1, 2, 3] (oS (oR [oA 7 (.alloc [.slice none 0 0])]) (oK [1, 2, 3, 7] (oS (oS (oR [oA 10 (.load false 1 (oO 3)), oA 11 (.len false (oO 10)), oM 12 1, oM 13 2, oA 14 (.call (.func 100) [(oO 11), (oO 12), (oO 13)])]) (oK [3, 7, 14] (.block 0 (.rangeFunc (oO 14) [15, 16] (oR [oM 9 16]) c51r1)))) (oK [7] (oS (oR [oA 24 (.load false 1 (oO 7)), oM 6 24]) (oK [6] (.ret))))))))
def rv51 : List RV := [.tmp 6]
theorem is51 : FnIs Tryz.prog 51 25 c51 rv51 := ⟨⟨Tryz.f51, _, Tryz.func51, by kernel_rfl, rfl, rfl, by kernel_rfl, by kernel_rfl⟩, by decide⟩
def c53 : AC := oS (oR [oA 2 (.box (oO 0)), oA 4 (.mv (.const (.slice none 0 0)))]) (oK [1, 2] (oS (oR [oM 5 1, oA 6 (.load true 2 (oO 2)), oM 7 1, oA 8 (.call (.func 91) [(oO 6), (oO 7)]), oA 9 (.mkSl false 24 1 [.slice none 0 0] 2 [(0, (oO 5)), (1, (oO 8))]), oA 10 (.call (.func 102) [(oO 9)]), oM 4 10]) (oK [4] (.ret))))
def rv53 : List RV := [.tmp 4]
theorem is53 : FnIs Tryz.prog 53 11 c53 rv53 := ⟨⟨Tryz.f53, _, Tryz.func53, by kernel_rfl, rfl, rfl, by kernel_rfl, by kernel_rfl⟩, by decide⟩
def c54 : AC := oS (oR [oA 1 (.box (oO 0)), oA 2 (.alloc [.int .i64 0, .slice none 0 0])]) (oK [1, 2] (oS (oQ [oA 3 (.faddr 0 (oO 1)), oA 4 (.load false 1 (oO 3)), oA 5 (.faddr 1 (oO 1)), oA 6 (.load false 1 (oO 5)), oA 7 (.call (.func 14) [(oO 6)]), oT 8 (.build [.int .i64 0, .slice none 0 0] [(0, 1, (oO 4)), (1, 1, (oO 7))]), ⟨none, none, .store false 2 (oO 2) (oO 8), true⟩]) (oK [2] (.ret))))
def rv54 : List RV := [.cell 2 true 2]
theorem is54 : FnIs Tryz.prog 54 9 c54 rv54 := ⟨⟨Tryz.f54, _, Tryz.func54, by kernel_rfl, rfl, rfl, by kernel_rfl, by kernel_rfl⟩, by decide⟩
def c55 : AC := oS (oR [oA 2 (.mv (oN 0))]) (oK [0] (oS (oS (oR [oM 3 0, oA 4 (.call (.func 35) [(oO 3)]), oA 5 (.un .not (oO 4))]) (oK [5] (.cond (oO 5) (oS (oR [oA 2 (.mv (oN 15))]) (oK [2] (.ret))) (.skip)))) (oK [] (oS (oR [oA 2 (.mv (oN 0))]) (oK [2] (.ret))))))
def rv55 : List RV := [.tmp 2]
theorem is55 : FnIs Tryz.prog 55 6 c55 rv55 := ⟨⟨Tryz.f55, _, Tryz.func55, by kernel_rfl, rfl, rfl, by kernel_rfl, by kernel_rfl⟩, by decide⟩
def c56l1 : AC := oS (oR [oA 8 (.bin .lss 3 (oO 7) (oO 6))]) (oK [5, 6, 7, 8] (oS (.cond (oO 8) (.skip) (.exit 0)) (oK [5, 6, 7] (oS (.block 1 (oS (oR [oA 9 (.iaddr 1 [.int .i64 0] (oO 5) (oO 7)), oA 10 (.load false 1 (oO 9)), oM 4 10]) (oK [4, 5, 6, 7] (oS (oR [oM 11 4, oA 12 (.bin .neq 41 (oO 11) (oN 0))]) (oK [4, 5, 6, 7, 12] (.cond (oO 12) (oS (oR [oM 13 4, oM 2 13]) (oK [2] (.ret))) (.skip))))))) (oK [5, 6, 7] (oR [oA 14 (.bin .add 3 (oO 7) (oN 1)), oM 7 14]))))))
def c56 : AC := oS (oR [oA 2 (.mv (oN 0))]) (oK [0] (oS (oS (oR [oM 5 0, oA 6 (.len false (oO 5)), oA 7 (.mv (oN 0))]) (oK [5, 6, 7] (.block 0 (.loop c56l1)))) (oK [] (oS (oR [oA 2 (.mv (oN 0))]) (oK [2] (.ret))))))
def rv56 : List RV := [.tmp 2]
theorem is56 : FnIs Tryz.prog 56 15 c56 rv56 := ⟨⟨Tryz.f56, _, Tryz.func56, by kernel_rfl, rfl, rfl, by kernel_rfl, by kernel_rfl⟩, by decide⟩
def c57l1 : AC := oS (oR [oA 26 (.bin .lss 3 (oO 25) (oO 24))]) (oK [1, 4, 23, 24, 25, 26] (oS (.cond (oO 26) (.skip) (.exit 0)) (oK [1, 4, 23, 24, 25] (oS (.block 1 (oS (oR [oA 27 (.iaddr 1 [.int .i64 0] (oO 23) (oO 25)), oA 28 (.load false 1 (oO 27)), oM 6 28]) (oK [1, 4, 6, 23, 24, 25] (oS (oS (oR [oM 29 6, oA 30 (.faddr 0 (oO 1)), oA 31 (.load false 1 (oO 30)), oA 32 (.bin .sub 3 (oO 31) (oN 1)), oA 33 (.call (.func 65) [(oO 29), (oN 0), (oO 32)]), oA 34 (.call (.func 69) [(oO 33), (oN 2)]), oM 35 6, oM 36 4, oA 37 (.bin .gtr 3 (oO 35) (oO 36)), oA 38 (.call (.func 69) [(oO 37), (oN 9)]), oA 39 (.mkSl false 41 1 [.int .i64 0] 2 [(0, (oO 34)), (1, (oO 38))]), oA 40 (.call (.func 56) [(oO 39)]), oM 7 40]) (oK [1, 6, 7, 23, 24, 25] (oS (oR [oM 41 7, oA 42 (.bin .neq 41 (oO 41) (oN 0))]) (oK [1, 6, 7, 23, 24, 25, 42] (.cond (oO 42) (oS (oR [oM 43 7, oM 2 43]) (oK [2] (.ret))) (.skip)))))) (oK [1, 6, 23, 24, 25] (oR [oM 44 6, oM 4 44])))))) (oK [1, 4, 23, 24, 25] (oR [oA 45 (.bin .add 3 (oO 25) (oN 1)), oM 25 45]))))))
def c57 : AC := oS (oR [oA 1 (.box (oO 0)), oA 2 (.mv (oN 0))]) (oK [1] (oS (oS (oQ [oA 8 (.faddr 0 (oO 1)), oA 9 (.load false 1 (oO 8)), oA 10 (.call (.func 65) [(oO 9), (oN 2), (oN 10)]), oA 11 (.call (.func 69) [(oO 10), (oN 2)]), oA 12 (.faddr 1 (oO 1)), oA 13 (.load false 1 (oO 12)), oA 14 (.len false (oO 13)), oA 15 (.bin .gtr 3 (oO 14) (oN 0)), oT 16 (.call (.func 69) [(oO 15), (oN 10)]), oT 17 (.mkSl false 41 1 [.int .i64 0] 2 [(0, (oO 11)), (1, (oO 16))]), oT 18 (.call (.func 56) [(oO 17)]), oT 3 (.mv (oO 18))]) (oK [1, 3] (oS (oR [oM 19 3, oA 20 (.bin .neq 41 (oO 19) (oN 0))]) (oK [1, 3, 20] (.cond (oO 20) (oS (oR [oM 21 3, oM 2 21]) (oK [2] (.ret))) (.skip)))))) (oK [1] (oS (oR [oA 4 (.mv (oN (-1)))]) (oK [1, 4] (oS (oS (oR [oA 22 (.faddr 1 (oO 1)), oA 23 (.load false 1 (oO 22)), oA 24 (.len false (oO 23)), oA 25 (.mv (oN 0))]) (oK [1, 4, 23, 24, 25] (.block 0 (.loop c57l1)))) (oK [1] (oS (oQ [oA 46 (.faddr 1 (oO 1)), oA 47 (.load false 1 (oO 46)), oA 48 (.iaddr 1 [.int .i64 0] (oO 47) (oN 0)), oA 49 (.load false 1 (oO 48)), oA 50 (.bin .eql 3 (oO 49) (oN 0)), oA 51 (.call (.func 69) [(oO 50), (oN 3)]), oA 52 (.faddr 2 (oO 1)), oA 53 (.load false 1 (oO 52)), oA 54 (.len false (oO 53)), oA 55 (.faddr 0 (oO 1)), oA 56 (.load false 1 (oO 55)), oA 57 (.bin .eql 3 (oO 54) (oO 56)), oA 58 (.call (.func 69) [(oO 57), (oN 10)]), oA 59 (.faddr 2 (oO 1)), oA 60 (.load false 1 (oO 59)), oT 61 (.call (.func 103) [(oO 60)]), oT 62 (.call (.func 69) [(oO 61), (oN 15)]), oT 63 (.mkSl false 41 1 [.int .i64 0] 3 [(0, (oO 51)), (1, (oO 58)), (2, (oO 62))]), oT 64 (.call (.func 56) [(oO 63)]), oT 2 (.mv (oO 64))]) (oK [2] (.ret))))))))))
def rv57 : List RV := [.tmp 2]
theorem is57 : FnIs Tryz.prog 57 65 c57 rv57 := ⟨⟨Tryz.f57, _, Tryz.func57, by kernel_rfl, rfl, rfl, by kernel_rfl, by kernel_rfl⟩, by decide⟩
def c58 : AC := oS (oR [oA 2 (.mv (oN 0))]) (oK [0] (oS (oR [oM 3 0, oA 4 (.len false (oO 3)), oA 5 (.bin .gtr 3 (oO 4) (oN 0)), oA 6 (.call (.func 69) [(oO 5), (oN 10)]), oM 7 0, oA 8 (.len false (oO 7)), oA 9 (.bin .leq 3 (oO 8) (oN 400)), oA 10 (.call (.func 69) [(oO 9), (oN 8)]), oM 11 0, oA 12 (.call (.func 103) [(oO 11)]), oA 13 (.call (.func 69) [(oO 12), (oN 15)]), oA 14 (.mkSl false 41 1 [.int .i64 0] 3 [(0, (oO 6)), (1, (oO 10)), (2, (oO 13))]), oA 15 (.call (.func 56) [(oO 14)]), oM 2 15]) (oK [2] (.ret))))
def rv58 : List RV := [.tmp 2]
theorem is58 : FnIs Tryz.prog 58 16 c58 rv58 := ⟨⟨Tryz.f58, _, Tryz.func58, by kernel_rfl, rfl, rfl, by kernel_rfl, by kernel_rfl⟩, by decide⟩
def c59 : AC := oS (oR [oA 2 (.mv (.const (.slice none 0 0)))]) (oK [0] (oS (oS (oR [oM 3 0, oA 4 (.ext (.isnil false) [(oO 3)])]) (oK [0, 4] (.cond (oO 4) (oS (oR [oA 2 (.mv (.const (.slice none 0 0)))]) (oK [2] (.ret))) (.skip)))) (oK [0] (oS (oR [oA 5 (.mkSl true 3 1 [.int .i64 0] 0 []), oM 6 0, oA 7 (.app 24 3 1 8 [.int .i64 0] (oO 5) (oO 6)), oM 2 7]) (oK [2] (.ret))))))
def rv59 : List RV := [.tmp 2]
theorem is59 : FnIs Tryz.prog 59 8 c59 rv59 := ⟨⟨Tryz.f59, _, Tryz.func59, by kernel_rfl, rfl, rfl, by kernel_rfl, by kernel_rfl⟩, by decide⟩
def c60l1 : AC := oS (oR [oA 16 (.bin .lss 3 (oO 15) (oO 14))]) (oK [1, 2, 3, 13, 14, 15, 16] (oS (.cond (oO 16) (.skip) (.exit 0)) (oK [1, 2, 3, 13, 14, 15] (oS (.block 1 (oS (oR [oM 17 15, oA 18 (.iaddr 1 [.int .i64 0] (oO 13) (oO 15)), oA 19 (.load false 1 (oO 18)), oM 4 17, oM 5 19]) (oK [1, 2, 3, 4, 5, 13, 14, 15] (oQ [oA 20 (.faddr 0 (oO 3)), oA 21 (.load false 1 (oO 20)), oA 22 (.mvs (oO 5)), oA 23 (.cvi .u16 (oO 22)), oM 24 4, oA 25 (.bin .shl 92 (oO 23) (oO 24)), oT 26 (.bin .or 92 (oO 21) (oO 25)), oT 27 (.faddr 0 (oO 3)), ⟨none, none, .store false 1 (oO 27) (oO 26), true⟩])))) (oK [1, 2, 3, 13, 14, 15] (oR [oA 28 (.bin .add 3 (oO 15) (oN 1)), oM 15 28]))))))
def c60l2 : AC := oS (oR [oA 33 (.bin .lss 3 (oO 32) (oO 31))]) (oK [2, 3, 30, 31, 32, 33] (oS (.cond (oO 33) (.skip) (.exit 2)) (oK [2, 3, 30, 31, 32] (oS (.block 3 (oS (oR [oA 34 (.iaddr 1 [.int .i64 0] (oO 30) (oO 32)), oA 35 (.load false 1 (oO 34)), oM 7 35]) (oK [2, 3, 7, 30, 31, 32] (oQ [oA 36 (.faddr 1 (oO 3)), oA 37 (.load false 1 (oO 36)), oM 38 7, oA 39 (.bin .shl 92 (.const (.int .u16 1)) (oO 38)), oT 40 (.bin .or 92 (oO 37) (oO 39)), oT 41 (.faddr 1 (oO 3)), ⟨none, none, .store false 1 (oO 41) (oO 40), true⟩])))) (oK [2, 3, 30, 31, 32] (oR [oA 42 (.bin .add 3 (oO 32) (oN 1)), oM 32 42]))))))
def c60 : AC := oS (oR [oA 1 (.box (oO 0)), oA 2 (.alloc [.int .u16 0, .int .u16 0, .int .i64 0])]) (oK [1, 2] (oS (oR [oA 8 (.faddr 0 (oO 1)), oA 9 (.load false 1 (oO 8)), oA 10 (.bin .sub 3 (oO 9) (oN 1)), oA 11 (.build [.int .u16 0, .int .u16 0, .int .i64 0] [(2, 1, (oO 10))]), oA 3 (.alloc [.int .u16 0, .int .u16 0, .int .i64 0]), ⟨none, none, .store false 3 (oO 3) (oO 11), false⟩]) (oK [1, 2, 3] (oS (oS (oR [oA 12 (.faddr 2 (oO 1)), oA 13 (.load false 1 (oO 12)), oA 14 (.len false (oO 13)), oA 15 (.mv (oN 0))]) (oK [1, 2, 3, 13, 14, 15] (.block 0 (.loop c60l1)))) (oK [1, 2, 3] (oS (oS (oR [oA 29 (.faddr 1 (oO 1)), oA 30 (.load false 1 (oO 29)), oA 31 (.len false (oO 30)), oA 32 (.mv (oN 0))]) (oK [2, 3, 30, 31, 32] (.block 2 (.loop c60l2)))) (oK [2, 3] (oS (oR [oA 43 (.load true 3 (oO 3)), ⟨none, none, .store false 3 (oO 2) (oO 43), false⟩]) (oK [2] (.ret))))))))))
def rv60 : List RV := [.cell 2 true 3]
theorem is60 : FnIs Tryz.prog 60 44 c60 rv60 := ⟨⟨Tryz.f60, _, Tryz.func60, by kernel_rfl, rfl, rfl, by kernel_rfl, by kernel_rfl⟩, by decide⟩
def c61l1 : AC := oS (oS (oR [oM 21 5, oA 22 (.bin .neq 92 (oO 21) (.const (.int .u16 0)))]) (oK [0, 3, 4, 5, 22] (.cond (oO 22) (.skip) (.exit 0)))) (oK [0, 3, 4, 5] (oS (.block 1 (oR [oM 27 4, oA 28 (.bin .xor 92 (oO 27) (.const (.int .u16 1))), oM 4 28])) (oK [0, 3, 4, 5] (oR [oM 23 5, oM 24 5, oA 25 (.bin .sub 92 (oO 24) (.const (.int .u16 1))), oA 26 (.bin .and 92 (oO 23) (oO 25)), oM 5 26]))))
def c61 : AC := oS (oR [oA 2 (.mv (oN 0))]) (oK [0] (oS (oR [oM 6 0, oA 7 (.nilc (oO 6)), oA 8 (.faddr 0 (oO 7)), oA 9 (.load false 1 (oO 8)), oA 10 (.bin .and 92 (oO 9) (.const (.int .u16 1))), oA 11 (.cvi .i64 (oO 10)), oM 3 11]) (oK [0, 3] (oS (oR [oA 4 (.mv (.const (.int .u16 0)))]) (oK [0, 3, 4] (oS (oS (oQ [oM 12 0, oA 13 (.nilc (oO 12)), oA 14 (.faddr 0 (oO 13)), oA 15 (.load false 1 (oO 14)), oM 16 0, oA 17 (.nilc (oO 16)), oA 18 (.faddr 1 (oO 17)), oA 19 (.load false 1 (oO 18)), oT 20 (.bin .and 92 (oO 15) (oO 19)), oT 5 (.mv (oO 20))]) (oK [0, 3, 4, 5] (.block 0 (.loop c61l1)))) (oK [0, 3, 4] (oS (oQ [oM 29 0, oM 30 0, oA 31 (.nilc (oO 30)), oA 32 (.faddr 0 (oO 31)), oA 33 (.load false 1 (oO 32)), oA 34 (.bin .shr 92 (oO 33) (.const (.int .u64 1))), oA 35 (.mvs (oO 4)), oM 36 0, oA 37 (.nilc (oO 36)), oA 38 (.faddr 2 (oO 37)), oA 39 (.load false 1 (oO 38)), oA 40 (.bin .shl 92 (oO 35) (oO 39)), oA 41 (.bin .or 92 (oO 34) (oO 40)), oT 42 (.nilc (oO 29)), oT 43 (.faddr 0 (oO 42)), ⟨none, none, .store false 1 (oO 43) (oO 41), true⟩]) (oK [3] (oS (oR [oM 44 3, oM 2 44]) (oK [2] (.ret))))))))))))
def rv61 : List RV := [.tmp 2]
theorem is61 : FnIs Tryz.prog 61 45 c61 rv61 := ⟨⟨Tryz.f61, _, Tryz.func61, by kernel_rfl, rfl, rfl, by kernel_rfl, by kernel_rfl⟩, by decide⟩
def c62 : AC := oS (oR [oA 2 (.mv (oN 0))]) (oK [0] (oS (oR [oA 3 (.mkSl false 3 1 [.int .i64 0] 3 [(0, (oN 2)), (1, (oN 4)), (2, (oN 6))]), oM 4 0, oA 5 (.call (.func 104) [(oO 3), (oO 4)]), oA 6 (.call (.func 69) [(oO 5), (oN 15)]), oM 2 6]) (oK [2] (.ret))))
def rv62 : List RV := [.tmp 2]
theorem is62 : FnIs Tryz.prog 62 7 c62 rv62 := ⟨⟨Tryz.f62, _, Tryz.func62, by kernel_rfl, rfl, rfl, by kernel_rfl, by kernel_rfl⟩, by decide⟩
def c63 : AC := oS (oR [oA 2 (.box (oO 0)), oA 3 (.box (oO 1)), oA 4 (.mv (.const (.nilFunc)))]) (oK [2, 3] (oS (oS (oR [oA 5 (.load false 1 (oO 3)), oA 6 (.bin .lss 3 (oO 5) (oN 1))]) (oK [2, 3, 6] (.cond (oO 6) (oR [⟨some 7, none, .opq (.makeInterface 9 (.const (.string ⟨#[99, 97, 110, 110, 111, 116, 32, 98, 101, 32, 108, 101, 115, 115, 32, 116, 104, 97, 110, 32, 49]⟩))) 20, false⟩, ⟨none, none, .opq (.panic (oO 7)) 0, false⟩]) (.skip)))) (oK [2, 3] (oS (oR [oA 8 (.mkFn (.func 105) [] [(oO 2), (oO 3)]), oM 4 8]) (oK [4] (.ret))))))
def rv63 : List RV := [.tmp 4]
theorem is63 : FnIs Tryz.prog 63 9 c63 rv63 := ⟨⟨Tryz.f63, _, Tryz.func63, by kernel_rfl, rfl, rfl, by kernel_rfl, by kernel_rfl⟩, by decide⟩
def rC : AC := oS (oR [oA 9 (.bin .lss 3 (oO 8) (oO 7))]) (oK [2, 3, 6, 7, 8, 9] (oS (.cond (oO 9) (.skip) (.exit 0)) (oK [2, 3, 6, 7, 8] (oS (.block 1 (oS (oR [oM 10 8, oA 11 (.iaddr 1 [.int .i64 0] (oO 6) (oO 8)), oA 12 (.load false 1 (oO 11)), oM 4 10, oM 5 12]) (oK [2, 3, 4, 5, 6, 7, 8] (oR [oM 13 4, oA 14 (.bin .rem 3 (oO 13) (oN 2)), oM 15 4, oA 16 (.bin .rem 3 (oO 15) (oN 2)), oA 17 (.iarr 2 1 (oO 3) (oO 16)), oA 18 (.load false 1 (oO 17)), oM 19 5, oA 20 (.mkSl false 3 1 [.int .i64 0] 1 [(0, (oO 19))]), oA 21 (.app 24 3 1 8 [.int .i64 0] (oO 18) (oO 20)), oA 22 (.iarr 2 1 (oO 3) (oO 14)), ⟨none, none, .store true 1 (oO 22) (oO 21), false⟩])))) (oK [2, 3, 6, 7, 8] (oR [oA 23 (.bin .add 3 (oO 8) (oN 1)), oM 8 23]))))))
def c64 : AC := oS (oR [oA 2 (.alloc [.int .i64 0, .int .i64 0])]) (oK [0, 2] (oS (oR [oA 3 (.alloc [.slice none 0 0, .slice none 0 0])]) (oK [0, 2, 3] (oS (oS (oR [oM 6 0, oA 7 (.len false (oO 6)), oA 8 (.mv (oN 0))]) (oK [2, 3, 6, 7, 8] (.block 0 (.loop rC)))) (oK [2, 3] (oS (oQ [oA 24 (.iarr 2 1 (oO 3) (oN 0)), oA 25 (.load false 1 (oO 24)), oA 26 (.call (.func 106) [(oO 25)]), oA 27 (.iarr 2 1 (oO 3) (oN 1)), oA 28 (.load false 1 (oO 27)), oT 29 (.call (.func 106) [(oO 28)]), oT 30 (.build [.int .i64 0, .int .i64 0] [(0, 1, (oO 26)), (1, 1, (oO 29))]), ⟨none, none, .store false 2 (oO 2) (oO 30), true⟩]) (oK [2] (.ret))))))))
def rv64 : List RV := [.cell 2 true 2]
theorem is64 : FnIs Tryz.prog 64 31 c64 rv64 := ⟨⟨Tryz.f64, _, Tryz.func64, by kernel_rfl, rfl, rfl, by kernel_rfl, by kernel_rfl⟩, by decide⟩
def c65 : AC := oS (oR [oA 6 (.mv (.const (.bool false)))]) (oK [0, 1, 2] (oS (oR [oM 7 1, oM 8 0, oA 9 (.bin .leq 3 (oO 7) (oO 8)), oM 10 9, oG 11 10 true (.mv (oO 0)), oG 12 10 true (.mv (oO 2)), oG 13 10 true (.bin .leq 3 (oO 11) (oO 12)), oA 14 (.pick (oO 10) (oO 13) (.const (.bool false))), oM 6 14]) (oK [6] (.ret))))
def rv65 : List RV := [.tmp 6]
theorem is65 : FnIs Tryz.prog 65 15 c65 rv65 := ⟨⟨Tryz.f65, _, Tryz.func65, by kernel_rfl, rfl, rfl, by kernel_rfl, by kernel_rfl⟩, by decide⟩
def c66 : AC := oS (oR [oA 4 (.mv (.const (.bool false)))]) (oK [0, 1] (oS (oR [oM 5 0, oM 6 1, oA 7 (.call (.func 107) [(oO 5), (oO 6)]), oA 8 (.bin .geq 3 (oO 7) (oN 0)), oM 4 8]) (oK [4] (.ret))))
def rv66 : List RV := [.tmp 4]
theorem is66 : FnIs Tryz.prog 66 9 c66 rv66 := ⟨⟨Tryz.f66, _, Tryz.func66, by kernel_rfl, rfl, rfl, by kernel_rfl, by kernel_rfl⟩, by decide⟩
def c67 : AC := oS (oR [oA 1 (.box (oO 0)), oA 2 (.mv (.const (.bool false)))]) (oK [1] (oS (oR [oA 3 (.load true 2 (oO 1)), oA 4 (.call (.func 68) [(oO 3), (oN 100000000)]), oA 5 (.un .not (oO 4)), oM 2 5]) (oK [2] (.ret))))
def rv67 : List RV := [.tmp 2]
theorem is67 : FnIs Tryz.prog 67 6 c67 rv67 := ⟨⟨Tryz.f67, _, Tryz.func67, by kernel_rfl, rfl, rfl, by kernel_rfl, by kernel_rfl⟩, by decide⟩
def c68 : AC := oS (oR [oA 2 (.box (oO 0)), oA 4 (.mv (.const (.bool false)))]) (oK [1, 2] (oS (oR [oA 5 (.faddr 0 (oO 2)), oA 6 (.load false 1 (oO 5)), oM 7 1, oA 8 (.call (.func 108) [(oO 6), (oO 7)]), oM 9 8, oG 10 9 true (.faddr 1 (oO 2)), oG 11 9 true (.load false 1 (oO 10)), oG 12 9 true (.mv (oO 1)), oG 13 9 true (.call (.func 108) [(oO 11), (oO 12)]), oA 14 (.pick (oO 9) (oO 13) (.const (.bool false))), oM 4 14]) (oK [4] (.ret))))
def rv68 : List RV := [.tmp 4]
theorem is68 : FnIs Tryz.prog 68 15 c68 rv68 := ⟨⟨Tryz.f68, _, Tryz.func68, by kernel_rfl, rfl, rfl, by kernel_rfl, by kernel_rfl⟩, by decide⟩
def c69 : AC := oS (oR [oA 4 (.mv (oN 0))]) (oK [0, 1] (oS (oS (oR [oM 5 0]) (oK [1, 5] (.cond (oO 5) (oS (oR [oA 4 (.mv (oN 0))]) (oK [4] (.ret))) (.skip)))) (oK [1] (oS (oR [oM 6 1, oM 4 6]) (oK [4] (.ret))))))
def rv69 : List RV := [.tmp 4]
theorem is69 : FnIs Tryz.prog 69 7 c69 rv69 := ⟨⟨Tryz.f69, _, Tryz.func69, by kernel_rfl, rfl, rfl, by kernel_rfl, by kernel_rfl⟩, by decide⟩
def rN : AC := oS (oR [oA 24 (.bin .lss 3 (oO 23) (oO 22))]) (oK [0, 21, 22, 23, 24] (oS (.cond (oO 24) (.skip) (.exit 0)) (oK [0, 21, 22, 23] (oS (.block 1 (oS (oR [oA 25 (.iaddr 1 [.slice none 0 0] (oO 21) (oO 23)), oA 26 (.load false 1 (oO 25)), oM 5 26]) (oK [0, 5, 21, 22, 23] (oS (oR [oM 27 5, oA 28 (.call (.func 66) [(oO 27), (.func 109)]), oM 6 28]) (oK [0, 5, 6, 21, 22, 23] (oS (oR [oM 29 5, oA 30 (.len false (oO 29)), oA 31 (.bin .gtr 3 (oO 30) (oN 0)), oM 32 31, oG 33 32 true (.mv (oO 5)), oG 34 32 true (.len false (oO 33)), oG 35 32 true (.mv (oO 0)), oG 36 32 true (.iaddr 1 [.slice none 0 0] (oO 35) (oN 0)), oG 37 32 true (.load false 1 (oO 36)), oG 38 32 true (.len false (oO 37)), oG 39 32 true (.bin .eql 3 (oO 34) (oO 38)), oA 40 (.pick (oO 32) (oO 39) (.const (.bool false))), oA 41 (.call (.func 69) [(oO 40), (oN 10)]), oM 42 5, oA 43 (.len false (oO 42)), oA 44 (.bin .leq 3 (oO 43) (oN 4)), oA 45 (.call (.func 69) [(oO 44), (oN 8)]), oM 46 6, oA 47 (.un .not (oO 46)), oA 48 (.call (.func 69) [(oO 47), (oN 2)]), oA 49 (.mkSl false 41 1 [.int .i64 0] 3 [(0, (oO 41)), (1, (oO 45)), (2, (oO 48))]), oA 50 (.call (.func 56) [(oO 49)]), oM 7 50]) (oK [0, 7, 21, 22, 23] (oS (oR [oM 51 7, oA 52 (.bin .neq 41 (oO 51) (oN 0))]) (oK [0, 7, 21, 22, 23, 52] (.cond (oO 52) (oS (oR [oM 53 7, oM 2 53]) (oK [2] (.ret))) (.skip))))))))))) (oK [0, 21, 22, 23] (oR [oA 54 (.bin .add 3 (oO 23) (oN 1)), oM 23 54]))))))
def c70 : AC := oS (oR [oA 2 (.mv (oN 0))]) (oK [0] (oS (oS (oR [oM 8 0, oA 9 (.len false (oO 8)), oA 10 (.bin .gtr 3 (oO 9) (oN 0)), oA 11 (.call (.func 69) [(oO 10), (oN 10)]), oM 12 0, oA 13 (.len false (oO 12)), oA 14 (.bin .leq 3 (oO 13) (oN 4)), oA 15 (.call (.func 69) [(oO 14), (oN 8)]), oA 16 (.mkSl false 41 1 [.int .i64 0] 2 [(0, (oO 11)), (1, (oO 15))]), oA 17 (.call (.func 56) [(oO 16)]), oM 3 17]) (oK [0, 3] (oS (oR [oM 18 3, oA 19 (.bin .neq 41 (oO 18) (oN 0))]) (oK [0, 3, 19] (.cond (oO 19) (oS (oR [oM 20 3, oM 2 20]) (oK [2] (.ret))) (.skip)))))) (oK [0] (oS (oS (oR [oM 21 0, oA 22 (.len false (oO 21)), oA 23 (.mv (oN 0))]) (oK [0, 21, 22, 23] (.block 0 (.loop rN)))) (oK [] (oS (oR [oA 2 (.mv (oN 0))]) (oK [2] (.ret))))))))
def rv70 : List RV := [.tmp 2]
theorem is70 : FnIs Tryz.prog 70 55 c70 rv70 := ⟨⟨Tryz.f70, _, Tryz.func70, by kernel_rfl, rfl, rfl, by kernel_rfl, by kernel_rfl⟩, by decide⟩
def c71l1 : AC := oS (oR [oA 23 (.bin .lss 3 (oO 22) (oO 21))]) (oK [0, 20, 21, 22, 23] (oS (.cond (oO 23) (.skip) (.exit 0)) (oK [0, 20, 21, 22] (oS (.block 1 (oS (oR [oA 24 (.iaddr 1 [.slice none 0 0] (oO 20) (oO 22)), oA 25 (.load false 1 (oO 24)), oM 5 25]) (oK [0, 5, 20, 21, 22] (oS (oQ [oM 26 5, oA 27 (.call (.func 110) [(oO 26)]), oM 28 5, oA 29 (.len false (oO 28)), oM 30 0, oA 31 (.iaddr 1 [.slice none 0 0] (oO 30) (oN 0)), oA 32 (.load false 1 (oO 31)), oA 33 (.len false (oO 32)), oA 34 (.bin .eql 3 (oO 29) (oO 33)), oT 35 (.call (.func 69) [(oO 34), (oN 13)]), oT 36 (.mkSl false 41 1 [.int .i64 0] 2 [(0, (oO 27)), (1, (oO 35))]), oT 37 (.call (.func 56) [(oO 36)]), oT 6 (.mv (oO 37))]) (oK [0, 6, 20, 21, 22] (oS (oR [oM 38 6, oA 39 (.bin .neq 41 (oO 38) (oN 0))]) (oK [0, 6, 20, 21, 22, 39] (.cond (oO 39) (oS (oR [oM 40 6, oM 2 40]) (oK [2] (.ret))) (.skip))))))))) (oK [0, 20, 21, 22] (oR [oA 41 (.bin .add 3 (oO 22) (oN 1)), oM 22 41]))))))
def c71 : AC := oS (oR [oA 2 (.mv (oN 0))]) (oK [0] (oS (oS (oR [oM 7 0, oA 8 (.len false (oO 7)), oA 9 (.bin .gtr 3 (oO 8) (oN 0)), oA 10 (.call (.func 69) [(oO 9), (oN 10)]), oM 11 0, oA 12 (.len false (oO 11)), oA 13 (.bin .leq 3 (oO 12) (oN 4)), oA 14 (.call (.func 69) [(oO 13), (oN 8)]), oA 15 (.mkSl false 41 1 [.int .i64 0] 2 [(0, (oO 10)), (1, (oO 14))]), oA 16 (.call (.func 56) [(oO 15)]), oM 3 16]) (oK [0, 3] (oS (oR [oM 17 3, oA 18 (.bin .neq 41 (oO 17) (oN 0))]) (oK [0, 3, 18] (.cond (oO 18) (oS (oR [oM 19 3, oM 2 19]) (oK [2] (.ret))) (.skip)))))) (oK [0] (oS (oS (oR [oM 20 0, oA 21 (.len false (oO 20)), oA 22 (.mv (oN 0))]) (oK [0, 20, 21, 22] (.block 0 (.loop c71l1)))) (oK [] (oS (oR [oA 2 (.mv (oN 0))]) (oK [2] (.ret))))))))
def rv71 : List RV := [.tmp 2]
theorem is71 : FnIs Tryz.prog 71 42 c71 rv71 := ⟨⟨Tryz.f71, _, Tryz.func71, by kernel_rfl, rfl, rfl, by kernel_rfl, by kernel_rfl⟩, by decide⟩
def rO : AC := oS (oR [oA 27 (.bin .lss 3 (oO 26) (oO 25))]) (oK [5, 8, 24, 25, 26, 27] (oS (.cond (oO 27) (.skip) (.exit 0)) (oK [5, 8, 24, 25, 26] (oS (.block 1 (oS (oR [oA 28 (.iaddr 1 [.slice none 0 0] (oO 24) (oO 26)), oA 29 (.load false 1 (oO 28)), oM 10 29]) (oK [5, 8, 10, 24, 25, 26] (oS (oR [oM 30 10, oA 31 (.mkFn (.func 111) [] [(oO 5)]), oA 32 (.call (.func 66) [(oO 30), (oO 31)])]) (oK [5, 8, 24, 25, 26, 32] (.cond (oO 32) (oS (oR [oA 6 (.mv (.const (.slice none 0 0))), oA 7 (.mv (oN 8))]) (oK [6, 7] (.ret))) (.skip))))))) (oK [5, 8, 24, 25, 26] (oR [oA 33 (.bin .add 3 (oO 26) (oN 1)), oM 26 33]))))))
def c72 : AC := oS (oR [oA 5 (.box (oO 2)), oA 6 (.mv (.const (.slice none 0 0))), oA 7 (.mv (oN 0))]) (oK [0, 1, 5] (oS (oS (oR [oM 11 0, oA 12 (.iaddr 1 [.slice none 0 0] (oO 11) (oN 0)), oA 13 (.load false 1 (oO 12)), oA 14 (.len false (oO 13)), oM 15 1, oA 16 (.len false (oO 15)), oA 17 (.bin .neq 3 (oO 14) (oO 16))]) (oK [0, 1, 5, 17] (.cond (oO 17) (oS (oR [oA 6 (.mv (.const (.slice none 0 0))), oA 7 (.mv (oN 13))]) (oK [6, 7] (.ret))) (.skip)))) (oK [0, 1, 5] (oS (oR [oM 18 0, oA 19 (.call (.func 75) [(oO 18)]), oM 20 1, oA 21 (.call (.func 75) [(oO 20)]), oA 22 (.call (.func 77) [(oO 19), (oO 21)]), oA 23 (.call (.func 78) [(oO 22)]), oM 8 23]) (oK [5, 8] (oS (oS (oR [oM 24 8, oA 25 (.len false (oO 24)), oA 26 (.mv (oN 0))]) (oK [5, 8, 24, 25, 26] (.block 0 (.loop rO)))) (oK [8] (oS (oR [oM 34 8, oM 6 34, oA 7 (.mv (oN 0))]) (oK [6, 7] (.ret))))))))))
def rv72 : List RV := [.tmp 6, .tmp 7]
theorem is72 : FnIs Tryz.prog 72 35 c72 rv72 := ⟨⟨Tryz.f72, _, Tryz.func72, by kernel_rfl, rfl, rfl, by kernel_rfl, by kernel_rfl⟩, by decide⟩
def c73 : AC := oS (oR [oA 2 (.alloc [.int .i64 0, .int .i64 0]), oA 3 (.mv (oN 0))]) (oK [0, 2] (oS (oS (oR [oM 5 0, oA 6 (.call (.func 70) [(oO 5)]), oM 4 6]) (oK [0, 2, 4] (oS (oR [oM 7 4, oA 8 (.bin .neq 41 (oO 7) (oN 0))]) (oK [0, 2, 4, 8] (.cond (oO 8) (oS (oR [oA 9 (.build [.int .i64 0, .int .i64 0] []), oM 10 4, ⟨none, none, .store false 2 (oO 2) (oO 9), false⟩, oM 3 10]) (oK [2, 3] (.ret))) (.skip)))))) (oK [0, 2] (oS (.block 0 (oS (oR [oM 12 0, oA 13 (.len false (oO 12)), oM 14 0, oA 15 (.iaddr 1 [.slice none 0 0] (oO 14) (oN 0)), oA 16 (.load false 1 (oO 15)), oA 17 (.len false (oO 16)), oA 18 (.bin .neq 3 (oO 13) (oO 17)), oM 11 18]) (oK [0, 2, 11] (.cond (oO 11) (oS (oR [oA 19 (.build [.int .i64 0, .int .i64 0] []), ⟨none, none, .store false 2 (oO 2) (oO 19), false⟩, oA 3 (.mv (oN 13))]) (oK [2, 3] (.ret))) (oS (oR [oM 21 0, oA 22 (.len false (oO 21)), oA 23 (.bin .eql 3 (oO 22) (oN 1)), oM 20 23]) (oK [0, 2, 20] (.cond (oO 20) (oS (oR [oM 24 0, oA 25 (.iaddr 1 [.slice none 0 0] (oO 24) (oN 0)), oA 26 (.load false 1 (oO 25)), oA 27 (.iaddr 2 [.int .i64 0, .int .i64 0] (oO 26) (oN 0)), oA 28 (.load true 2 (oO 27)), ⟨none, none, .store false 2 (oO 2) (oO 28), false⟩, oA 3 (.mv (oN 0))]) (oK [2, 3] (.ret))) (oS (oR [oM 30 0, oA 31 (.len false (oO 30)), oA 32 (.bin .eql 3 (oO 31) (oN 2)), oM 29 32]) (oK [0, 2, 29] (.cond (oO 29) (oS (oQ [oM 33 0, oA 34 (.iaddr 1 [.slice none 0 0] (oO 33) (oN 0)), oA 35 (.load false 1 (oO 34)), oA 36 (.iaddr 2 [.int .i64 0, .int .i64 0] (oO 35) (oN 0)), oA 37 (.load true 2 (oO 36)), oM 38 0, oA 39 (.iaddr 1 [.slice none 0 0] (oO 38) (oN 1)), oA 40 (.load false 1 (oO 39)), oA 41 (.iaddr 2 [.int .i64 0, .int .i64 0] (oO 40) (oN 1)), oA 42 (.load true 2 (oO 41)), oA 43 (.call (.func 74) [(oO 37), (oO 42)]), oM 44 0, oA 45 (.iaddr 1 [.slice none 0 0] (oO 44) (oN 0)), oA 46 (.load false 1 (oO 45)), oA 47 (.iaddr 2 [.int .i64 0, .int .i64 0] (oO 46) (oN 1)), oA 48 (.load true 2 (oO 47)), oM 49 0, oA 50 (.iaddr 1 [.slice none 0 0] (oO 49) (oN 1)), oA 51 (.load false 1 (oO 50)), oA 52 (.iaddr 2 [.int .i64 0, .int .i64 0] (oO 51) (oN 0)), oA 53 (.load true 2 (oO 52)), oT 54 (.call (.func 74) [(oO 48), (oO 53)]), oT 55 (.call (.func 112) [(oO 43), (oO 54)]), ⟨none, none, .store false 2 (oO 2) (oO 55), true⟩, oT 3 (.mv (oN 0))]) (oK [2, 3] (.ret))) (.skip))))))))))) (oK [2] (oS (oR [oA 56 (.build [.int .i64 0, .int .i64 0] []), ⟨none, none, .store false 2 (oO 2) (oO 56), false⟩, oA 3 (.mv (oN 8))]) (oK [2, 3] (.ret))))))))
def rv73 : List RV := [.cell 2 true 2, .tmp 3]
theorem is73 : FnIs Tryz.prog 73 57 c73 rv73 := ⟨⟨Tryz.f73, _, Tryz.func73, by kernel_rfl, rfl, rfl, by kernel_rfl, by kernel_rfl⟩, by decide⟩
def c74 : AC := oS (oR [oA 2 (.box (oO 0)), oA 3 (.box (oO 1)), oA 4 (.alloc [.int .i64 0, .int .i64 0])]) (oK [2, 3, 4] (oS (oR [oA 5 (.faddr 0 (oO 2)), oA 6 (.load false 1 (oO 5)), oA 7 (.faddr 0 (oO 3)), oA 8 (.load false 1 (oO 7)), oA 9 (.bin .mul 3 (oO 6) (oO 8)), oA 10 (.faddr 1 (oO 2)), oA 11 (.load false 1 (oO 10)), oA 12 (.faddr 1 (oO 3)), oA 13 (.load false 1 (oO 12)), oA 14 (.bin .mul 3 (oO 11) (oO 13)), oA 15 (.bin .sub 3 (oO 9) (oO 14)), oA 16 (.faddr 0 (oO 2)), oA 17 (.load false 1 (oO 16)), oA 18 (.faddr 1 (oO 3)), oA 19 (.load false 1 (oO 18)), oA 20 (.bin .mul 3 (oO 17) (oO 19)), oA 21 (.faddr 1 (oO 2)), oA 22 (.load false 1 (oO 21)), oA 23 (.faddr 0 (oO 3)), oA 24 (.load false 1 (oO 23)), oA 25 (.bin .mul 3 (oO 22) (oO 24)), oA 26 (.bin .add 3 (oO 20) (oO 25)), oA 27 (.build [.int .i64 0, .int .i64 0] [(0, 1, (oO 15)), (1, 1, (oO 26))]), ⟨none, none, .store false 2 (oO 4) (oO 27), false⟩]) (oK [4] (.ret))))
def rv74 : List RV := [.cell 4 true 2]
theorem is74 : FnIs Tryz.prog 74 28 c74 rv74 := ⟨⟨Tryz.f74, _, Tryz.func74, by kernel_rfl, rfl, rfl, by kernel_rfl, by kernel_rfl⟩, by decide⟩
def c75l1 : AC := oS (oR [oA 18 (.bin .lss 3 (oO 17) (oO 16))]) (oK [3, 6, 9, 10, 11, 15, 16, 17, 18] (oS (.cond (oO 18) (.skip) (.exit 2)) (oK [3, 6, 9, 10, 11, 15, 16, 17] (oS (.block 3 (oS (oR [oA 19 (.iaddr 2 [.int .i64 0, .int .i64 0] (oO 15) (oO 17)), oA 20 (.load true 2 (oO 19)), oA 8 (.alloc [.int .i64 0, .int .i64 0]), ⟨none, none, .store false 2 (oO 8) (oO 20), false⟩]) (oK [3, 6, 8, 9, 10, 11, 15, 16, 17] (oR [oM 21 6, oA 22 (.faddr 0 (oO 8)), oA 23 (.load false 1 (oO 22)), oA 24 (.ext .i2f [(oO 23)]), oA 25 (.faddr 1 (oO 8)), oA 26 (.load false 1 (oO 25)), oA 27 (.ext .i2f [(oO 26)]), oA 28 (.ext .cplx [(oO 24), (oO 27)]), oA 29 (.mkSl false 135 1 [.complex .f64 0 0] 1 [(0, (oO 28))]), oA 30 (.app 134 135 1 16 [.complex .f64 0 0] (oO 21) (oO 29)), oM 6 30])))) (oK [3, 6, 9, 10, 11, 15, 16, 17] (oR [oA 31 (.bin .add 3 (oO 17) (oN 1)), oM 17 31]))))))
def c75l2 : AC := oS (oR [oA 12 (.bin .lss 3 (oO 11) (oO 10))]) (oK [3, 9, 10, 11, 12] (oS (.cond (oO 12) (.skip) (.exit 0)) (oK [3, 9, 10, 11] (oS (.block 1 (oS (oR [oA 13 (.iaddr 1 [.slice none 0 0] (oO 9) (oO 11)), oA 14 (.load false 1 (oO 13)), oM 5 14]) (oK [3, 5, 9, 10, 11] (oS (oR [oA 6 (.mv (.const (.slice none 0 0)))]) (oK [3, 5, 6, 9, 10, 11] (.nilrow 6 1 135 (oS (oS (oR [oM 15 5, oA 16 (.len false (oO 15)), oA 17 (.mv (oN 0))]) (oK [3, 6, 9, 10, 11, 15, 16, 17] (.block 2 (.loop c75l1)))) (oK [3, 6, 9, 10, 11] (.fz [6] (oR [oM 32 3, oM 33 6, oA 34 (.mkSl false 134 1 [.slice none 0 0] 1 [(0, (oO 33))]), oA 35 (.app 109 134 1 24 [.slice none 0 0] (oO 32) (oO 34)), oM 3 35])))))))))) (oK [3, 9, 10, 11] (oR [oA 36 (.bin .add 3 (oO 11) (oN 1)), oM 11 36]))))))
def c75 : AC := oS (oR [oA 2 (.mv (.const (.slice none 0 0)))]) (oK [0] (oS (oR [oA 3 (.mv (.const (.slice none 0 0)))]) (oK [0, 3] (.nilrow 3 1 134 (oS (oS (oR [oM 9 0, oA 10 (.len false (oO 9)), oA 11 (.mv (oN 0))]) (oK [3, 9, 10, 11] (.block 0 (.loop c75l2)))) (oK [3] (.fz [3] (oS (oR [oM 37 3, oM 2 37]) (oK [2] (.ret))))))))))
def rv75 : List RV := [.tmp 2]
theorem is75 : FnIs Tryz.prog 75 38 c75 rv75 := ⟨⟨Tryz.f75, _, Tryz.func75, by kernel_rfl, rfl, rfl, by kernel_rfl, by kernel_rfl⟩, by decide⟩
def c76 : AC := oS (oR [oA 2 (.mv (.const (.slice none 0 0)))]) (oK [0] (oS (oS (oR [oM 4 0, oA 5 (.len false (oO 4)), oA 6 (.bin .eql 3 (oO 5) (oN 1))]) (oK [0, 6] (.cond (oO 6) (oS (oR [oA 7 (.build [.int .i64 0, .int .i64 0] [(0, 1, (oN 1))]), oA 8 (.mkSl false 62 2 [.int .i64 0, .int .i64 0] 1 [(0, (oO 7))]), oA 9 (.mkSl false 32 1 [.slice none 0 0] 1 [(0, (oO 8))]), oM 2 9]) (oK [2] (.ret))) (.skip)))) (oK [0] (oS (oR [oA 10 (.build [.int .i64 0, .int .i64 0] []), oA 3 (.alloc [.int .i64 0, .int .i64 0]), ⟨none, none, .store false 2 (oO 3) (oO 10), false⟩]) (oK [0, 3] (oS (oQ [oM 11 0, oA 12 (.iaddr 1 [.slice none 0 0] (oO 11) (oN 1)), oA 13 (.load false 1 (oO 12)), oA 14 (.iaddr 2 [.int .i64 0, .int .i64 0] (oO 13) (oN 1)), oA 15 (.load true 2 (oO 14)), oA 16 (.load true 2 (oO 3)), oM 17 0, oA 18 (.iaddr 1 [.slice none 0 0] (oO 17) (oN 0)), oA 19 (.load false 1 (oO 18)), oA 20 (.iaddr 2 [.int .i64 0, .int .i64 0] (oO 19) (oN 1)), oA 21 (.load true 2 (oO 20)), oA 22 (.call (.func 112) [(oO 16), (oO 21)]), oA 23 (.mkSl false 62 2 [.int .i64 0, .int .i64 0] 2 [(0, (oO 15)), (1, (oO 22))]), oA 24 (.load true 2 (oO 3)), oM 25 0, oA 26 (.iaddr 1 [.slice none 0 0] (oO 25) (oN 1)), oA 27 (.load false 1 (oO 26)), oA 28 (.iaddr 2 [.int .i64 0, .int .i64 0] (oO 27) (oN 0)), oA 29 (.load true 2 (oO 28)), oA 30 (.call (.func 112) [(oO 24), (oO 29)]), oM 31 0, oA 32 (.iaddr 1 [.slice none 0 0] (oO 31) (oN 0)), oA 33 (.load false 1 (oO 32)), oA 34 (.iaddr 2 [.int .i64 0, .int .i64 0] (oO 33) (oN 0)), oA 35 (.load true 2 (oO 34)), oA 36 (.mkSl false 62 2 [.int .i64 0, .int .i64 0] 2 [(0, (oO 30)), (1, (oO 35))]), oT 37 (.mkSl false 32 1 [.slice none 0 0] 2 [(0, (oO 23)), (1, (oO 36))]), oT 2 (.mv (oO 37))]) (oK [2] (.ret))))))))
def rv76 : List RV := [.tmp 2]
theorem is76 : FnIs Tryz.prog 76 38 c76 rv76 := ⟨⟨Tryz.f76, _, Tryz.func76, by kernel_rfl, rfl, rfl, by kernel_rfl, by kernel_rfl⟩, by decide⟩
def c77l1 : AC := oS (oR [oA 37 (.bin .lss 3 (oO 36) (oO 35))]) (oK [1, 5, 8, 10, 13, 14, 15, 24, 25, 26, 34, 35, 36, 37] (oS (.cond (oO 37) (.skip) (.exit 4)) (oK [1, 5, 8, 10, 13, 14, 15, 24, 25, 26, 34, 35, 36] (oS (.block 5 (oS (oR [oM 38 36, oA 39 (.iaddr 1 [.complex .f64 0 0] (oO 34) (oO 36)), oA 40 (.load false 1 (oO 39)), oM 11 38, oM 12 40]) (oK [1, 5, 8, 10, 11, 12, 13, 14, 15, 24, 25, 26, 34, 35, 36] (oR [oM 41 8, oM 42 11, oA 43 (.iaddr 1 [.complex .f64 0 0] (oO 41) (oO 42)), oA 44 (.load false 1 (oO 43)), oM 45 10, oM 46 12, oA 47 (.ext (.cbin .mul) [(oO 45), (oO 46)]), oA 48 (.ext (.cbin .add) [(oO 44), (oO 47)]), oA 49 (.iaddr 1 [.complex .f64 0 0] (oO 41) (oO 42)), ⟨none, none, .store false 1 (oO 49) (oO 48), false⟩])))) (oK [1, 5, 8, 10, 13, 14, 15, 24, 25, 26, 34, 35, 36] (oR [oA 50 (.bin .add 3 (oO 36) (oN 1)), oM 36 50]))))))
def c77l2 : AC := oS (oR [oA 27 (.bin .lss 3 (oO 26) (oO 25))]) (oK [1, 5, 8, 13, 14, 15, 24, 25, 26, 27] (oS (.cond (oO 27) (.skip) (.exit 2)) (oK [1, 5, 8, 13, 14, 15, 24, 25, 26] (oS (.block 3 (oS (oR [oM 28 26, oA 29 (.iaddr 1 [.complex .f64 0 0] (oO 24) (oO 26)), oA 30 (.load false 1 (oO 29)), oM 9 28, oM 10 30]) (oK [1, 5, 8, 9, 10, 13, 14, 15, 24, 25, 26] (oS (oR [oM 31 1, oM 32 9, oA 33 (.iaddr 1 [.slice none 0 0] (oO 31) (oO 32)), oA 34 (.load false 1 (oO 33)), oA 35 (.len false (oO 34)), oA 36 (.mv (oN 0))]) (oK [1, 5, 8, 10, 13, 14, 15, 24, 25, 26, 34, 35, 36] (.block 4 (.loop c77l1))))))) (oK [1, 5, 8, 13, 14, 15, 24, 25, 26] (oR [oA 51 (.bin .add 3 (oO 26) (oN 1)), oM 26 51]))))))
def c77l3 : AC := oS (oR [oA 16 (.bin .lss 3 (oO 15) (oO 14))]) (oK [1, 5, 13, 14, 15, 16] (oS (.cond (oO 16) (.skip) (.exit 0)) (oK [1, 5, 13, 14, 15] (oS (.block 1 (oS (oR [oA 17 (.iaddr 1 [.slice none 0 0] (oO 13) (oO 15)), oA 18 (.load false 1 (oO 17)), oM 7 18]) (oK [1, 5, 7, 13, 14, 15] (oS (oR [oM 19 1, oA 20 (.iaddr 1 [.slice none 0 0] (oO 19) (oN 0)), oA 21 (.load false 1 (oO 20)), oA 22 (.len false (oO 21)), oA 23 (.makeSl 135 1 16 [.complex .f64 0 0] (oO 22) (oO 22)), oM 8 23]) (oK [1, 5, 7, 8, 13, 14, 15] (oS (oS (oR [oM 24 7, oA 25 (.len false (oO 24)), oA 26 (.mv (oN 0))]) (oK [1, 5, 8, 13, 14, 15, 24, 25, 26] (.block 2 (.loop c77l2)))) (oK [1, 5, 8, 13, 14, 15] (.fz [8] (oR [oM 52 5, oM 53 8, oA 54 (.mkSl false 134 1 [.slice none 0 0] 1 [(0, (oO 53))]), oA 55 (.app 109 134 1 24 [.slice none 0 0] (oO 52) (oO 54)), oM 5 55]))))))))) (oK [1, 5, 13, 14, 15] (oR [oA 56 (.bin .add 3 (oO 15) (oN 1)), oM 15 56]))))))
def c77 : AC := oS (oR [oA 4 (.mv (.const (.slice none 0 0)))]) (oK [0, 1] (oS (oR [oA 5 (.mv (.const (.slice none 0 0)))]) (oK [0, 1, 5] (.nilrow 5 1 134 (oS (oS (oR [oM 13 0, oA 14 (.len false (oO 13)), oA 15 (.mv (oN 0))]) (oK [1, 5, 13, 14, 15] (.block 0 (.loop c77l3)))) (oK [5] (.fz [5] (oS (oR [oM 57 5, oM 4 57]) (oK [4] (.ret))))))))))
def rv77 : List RV := [.tmp 4]
theorem is77 : FnIs Tryz.prog 77 58 c77 rv77 := ⟨⟨Tryz.f77, _, Tryz.func77, by kernel_rfl, rfl, rfl, by kernel_rfl, by kernel_rfl⟩, by decide⟩
def c78l1 : AC := oS (oR [oA 18 (.bin .lss 3 (oO 17) (oO 16))]) (oK [3, 6, 9, 10, 11, 15, 16, 17, 18] (oS (.cond (oO 18) (.skip) (.exit 2)) (oK [3, 6, 9, 10, 11, 15, 16, 17] (oS (.block 3 (oS (oR [oA 19 (.iaddr 1 [.complex .f64 0 0] (oO 15) (oO 17)), oA 20 (.load false 1 (oO 19)), oM 8 20]) (oK [3, 6, 8, 9, 10, 11, 15, 16, 17] (oR [oM 21 6, oM 22 8, oA 23 (.ext .re [(oO 22)]), oA 24 (.ext (.f2i .i64) [(oO 23)]), oM 25 8, oA 26 (.ext .im [(oO 25)]), oA 27 (.ext (.f2i .i64) [(oO 26)]), oA 28 (.build [.int .i64 0, .int .i64 0] [(0, 1, (oO 24)), (1, 1, (oO 27))]), oA 29 (.mkSl false 62 2 [.int .i64 0, .int .i64 0] 1 [(0, (oO 28))]), oA 30 (.app 32 62 2 16 [.int .i64 0, .int .i64 0] (oO 21) (oO 29)), oM 6 30])))) (oK [3, 6, 9, 10, 11, 15, 16, 17] (oR [oA 31 (.bin .add 3 (oO 17) (oN 1)), oM 17 31]))))))
def c78l2 : AC := oS (oR [oA 12 (.bin .lss 3 (oO 11) (oO 10))]) (oK [3, 9, 10, 11, 12] (oS (.cond (oO 12) (.skip) (.exit 0)) (oK [3, 9, 10, 11] (oS (.block 1 (oS (oR [oA 13 (.iaddr 1 [.slice none 0 0] (oO 9) (oO 11)), oA 14 (.load false 1 (oO 13)), oM 5 14]) (oK [3, 5, 9, 10, 11] (oS (oR [oA 6 (.mv (.const (.slice none 0 0)))]) (oK [3, 5, 6, 9, 10, 11] (.nilrow 6 2 62 (oS (oS (oR [oM 15 5, oA 16 (.len false (oO 15)), oA 17 (.mv (oN 0))]) (oK [3, 6, 9, 10, 11, 15, 16, 17] (.block 2 (.loop c78l1)))) (oK [3, 6, 9, 10, 11] (.fz [6] (oR [oM 32 3, oM 33 6, oA 34 (.mkSl false 32 1 [.slice none 0 0] 1 [(0, (oO 33))]), oA 35 (.app 31 32 1 24 [.slice none 0 0] (oO 32) (oO 34)), oM 3 35])))))))))) (oK [3, 9, 10, 11] (oR [oA 36 (.bin .add 3 (oO 11) (oN 1)), oM 11 36]))))))
def c78 : AC := oS (oR [oA 2 (.mv (.const (.slice none 0 0)))]) (oK [0] (oS (oR [oA 3 (.mv (.const (.slice none 0 0)))]) (oK [0, 3] (.nilrow 3 1 32 (oS (oS (oR [oM 9 0, oA 10 (.len false (oO 9)), oA 11 (.mv (oN 0))]) (oK [3, 9, 10, 11] (.block 0 (.loop c78l2)))) (oK [3] (.fz [3] (oS (oR [oM 37 3, oM 2 37]) (oK [2] (.ret))))))))))
def rv78 : List RV := [.tmp 2]
theorem is78 : FnIs Tryz.prog 78 38 c78 rv78 := ⟨⟨Tryz.f78, _, Tryz.func78, by kernel_rfl, rfl, rfl, by kernel_rfl, by kernel_rfl⟩, by decide⟩
def c79 : AC := oS (oR [oA 1 (.box (oO 0)), oA 2 (.mv (oN 0))]) (oK [1] (oS (oQ [oA 3 (.faddr 0 (oO 1)), oA 4 (.load false 1 (oO 3)), oA 5 (.call (.func 62) [(oO 4)]), oA 6 (.faddr 1 (oO 1)), oA 7 (.load false 1 (oO 6)), oA 8 (.call (.func 65) [(oO 7), (oN 1), (oN 10000000)]), oA 9 (.call (.func 69) [(oO 8), (oN 2)]), oA 10 (.faddr 2 (oO 1)), oA 11 (.load false 1 (oO 10)), oT 12 (.call (.func 110) [(oO 11)]), oT 13 (.mkSl false 41 1 [.int .i64 0] 3 [(0, (oO 5)), (1, (oO 9)), (2, (oO 12))]), oT 14 (.call (.func 56) [(oO 13)]), oT 2 (.mv (oO 14))]) (oK [2] (.ret))))
def rv79 : List RV := [.tmp 2]
theorem is79 : FnIs Tryz.prog 79 15 c79 rv79 := ⟨⟨Tryz.f79, _, Tryz.func79, by kernel_rfl, rfl, rfl, by kernel_rfl, by kernel_rfl⟩, by decide⟩
def sg : AC := oS (oS (oR [oM 21 7, oM 22 5, oA 23 (.bin .shl 3 (oN 1) (oO 22)), oA 24 (.bin .lss 3 (oO 21) (oO 23))]) (oK [2, 3, 5, 6, 7, 24] (.cond (oO 24) (.skip) (.exit 0)))) (oK [2, 3, 5, 6, 7] (oS (.block 1 (oR [oA 27 (.load false 1 (oO 6)), oM 28 7, oA 29 (.mkSl false 3 1 [.int .i64 0] 1 [(0, (oO 28))]), oA 30 (.app 24 3 1 8 [.int .i64 0] (oO 27) (oO 29)), ⟨none, none, .store true 1 (oO 6) (oO 30), false⟩])) (oK [2, 3, 5, 6, 7] (oR [oM 25 7, oA 26 (.bin .add 3 (oO 25) (oN 2)), oM 7 26]))))
def c80l2 : AC := oS (oR [oA 50 (.bin .lss 3 (oO 49) (oO 48))]) (oK [8, 9, 12, 13, 33, 34, 35, 48, 49, 50] (oS (.cond (oO 50) (.skip) (.exit 4)) (oK [8, 9, 12, 13, 33, 34, 35, 48, 49] (oS (.block 5 (oS (oR [oM 51 49, oM 14 51]) (oK [8, 9, 12, 13, 14, 33, 34, 35, 48, 49] (oQ [oM 52 9, oM 53 12, oA 54 (.mvs (oO 14)), oA 55 (.iaddr 1 [.int .i64 0] (oO 53) (oO 54)), oA 56 (.load false 1 (oO 55)), oM 57 13, oM 58 14, oA 59 (.iaddr 1 [.int .i64 0] (oO 57) (oO 58)), oA 60 (.load false 1 (oO 59)), oA 61 (.mkSl false 3 1 [.int .i64 0] 2 [(0, (oO 56)), (1, (oO 60))]), oT 62 (.app 24 3 1 8 [.int .i64 0] (oO 52) (oO 61)), oT 9 (.mv (oO 62))])))) (oK [8, 9, 12, 13, 33, 34, 35, 48, 49] (oR [oA 63 (.bin .add 3 (oO 49) (oN 1)), oM 49 63]))))))
def c80l3 : AC := oS (oR [oA 36 (.bin .lss 3 (oO 35) (oO 34))]) (oK [8, 9, 33, 34, 35, 36] (oS (.cond (oO 36) (.skip) (.exit 2)) (oK [8, 9, 33, 34, 35] (oS (.block 3 (oS (oR [oA 37 (.iaddr 2 [.int .i64 0, .int .i64 0] (oO 33) (oO 35)), oA 38 (.load true 2 (oO 37)), oA 11 (.alloc [.int .i64 0, .int .i64 0]), ⟨none, none, .store false 2 (oO 11) (oO 38), false⟩]) (oK [8, 9, 11, 33, 34, 35] (oS (oQ [oM 39 8, oA 40 (.faddr 0 (oO 11)), oA 41 (.load false 1 (oO 40)), oA 42 (.call (oO 39) [(oO 41)]), oM 43 8, oA 44 (.faddr 1 (oO 11)), oA 45 (.load false 1 (oO 44)), oT 46 (.call (oO 43) [(oO 45)]), oT 12 (.mv (oO 42)), oT 13 (.mv (oO 46))]) (oK [8, 9, 12, 13, 33, 34, 35] (oS (oR [oM 47 12, oA 48 (.len false (oO 47)), oA 49 (.mv (oN 0))]) (oK [8, 9, 12, 13, 33, 34, 35, 48, 49] (.block 4 (.loop c80l2))))))))) (oK [8, 9, 33, 34, 35] (oR [oA 64 (.bin .add 3 (oO 35) (oN 1)), oM 35 64]))))))
def c80 : AC := oS (oR [oA 2 (.box (oO 0)), oA 3 (.box (oO 1)), oA 4 (.mv (.const (.slice none 0 0)))]) (oK [2, 3] (oS (oR [oA 15 (.faddr 0 (oO 2)), oA 16 (.load false 1 (oO 15)), oA 17 (.bin .quo 3 (oO 16) (oN 2)), oM 5 17]) (oK [2, 3, 5] (oS (oR [oA 6 (.alloc [.slice none 0 0])]) (oK [2, 3, 5, 6] (oS (oS (oR [oM 18 5, oA 19 (.bin .shl 3 (oN 1) (oO 18)), oA 20 (.bin .sub 3 (oN 1) (oO 19)), oM 7 20]) (oK [2, 3, 5, 6, 7] (.block 0 (.loop sg)))) (oK [2, 3, 6] (oS (oR [oA 31 (.mkFn (.func 113) [] [(oO 6), (oO 2), (oO 3)]), oM 8 31]) (oK [2, 8] (oS (oR [oA 9 (.mv (.const (.slice none 0 0)))]) (oK [2, 8, 9] (.nilrow 9 1 3 (oS (oS (oR [oA 32 (.faddr 2 (oO 2)), oA 33 (.load false 1 (oO 32)), oA 34 (.len false (oO 33)), oA 35 (.mv (oN 0))]) (oK [8, 9, 33, 34, 35] (.block 2 (.loop c80l3)))) (oK [9] (.fz [9] (oS (oR [oM 65 9, oM 4 65]) (oK [4] (.ret))))))))))))))))))
def rv80 : List RV := [.tmp 4]
theorem is80 : FnIs Tryz.prog 80 66 c80 rv80 := ⟨⟨Tryz.f80, _, Tryz.func80, by kernel_rfl, rfl, rfl, by kernel_rfl, by kernel_rfl⟩, by decide⟩
def r8 : AC := oS (oR [oA 21 (.bin .lss 3 (oO 20) (oO 19))]) (oK [0, 1, 5, 6, 7, 8, 14, 15, 18, 19, 20, 21] (oS (.cond (oO 21) (.skip) (.exit 2)) (oK [0, 1, 5, 6, 7, 8, 14, 15, 18, 19, 20] (oS (.block 3 (oS (oR [oM 22 20, oA 23 (.iaddr 1 [.int .i64 0] (oO 18) (oO 20)), oA 24 (.load false 1 (oO 23)), oM 9 22, oM 10 24]) (oK [0, 1, 5, 6, 7, 8, 9, 10, 14, 15, 18, 19, 20] (oS (oR [oM 25 5, oM 26 10, oA 27 (.call (.func 115) [(oO 25), (oO 26)]), oM 28 7, oA 29 (.iaddr 1 [.int .i64 0] (oO 27) (oO 28)), oA 30 (.load false 1 (oO 29)), oM 11 30]) (oK [0, 1, 5, 6, 7, 8, 9, 11, 14, 15, 18, 19, 20] (oQ [oA 31 (.mvs (oO 11)), oA 32 (.mvs (oO 11)), oA 33 (.iarr 2 1 (oO 8) (oO 32)), oA 34 (.load false 1 (oO 33)), oM 35 1, oM 36 9, oA 37 (.iaddr 1 [.int .i64 0] (oO 35) (oO 36)), oA 38 (.load false 1 (oO 37)), oA 39 (.mkSl false 3 1 [.int .i64 0] 1 [(0, (oO 38))]), oT 40 (.app 24 3 1 8 [.int .i64 0] (oO 34) (oO 39)), oT 41 (.iarr 2 1 (oO 8) (oO 31)), ⟨none, none, .store true 1 (oO 41) (oO 40), true⟩])))))) (oK [0, 1, 5, 6, 7, 8, 14, 15, 18, 19, 20] (oR [oA 42 (.bin .add 3 (oO 20) (oN 1)), oM 20 42]))))))
def rE : AC := oS (oR [oA 16 (.bin .lss 3 (oO 15) (oO 14))]) (oK [0, 1, 5, 6, 14, 15, 16] (oS (.cond (oO 16) (.skip) (.exit 0)) (oK [0, 1, 5, 6, 14, 15] (oS (.block 1 (oS (oR [oM 17 15, oM 7 17]) (oK [0, 1, 5, 6, 7, 14, 15] (oS (oR [oA 8 (.alloc [.slice none 0 0, .slice none 0 0])]) (oK [0, 1, 5, 6, 7, 8, 14, 15] (oS (oS (oR [oM 18 0, oA 19 (.len false (oO 18)), oA 20 (.mv (oN 0))]) (oK [0, 1, 5, 6, 7, 8, 14, 15, 18, 19, 20] (.block 2 (.loop r8)))) (oK [0, 1, 5, 6, 8, 14, 15] (oQ [oM 43 6, oA 44 (.iarr 2 1 (oO 8) (oN 1)), oA 45 (.load false 1 (oO 44)), oA 46 (.call (.func 116) [(oO 45)]), oA 47 (.iarr 2 1 (oO 8) (oN 0)), oA 48 (.load false 1 (oO 47)), oA 49 (.call (.func 116) [(oO 48)]), oA 50 (.bin .sub 3 (oO 46) (oO 49)), oA 51 (.mkSl false 3 1 [.int .i64 0] 1 [(0, (oO 50))]), oT 52 (.app 24 3 1 8 [.int .i64 0] (oO 43) (oO 51)), oT 6 (.mv (oO 52))])))))))) (oK [0, 1, 5, 6, 14, 15] (oR [oA 53 (.bin .add 3 (oO 15) (oN 1)), oM 15 53]))))))
def c81 : AC := oS (oR [oA 4 (.mv (.const (.slice none 0 0)))]) (oK [0, 1] (oS (oR [oM 12 0, oA 13 (.call (.func 114) [(oO 12)]), oM 5 13]) (oK [0, 1, 5] (oS (oR [oA 6 (.mv (.const (.slice none 0 0)))]) (oK [0, 1, 5, 6] (.nilrow 6 1 3 (oS (oS (oR [oM 14 5, oA 15 (.mv (oN 0))]) (oK [0, 1, 5, 6, 14, 15] (.block 0 (.loop rE)))) (oK [6] (.fz [6] (oS (oR [oM 54 6, oM 4 54]) (oK [4] (.ret))))))))))))
def rv81 : List RV := [.tmp 4]
theorem is81 : FnIs Tryz.prog 81 55 c81 rv81 := ⟨⟨Tryz.f81, _, Tryz.func81, by kernel_rfl, rfl, rfl, by kernel_rfl, by kernel_rfl⟩, by decide⟩
def c82l1 : AC := oS (oS (oR [oM 4 1, oA 5 (.call (.func 61) [(oO 2)]), oA 6 (.call (oO 4) [(oO 5)])]) (oK [1, 2, 6] (.cond (oO 6) (.skip) (.exit 0)))) (oK [1, 2] (.block 1 (.skip)))
def c82 : AC := oS (oR [oA 2 (.box (oO 0))]) (oK [1, 2] (.block 0 (.loop c82l1)))
def rv82 : List RV := []
theorem is82 : FnIs Tryz.prog 82 7 c82 rv82 := ⟨⟨Tryz.f82, _, Tryz.func82, by kernel_rfl, rfl, rfl, by kernel_rfl, by kernel_rfl⟩, by decide⟩
def c83 : AC := oS (oR [oA 2 (.mv (oN 0))]) (oK [0] (oS (oR [oM 3 0, oA 4 (.call (.func 117) [(oN 1000000)]), oA 5 (.call (.func 97) [(oO 3), (oN 400), (oO 4), (oN 2)]), oM 2 5]) (oK [2] (.ret))))
def rv83 : List RV := [.tmp 2]
theorem is83 : FnIs Tryz.prog 83 6 c83 rv83 := ⟨⟨Tryz.f83, _, Tryz.func83, by kernel_rfl, rfl, rfl, by kernel_rfl, by kernel_rfl⟩, by decide⟩
def c84 : AC := oS (oR [oA 2 (.mv (.const (.bool false)))]) (oK [0] (oS (oR [oM 3 0, oA 4 (.call (.func 99) [(oO 3), (oN 1), (oN 200)]), oM 2 4]) (oK [2] (.ret))))
def rv84 : List RV := [.tmp 2]
theorem is84 : FnIs Tryz.prog 84 5 c84 rv84 := ⟨⟨Tryz.f84, _, Tryz.func84, by kernel_rfl, rfl, rfl, by kernel_rfl, by kernel_rfl⟩, by decide⟩
def c85r1 : AC := .block 1 (oQ [oA 19 (.load false 1 (oO 7)), oA 20 (.mvs (oO 9)), oA 21 (.iaddr 1 [.int .i64 0] (oO 19) (oO 20)), oA 22 (.load false 1 (oO 21)), oA 23 (.load false 1 (oO 3)), oM 24 8, oA 25 (.iaddr 1 [.int .i64 0] (oO 23) (oO 24)), oA 26 (.load false 1 (oO 25)), oT 27 (.bin .add 3 (oO 22) (oO 26)), oT 28 (.iaddr 1 [.int .i64 0] (oO 19) (oO 20)), ⟨none, none, .store false 1 (oO 28) (oO 27), true⟩])
def c85 : AC := oS (oR [oA 3 (.box (oO 0)), oA 6 (.mv (.const (.slice none 0 0)))]) (oK [1, 2, 3] (oS (oR [oM 10 2, oA 11 (.makeSl 3 1 8 [.int .i64 0] (oO 10) (oO 10)), oA 7 (.alloc [.slice none 0 0]), ⟨none, none, .store true 1 (oO 7) (oO 11), false⟩]) (oK [1, 2, 3, 7] (oS (oS (oR [oM 12 2, oM 13 1, oA 14 (.load false 1 (oO 3)), oA 15 (.len false (oO 14)), oA 16 (.call (.func 100) [(oO 12), (oO 13), (oO 15)])]) (oK [3, 7, 16] (.block 0 (.rangeFunc (oO 16) [17, 18] (oS (oR [oM 8 17]) (oK [3, 7, 8, 16, 18] (oR [oM 9 18]))) c85r1)))) (oK [7] (oS (oR [oA 29 (.load false 1 (oO 7)), oM 6 29]) (oK [6] (.ret))))))))
def rv85 : List RV := [.tmp 6]
theorem is85 : FnIs Tryz.prog 85 30 c85 rv85 := ⟨⟨Tryz.f85, _, Tryz.func85, by kernel_rfl, rfl, rfl, by kernel_rfl, by kernel_rfl⟩, by decide⟩
def rF : AC := oS (oS (oR [oM 15 7, oM 16 0, oA 17 (.len false (oO 16)), oA 18 (.bin .lss 3 (oO 15) (oO 17))]) (oK [0, 2, 7, 18] (.cond (oO 18) (.skip) (.exit 0)))) (oK [0, 2, 7] (oS (.block 1 (oS (oR [oM 21 0, oM 22 7, oA 23 (.iaddr 1 [.int .i64 0] (oO 21) (oO 22)), oA 24 (.load false 1 (oO 23)), oM 25 2, oA 26 (.un .neg (oO 25)), oM 27 2, oA 28 (.call (.func 27) [(oO 24), (oO 26), (oO 27)]), oA 29 (.un .not (oO 28))]) (oK [0, 2, 7, 29] (.cond (oO 29) (oS (oR [oA 6 (.mv (oN 2))]) (oK [6] (.ret))) (.skip))))) (oK [0, 2, 7] (oR [oM 19 7, oA 20 (.bin .add 3 (oO 19) (oN 1)), oM 7 20]))))
def c86 : AC := oS (oR [oA 6 (.mv (oN 0))]) (oK [0, 1, 2] (oS (oS (oR [oM 8 0, oA 9 (.len false (oO 8)), oA 10 (.bin .eql 3 (oO 9) (oN 0))]) (oK [0, 1, 2, 10] (.cond (oO 10) (oS (oR [oA 6 (.mv (oN 10))]) (oK [6] (.ret))) (.skip)))) (oK [0, 1, 2] (oS (oS (oR [oM 11 0, oA 12 (.len false (oO 11)), oM 13 1, oA 14 (.bin .gtr 3 (oO 12) (oO 13))]) (oK [0, 2, 14] (.cond (oO 14) (oS (oR [oA 6 (.mv (oN 8))]) (oK [6] (.ret))) (.skip)))) (oK [0, 2] (oS (oS (oR [oA 7 (.mv (oN 0))]) (oK [0, 2, 7] (.block 0 (.loop rF)))) (oK [] (oS (oR [oA 6 (.mv (oN 0))]) (oK [6] (.ret))))))))))
def rv86 : List RV := [.tmp 6]
theorem is86 : FnIs Tryz.prog 86 30 c86 rv86 := ⟨⟨Tryz.f86, _, Tryz.func86, by kernel_rfl, rfl, rfl, by kernel_rfl, by kernel_rfl⟩, by decide⟩
def c87 : AC := oS (oR [oA 2 (.mv (oN 0))]) (oK [0] (oS (oR [oM 3 0, oA 4 (.call (.func 117) [(oN 1000000000)]), oA 5 (.call (.func 97) [(oO 3), (oN 200), (oO 4), (oN 2)]), oM 2 5]) (oK [2] (.ret))))
def rv87 : List RV := [.tmp 2]
theorem is87 : FnIs Tryz.prog 87 6 c87 rv87 := ⟨⟨Tryz.f87, _, Tryz.func87, by kernel_rfl, rfl, rfl, by kernel_rfl, by kernel_rfl⟩, by decide⟩
def c89 : AC := oS (oR [oA 2 (.box (oO 0)), oA 4 (.mv (.const (.bool false)))]) (oK [1, 2] (oS (oR [oM 6 1, oA 7 (.len false (oO 6)), oA 8 (.faddr 0 (oO 2)), oA 9 (.load false 1 (oO 8)), oA 10 (.bin .sub 3 (oO 7) (oO 9)), oM 5 10]) (oK [1, 2, 5] (oS (oQ [oA 11 (.load true 2 (oO 2)), oM 12 1, oA 13 (.mvs (oO 5)), oA 14 (.ssl 1 (oO 12) none (some (oO 13)) none), oA 15 (.call (.func 91) [(oO 11), (oO 14)]), oM 16 1, oM 17 5, oA 18 (.ssl 1 (oO 16) (some (oO 17)) none none), oT 19 (.call (.func 121) [(oO 15), (oO 18)]), oT 4 (.mv (oO 19))]) (oK [4] (.ret))))))
def rv89 : List RV := [.tmp 4]
theorem is89 : FnIs Tryz.prog 89 20 c89 rv89 := ⟨⟨Tryz.f89, _, Tryz.func89, by kernel_rfl, rfl, rfl, by kernel_rfl, by kernel_rfl⟩, by decide⟩
def c90 : AC := oS (oR [oA 1 (.box (oO 0)), oA 2 (.mv (oN 0))]) (oK [1] (oS (oS (oR [oA 3 (.faddr 0 (oO 1)), oA 4 (.load false 1 (oO 3)), oA 5 (.call (.func 99) [(oO 4), (oN 1), (oN 16)]), oA 6 (.un .not (oO 5))]) (oK [1, 6] (.cond (oO 6) (oS (oR [oA 2 (.mv (oN 2))]) (oK [2] (.ret))) (.skip)))) (oK [1] (oS (oQ [oA 7 (.faddr 1 (oO 1)), oA 8 (.load false 1 (oO 7)), oA 9 (.faddr 0 (oO 1)), oA 10 (.load false 1 (oO 9)), oA 11 (.bin .shl 3 (oN 1) (oO 10)), oA 12 (.bin .sub 3 (oO 11) (oN 1)), oA 13 (.call (.func 99) [(oO 8), (oN 1), (oO 12)]), oA 14 (.call (.func 49) [(oO 13), (oN 2)]), oA 15 (.faddr 1 (oO 1)), oA 16 (.load false 1 (oO 15)), oA 17 (.bin .rem 3 (oO 16) (oN 2)), oA 18 (.bin .eql 3 (oO 17) (oN 1)), oT 19 (.call (.func 49) [(oO 18), (oN 3)]), oT 20 (.mkSl false 41 1 [.int .i64 0] 2 [(0, (oO 14)), (1, (oO 19))]), oT 21 (.call (.func 46) [(oO 20)]), oT 2 (.mv (oO 21))]) (oK [2] (.ret))))))
def rv90 : List RV := [.tmp 2]
theorem is90 : FnIs Tryz.prog 90 22 c90 rv90 := ⟨⟨Tryz.f90, _, Tryz.func90, by kernel_rfl, rfl, rfl, by kernel_rfl, by kernel_rfl⟩, by decide⟩
def c91l1 : AC := oS (oR [oA 19 (.bin .lss 3 (oO 18) (oO 17))]) (oK [2, 5, 6, 16, 17, 18, 19] (oS (.cond (oO 19) (.skip) (.exit 0)) (oK [2, 5, 6, 16, 17, 18] (oS (.block 1 (oS (oR [oA 20 (.iaddr 1 [.int .i64 0] (oO 16) (oO 18)), oA 21 (.load false 1 (oO 20)), oM 8 21]) (oK [2, 5, 6, 8, 16, 17, 18] (oS (oR [oM 22 6, oM 23 5, oA 24 (.bin .and 3 (oO 22) (oO 23)), oA 25 (.bin .neq 3 (oO 24) (oN 0)), oM 9 25]) (oK [2, 5, 6, 8, 9, 16, 17, 18] (oS (oR [oM 26 6, oA 27 (.bin .shl 3 (oO 26) (.const (.int .u64 1))), oM 28 5, oA 29 (.bin .mul 3 (oN 2) (oO 28)), oA 30 (.bin .sub 3 (oO 29) (oN 1)), oA 31 (.bin .and 3 (oO 27) (oO 30)), oM 6 31]) (oK [2, 5, 6, 8, 9, 16, 17, 18] (oS (oR [oM 32 9, oM 33 8, oA 34 (.bin .eql 3 (oO 33) (oN 1)), oA 35 (.beq true 4 (oO 32) (oO 34))]) (oK [2, 5, 6, 16, 17, 18, 35] (.cond (oO 35) (oR [oM 36 6, oA 37 (.faddr 1 (oO 2)), oA 38 (.load false 1 (oO 37)), oA 39 (.bin .xor 3 (oO 36) (oO 38)), oM 6 39]) (.skip))))))))))) (oK [2, 5, 6, 16, 17, 18] (oR [oA 40 (.bin .add 3 (oO 18) (oN 1)), oM 18 40]))))))
def rK : AC := oS (oS (oR [oM 41 5, oA 42 (.bin .gtr 3 (oO 41) (oN 0))]) (oK [5, 6, 10, 42] (.cond (oO 42) (.skip) (.exit 2)))) (oK [5, 6, 10] (oS (.block 3 (oS (oR [oA 11 (.mv (oN 0))]) (oK [5, 6, 10, 11] (oS (oS (oR [oM 45 6, oM 46 5, oA 47 (.bin .and 3 (oO 45) (oO 46)), oA 48 (.bin .neq 3 (oO 47) (oN 0))]) (oK [5, 6, 10, 11, 48] (.cond (oO 48) (oR [oA 11 (.mv (oN 1))]) (.skip)))) (oK [5, 6, 10, 11] (oR [oM 49 10, oM 50 11, oA 51 (.mkSl false 3 1 [.int .i64 0] 1 [(0, (oO 50))]), oA 52 (.app 24 3 1 8 [.int .i64 0] (oO 49) (oO 51)), oM 10 52])))))) (oK [5, 6, 10] (oR [oM 43 5, oA 44 (.bin .shr 3 (oO 43) (.const (.int .u64 1))), oM 5 44]))))
def c91 : AC := oS (oR [oA 2 (.box (oO 0)), oA 4 (.mv (.const (.slice none 0 0)))]) (oK [1, 2] (oS (oR [oA 12 (.faddr 0 (oO 2)), oA 13 (.load false 1 (oO 12)), oA 14 (.bin .sub 3 (oO 13) (oN 1)), oA 15 (.bin .shl 3 (oN 1) (oO 14)), oM 5 15]) (oK [1, 2, 5] (oS (oR [oA 6 (.mv (oN 0))]) (oK [1, 2, 5, 6] (oS (oS (oR [oM 16 1, oA 17 (.len false (oO 16)), oA 18 (.mv (oN 0))]) (oK [2, 5, 6, 16, 17, 18] (.block 0 (.loop c91l1)))) (oK [5, 6] (oS (oR [oA 10 (.mv (.const (.slice none 0 0)))]) (oK [5, 6, 10] (.nilrow 10 1 3 (oS (.block 2 (.loop rK)) (oK [10] (.fz [10] (oS (oR [oM 53 10, oM 4 53]) (oK [4] (.ret))))))))))))))))
def rv91 : List RV := [.tmp 4]
theorem is91 : FnIs Tryz.prog 91 54 c91 rv91 := ⟨⟨Tryz.f91, _, Tryz.func91, by kernel_rfl, rfl, rfl, by kernel_rfl, by kernel_rfl⟩, by decide⟩
def c92l1 : AC := oS (oR [oA 26 (.bin .lss 3 (oO 25) (oO 24))]) (oK [1, 4, 23, 24, 25, 26] (oS (.cond (oO 26) (.skip) (.exit 0)) (oK [1, 4, 23, 24, 25] (oS (.block 1 (oS (oR [oA 27 (.iaddr 1 [.int .i64 0] (oO 23) (oO 25)), oA 28 (.load false 1 (oO 27)), oM 6 28]) (oK [1, 4, 6, 23, 24, 25] (oS (oS (oR [oM 29 6, oA 30 (.faddr 0 (oO 1)), oA 31 (.load false 1 (oO 30)), oA 32 (.bin .shl 3 (oN 1) (oO 31)), oA 33 (.bin .sub 3 (oO 32) (oN 1)), oA 34 (.call (.func 99) [(oO 29), (oN 0), (oO 33)]), oA 35 (.call (.func 49) [(oO 34), (oN 2)]), oM 36 6, oM 37 4, oA 38 (.bin .gtr 3 (oO 36) (oO 37)), oA 39 (.call (.func 49) [(oO 38), (oN 9)]), oA 40 (.mkSl false 41 1 [.int .i64 0] 2 [(0, (oO 35)), (1, (oO 39))]), oA 41 (.call (.func 46) [(oO 40)]), oM 7 41]) (oK [1, 6, 7, 23, 24, 25] (oS (oR [oM 42 7, oA 43 (.bin .neq 41 (oO 42) (oN 0))]) (oK [1, 6, 7, 23, 24, 25, 43] (.cond (oO 43) (oS (oR [oM 44 7, oM 2 44]) (oK [2] (.ret))) (.skip)))))) (oK [1, 6, 23, 24, 25] (oR [oM 45 6, oM 4 45])))))) (oK [1, 4, 23, 24, 25] (oR [oA 46 (.bin .add 3 (oO 25) (oN 1)), oM 25 46]))))))
def c92 : AC := oS (oR [oA 1 (.box (oO 0)), oA 2 (.mv (oN 0))]) (oK [1] (oS (oS (oQ [oA 8 (.faddr 0 (oO 1)), oA 9 (.load false 1 (oO 8)), oA 10 (.call (.func 122) [(oO 9)]), oA 11 (.call (.func 49) [(oO 10), (oN 2)]), oA 12 (.faddr 1 (oO 1)), oA 13 (.load false 1 (oO 12)), oA 14 (.len false (oO 13)), oA 15 (.bin .gtr 3 (oO 14) (oN 0)), oT 16 (.call (.func 49) [(oO 15), (oN 10)]), oT 17 (.mkSl false 41 1 [.int .i64 0] 2 [(0, (oO 11)), (1, (oO 16))]), oT 18 (.call (.func 46) [(oO 17)]), oT 3 (.mv (oO 18))]) (oK [1, 3] (oS (oR [oM 19 3, oA 20 (.bin .neq 41 (oO 19) (oN 0))]) (oK [1, 3, 20] (.cond (oO 20) (oS (oR [oM 21 3, oM 2 21]) (oK [2] (.ret))) (.skip)))))) (oK [1] (oS (oR [oA 4 (.mv (oN (-1)))]) (oK [1, 4] (oS (oS (oR [oA 22 (.faddr 1 (oO 1)), oA 23 (.load false 1 (oO 22)), oA 24 (.len false (oO 23)), oA 25 (.mv (oN 0))]) (oK [1, 4, 23, 24, 25] (.block 0 (.loop c92l1)))) (oK [] (oS (oR [oA 2 (.mv (oN 0))]) (oK [2] (.ret))))))))))
def rv92 : List RV := [.tmp 2]
theorem is92 : FnIs Tryz.prog 92 47 c92 rv92 := ⟨⟨Tryz.f92, _, Tryz.func92, by kernel_rfl, rfl, rfl, by kernel_rfl, by kernel_rfl⟩, by decide⟩
end Go.Proofs.YteoobfmbipmibaaGreat
end
