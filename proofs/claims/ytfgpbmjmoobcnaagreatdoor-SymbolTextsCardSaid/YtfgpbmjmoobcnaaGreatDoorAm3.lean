/- Part 3 of the proof of: SymbolTexts returns true for every input and never panics: the text of symbols, and the symbols with any text, or the errors, are as the reference says; right symbols are read back; conditions: those of the given statement, that the library variables it lists hold what their initialisers lay. -/
import GoSem.Core.Float
import Derived.WideShapes
import Derived.ChangeArms
import Derived.OpenShut
import Derived.Below
import Derived.LaidLaws
import Derived.Lib.LaidTab
import Derived.Stop.LaidErr
import Derived.Test.YtfgpbmjmoobcnaaGreatDoorProg
import Derived.Lib.ItoaNum
import Derived.KernelRfl
import Derived.Shelf.Strings.OnBuilder
import Derived.Shelf.LaysM
import Derived.Shelf.Strconv.Itoa3
import Derived.Shelf.LaysC
import Derived.Shelf.Strconv.ErrVarAll
import Derived.Shelf.Strings.Search3
import Derived.Shelf.Strings.Prefix
import Derived.WalkKit
import Derived.BigCall
import Derived.Lib.QuietBelow
import Derived.Test.YtfgpbmjmoobcnaaGreatDoorAm2
set_option linter.all false
section
namespace Go.Am
open Dat (cells)
variable {P : Program} [Glob P]
theorem gt_fixT (bx : List Nat) : ∀ (t : Slots) (i : Nat), gt (cu bx t) i = .any ∨ (gt (cu bx t) i = gt t i ∧ au bx (gt t i) = true)
  | [], i => .inl rfl
  | (j, c) :: t, i => by
    have ih := gt_fixT bx t i
    simp only [gt, cu, lk] at ih ⊢
    by_cases hj : j = i
    · rw [if_pos hj, if_pos hj]
      cases hp : au bx c with
      | true => exact .inr ⟨rfl, hp⟩
      | false => exact .inl rfl
    · rw [if_neg hj, if_neg hj]; exact ih
def ak : List Nat → Chs → Prop
  | [], _ => True
  | k :: ks, ch => (match lk ch k with | some (.box _) => True | _ => False) ∧ ak ks ch
def aM (bx : List Nat) : Chs → Prop
  | [] => True
  | (k, .box _) :: r => (k < 100000 ∨ bZ bx k = true) ∧ aM bx r
  | (_, .row _ _ _) :: r => aM bx r
  | (_, .deep _ _ _ _ _) :: r => aM bx r
  | (_, .res _) :: r => aM bx r
theorem boxesIn_spec : ∀ {bx : List Nat} {ch : Chs}, ak bx ch → ∀ k ∈ bx, ∃ cs, (k, .box cs) ∈ ch
  | [], _, _, k, h => by simp at h
  | j :: ks, ch, h, k, hk => by
    rcases List.mem_cons.1 hk with e | e
    · subst e
      have h1 := h.1
      cases hl : lk ch k with
      | none => rw [hl] at h1; exact h1.elim
      | some c =>
        rw [hl] at h1
        cases c with
        | box cs => exact ⟨cs, lk_mem hl⟩
        | _ => exact h1.elim
    · exact boxesIn_spec h.2 k e
theorem onlyBx_spec {bx : List Nat} : ∀ {ch : Chs}, aM bx ch → ∀ k cs, (k, .box cs) ∈ ch → 100000 ≤ k → k ∈ bx
  | [], _, k, cs, h, _ => by simp at h
  | (j, c0) :: r, h, k, cs, hm, hk => by
    rcases List.mem_cons.1 hm with e | e
    · cases e
      rcases h.1 with g | g
      · omega
      · exact memN_spec.1 g
    · have hr : aM bx r := by cases c0 <;> first | exact h | exact h.2
      exact onlyBx_spec hr k cs e hk
def bY (bx : List Nat) (ch : Chs) : Prop := ak bx ch ∧ aM bx ch
def clRes (Eb : Env) (l D : Nat) (rec : Loop) (bx : List Nat) (tB : Slots) (tmps : Array Value) (ch : Chs) : Res where
  φ F U h := ∃ Ec : Env, (∀ k c, (k, c) ∈ ch → ChOk Ec U h k c) ∧ (∀ k c k' c', (k, c) ∈ ch → (k', c') ∈ ch → k ≠ k' → ∀ b, (Ec k).fp b → ¬ (Ec k').fp b) ∧
    (∀ k c, (k, c) ∈ ch → ∀ b, (Ec k).fp b → F b ∧ b ≠ l ∧ b ≠ D) ∧ F l ∧ F D ∧ (∀ k ∈ bx, (Ec k).toKE0 = (Eb k).toKE0) ∧
    h[l]? = some (.loop rec) ∧ h[D]? = some (.deferred (some [])) ∧ (∀ j, Rep Eb U h (gt tB j) (tmps.getD j undef))
  mono := by
    intro F U U' h h' ⟨Ec, h1, h2, h3, h4, h5, h6, h7, h8, h9⟩ hU hF
    exact ⟨Ec, fun k c hm => (h1 k c hm).same hU (fun b hb => hF b (h3 k c hm b hb).1), h2, h3, h4, h5, h6, (hF l h4).trans h7, (hF D h5).trans h8, fun j => (h9 j).same hU⟩
def aB (P : Program) [Glob P] (cx : Cx) (Q : ASt → Prop) (k : List It) (t0 : Slots) : Code → Chs → Prop
  | .exit id, ch =>
    match bu id k with
    | .cont k' => SG P cx Q k' ⟨t0, ch⟩
    | .out p => p ⟨t0, ch⟩
    | .none => False
  | .ret, ch => bP Q k ⟨t0, ch⟩
  | _, _ => False
def endRes (J : Code → Chs → Prop) (Eb : Env) (l D : Nat) (rec : Option Code → Loop) (bx : List Nat) (tB : Slots) (tmps : Array Value) : Res where
  φ F U h := ∃ jump ch, (ch.map (·.1)).Nodup ∧ bY bx ch ∧ J jump ch ∧ (clRes Eb l D (rec (some jump)) bx tB tmps ch).φ F U h
  mono := by
    rintro F U U' h h' ⟨jump, ch, h1, h2, h3, h4⟩ hU hF
    exact ⟨jump, ch, h1, h2, h3, (clRes Eb l D (rec (some jump)) bx tB tmps ch).mono F U U' h h' h4 hU hF⟩
def ItC (P : Program) [Glob P] (f : FuncId) (first caps : List C) (ich : Chs) (kr : Nat) (vals : Nat → List C) (N : Nat) (fin : Bool) : Prop :=
  ∀ (l : Nat) (R : Nat → Res) (Rf : Res), (∀ i, i < N → YAt P l (vals i) (R i) (if i + 1 < N ∨ fin = true then some (R (i + 1)) else none) Rf) →
    FCo P f (first ++ [.s (.func (.yield l) #[] #[])] ++ caps) ((kr, .res (R 0)) :: ich) ((.any, [(kr, .res Rf)]) :: if fin = true then [(.any, [(kr, .res (R N))])] else [])
theorem Holds.busy {cx : Cx} {E : Env} {U : Nat → Prop} {a : Act} {w : World} {s : ASt} {l D : Nat} {o oD o' : Obj} (hh : Holds P cx E U a w s) (hc : cx.hid = [(l, o), (D, oD)]) (hlD : l ≠ D) (hl : l < cx.w0.heap.size) :
    Holds P { cx with w0 := cx.w0.putObj l o', hid := [(l, o'), (D, oD)] } E U a (w.putObj l o') s := by
  obtain ⟨q1, q2, q3⟩ := hh.hid (l, o) (by rw [hc]; simp)
  obtain ⟨p1, p2, p3⟩ := hh.hid (D, oD) (by rw [hc]; simp)
  have hne : ∀ (w : World) b, b ≠ l → (w.putObj l o').heap[b]? = w.heap[b]? := fun w b hb => World.putObj_heap_other hb
  have hU : ∀ b, U b → U b ∧ (w.putObj l o').heap[b]? = w.heap[b]? := fun b hb => ⟨hb, hne w b (fun e => q2 (e ▸ hb))⟩
  have hF : ∀ k c, (k, c) ∈ s.ch → ∀ b, (E k).fp b → (w.putObj l o').heap[b]? = w.heap[b]? := fun k c hm b hb => hne w b (fun e => q3 k c hm (e ▸ hb))
  have hlw : l < w.heap.size := Nat.lt_of_lt_of_le hl hh.size
  have hdf : ∃ Ds : List Nat, a.defers = Ds.map markD ∧ Ds.Nodup ∧ ∀ D ∈ Ds, (cx.w0.putObj l o').heap.size ≤ D ∧ HidB E U (w.putObj l o').heap s.ch D (.deferred (some [])) := by
    obtain ⟨Ds, d1, d2, d3⟩ := hh.df
    refine ⟨Ds, d1, d2, fun D hD => ?_⟩
    obtain ⟨e1, e2, e3, e4⟩ := d3 D hD
    exact ⟨by simpa using e1, (hne w D (by omega)).trans e2, e3, e4⟩
  refine ⟨hh.sz, hdf, fun i => (hh.tok i).same hU, ⟨hh.inv.nd, fun k c hm => (hh.inv.ok k c hm).same hU (hF k c hm), hh.inv.sep, hh.inv.out, fun k c hm b hb => by rw [World.putObj_size]; exact hh.inv.fpl k c hm b hb, fun b hb => by rw [World.putObj_size]; exact hh.inv.lt b hb⟩,
    hh.os, hh.tape, hh.output, by simpa using hh.size, fun b hb hx => ?_, fun b hb => ⟨(hh.keepA b hb).1, ?_⟩, fun k c hm b hb => by simpa using hh.live k c hm b hb, fun b hb => by simpa using hh.base b hb, hh.fix, fun p hp => ?_, hh.gok.mono hU⟩
  · by_cases hb' : b = l
    · subst hb'
      rw [World.putObj_heap_same hlw, World.putObj_heap_same hl]
    · rw [hne w b hb', hne cx.w0 b hb']
      exact hh.fr b (by simpa using hb) hx
  · have hbl : b ≠ l := fun e => q2 (e ▸ (hh.keepA b hb).1)
    rw [hne w b hbl, hne cx.w0 b hbl]; exact (hh.keepA b hb).2
  · simp only [List.mem_cons, List.not_mem_nil, or_false] at hp
    rcases hp with rfl | rfl
    · exact ⟨World.putObj_heap_same hlw, q2, q3⟩
    · exact ⟨(hne w D (Ne.symm hlD)).trans p1, p2, p3⟩
def bI (t : Slots) : List Nat → List C → Slots
  | p :: ps, v :: vs => bI (co t p v) ps vs
  | _, _ => t
theorem setPs_rep {E : Env} {U : Nat → Prop} {h : Array Obj} : ∀ {ps : List Nat} {vs : List C} {aS : List Value} {t : Slots} {tmps : Array Value}, vs.length = ps.length → aS.length = ps.length → (∀ p ∈ ps, p < tmps.size) →
    (∀ j, Rep E U h (gt t j) (tmps.getD j undef)) → (∀ (j : Nat) c v, vs[j]? = some c → aS[j]? = some v → Rep E U h c v) →
    ∀ j, Rep E U h (gt (bI t ps vs) j) (((ps.zip aS).foldl (fun tmps (q : Nat × Value) => tmps.setIfInBounds q.1 q.2) tmps).getD j undef)
  | [], vs, aS, t, tmps, _, _, _, h0, _, j => by simp only [bI, List.zip_nil_left, List.foldl_nil]; exact h0 j
  | p :: ps, [], aS, t, tmps, h1, _, _, _, _, j => by simp at h1
  | p :: ps, v :: vs, [], t, tmps, _, h1, _, _, _, j => by simp at h1
  | p :: ps, v :: vs, x :: aS, t, tmps, h1, h2, hp, h0, hv, j => by
    simp only [bI, List.zip_cons_cons, List.foldl_cons]
    refine setPs_rep (by simpa using h1) (by simpa using h2) (fun q hq => by simpa using hp q (List.mem_cons_of_mem _ hq)) (fun i => ?_) (fun i c v hc hx => hv (i + 1) c v (by simpa using hc) (by simpa using hx)) j
    rw [gt_setA]
    have hpl := hp p List.mem_cons_self
    by_cases hi : p = i
    · subst hi
      rw [if_pos rfl, getD_of_some (v := x) (by rw [Array.getElem?_setIfInBounds]; simp [hpl])]
      exact hv 0 v x rfl rfl
    · rw [if_neg hi]
      have : (tmps.setIfInBounds p x).getD i undef = tmps.getD i undef := by simp [Array.getD_eq_getD_getElem?, Array.getElem?_setIfInBounds_ne hi]
      rw [this]; exact h0 i
theorem foldl_size : ∀ (l : List (Nat × Value)) (tmps : Array Value), (l.foldl (fun tmps (q : Nat × Value) => tmps.setIfInBounds q.1 q.2) tmps).size = tmps.size
  | [], _ => rfl
  | (_, _) :: l, tmps => by simp [foldl_size l]
theorem round_fin {cx : Cx} {Eb Ec E2 : Env} {U F U2 : Nat → Prop} {w w3 : World} {l D : Nat} {ob : Obj} {a2 : Act} {st2 : ASt} {ch0 ch1 : Chs} {bx : List Nat} {tB : Slots} {tmps : Array Value} (hh : Holds P cx E2 U2 a2 w3 st2)
    (cw : cx.w0 = w.putObj l ob) (cA : cx.A0 = U) (cX : cx.X = fun b => ∃ k c, (k, c) ∈ ch0 ∧ (Ec k).fp b) (cE : cx.E0 = Eb) (ch : cx.hid = [(l, ob), (D, .deferred (some []))]) (cf : ∀ k ∈ bx, cx.fx k) (hlD : l ≠ D)
    (hFU : ∀ b, F b → ¬ U b) (_hFs : ∀ b, F b → b < w.heap.size) (hX : ∀ k c, (k, c) ∈ ch0 → ∀ b, (Ec k).fp b → F b) (hFl : F l) (hFD : F D) (hsub : ∀ k c, (k, c) ∈ ch1 → (k, c) ∈ st2.ch) (hbx : bY bx ch1) (htB : ∀ j, Rep Eb U w.heap (gt tB j) (tmps.getD j undef)) (rec : Loop) :
    ∃ F', (clRes Eb l D rec bx tB tmps ch1).φ F' U2 (w3.putObj l (.loop rec)).heap ∧ Moved U F w U2 F' (w3.putObj l (.loop rec)) := by
  obtain ⟨q1, q2, q3⟩ := hh.hid (l, ob) (by rw [ch]; simp)
  obtain ⟨p1, p2, p3⟩ := hh.hid (D, .deferred (some [])) (by rw [ch]; simp)
  have hl3 := lt_of_getElem? q1
  have hD3 := lt_of_getElem? p1
  have hne : ∀ b, b ≠ l → (w3.putObj l (.loop rec)).heap[b]? = w3.heap[b]? := fun b hb => World.putObj_heap_other hb
  have hne0 : ∀ b, b ≠ l → cx.w0.heap[b]? = w.heap[b]? := fun b hb => by rw [cw]; exact World.putObj_heap_other hb
  have hs0 : cx.w0.heap.size = w.heap.size := by rw [cw]; simp
  have hXF : ∀ b, cx.X b → F b := fun b hb => by rw [cX] at hb; obtain ⟨k, c, h1, h2⟩ := hb; exact hX k c h1 b h2
  have hkeep : ∀ b, U b → U2 b ∧ (w3.putObj l (.loop rec)).heap[b]? = w.heap[b]? := fun b hb => by
    have hbl : b ≠ l := fun e => hFU l hFl (e ▸ hb)
    have h := hh.keepA b (by rw [cA]; exact hb)
    exact ⟨h.1, (hne b hbl).trans (h.2.trans (hne0 b hbl))⟩
  refine ⟨fun b => (∃ k c, (k, c) ∈ ch1 ∧ (E2 k).fp b) ∨ b = l ∨ b = D, ⟨E2, fun k c hm => ?_, fun k c k' c' hm hm' => hh.inv.sep k c k' c' (hsub k c hm) (hsub k' c' hm'), fun k c hm b hb => ⟨.inl ⟨k, c, hm, hb⟩, fun e => q3 k c (hsub k c hm) (e ▸ hb), fun e => p3 k c (hsub k c hm) (e ▸ hb)⟩,
    .inr (.inl rfl), .inr (.inr rfl), fun k hk => ?_, World.putObj_heap_same hl3, (hne D (Ne.symm hlD)).trans p1, fun j => (htB j).same hkeep⟩, ?_⟩
  · exact (hh.inv.ok k c (hsub k c hm)).same (fun b hb => ⟨hb, hne b (fun e => q2 (e ▸ hb))⟩) (fun b hb => hne b (fun e => q3 k c (hsub k c hm) (e ▸ hb)))
  · obtain ⟨cs, hcs⟩ := boxesIn_spec hbx.1 k hk
    rw [← cE]; exact hh.fix k cs (cf k hk) (hsub k _ hcs)
  · refine ⟨hh.os.trans (by rw [cw]; rfl), hh.tape.trans (by rw [cw]; rfl), hh.output.trans (by rw [cw]; rfl), by rw [World.putObj_size, ← hs0]; exact hh.size, hkeep, fun b hb hF => ?_, fun b hb => ?_, fun b hb => ?_, fun b hb hu => ?_, fun b hb => ?_, fun b hb => by rw [World.putObj_size]; exact hh.inv.lt b hb⟩
    · have hbl : b ≠ l := fun e => hF (e ▸ hFl)
      exact (hne b hbl).trans ((hh.fr b (by rw [hs0]; exact hb) (fun hx => hF (hXF b hx))).trans (hne0 b hbl))
    · rcases hb with ⟨k, c, hm, hb⟩ | rfl | rfl
      · rcases hh.live k c (hsub k c hm) b hb with g | g
        · exact .inl (by rw [← hs0]; exact g)
        · exact .inr (hXF b g)
      · exact .inr hFl
      · exact .inr hFD
    · rcases hh.base b hb with g | g | g
      · exact .inl (by rw [← cA]; exact g)
      · exact .inr (.inl (by rw [← hs0]; exact g))
      · exact .inr (.inr (hXF b g))
    · rcases hb with ⟨k, c, hm, hb⟩ | rfl | rfl
      · exact hh.inv.out k c (hsub k c hm) b hb hu
      · exact q2 hu
      · exact p2 hu
    · rw [World.putObj_size]
      rcases hb with ⟨k, c, hm, hb⟩ | rfl | rfl
      · exact hh.inv.fpl k c (hsub k c hm) b hb
      · exact hl3
      · exact hD3
theorem round_ok {n hi : Nat} (hn : n ≤ 100000) {Eb : Env} {l D : Nat} {fn : FuncId} {tmps : Array Value} {ps : Array Tmp} {x y : Code} {assign body : AC} {bx : List Nat} {tB : Slots} {vs : List C} {ch0 : Chs} {Rt : Option Res} {J : Code → Chs → Prop} {N' : ASt → Prop} {rec : LoopState → Option Code → Loop}
    (hrec : rec = fun s p => { state := s, pending := p, fn, tmps, params := ps, assign := x, body := y, defers := D }) (hnd : (ch0.map (·.1)).Nodup) (hbx0 : bY bx ch0) (hbig : ∀ k ∈ bx, 100000 ≤ k ∧ k < hi) (hlD : l ≠ D) (hsz : tmps.size = n) (hps : ∀ p ∈ ps.toList, p < n)
    (hvl : vs.length = ps.toList.length) (hvk : ∀ c ∈ vs, keysIn [] c) (htp : ∀ j, au bx (gt tB j) = true) (hx : compC P n assign x = some assign) (hy : compC P n body y = some body)
    (hrun : ∀ cx', cx'.n = n → cx'.hi = hi → SG P cx' (fun _ => False) [.c assign, .post (fun st1 => ∀ cx'', cx''.n = n → cx''.hi = hi → SG P cx'' (fun _ => False) [.c body, .rnd N' (fun j st' => bY bx st'.ch ∧ J j st'.ch)] st1)] ⟨bI tB ps.toList vs, ch0⟩)
    (hN : ∀ st', N' st' → ∃ ch1, (ch1.map (·.1)).Nodup ∧ bY bx ch1 ∧ (∀ k c, (k, c) ∈ ch1 → (k, c) ∈ st'.ch) ∧ Rt = some (clRes Eb l D (rec .ready none) bx tB tmps ch1)) :
    YAt P l vs (clRes Eb l D (rec .ready none) bx tB tmps ch0) Rt (endRes J Eb l D (fun j => rec .done j) bx tB tmps) := by
  intro E U F w aS hg ha hφ hFU hFs hUl
  obtain ⟨Ec, h1, h2, h3, h4, h5, h6, h7, h8, h9⟩ := hφ
  have hsa : aS.size = ps.size := by rw [ha.1, hvl]; simp
  refine ⟨fn, (ps.zip aS).foldl (fun tmps (t, a) => tmps.setIfInBounds t a) tmps, x, y, ?_, fun ro => ?_⟩
  · have := run_yield (P := P) (args := aS) h7 (by rw [hrec]; exact hsa)
    rw [hrec] at this; exact this
  · have htm : (ps.zip aS).foldl (fun tmps (t, a) => tmps.setIfInBounds t a) tmps = (ps.toList.zip aS.toList).foldl (fun tmps (q : Nat × Value) => tmps.setIfInBounds q.1 q.2) tmps := by
      rw [← Array.foldl_toList, Array.toList_zip]
    rw [htm]
    generalize htm2 : (ps.toList.zip aS.toList).foldl (fun tmps (q : Nat × Value) => tmps.setIfInBounds q.1 q.2) tmps = tm
    have htz : tm.size = n := by rw [← htm2, foldl_size]; exact hsz
    let cx1 : Cx := { n := n, A0 := U, w0 := w, X := fun b => ∃ k c, (k, c) ∈ ch0 ∧ (Ec k).fp b, E0 := Eb, hn := hn, ro := some l, hid := [(l, .loop (rec .ready none)), (D, .deferred (some []))], lo := 100000, hi := hi, hlo := Nat.le_refl _ }
    have hlw := hFs l h4
    have hslots : ∀ j, Rep Ec U w.heap (gt tB j) (tmps.getD j undef) := fun j => (h9 j).fixed (htp j) h6
    have hh1 : Holds P cx1 Ec U { tmps := tm, defers := [] } w ⟨bI tB ps.toList vs, ch0⟩ := by
      refine ⟨htz, ⟨[], rfl, .nil, fun D hD => by simp at hD⟩, fun j => ?_, ⟨hnd, h1, h2, fun k c hm b hb => hFU b (h3 k c hm b hb).1, fun k c hm b hb => hFs b (h3 k c hm b hb).1, hUl⟩, rfl, rfl, rfl, Nat.le_refl _, fun _ _ _ => rfl, fun b hb => ⟨hb, rfl⟩, fun k c hm b hb => .inr ⟨k, c, hm, hb⟩, fun b hb => .inl hb,
        fun k cs hk hm => h6 k (onlyBx_spec hbx0.2 k cs hm (Cx.fx_ge hk)), fun p hp => ?_, hg⟩
      · rw [← htm2]
        exact setPs_rep (E := Ec) hvl (by simpa using hsa) (fun p hp => by rw [hsz]; exact hps p hp) hslots (fun i c v hc hv => by
          have := ha.2 i c hc
          rw [getD_of_some (v := v) (by simpa using hv)] at this
          exact this.env (hvk c (List.mem_of_getElem? hc)) (fun k hk => by simp at hk)) j
      · simp only [cx1, List.mem_cons, List.not_mem_nil, or_false] at hp
        rcases hp with rfl | rfl
        · exact ⟨h7, hFU l h4, fun k c hm hb => (h3 k c hm l hb).2.1 rfl⟩
        · exact ⟨h8, hFU D h5, fun k c hm hb => (h3 k c hm D hb).2.2 rfl⟩
    refine roundIn_of_wpIn (F := FW ro) (n := 0) trivial (wpIn_mono (hrun cx1 rfl rfl Ec U _ w hh1 x hx) (fun e a1 w1 he => ?_))
    cases e with
    | normal =>
      obtain ⟨E1, U1, st1, g1, g2⟩ := he
      obtain ⟨q1, _⟩ := g1.hid (l, .loop (rec .ready none)) (by simp [cx1])
      refine ⟨_, run_beginRound q1 (by rw [hrec]), ?_⟩
      have hh2 := g1.busy (o' := .loop { rec .ready none with state := .busy }) rfl hlD hlw
      refine wpIn_mono (g2 _ rfl rfl E1 U1 a1 _ hh2 y hy) (fun e a2 w3 he => ?_)
      have fin : ∀ (jump : Option Code) (E2 : Env) (U2 : Nat → Prop) (st2 : ASt) (ch1 : Chs), Holds P { cx1 with w0 := w.putObj l (.loop { rec .ready none with state := .busy }), hid := [(l, .loop { rec .ready none with state := .busy }), (D, .deferred (some []))] } E2 U2 a2 w3 st2 →
          (∀ k c, (k, c) ∈ ch1 → (k, c) ∈ st2.ch) → bY bx ch1 → (Instr.endRound l jump).run P w3 = .ok (.bool jump.isNone) (w3.putObj l (.loop (rec (if jump.isNone then .ready else .done) jump))) ∧
          ∃ F', (clRes Eb l D (rec (if jump.isNone then .ready else .done) jump) bx tB tmps ch1).φ F' U2 (w3.putObj l (.loop (rec (if jump.isNone then .ready else .done) jump))).heap ∧ Moved U F w U2 F' (w3.putObj l (.loop (rec (if jump.isNone then .ready else .done) jump))) := fun jump E2 U2 st2 ch1 hh hsub hbx => by
        obtain ⟨r1, _⟩ := hh.hid (l, .loop { rec .ready none with state := .busy }) (by simp)
        refine ⟨?_, round_fin hh rfl rfl rfl rfl rfl hbig hlD hFU hFs (fun k c hm b hb => (h3 k c hm b hb).1) h4 h5 hsub hbx h9 _⟩
        have := run_endRound (P := P) jump r1
        rw [hrec] at this ⊢; exact this
      cases e with
      | normal =>
        obtain ⟨E2, U2, st2, s1, s2⟩ := he
        obtain ⟨ch1, c1, c2, c3, c4⟩ := hN st2 s2
        obtain ⟨f1, F', f2, f3⟩ := fin none E2 U2 st2 ch1 s1 c3 c2
        exact ⟨_, _, f1, true, F', U2, rfl, ⟨_, c4, f2⟩, f3⟩
      | ret =>
        obtain ⟨E2, U2, st2, s1, s2, s3⟩ := he
        obtain ⟨f1, F', f2, f3⟩ := fin (some .ret) E2 U2 st2 st2.ch s1 (fun _ _ h => h) s2
        exact ⟨_, _, f1, false, F', U2, rfl, ⟨_, _, s1.inv.nd, s2, s3, f2⟩, f3⟩
      | exit id =>
        obtain ⟨E2, U2, st2, s1, s2, s3⟩ := he
        obtain ⟨f1, F', f2, f3⟩ := fin (some (.exit id)) E2 U2 st2 st2.ch s1 (fun _ _ h => h) s2
        exact ⟨_, _, f1, false, F', U2, rfl, ⟨_, _, s1.inv.nd, s2, s3, f2⟩, f3⟩
      | goto t => exact he.elim
      | panic c => exact he.elim
      | outgrown => exact he.elim
    | ret => obtain ⟨_, _, _, _, hf⟩ := he; exact hf.elim
    | exit id => exact he.elim
    | goto t => exact he.elim
    | panic c => exact he.elim
    | outgrown => exact he.elim
end Go.Am
end
section
namespace Go.Am
open Dat (cells)
variable {P : Program} [Glob P]
theorem Holds.after {cx : Cx} {st : ASt} {E : Env} {U U3 F3 : Nat → Prop} {a : Act} {w w1 w3 : World} {l D : Nat} {rec : Loop} {o : Obj} {bx : List Nat} {ch : Chs} (hh : Holds P cx E U a w st)
    (hD : D = w.heap.size) (hl : l = w.heap.size + 1) (hw1 : w1.os = w.os ∧ w1.tape = w.tape ∧ w1.output = w.output ∧ w1.heap.size = w.heap.size + 2 ∧ ∀ b, b < w.heap.size → w1.heap[b]? = w.heap[b]?)
    (hm : Moved U (fun b => (∃ k c, (k, c) ∈ st.ch ∧ (E k).fp b) ∨ b = l ∨ b = D) w1 U3 F3 w3) (hφ : (clRes E l D rec bx (cu bx st.t) a.tmps ch).φ F3 U3 w3.heap) (hnd : (ch.map (·.1)).Nodup) (hbx : bY bx ch) (hb0 : ∀ k ∈ bx, ∃ cs, (k, .box cs) ∈ st.ch) :
    ∃ E', Holds P cx E' U3 { a with defers := markD D :: a.defers } (w3.putObj l o) ⟨cu bx st.t, ch⟩ := by
  obtain ⟨Ec, h1, h2, h3, h4, h5, h6, h7, h8, h9⟩ := hφ
  obtain ⟨v1, v2, v3, v4, v5⟩ := hw1
  have hlD : l ≠ D := by omega
  have hl3 := lt_of_getElem? h7
  have hne : ∀ b, b ≠ l → (w3.putObj l o).heap[b]? = w3.heap[b]? := fun b hb => World.putObj_heap_other hb
  have hUl : ∀ b, U3 b → b ≠ l := fun b hb e => hm.out l h4 (e ▸ hb)
  have hU : ∀ b, U3 b → U3 b ∧ (w3.putObj l o).heap[b]? = w3.heap[b]? := fun b hb => ⟨hb, hne b (hUl b hb)⟩
  have hF1 : ∀ b, ((∃ k c, (k, c) ∈ st.ch ∧ (E k).fp b) ∨ b = l ∨ b = D) → cx.w0.heap.size ≤ b ∨ cx.X b := fun b hb => by
    have := hh.size
    rcases hb with ⟨k, c, g1, g2⟩ | rfl | rfl
    · exact hh.live k c g1 b g2
    · exact .inl (by omega)
    · exact .inl (by omega)
  have hold : ∀ b, b < w.heap.size → (∀ k c, (k, c) ∈ st.ch → ¬ (E k).fp b) → (w3.putObj l o).heap[b]? = w.heap[b]? := fun b hb hn => by
    rw [hne b (by omega), hm.rest b (by omega) (by rintro (⟨k, c, g1, g2⟩ | g | g); exact hn k c g1 g2; omega; omega)]
    exact v5 b hb
  have hkeep : ∀ b, U b → U3 b ∧ (w3.putObj l o).heap[b]? = w.heap[b]? := fun b hb => by
    have hlt := hh.inv.lt b hb
    exact ⟨(hm.keep b hb).1, (hne b (by omega)).trans ((hm.keep b hb).2.trans (v5 b hlt))⟩
  have hidden : ∀ b o', HidB E U w.heap st.ch b o' → HidB Ec U3 (w3.putObj l o).heap ch b o' := fun b o' ⟨g1, g2, g3⟩ => by
    have hlt := lt_of_getElem? g1
    have hnF : ¬ ((∃ k c, (k, c) ∈ st.ch ∧ (E k).fp b) ∨ b = l ∨ b = D) := by rintro (⟨k, c, q1, q2⟩ | q | q); exact g3 k c q1 q2; omega; omega
    refine ⟨(hold b hlt g3).trans g1, fun hu => ?_, fun k c hk hf => ?_⟩
    · rcases hm.newU b hu with q | q | q
      · exact g2 q
      · omega
      · exact hnF q
    · rcases hm.live b (h3 k c hk b hf).1 with q | q
      · omega
      · exact hnF q
  have hfp : ∀ k c, (k, c) ∈ ch → ∀ b, (Ec k).fp b → F3 b ∧ b ≠ l := fun k c hk b hb => ⟨(h3 k c hk b hb).1, (h3 k c hk b hb).2.1⟩
  refine ⟨Ec, hh.sz, ?_, fun i => ?_, ⟨hnd, fun k c hk => (h1 k c hk).same hU (fun b hb => hne b (hfp k c hk b hb).2), h2, fun k c hk b hb => hm.out b (hfp k c hk b hb).1, fun k c hk b hb => by rw [World.putObj_size]; exact hm.fpl b (hfp k c hk b hb).1, fun b hb => by rw [World.putObj_size]; exact hm.lt b hb⟩,
    hm.os.trans (v1.trans hh.os), hm.tape.trans (v2.trans hh.tape), hm.output.trans (v3.trans hh.output), ?_, fun b hb hx => ?_, fun b hb => ?_, fun k c hk b hb => ?_, fun b hb => ?_, fun k cs hk hm' => ?_, fun p hp => hidden _ _ (hh.hid p hp), hh.gok.mono hkeep⟩
  · obtain ⟨Ds, d1, d2, d3⟩ := hh.df
    refine ⟨D :: Ds, by rw [List.map_cons, ← d1], List.nodup_cons.2 ⟨fun hm' => ?_, d2⟩, fun D' hD' => ?_⟩
    · have := lt_of_getElem? (d3 D hm').2.1
      omega
    · rcases List.mem_cons.1 hD' with e | e
      · subst e
        refine ⟨by have := hh.size; omega, (hne D' (Ne.symm hlD)).trans h8, hm.out D' h5, fun k c hk hf => (h3 k c hk D' hf).2.2 rfl⟩
      · exact ⟨(d3 D' e).1, hidden _ _ (d3 D' e).2⟩
  · have := h9 i
    rcases gt_fixT bx st.t i with e | ⟨e, ep⟩
    · show Rep _ _ _ (gt (cu bx st.t) i) _
      rw [e]; exact .d (.any _)
    · exact (this.fixed (by rw [e]; exact ep) h6).same hU
  · rw [World.putObj_size]; have := hm.size; have := hh.size; omega
  · have hlt := hh.size
    rw [hold b (by omega) (fun k c hk hf => by
      rcases hh.live k c hk b hf with q | q
      · omega
      · exact hx q)]
    exact hh.fr b hb hx
  · have := hkeep b (hh.keepA b hb).1
    exact ⟨this.1, this.2.trans (hh.keepA b hb).2⟩
  · rcases hm.live b (hfp k c hk b hb).1 with q | q
    · have := hh.size; exact .inl (by omega)
    · exact hF1 b q
  · rcases hm.newU b hb with q | q | q
    · exact hh.base b q
    · have := hh.size; exact .inr (.inl (by omega))
    · exact .inr (hF1 b q)
  · have hkb := onlyBx_spec hbx.2 k cs hm' (Cx.fx_ge hk)
    obtain ⟨cs0, hc0⟩ := hb0 k hkb
    exact (h6 k hkb).trans (hh.fix k cs0 hk hc0)
theorem S_rangeFunc {cx : Cx} {Q : ASt → Prop} {k : List It} {st : ASt} {g : Operand} {ps : List Nat} {assign body : AC} {f : FuncId} {first caps : List C} {ich : Chs} {kr : Nat} {vals : Nat → List C} {N : Nat} {fin : Bool} (bx : List Nat) (sh : Nat → Chs)
    (hro : cx.ro = none) (hg : cq (cT P st.t g) = some (f, first, caps)) (hit : ItC P f first caps ich kr vals N fin) (hich : aR (kr :: aF ich) ∧ aA ich st.ch) (hkc : (∀ c ∈ first ++ caps, keysIn (aF ich) c) ∧ ∀ k c, (k, c) ∈ ich → keysCh (aF ich) c)
    (hsh0 : aA (sh 0) st.ch ∧ az (aF (sh 0)) (aF ich)) (hshn : ∀ i, i ≤ N → aR (aF (sh i)) ∧ bY bx (sh i)) (hbig : ∀ k ∈ bx, 100000 ≤ k ∧ k < cx.hi + 100000)
    (hvl : ∀ i, i < N → (vals i).length = ps.length ∧ ∀ c ∈ vals i, keysIn [] c)
    (hround : ∀ i, i < N → ∀ cx', cx'.n = cx.n → cx'.hi = cx.hi + 100000 → SG P cx' (fun _ => False) [.c assign, .post (fun st1 => ∀ cx'', cx''.n = cx.n → cx''.hi = cx.hi + 100000 →
      SG P cx'' (fun _ => False) [.c body, .rnd (fun st' => (i + 1 < N ∨ fin = true) ∧ aA (sh (i + 1)) st'.ch) (fun j st' => bY bx st'.ch ∧ aB P cx Q k (cu bx st.t) j st'.ch)] st1)] ⟨bI (cu bx st.t) ps (vals i), sh i⟩)
    (hend : fin = true → SG P cx Q k ⟨cu bx st.t, sh N⟩) : SG P cx Q (.c (.rangeFunc g ps assign body) :: k) st := S_code fun code hc E U a w hh => by
  cases code <;> simp only [compC, reduceCtorEq] at hc
  rename_i g' ps' x y
  split at hc
  · rename_i hps
    simp only [Option.bind_eq_some_iff, Option.map_eq_some_iff] at hc
    obtain ⟨a', c1, b', c2, c3⟩ := hc
    cases c3
    have hbs : ∀ i, i ≤ N → ∀ k ∈ bx, ∃ cs, (k, .box cs) ∈ sh i := fun i hi => boxesIn_spec (hshn i hi).2.1
    obtain ⟨fv, cv, hev, hl1, hr1, hl2, hr2⟩ := fnOf_rep hg (hh.ev g)
    refine wpIn_rangeFunc (fun fn _ => ?_)
    have hround0 : (FW cx.ro).round = none := by rw [hro]; rfl
    rw [hround0]
    obtain ⟨rec, hrec⟩ : ∃ rec : LoopState → Option Code → Loop, rec = fun s p => { state := s, pending := p, fn, tmps := a.tmps, params := ps', assign := x, body := y, defers := w.heap.size } := ⟨_, rfl⟩
    generalize hW1 : (w.alloc (.deferred (some []))).alloc (.loop (rec .ready none)) = W1
    have hsize1 : W1.heap.size = w.heap.size + 2 := by rw [← hW1]; simp [World.size_alloc]
    have hL1 : W1.heap[w.heap.size + 1]? = some (.loop (rec .ready none)) := by
      rw [← hW1]; have := World.alloc_heap_new (w.alloc (.deferred (some []))) (.loop (rec .ready none)); rwa [World.size_alloc] at this
    have hD1 : W1.heap[w.heap.size]? = some (.deferred (some [])) := by
      rw [← hW1]
      show ((w.heap.push (.deferred (some []))).push (.loop (rec .ready none)))[w.heap.size]? = _
      rw [Array.getElem?_push, if_neg (by simp), Array.getElem?_push, if_pos rfl]
    have hold1 : ∀ b, b < w.heap.size → W1.heap[b]? = w.heap[b]? := fun b hb => by
      rw [← hW1]
      show ((w.heap.push (.deferred (some []))).push (.loop (rec .ready none)))[b]? = _
      rw [Array.getElem?_push, if_neg (by simp; omega), Array.getElem?_push, if_neg (by omega)]
    have hos1 : W1.os = w.os ∧ W1.tape = w.tape ∧ W1.output = w.output := by rw [← hW1]; exact ⟨rfl, rfl, rfl⟩
    have hkeep1 : ∀ b, U b → U b ∧ W1.heap[b]? = w.heap[b]? := fun b hb => ⟨hb, hold1 b (hh.inv.lt b hb)⟩
    let l := w.heap.size + 1
    let D := w.heap.size
    let J := aB P cx Q k (cu bx st.t)
    let R : Nat → Res := fun i => clRes E l D (rec .ready none) bx (cu bx st.t) a.tmps (sh i)
    let Rf : Res := endRes J E l D (fun j => rec .done j) bx (cu bx st.t) a.tmps
    have htp : ∀ j, au bx (gt (cu bx st.t) j) = true := fun j => by
      rcases gt_fixT bx st.t j with e | ⟨e, ep⟩
      · rw [e]; rfl
      · rw [e]; exact ep
    have hy : ∀ i, i < N → YAt P l (vals i) (R i) (if i + 1 < N ∨ fin = true then some (R (i + 1)) else none) Rf := fun i hi => by
      refine round_ok (n := cx.n) (hi := cx.hi + 100000) (assign := assign) (body := body) (N' := fun st' => (i + 1 < N ∨ fin = true) ∧ aA (sh (i + 1)) st'.ch) cx.hn hrec (by rw [← keysOf_eq]; exact keysNd_nodup (hshn i (by omega)).1) (hshn i (by omega)).2 hbig (by show w.heap.size + 1 ≠ w.heap.size; omega) hh.sz
        (fun p hp => by simpa using Array.all_eq_true'.1 hps p (by simpa using hp)) (hvl i hi).1 (hvl i hi).2 htp c1 c2 (hround i hi) (fun st' hst => ?_)
      refine ⟨sh (i + 1), by rw [← keysOf_eq]; exact keysNd_nodup (hshn (i + 1) (by omega)).1, (hshn (i + 1) (by omega)).2, fun k c hm => lk_mem (subChs_spec hst.2 (k, c) hm), ?_⟩
      rw [if_pos hst.1]
    have hF := hit l R Rf hy
    let F0 : Nat → Prop := fun b => (∃ k c, (k, c) ∈ sh 0 ∧ (E k).fp b) ∨ b = l ∨ b = D
    let xr : KE := { E kr with fp := F0 }
    let E1 := updE E kr xr
    have hE1 : ∀ k ∈ aF ich, E1 k = E k := fun k hk => updE_other E xr (fun e => by
      have := (keysNd_nodup hich.1)
      exact (List.nodup_cons.1 this).1 (e ▸ hk))
    have hsub0 : ∀ k c, (k, c) ∈ sh 0 → (k, c) ∈ st.ch := fun k c hm => lk_mem (subChs_spec hsh0.1 (k, c) hm)
    have hsubI : ∀ k c, (k, c) ∈ ich → (k, c) ∈ st.ch := fun k c hm => lk_mem (subChs_spec hich.2 (k, c) hm)
    have hkI : ∀ k c, (k, c) ∈ ich → k ∈ aF ich := fun k c hm => by rw [keysOf_eq]; exact List.mem_map.2 ⟨_, hm, rfl⟩
    have hk0 : ∀ k c, (k, c) ∈ sh 0 → k ∈ aF (sh 0) := fun k c hm => by rw [keysOf_eq]; exact List.mem_map.2 ⟨_, hm, rfl⟩
    have hargs : ArgsR E1 U W1.heap (first ++ [.s (.func (.yield l) #[] #[])] ++ caps) (fv ++ #[.func (.yield l) #[] #[]] ++ cv) := by
      have up : ∀ c v, Rep E U w.heap c v → c ∈ first ++ caps → Rep E1 U W1.heap c v := fun c v hr hc => ((hr.same hkeep1).env (hkc.1 c hc) hE1)
      refine ⟨by simp only [Array.size_append, List.length_append, hl1, hl2]; rfl, fun j c hj => ?_⟩
      simp only [Array.getD_eq_getD_getElem?]
      rw [List.append_assoc, List.getElem?_append] at hj
      rw [Array.append_assoc, Array.getElem?_append, hl1]
      split at hj
      · rename_i hlt
        rw [if_pos hlt]
        have := up c _ (hr1 j c hj) (List.mem_append.2 (.inl (List.mem_of_getElem? hj)))
        simpa [Array.getD_eq_getD_getElem?] using this
      · rename_i hlt
        rw [if_neg hlt, Array.getElem?_append]
        rw [List.getElem?_append] at hj
        by_cases h2 : j - first.length < 1
        · have h0 : j - first.length = 0 := by omega
          rw [if_pos (by simpa using h2)] at hj
          rw [if_pos (by simpa using h2)]
          simp [h0] at hj ⊢
          subst hj
          exact .d (.s _)
        · rw [if_neg (by simpa using h2)] at hj
          rw [if_neg (by simpa using h2)]
          have := up c _ (hr2 _ c hj) (List.mem_append.2 (.inr (List.mem_of_getElem? hj)))
          simpa [Array.getD_eq_getD_getElem?] using this
    have hF0 : ∀ b, F0 b → (∃ k c, (k, c) ∈ st.ch ∧ (E k).fp b) ∨ b = l ∨ b = D := fun b hb => by
      rcases hb with ⟨k, c, g1, g2⟩ | g
      · exact .inl ⟨k, c, hsub0 k c g1, g2⟩
      · exact .inr g
    have hF0U : ∀ b, F0 b → ¬ U b := fun b hb hu => by
      have hlt := hh.inv.lt b hu
      rcases hF0 b hb with ⟨k, c, g1, g2⟩ | g | g
      · exact hh.inv.out k c g1 b g2 hu
      · have : b = w.heap.size + 1 := g; omega
      · have : b = w.heap.size := g; omega
    have hF0l : ∀ b, F0 b → b < W1.heap.size := fun b hb => by
      rcases hF0 b hb with ⟨k, c, g1, g2⟩ | g | g
      · have := hh.inv.fpl k c g1 b g2; omega
      · have : b = w.heap.size + 1 := g; omega
      · have : b = w.heap.size := g; omega
    have hφ0 : (R 0).φ F0 U W1.heap := by
      refine ⟨E, fun k c hm => (hh.inv.ok k c (hsub0 k c hm)).same hkeep1 (fun b hb => hold1 b (hh.inv.fpl k c (hsub0 k c hm) b hb)), fun k c k' c' hm hm' => hh.inv.sep k c k' c' (hsub0 k c hm) (hsub0 k' c' hm'), fun k c hm b hb => ⟨.inl ⟨k, c, hm, hb⟩, ?_, ?_⟩, .inr (.inl rfl), .inr (.inr rfl), fun k hk => rfl, hL1, hD1, fun j => ?_⟩
      · have := hh.inv.fpl k c (hsub0 k c hm) b hb; show b ≠ w.heap.size + 1; omega
      · have := hh.inv.fpl k c (hsub0 k c hm) b hb; show b ≠ w.heap.size; omega
      · rcases gt_fixT bx st.t j with e | ⟨e, ep⟩
        · rw [e]; exact .d (.any _)
        · rw [e]; exact (hh.tok j).same hkeep1
    have hinv1 : Inv E1 U W1.heap ((kr, .res (R 0)) :: ich) := by
      have hnd := keysNd_nodup hich.1
      have hne : ∀ k c, (k, c) ∈ ich → k ≠ kr := fun k c hm e => (List.nodup_cons.1 hnd).1 (e ▸ hkI k c hm)
      have hEk : E1 kr = xr := updE_same E kr xr
      have hfpI : ∀ k c, (k, c) ∈ ich → ∀ b, (E1 k).fp b → (E k).fp b := fun k c hm b hb => by rw [hE1 k (hkI k c hm)] at hb; exact hb
      have hsepI : ∀ k c, (k, c) ∈ ich → ∀ b, (E k).fp b → ¬ F0 b := fun k c hm b hb hf => by
        have hlt := hh.inv.fpl k c (hsubI k c hm) b hb
        rcases hf with ⟨k', c', g1, g2⟩ | g | g
        · have hkk : k ≠ k' := fun e => apartN_spec hsh0.2 k' (hk0 k' c' g1) (e ▸ hkI k c hm)
          exact hh.inv.sep k c k' c' (hsubI k c hm) (hsub0 k' c' g1) hkk b hb g2
        · have : b = w.heap.size + 1 := g; omega
        · have : b = w.heap.size := g; omega
      refine ⟨by rw [keysOf_eq] at hnd; exact hnd, fun k c hm => ?_, fun k c k' c' hm hm' hne' b hb hb' => ?_, fun k c hm b hb => ?_, fun k c hm b hb => ?_, fun b hb => by have := hh.inv.lt b hb; omega⟩
      · rcases List.mem_cons.1 hm with e | e
        · cases e
          show (R 0).φ (E1 kr).fp U W1.heap
          rw [hEk]; exact hφ0
        · have := (hh.inv.ok k c (hsubI k c e)).same hkeep1 (fun b hb => hold1 b (hh.inv.fpl k c (hsubI k c e) b hb))
          exact this.env (hkI k c e) (hkc.2 k c e) hE1
      · rcases List.mem_cons.1 hm with e | e <;> rcases List.mem_cons.1 hm' with e' | e'
        · cases e; cases e'; exact hne' rfl
        · cases e; rw [hEk] at hb; exact hsepI k' c' e' b (hfpI k' c' e' b hb') hb
        · cases e'; rw [hEk] at hb'; exact hsepI k c e b (hfpI k c e b hb) hb'
        · exact hh.inv.sep k c k' c' (hsubI k c e) (hsubI k' c' e') hne' b (hfpI k c e b hb) (hfpI k' c' e' b hb')
      · rcases List.mem_cons.1 hm with e | e
        · cases e; rw [hEk] at hb; exact hF0U b hb
        · exact hh.inv.out k c (hsubI k c e) b (hfpI k c e b hb)
      · rcases List.mem_cons.1 hm with e | e
        · cases e; rw [hEk] at hb; exact hF0l b hb
        · have := hh.inv.fpl k c (hsubI k c e) b (hfpI k c e b hb); omega
    have hcall := hF.2 E1 U _ W1 (hh.gok.mono hkeep1) hargs hinv1
    refine ⟨w.heap.size + 1, [{ target := .collected w.heap.size, args := #[] }], W1, { target := .fn (.func f) cv, args := fv ++ #[.func (.yield (w.heap.size + 1)) #[] #[]] }, W1, f, fv ++ #[.func (.yield (w.heap.size + 1)) #[] #[]] ++ cv, W1, ?_, ?_, fun _ _ => trivial, ?_, fun h => by simp [FW, Fence.wide] at h, ?_⟩
    · rw [← hW1, hrec]; exact run_enterLoop_outer _ _ _ _ _
    · simp only [resolve, hev]
      simp [go_sem]
    · simp only [invoke, run_callFunc hF.1]
    · refine callsIn_FW (hcall.mono fun e w3 h => ?_)
      obtain ⟨o, ho, v, E', U', rfl, _, hce⟩ := h
      have hmv : ∀ Rz, o.2 = [(kr, .res Rz)] → Rz.φ (E' kr).fp U' w3.heap ∧ Moved U (fun b => (∃ k c, (k, c) ∈ st.ch ∧ (E k).fp b) ∨ b = l ∨ b = D) W1 U' (E' kr).fp w3 := fun Rz hz => by
        have hkm : (kr, Ch.res Rz) ∈ o.2 := by rw [hz]; simp
        have hfps : ∀ b, (∃ k0 c0, (k0, c0) ∈ (kr, Ch.res (R 0)) :: ich ∧ (E1 k0).fp b) → (∃ k c, (k, c) ∈ st.ch ∧ (E k).fp b) ∨ b = l ∨ b = D := fun b ⟨k0, c0, g1, g2⟩ => by
          rcases List.mem_cons.1 g1 with e | e
          · cases e
            have : (E1 kr).fp = F0 := by show (updE E kr xr kr).fp = F0; rw [updE_same]
            rw [this] at g2
            exact hF0 b g2
          · rw [hE1 k0 (hkI k0 c0 e)] at g2; exact .inl ⟨k0, c0, hsubI k0 c0 e, g2⟩
        refine ⟨hce.inv.ok kr _ hkm, hce.os, hce.tape, hce.output, hce.size, hce.keep, fun b hb hn => hce.rest b hb (fun k0 c0 g1 g2 => hn (hfps b ⟨k0, c0, g1, g2⟩)), fun b hb => ?_, fun b hb => ?_, hce.inv.out kr _ hkm, hce.inv.fpl kr _ hkm, hce.inv.lt⟩
        · rcases hce.live kr _ hkm b hb with q | q
          · exact .inl q
          · exact .inr (hfps b q)
        · rcases hce.newU b hb with q | q | q
          · exact .inl q
          · exact .inr (.inl q)
          · exact .inr (.inr (hfps b q))
      have hb0 : ∀ k ∈ bx, ∃ cs, (k, .box cs) ∈ st.ch := fun k hk => by
        obtain ⟨cs, hcs⟩ := hbs 0 (Nat.zero_le _) k hk
        exact ⟨cs, hsub0 k _ hcs⟩
      have hw1 : W1.os = w.os ∧ W1.tape = w.tape ∧ W1.output = w.output ∧ W1.heap.size = w.heap.size + 2 ∧ ∀ b, b < w.heap.size → W1.heap[b]? = w.heap[b]? := ⟨hos1.1, hos1.2.1, hos1.2.2, hsize1, hold1⟩
      rcases List.mem_cons.1 ho with e | e
      ·
        subst e
        obtain ⟨⟨jump, ch, n1, n2, n3, n4⟩, hm⟩ := hmv Rf rfl
        have hrl : w3.heap[l]? = some (.loop (rec .done (some jump))) := n4.choose_spec.2.2.2.2.2.2.1
        obtain ⟨Ez, hz⟩ := hh.after (o := .loop { rec .done (some jump) with state := .exhausted }) rfl rfl hw1 hm n4 n1 n2 hb0
        refine ⟨some jump, w3.putObj l (.loop { rec .done (some jump) with state := .exhausted }), ?_, ?_⟩
        · have := run_endLoop (P := P) hrl (by rw [hrec]; simp)
          rw [hrec] at this ⊢; exact this
        · show jump.wpIn (FW cx.ro) 0 P (WE P cx Q k) _ _
          cases jump with
          | exit id =>
            refine wpIn_exit ?_
            simp only [J, aB] at n3
            cases hk : bu id k with
            | cont k' => rw [hk] at n3; exact WE_exit k k' _ _ hk (n3 _ _ _ _ hz)
            | out p => rw [hk] at n3; exact WE_out k p _ _ hk ⟨_, _, _, hz, n3⟩
            | none => rw [hk] at n3; exact n3.elim
          | ret => exact wpIn_ret (WE_ret k _ _ ⟨_, _, _, hz, n3⟩)
          | _ => exact n3.elim
      · cases hfin : fin with
        | false => rw [hfin] at e; simp at e
        | true =>
          rw [hfin] at e
          simp only [if_true, List.mem_singleton] at e
          subst e
          obtain ⟨hφ, hm⟩ := hmv (R N) rfl
          have hrl : w3.heap[l]? = some (.loop (rec .ready none)) := hφ.choose_spec.2.2.2.2.2.2.1
          obtain ⟨Ez, hz⟩ := hh.after (o := .loop { rec .ready none with state := .exhausted }) rfl rfl hw1 hm hφ (by rw [← keysOf_eq]; exact keysNd_nodup (hshn N (Nat.le_refl _)).1) (hshn N (Nat.le_refl _)).2 hb0
          refine ⟨none, w3.putObj l (.loop { rec .ready none with state := .exhausted }), ?_, ?_⟩
          · have := run_endLoop (P := P) hrl (by rw [hrec]; simp)
            rw [hrec] at this ⊢; exact this
          · exact hend hfin _ _ _ _ hz
  · cases hc
end Go.Am
end
section
namespace Go.Am
open Dat (cells)
variable {P : Program} [Glob P] {cx : Cx} {Q : ASt → Prop} {k : List It} {st : ASt}
def cS (b : Nat) : List Nat → List (Nat × Nat)
  | [] => []
  | k :: ks => (k, b + k) :: cS b ks
def cB (ks : List Nat) (m : List (Nat × Nat)) : Slots → Slots
  | [] => []
  | (i, c) :: t => (i, match bq ks c with | true => bS m c | false => .any) :: cB ks m t
theorem rn_shM {b : Nat} : ∀ {ks : List Nat} {k : Nat}, k ∈ ks → rn (cS b ks) k = b + k
  | [], k, h => by simp at h
  | j :: ks, k, h => by
    simp only [rn, cS, lk]
    by_cases hj : j = k
    · rw [if_pos hj, hj]; rfl
    · rw [if_neg hj]
      have := rn_shM (b := b) (ks := ks) (k := k) (by rcases List.mem_cons.1 h with e | e; exact absurd e.symm hj; exact e)
      simpa only [rn] using this
theorem keysB_in {ks : List Nat} : ∀ c : C, bq ks c = true → keysIn ks c := by
  intro c
  have h : ∀ (n : Nat) (c : C), SizeOf.sizeOf c ≤ n → bq ks c = true → keysIn ks c := by
    intro n
    induction n with
    | zero => intro c hc; cases c <;> simp at hc
    | succ n ih =>
      intro c hc hk
      have hl : ∀ cs : List C, SizeOf.sizeOf cs ≤ n → bq.keysBs ks cs = true → keysIn.keysIns ks cs := by
        intro cs
        induction cs with
        | nil => intro _ _; trivial
        | cons x xs ihx =>
          intro hx hkx
          simp at hx
          simp only [bq.keysBs, Bool.and_eq_true] at hkx
          exact ⟨ih x (by omega) hkx.1, ihx (by omega) hkx.2⟩
      cases c with
      | agg cs => simp at hc; exact hl cs (by omega) hk
      | tup cs => simp at hc; exact hl cs (by omega) hk
      | fn f xs ys => simp at hc; simp only [bq, Bool.and_eq_true] at hk; exact ⟨hl xs (by omega) hk.1, hl ys (by omega) hk.2⟩
      | own k => exact memN_spec.1 hk
      | ptr k off => exact memN_spec.1 hk
      | eptr k i j => exact memN_spec.1 hk
      | inn k i => exact memN_spec.1 hk
      | iptr k i n j => exact memN_spec.1 hk
      | _ => trivial
  exact h _ c (Nat.le_refl _)
theorem gt_renT (ks : List Nat) (m : List (Nat × Nat)) : ∀ (t : Slots) (i : Nat), gt (cB ks m t) i = .any ∨ (gt (cB ks m t) i = bS m (gt t i) ∧ bq ks (gt t i) = true)
  | [], i => .inl rfl
  | (j, c) :: t, i => by
    have ih := gt_renT ks m t i
    simp only [gt, cB, lk] at ih ⊢
    by_cases hj : j = i
    · rw [if_pos hj, if_pos hj]
      cases hp : bq ks c with
      | true => exact .inr ⟨rfl, hp⟩
      | false => exact .inl rfl
    · rw [if_neg hj, if_neg hj]; exact ih
def cW (b : Nat) (s : ASt) : ASt := ⟨cB (aF s.ch) (cS b (aF s.ch)) s.t, aN (cS b (aF s.ch)) s.ch⟩
theorem Ghost.sh (b : Nat) (hb : cx.hi ≤ b) (hk : ap (aF st.ch) st.ch = true) : Ghost P cx st (cW b st) := fun E U a w hh => by
  obtain ⟨ks, hks⟩ : ∃ ks, aF st.ch = ks := ⟨_, rfl⟩
  obtain ⟨m, hm⟩ : ∃ m, cS b ks = m := ⟨_, rfl⟩
  have hrn : ∀ k ∈ ks, rn m k = b + k := fun k hk => by rw [← hm]; exact rn_shM hk
  have hin : ∀ k c, (k, c) ∈ st.ch → k ∈ ks := fun k c h => by rw [← hks, keysOf_eq]; exact List.mem_map.2 ⟨_, h, rfl⟩
  let E' : Env := fun j => match ks.find? (fun k => rn m k == j) with | some k => E k | none => E j
  have hE : ∀ k ∈ ks, E' (rn m k) = E k := fun k hk => by
    simp only [E']
    cases hfnd : ks.find? (fun k' => rn m k' == rn m k) with
    | none =>
      have := List.find?_eq_none.1 hfnd k hk
      simp at this
    | some k' =>
      have h1 := List.find?_some hfnd
      have h2 := List.mem_of_find?_eq_some hfnd
      have h3 : rn m k' = rn m k := by simpa using h1
      rw [hrn k' h2, hrn k hk] at h3
      have : k' = k := by omega
      rw [this]
  have hch : ∀ k c, (k, c) ∈ aN m st.ch → ∃ k0 c0, (k0, c0) ∈ st.ch ∧ k = rn m k0 ∧ c = aI m c0 ∧ E' k = E k0 := fun k c h => by
    obtain ⟨k0, c0, h0, rfl, rfl⟩ := mem_renChs h
    exact ⟨k0, c0, h0, rfl, rfl, hE k0 (hin k0 c0 h0)⟩
  have hkc : ∀ k c, (k, c) ∈ st.ch → keysCh ks c := fun k c h => by
    cases c with
    | box cs => exact keysIns_of fun c hc => keysB_in c (by rw [← hks]; exact keysBch_all hk k cs h c hc)
    | _ => trivial
  have hid : ∀ D o, HidB E U w.heap st.ch D o → HidB E' U w.heap (aN m st.ch) D o := fun D o ⟨h1, h2, h3⟩ => ⟨h1, h2, fun k c h hf => by
    obtain ⟨k0, c0, h0, _, _, e⟩ := hch k c h
    rw [e] at hf
    exact h3 k0 c0 h0 hf⟩
  have e1 : cW b st = ⟨cB ks m st.t, aN m st.ch⟩ := by simp only [cW, hks, hm]
  rw [e1]
  refine ⟨E', U, hh.sz, ?_, fun i => ?_, ⟨?_, fun k c h => ?_, fun k c k' c' h h' hne x hx hx' => ?_, fun k c h x hx => ?_, fun k c h x hx => ?_, hh.inv.lt⟩, hh.os, hh.tape, hh.output, hh.size, hh.fr, hh.keepA, fun k c h x hx => ?_, hh.base, fun k cs hk h => ?_, fun p hp => hid _ _ (hh.hid p hp), hh.gok⟩
  · obtain ⟨Ds, h1, h2, h3⟩ := hh.df
    exact ⟨Ds, h1, h2, fun D hD => ⟨(h3 D hD).1, hid _ _ (h3 D hD).2⟩⟩
  · rcases gt_renT ks m st.t i with e | ⟨e, ek⟩
    · show Rep _ _ _ (gt (cB ks m st.t) i) _
      rw [e]; exact .d (.any _)
    · show Rep _ _ _ (gt (cB ks m st.t) i) _
      rw [e]; exact (hh.tok i).ren (keysB_in _ ek) hE
  · have e2 : (aN m st.ch).map (·.1) = ks.map (rn m) := by rw [renChs_eq, ← hks, keysOf_eq, List.map_map, List.map_map]; rfl
    rw [e2]
    refine nodup_map_of (by rw [← hks, keysOf_eq]; exact hh.inv.nd) (fun x hx y hy e => ?_)
    rw [hrn x hx, hrn y hy] at e; omega
  · obtain ⟨k0, c0, h0, rfl, rfl, e⟩ := hch k c h
    exact (hh.inv.ok k0 c0 h0).ren (hin k0 c0 h0) (hkc k0 c0 h0) hE
  · obtain ⟨k0, c0, h0, rfl, rfl, e⟩ := hch k c h
    obtain ⟨k1, c1, h1, rfl, rfl, e'⟩ := hch k' c' h'
    rw [e] at hx; rw [e'] at hx'
    exact hh.inv.sep k0 c0 k1 c1 h0 h1 (fun e => hne (by rw [e])) x hx hx'
  · obtain ⟨k0, c0, h0, rfl, rfl, e⟩ := hch k c h
    rw [e] at hx; exact hh.inv.out k0 c0 h0 x hx
  · obtain ⟨k0, c0, h0, rfl, rfl, e⟩ := hch k c h
    rw [e] at hx; exact hh.inv.fpl k0 c0 h0 x hx
  · obtain ⟨k0, c0, h0, rfl, rfl, e⟩ := hch k c h
    rw [e] at hx; exact hh.live k0 c0 h0 x hx
  · obtain ⟨k0, c0, h0, rfl, _, _⟩ := hch k _ h
    have h2 := hk.2
    rw [hrn k0 (hin k0 c0 h0)] at h2
    omega
theorem S_sh (b : Nat) (hb : cx.hi ≤ b) (hk : ap (aF st.ch) st.ch = true) (h : SG P cx Q k (cW b st)) : SG P cx Q k st := S_ghost (Ghost.sh b hb hk) h
end Go.Am
end
section
namespace Go.Am
open Dat (cells)
variable {P : Program} [Glob P] {cx : Cx} {Q : ASt → Prop} {k : List It} {st : ASt}
def bp : C → C
  | .isl n _ es => .sl n es
  | c => c
theorem notIsl_unisl (c : C) : ay (bp c) = true := by cases c <;> rfl
theorem notIsl_subI {m : List (Nat × Sb)} (hm : NoIsl m) {c : C} (h : ay c = true) : ay (bV m c) = true := by
  cases c with
  | own k =>
    simp only [bV]
    cases hl : m.lookup k with
    | none => rfl
    | some s =>
      cases s with
      | c x => exact hm k x hl
      | inner => rfl
  | ptr k o => simp only [bV]; cases hl : m.lookup k with | none => rfl | some s => cases s <;> rfl
  | eptr k i j => simp only [bV]; cases hl : m.lookup k with | none => rfl | some s => cases s <;> rfl
  | inn k i => simp only [bV]; split <;> rfl
  | iptr k i n j => simp only [bV]; split <;> rfl
  | isl n t es => cases h
  | _ => rfl
def cF (kk : Nat) (cs : List C) (s : ASt) : ASt := ⟨ca [(kk, .inner)] s.t, (kk, .box ((cs.map bp).map (bV [(kk, .inner)]))) :: a7 [(kk, .inner)] (cC s.ch kk)⟩
theorem Ghost.fzb (kk : Nat) {cs : List C} (hl : lk st.ch kk = some (.box cs)) : Ghost P cx st (cF kk cs st) := fun E U a w hh => by
  have hkm := lk_mem hl
  have hi := hh.inv
  obtain ⟨⟨hnil, arr, ty, b1, b2, b3⟩, hf, hin⟩ := hi.ok kk _ hkm
  let x : KE := { E kk with fp := fun b => (E kk).nil = false ∧ (E kk).blk = b }
  let U' : Nat → Prop := fun b => U b ∨ ∃ i q, boxI cs i = some q ∧ ((E kk).inn i).nil = false ∧ ((E kk).inn i).blk = b
  have hinfp : ∀ b, (∃ i q, boxI cs i = some q ∧ ((E kk).inn i).nil = false ∧ ((E kk).inn i).blk = b) → (E kk).fp b := fun b h => (hf.fp b).2 (.inr h)
  have hkeep : ∀ b, U b → U' b ∧ w.heap[b]? = w.heap[b]? := fun b hb => ⟨.inl hb, rfl⟩
  have henv : ∀ k', [(kk, Sb.inner)].lookup k' = none → updE E kk x k' = E k' := fun k' h => by
    rw [look1] at h
    split at h
    · cases h
    · exact updE_other E x (by assumption)
  have henvI : ∀ k', [(kk, Sb.inner)].lookup k' = some .inner → (updE E kk x k').toKE0 = (E k').toKE0 := fun k' h => by
    rw [look1] at h
    split at h
    · have e : k' = kk := by assumption
      subst e; rw [updE_same]
    · cases h
  have hsub : ∀ k' c', [(kk, Sb.inner)].lookup k' = some (.c c') → ∀ v, Rep E U w.heap (.own k') v → Rep (updE E kk x) U' w.heap c' v := fun k' c' h => by
    rw [look1] at h; split at h <;> cases h
  have hno : NoIsl [(kk, Sb.inner)] := fun k' x' h => by rw [look1] at h; split at h <;> cases h
  have hrep : ∀ c v, Rep E U w.heap c v → Rep (updE E kk x) U' w.heap (bV [(kk, .inner)] c) v := fun c v hr => hr.mono hkeep henv henvI hsub
  have hd : ∀ c, (kk, c) ∉ cC st.ch kk := fun c => not_mem_delA hi.nd
  have hmem : ∀ k' c, (k', c) ∈ cC st.ch kk → (k', c) ∈ st.ch ∧ k' ≠ kk := fun k' c h => ⟨mem_delA h, fun e => hd c (e ▸ h)⟩
  have hbI : boxI ((cs.map bp).map (bV [(kk, .inner)])) = noI := boxI_none fun j c hj => by
    simp only [List.getElem?_map, Option.map_eq_some_iff] at hj
    obtain ⟨c1, ⟨c0, _, rfl⟩, rfl⟩ := hj
    exact notIsl_subI hno (notIsl_unisl c0)
  have hok : ChOk (updE E kk x) U' w.heap kk (.box ((cs.map bp).map (bV [(kk, .inner)]))) := by
    simp only [ChOk, updE_same, hbI]
    refine ⟨⟨hnil, arr, ty, b1, by simpa using b2, fun j c hj => .inl ?_⟩, ⟨fun b => ⟨fun h => .inl h, fun h => by rcases h with h | ⟨i, q, h, _⟩; exact h; cases h⟩, fun i q h => (by cases h), fun i j q q' _ h => (by cases h)⟩, fun i n t es h => by cases h⟩
    simp only [List.getElem?_map, Option.map_eq_some_iff] at hj
    obtain ⟨c1, ⟨c0, h0, rfl⟩, rfl⟩ := hj
    rcases b3 j c0 h0 with ⟨r1, r2⟩ | ⟨⟨n, t, es, rfl⟩, r2⟩
    · have hni := notIsl_of_rep r1
      have : bp c0 = c0 := by cases c0 <;> first | rfl | cases hni
      rw [this]
      exact ⟨hrep _ _ r1, r2⟩
    · have hI : boxI cs j = some (n, t, es) := by simp only [boxI, h0, islOf]
      refine ⟨?_, by rw [r2]; exact slV_one _⟩
      rw [r2]
      exact .d (row_data (hin j n t es hI) hkeep (fun hn => ⟨.inr ⟨j, _, hI, hn, rfl⟩, rfl⟩))
  have he := Ev.gen (w1 := w) (E' := updE E kk x) (U' := U') (news := [(kk, .box ((cs.map bp).map (bV [(kk, .inner)])))]) (old := cC st.ch kk) (d := 0) hi rfl rfl rfl (Nat.le_refl _) (delA_sub st.ch kk) hkeep henv henvI hsub (fun k' c h => updE_other E x (hmem k' c h).2)
    (fun _ _ _ _ _ => rfl) (fun _ _ _ => rfl) (by simp) (fun k' c h => ?_) (fun k' c h => ?_) (fun k' c h b hb => ?_) (fun k' c h b hb => ?_)
    (fun k1 x1 k2 x2 h1 h2 hne => ?_) (fun b hb => ?_) (fun k' c h b hb hu => ?_) (fun b hb => ?_) (fun k' cs' h => ?_)
  · exact ⟨_, _, hh.ghost (by decide) he⟩
  · simp only [List.mem_singleton, Prod.mk.injEq] at h; obtain ⟨rfl, rfl⟩ := h; exact hd
  · simp only [List.mem_singleton, Prod.mk.injEq] at h; obtain ⟨rfl, rfl⟩ := h; exact hok
  · simp only [List.mem_singleton, Prod.mk.injEq] at h; obtain ⟨rfl, rfl⟩ := h; rw [updE_same] at hb; exact .inr ⟨_, _, hkm, hd, (hf.fp b).2 (.inl hb)⟩
  · simp only [List.mem_singleton, Prod.mk.injEq] at h; obtain ⟨rfl, rfl⟩ := h; rw [updE_same] at hb; exact hi.fpl _ _ hkm b ((hf.fp b).2 (.inl hb))
  · simp only [List.mem_singleton, Prod.mk.injEq] at h1 h2; exact absurd (h1.1.trans h2.1.symm) hne
  · rcases hb with hb | hb
    · exact .inl hb
    · exact .inr (.inr ⟨_, _, hkm, hd, hinfp b hb⟩)
  · simp only [List.mem_singleton, Prod.mk.injEq] at h; obtain ⟨rfl, rfl⟩ := h; rw [updE_same] at hb
    rcases hu with hu | ⟨i, q, h1, h2, h3⟩
    · exact hi.out _ _ hkm b ((hf.fp b).2 (.inl hb)) hu
    · exact hf.ne i q h1 h2 hb.1 (h3.trans hb.2.symm)
  · rcases hb with hb | hb
    · exact hi.lt b hb
    · exact hi.fpl _ _ hkm b (hinfp b hb)
  · simp only [List.mem_singleton, Prod.mk.injEq] at h; obtain ⟨rfl, _⟩ := h
    exact .inr ⟨⟨cs, hkm⟩, by rw [updE_same]⟩
theorem S_fzb (kk : Nat) {cs : List C} (hl : lk st.ch kk = some (.box cs)) (h : SG P cx Q k (cF kk cs st)) : SG P cx Q k st := S_ghost (Ghost.fzb kk hl) h
end Go.Am
end
section
namespace Go.Am
open Dat (cells)
open Ieee
def IsD (d : Datum) (n : Int) : Prop := ∃ (s : Bool) (k : Nat) (e : Nat), d = .number s (k * 2 ^ e) (-(e : Int)) ∧ n = if s then -(k : Int) else (k : Int)
def IsF (x : Nat) (n : Int) : Prop := IsD (FloatKind.f64.format.read x) n
theorem log2_mul_pow {k : Nat} (hk : k ≠ 0) (d : Nat) : (k * 2 ^ d).log2 = k.log2 + d := by
  have h : k * 2 ^ d ≠ 0 := Nat.mul_ne_zero hk (by have := Nat.two_pow_pos d; omega)
  apply Nat.le_antisymm
  · have := (Nat.log2_lt (k := k.log2 + d + 1) h).2 (by
      have h1 := Nat.lt_log2_self (n := k)
      have : 2 ^ (k.log2 + d + 1) = 2 ^ (k.log2 + 1) * 2 ^ d := by rw [← Nat.pow_add]; congr 1; omega
      rw [this]
      exact Nat.mul_lt_mul_of_pos_right h1 (Nat.two_pow_pos d))
    omega
  · rw [Nat.le_log2 h, Nat.pow_add]
    exact Nat.mul_le_mul_right _ (Nat.log2_self_le hk)
theorem cut_mul (way : Toward) (s : Bool) (k d : Nat) : way.cut s (k * 2 ^ d) d = k := by
  by_cases hk : k = 0
  · subst hk
    unfold Toward.cut
    simp only [Nat.zero_mul, Nat.zero_div, Nat.zero_mod]
    cases way <;> simp
  · have hl := log2_mul_pow hk d
    unfold Toward.cut
    have hm : min d ((k * 2 ^ d).log2 + 2) = d := by omega
    have hp := Nat.two_pow_pos d
    simp only [hm, Nat.shiftLeft_eq, Nat.one_mul, Nat.mul_div_cancel _ hp, Nat.mul_mod_left]
    cases way <;> simp
theorem read_eq (x : Nat) : double.read x = (if x % 9223372036854775808 < 4503599627370496 then .number (x / 9223372036854775808 % 2 == 1) (x % 9223372036854775808) (-1074)
    else if x % 9223372036854775808 < 9218868437227405312 then .number (x / 9223372036854775808 % 2 == 1) (4503599627370496 + x % 9223372036854775808 % 4503599627370496) (-1074 + (x % 9223372036854775808 / 4503599627370496 - 1 : Nat))
    else if x % 9223372036854775808 = 9218868437227405312 then .infinity (x / 9223372036854775808 % 2 == 1) else .nan (x / 9223372036854775808 % 2 == 1) (x % 9223372036854775808 - 9218868437227405312)) := by
  have hlp : Ieee.double.leastPlace = -1074 := by decide
  have hbi : Ieee.double.binade = 4503599627370496 := by decide
  have hin : Ieee.double.infRung = 9218868437227405312 := by decide
  have hsw : Ieee.double.signWeight = 9223372036854775808 := by decide
  unfold Format.read
  rw [hlp, hbi, hin, hsw]
theorem nearest_read (s : Bool) (k e : Nat) (hk : k < 9007199254740992) : IsD (Ieee.double.read (Ieee.double.nearest s (k * 2 ^ e) (-(e : Int)))) (if s then -(k : Int) else (k : Int)) := by
  have hlp : Ieee.double.leastPlace = -1074 := by decide
  have hbi : Ieee.double.binade = 4503599627370496 := by decide
  have hin : Ieee.double.infRung = 9218868437227405312 := by decide
  have hsw : Ieee.double.signWeight = 9223372036854775808 := by decide
  have hfb : Ieee.double.fractionBits = 52 := rfl
  by_cases h0 : k = 0
  · subst h0
    refine ⟨s, 0, 1074, ?_, by simp⟩
    unfold Format.nearest
    rw [read_eq, Nat.zero_mul, if_pos rfl]
    unfold Format.word
    rw [hsw]
    cases s <;> simp [-Nat.reducePow, -Int.reducePow]
  · have hm0 : k * 2 ^ e ≠ 0 := Nat.mul_ne_zero h0 (by have := Nat.two_pow_pos e; omega)
    have hL : k.log2 ≤ 52 := by
      have := (Nat.log2_lt (k := 53) h0).2 (by simpa using hk)
      omega
    have hlog := log2_mul_pow h0 e
    obtain ⟨f, hf⟩ : ∃ f, k.log2 + f = 52 := ⟨52 - k.log2, by omega⟩
    have hlast : max (-(e : Int) + ((k * 2 ^ e).log2 : Int) - (52 : Nat)) (-1074) = -(f : Int) := by rw [hlog]; push_cast; omega
    have hK1 : 4503599627370496 ≤ k * 2 ^ f := by
      have h1 := Nat.log2_self_le h0
      have h2 := Nat.mul_le_mul_right (2 ^ f) h1
      rw [← Nat.pow_add, hf] at h2
      exact h2
    have hK2 : k * 2 ^ f < 9007199254740992 := by
      have h1 := Nat.lt_log2_self (n := k)
      have h2 := Nat.mul_lt_mul_of_pos_right h1 (Nat.two_pow_pos f)
      rw [← Nat.pow_add, show k.log2 + 1 + f = 53 by omega] at h2
      exact h2
    have hkept : Toward.even.cut s ((k * 2 ^ e) <<< (-(e : Int) - -(f : Int)).toNat) (-(f : Int) - -(e : Int)).toNat = k * 2 ^ f := by
      have e1 : (-(e : Int) - -(f : Int)).toNat = f - e := by omega
      have e2 : (-(f : Int) - -(e : Int)).toNat = e - f := by omega
      rw [e1, e2, Nat.shiftLeft_eq, Nat.mul_assoc, ← Nat.pow_add]
      by_cases hd : e ≤ f
      · rw [show e + (f - e) = f by omega, show e - f = 0 by omega]
        simpa using cut_mul .even s (k * 2 ^ f) 0
      · rw [show e + (f - e) = f + (e - f) by omega, Nat.pow_add, ← Nat.mul_assoc]
        exact cut_mul .even s (k * 2 ^ f) (e - f)
    refine ⟨s, k, f, ?_, rfl⟩
    unfold Format.nearest
    rw [if_neg hm0, hfb, hlp, hlast]
    dsimp only
    rw [hkept, hbi, hin]
    have hf52 : f ≤ 52 := by omega
    generalize k * 2 ^ f = K at hK1 hK2 ⊢
    clear hkept hlast hL hlog hm0 h0 hf hk hlp hbi hin hfb
    have hr : (-(f : Int) - -1074).toNat = 1074 - f := by omega
    rw [hr]
    have hmin : min ((1074 - f) * 4503599627370496 + K) 9218868437227405312 = (1074 - f) * 4503599627370496 + K := by
      apply Nat.min_eq_left
      omega
    rw [hmin]
    rw [read_eq]
    unfold Format.word
    rw [hsw]
    have hR : (1074 - f) * 4503599627370496 + K < 9223372036854775808 := by omega
    have hs1 : (if s then 9223372036854775808 + ((1074 - f) * 4503599627370496 + K) else (1074 - f) * 4503599627370496 + K) / 9223372036854775808 % 2 = if s then 1 else 0 := by cases s <;> simp <;> omega
    have hs2 : (if s then 9223372036854775808 + ((1074 - f) * 4503599627370496 + K) else (1074 - f) * 4503599627370496 + K) % 9223372036854775808 = (1074 - f) * 4503599627370496 + K := by cases s <;> simp <;> omega
    rw [hs1, hs2, if_neg (by omega), if_pos (by omega)]
    have hq : ((1074 - f) * 4503599627370496 + K) / 4503599627370496 = 1075 - f := by omega
    have hq2 : 4503599627370496 + ((1074 - f) * 4503599627370496 + K) % 4503599627370496 = K := by omega
    rw [hq, hq2]
    have hq3 : (-1074 : Int) + ((1075 - f - 1 : Nat) : Int) = -(f : Int) := by omega
    rw [hq3]
    cases s <;> simp
theorem isD_write {d : Datum} {n : Int} (h : IsD d n) (hn : -9007199254740992 < n ∧ n < 9007199254740992) : IsF (FloatKind.f64.format.write d) n := by
  obtain ⟨s, k, e, rfl, hk⟩ := h
  have : k < 9007199254740992 := by cases s <;> simp at hk <;> omega
  rw [hk]
  exact nearest_read s k e this
theorem nearest_F {n : Int} (hn : -9007199254740992 < n ∧ n < 9007199254740992) : IsF (FloatKind.f64.nearest n) n := by
  refine isD_write (d := .number (decide (n < 0)) n.natAbs 0) ⟨decide (n < 0), n.natAbs, 0, by simp, ?_⟩ hn
  by_cases h : n < 0 <;> simp [h] <;> omega
theorem signed_eq (s : Bool) (m u : Nat) : signed s m u = (if s then -(m : Int) else (m : Int)) * 2 ^ u := by
  unfold signed
  cases s <;> simp [Nat.shiftLeft_eq, Int.neg_mul]
theorem isD_sum {a b : Datum} {n m : Int} (ha : IsD a n) (hb : IsD b m) : ∃ d, a.sum b = some d ∧ IsD d (n + m) := by
  obtain ⟨s, k, e, rfl, hk⟩ := ha
  obtain ⟨t, l, f, rfl, hl⟩ := hb
  simp only [Datum.sum]
  refine ⟨_, rfl, ?_⟩
  obtain ⟨g, hg1, hg2⟩ : ∃ g : Nat, min (-(e : Int)) (-(f : Int)) = -(g : Int) ∧ e ≤ g ∧ f ≤ g := ⟨max e f, by omega, by omega, by omega⟩
  rw [hg1, show (-(e : Int) - -(g : Int)).toNat = g - e by omega, show (-(f : Int) - -(g : Int)).toNat = g - f by omega, signed_eq, signed_eq]
  have hT : (if s = true then -((k * 2 ^ e : Nat) : Int) else ((k * 2 ^ e : Nat) : Int)) * 2 ^ (g - e) + (if t = true then -((l * 2 ^ f : Nat) : Int) else ((l * 2 ^ f : Nat) : Int)) * 2 ^ (g - f) = (n + m) * 2 ^ g := by
    have h1 : (2 : Int) ^ g = 2 ^ e * 2 ^ (g - e) := by rw [← Int.pow_add]; congr 1; omega
    have h2 : (2 : Int) ^ g = 2 ^ f * 2 ^ (g - f) := by rw [← Int.pow_add]; congr 1; omega
    rw [Int.add_mul]
    conv => rhs; lhs; rw [h1]
    conv => rhs; rhs; rw [h2]
    rw [hk, hl]
    cases s <;> cases t <;> simp [Int.neg_mul, Int.mul_assoc]
  rw [hT]
  have hp : (0 : Int) < 2 ^ g := Int.pow_pos (by decide)
  generalize n + m = N
  refine ⟨if N * 2 ^ g = 0 then s && t else decide (N * 2 ^ g < 0), N.natAbs, g, ?_, ?_⟩
  · rw [Int.natAbs_mul, Int.natAbs_pow]; rfl
  · by_cases h0 : N = 0
    · subst h0; simp
    · have h1 : N * 2 ^ g ≠ 0 := Int.mul_ne_zero h0 (by omega)
      rw [if_neg h1]
      by_cases h2 : N < 0
      · have h3 : N * 2 ^ g < 0 := Int.mul_neg_of_neg_of_pos h2 hp
        simp only [h3, decide_true, if_true]; omega
      · have h3 : ¬ N * 2 ^ g < 0 := by have := Int.mul_nonneg (show 0 ≤ N by omega) (show (0 : Int) ≤ 2 ^ g by omega); omega
        simp only [h3, decide_false, Bool.false_eq_true, if_false]; omega
theorem isD_opp {a : Datum} {n : Int} (ha : IsD a n) : IsD a.opposite (-n) := by
  obtain ⟨s, k, e, rfl, hk⟩ := ha
  refine ⟨!s, k, e, rfl, ?_⟩
  rw [hk]; cases s <;> simp
theorem isD_product {a b : Datum} {n m : Int} (ha : IsD a n) (hb : IsD b m) : ∃ d, a.product b = some d ∧ IsD d (n * m) := by
  obtain ⟨s, k, e, rfl, hk⟩ := ha
  obtain ⟨t, l, f, rfl, hl⟩ := hb
  refine ⟨_, rfl, s ^^ t, k * l, e + f, ?_, ?_⟩
  · congr 1
    · rw [Nat.pow_add]; simp only [Nat.mul_assoc, Nat.mul_left_comm]
    · push_cast; omega
  · rw [hk, hl]; cases s <;> cases t <;> simp [Int.neg_mul, Int.mul_neg]
theorem add_F {a b : Nat} {n m : Int} (ha : IsF a n) (hb : IsF b m) (h : -9007199254740992 < n + m ∧ n + m < 9007199254740992) : ∃ x, FloatKind.f64.format.add a b = some x ∧ IsF x (n + m) := by
  obtain ⟨d, h1, h2⟩ := isD_sum ha hb
  exact ⟨_, by unfold Format.add; rw [h1]; rfl, isD_write h2 h⟩
theorem sub_F {a b : Nat} {n m : Int} (ha : IsF a n) (hb : IsF b m) (h : -9007199254740992 < n - m ∧ n - m < 9007199254740992) : ∃ x, FloatKind.f64.format.sub a b = some x ∧ IsF x (n - m) := by
  obtain ⟨d, h1, h2⟩ := isD_sum ha (isD_opp hb)
  exact ⟨_, by unfold Format.sub; rw [h1]; rfl, isD_write (by rw [Int.sub_eq_add_neg]; exact h2) h⟩
theorem mul_F {a b : Nat} {n m : Int} (ha : IsF a n) (hb : IsF b m) (h : -9007199254740992 < n * m ∧ n * m < 9007199254740992) : ∃ x, FloatKind.f64.format.mul a b = some x ∧ IsF x (n * m) := by
  obtain ⟨d, h1, h2⟩ := isD_product ha hb
  exact ⟨_, by unfold Format.mul; rw [h1]; rfl, isD_write h2 h⟩
theorem toInt_F {a : Nat} {n : Int} (ha : IsF a n) : (FloatKind.f64.decode a).toInt .zero = some n := by
  obtain ⟨s, k, e, h, hk⟩ := ha
  unfold FloatKind.decode
  rw [h]
  unfold Datum.toInt Datum.integral
  have e1 : (-(e : Int)).toNat = 0 := by omega
  have e2 : (-(-(e : Int))).toNat = e := by omega
  simp only [e1, e2, Nat.shiftLeft_zero, cut_mul, signed_eq, hk]
  cases s <;> simp
end Go.Am
end
section
namespace Go.Am
open Dat (cells)
structure Fz where
  x : Nat
  y : Nat
  deriving DecidableEq, Inhabited
instance : DatL Fz where
  sz := 1
  agg := false
  cells z := [.s (.complex .f64 z.x z.y)]
  dec | [.s (.complex .f64 a b)] => some ⟨a, b⟩ | _ => none
  ok := by intro l a h; split at h <;> cases h; rfl
  data := fun a => rfl
  one := fun _ => by first | rfl | trivial | (intros; rfl)
  dec_cells := fun a => rfl
theorem cells_fz (z : Fz) : cells z = [.s (.complex .f64 z.x z.y)] := rfl
theorem sz_fz : Dat.sz Fz = 1 := rfl
theorem getD_fz (xs : List Fz) (n : Nat) : List.getD (xs.map cells) n [C.s (.complex .f64 0 0)] = [.s (.complex .f64 (xs.getD n ⟨0, 0⟩).x (xs.getD n ⟨0, 0⟩).y)] := by
  simp only [List.getD_eq_getElem?_getD, List.getElem?_map]
  cases xs[n]? <;> rfl
def IsC (z : Fz) (g : Gs) : Prop := IsF z.x g.re ∧ IsF z.y g.im
def mulW (a b : Fz) : Fz := match aw .mul a.x a.y b.x b.y with | some (x, y) => ⟨x, y⟩ | none => ⟨0, 0⟩
def addW (a b : Fz) : Fz := match aw .add a.x a.y b.x b.y with | some (x, y) => ⟨x, y⟩ | none => ⟨0, 0⟩
def toW (g : Gs) : Fz := ⟨FloatKind.f64.nearest g.re, FloatKind.f64.nearest g.im⟩
theorem isC_zero : IsC ⟨0, 0⟩ ⟨0, 0⟩ := by
  have e : FloatKind.f64.nearest 0 = 0 := by decide
  have : IsF 0 0 := by have := nearest_F (n := 0) (by omega); rwa [e] at this
  exact ⟨this, this⟩
theorem isC_toW {g : Gs} (h : g.re.natAbs ≤ 9007199254740991 ∧ g.im.natAbs ≤ 9007199254740991) : IsC (toW g) g := ⟨nearest_F (by omega), nearest_F (by omega)⟩
theorem mulW_c {a b : Fz} {g h : Gs} (ha : IsC a g) (hb : IsC b h) {A B : Nat} (h1 : g.re.natAbs ≤ A ∧ g.im.natAbs ≤ A) (h2 : h.re.natAbs ≤ B ∧ h.im.natAbs ≤ B) (hAB : 2 * (A * B) ≤ 9007199254740991) :
    aw .mul a.x a.y b.x b.y = some ((mulW a b).x, (mulW a b).y) ∧ IsC (mulW a b) ⟨g.re * h.re - g.im * h.im, g.re * h.im + g.im * h.re⟩ := by
  have mb : ∀ {u v : Int}, u.natAbs ≤ A → v.natAbs ≤ B → (u * v).natAbs ≤ A * B := fun hu hv => by rw [Int.natAbs_mul]; exact Nat.mul_le_mul hu hv
  have m1 := mb h1.1 h2.1
  have m2 := mb h1.2 h2.2
  have m3 := mb h1.1 h2.2
  have m4 := mb h1.2 h2.1
  generalize A * B = N at *
  obtain ⟨p, p1, p2⟩ := mul_F ha.1 hb.1 (by omega)
  obtain ⟨q, q1, q2⟩ := mul_F ha.2 hb.2 (by omega)
  obtain ⟨r, r1, r2⟩ := mul_F ha.1 hb.2 (by omega)
  obtain ⟨s, s1, s2⟩ := mul_F ha.2 hb.1 (by omega)
  obtain ⟨t, t1, t2⟩ := sub_F p2 q2 (by omega)
  obtain ⟨u, u1, u2⟩ := add_F r2 s2 (by omega)
  have e : aw .mul a.x a.y b.x b.y = some (t, u) := by simp [aw, fArith, p1, q1, r1, s1, t1, u1]
  have e2 : mulW a b = ⟨t, u⟩ := by unfold mulW; rw [e]
  rw [e2]
  exact ⟨e, t2, u2⟩
theorem addW_c {a b : Fz} {g h : Gs} (ha : IsC a g) (hb : IsC b h) {A B : Nat} (h1 : g.re.natAbs ≤ A ∧ g.im.natAbs ≤ A) (h2 : h.re.natAbs ≤ B ∧ h.im.natAbs ≤ B) (hAB : A + B ≤ 9007199254740991) :
    aw .add a.x a.y b.x b.y = some ((addW a b).x, (addW a b).y) ∧ IsC (addW a b) ⟨g.re + h.re, g.im + h.im⟩ := by
  obtain ⟨t, t1, t2⟩ := add_F ha.1 hb.1 (by omega)
  obtain ⟨u, u1, u2⟩ := add_F ha.2 hb.2 (by omega)
  have e : aw .add a.x a.y b.x b.y = some (t, u) := by simp [aw, fArith, t1, u1]
  have e2 : addW a b = ⟨t, u⟩ := by unfold addW; rw [e]
  rw [e2]
  exact ⟨e, t2, u2⟩
def ofF (x : Nat) : Int := ((FloatKind.f64.decode x).toInt .zero).getD 0
def ofW (z : Fz) : Gs := ⟨ofF z.x, ofF z.y⟩
theorem ofF_c {x : Nat} {n : Int} (h : IsF x n) : (FloatKind.f64.decode x).toInt .zero = some n ∧ ofF x = n := by
  have := toInt_F h
  exact ⟨this, by unfold ofF; rw [this]; rfl⟩
end Go.Am
end
section
namespace Go.Am
open Dat (cells)
variable {P : Program}
structure ReadsAs (P : Program) (t : TypeId) (α : Type) [DatL α] : Prop where
  sz : P.cellsOf t = Dat.sz α
  pos : 0 < Dat.sz α
  rd : ∀ {H : Type} (en : TypeId × Value → H) (w : World) (sp : Nat → Bool) (fuel : Nat) (cs : List Value) (x : DataW H × List MemPlace), DataW.trod en P w 0 sp true fuel t cs = some x →
    ∃ a : α, (cells a).length = Dat.sz α ∧ cs.length = Dat.sz α ∧ ∀ (j : Nat) (c : C), (cells a)[j]? = some c → RepD (fun b => b < w.heap.size) w.heap c (cs.getD j undef) ∧ (cs.getD j undef).oneCell' = true
theorem ReadsAs.int {t : TypeId} (ht : P.underlying t = some (.int .i64)) (hc : P.cellsOf t = 1) : ReadsAs P t Int := by
  refine ⟨hc, by decide, fun en w sp fuel cs x h => ?_⟩
  obtain ⟨n, rfl, _, _⟩ := DataW.trod_int ht h
  refine ⟨n, rfl, rfl, fun j c hj => ?_⟩
  cases j with
  | zero =>
    simp only [cells, List.getElem?_cons_zero, Option.some.injEq] at hj
    subst hj
    exact ⟨.s _, rfl⟩
  | succ j => simp [cells] at hj
theorem cells?_get {w : World} {a : Addr} {n : Nat} {cs : List Value} (h : w.cells? 0 a n = some cs) : cs.length = n ∧ ∀ j, j < n → w.cell? (a.add j) = cs[j]? := by
  unfold World.cells? at h
  rw [if_pos (Nat.zero_le _)] at h
  exact ⟨by simpa using mapM_some_length h, fun j hj => mapM_some_get h j j (by simp [hj])⟩
theorem addr_add (a : Addr) (n m : Nat) : ((a.add n).add m).block = a.block ∧ ((a.add n).add m).off = a.off + n + m := by
  unfold Addr.add
  split <;> split <;> simp_all <;> omega
theorem cell?_inv {w : World} {a : Addr} {v : Value} (h : w.cell? a = some v) : a.spot = none ∧ ∃ arr ty fz, w.heap[a.block]? = some (.cells arr ty fz) ∧ arr[a.off]? = some v := by
  unfold World.cell? at h
  split at h
  · rename_i arr ty fz hh
    split at h
    · cases h
    · rename_i hs
      exact ⟨by cases hq : a.spot <;> simp_all, arr, ty, fz, hh, h⟩
  · cases h
theorem ReadsAs.list {t e : TypeId} {α : Type} [DatL α] (he : ReadsAs P e α) (ht : P.underlying t = some (.slice e)) (hc : P.cellsOf t = 1) : ReadsAs P t (List α) := by
  refine ⟨hc, (by show 0 < 1; decide), fun en w sp fuel cs x h => ?_⟩
  rcases DataW.trod_slice ht h with ⟨rfl, _⟩ | ⟨a, len, cap, elems, rest, n, _, rfl, _, _, hl, hm, hlen, hel, _, _⟩
  · refine ⟨[], rfl, rfl, fun j c hj => ?_⟩
    cases j with
    | zero =>
      simp only [cells, List.getElem?_cons_zero, Option.some.injEq] at hj
      subst hj
      exact ⟨.sl0 _ _ _ (by simp [maxLen]), rfl⟩
    | succ j => simp [cells] at hj
  · have hpos := he.pos
    rcases Nat.eq_zero_or_pos len with h0 | h0
    · subst h0
      refine ⟨[], rfl, rfl, fun j c hj => ?_⟩
      cases j with
      | zero =>
        simp only [cells, List.getElem?_cons_zero, Option.some.injEq] at hj
        subst hj
        exact ⟨.sl0 _ _ _ hm, rfl⟩
      | succ j => simp [cells] at hj
    · have hget : ∀ i, i < len → ∃ q : α × List Value, w.cells? 0 (a.add (i * Dat.sz α)) (Dat.sz α) = some q.2 ∧ (cells q.1).length = Dat.sz α ∧ ∀ (j : Nat) (c : C), (cells q.1)[j]? = some c → RepD (fun b => b < w.heap.size) w.heap c (q.2.getD j undef) ∧ (q.2.getD j undef).oneCell' = true := fun i hi => by
        have h1 := hel i hi
        rw [List.getElem?_eq_getElem (by omega), Option.bind_eq_some_iff] at h1
        obtain ⟨ci, h2, h3⟩ := h1
        obtain ⟨q, h4, h5, h6⟩ := he.rd en w sp n ci _ h3
        exact ⟨(q, ci), by rw [← he.sz]; exact h2, h4, h6⟩
      have hex : ∀ i : Nat, ∃ q : α × List Value, i < len → w.cells? 0 (a.add (i * Dat.sz α)) (Dat.sz α) = some q.2 ∧ (cells q.1).length = Dat.sz α ∧ ∀ (j : Nat) (c : C), (cells q.1)[j]? = some c → RepD (fun b => b < w.heap.size) w.heap c (q.2.getD j undef) ∧ (q.2.getD j undef).oneCell' = true := fun i => by
        by_cases hi : i < len
        · obtain ⟨q, hq⟩ := hget i hi; exact ⟨q, fun _ => hq⟩
        · obtain ⟨q, _⟩ := hget 0 h0; exact ⟨q, fun h => absurd h hi⟩
      obtain ⟨f, hf⟩ := Classical.axiomOfChoice hex
      let l : List α := (List.range len).map fun i => (f i).1
      have hll : l.length = len := by simp [l]
      have hli : ∀ (i : Nat) (e : List C), (l.map cells)[i]? = some e → i < len ∧ e = cells (f i).1 := fun i e h => by
        rw [List.getElem?_map, List.getElem?_map, Option.map_map, Option.map_eq_some_iff] at h
        obtain ⟨k, h1, rfl⟩ := h
        have hi := (List.getElem?_eq_some_iff.1 h1).1
        simp only [List.length_range] at hi
        rw [List.getElem?_range hi] at h1
        cases h1
        exact ⟨hi, rfl⟩
      have hcell : ∀ i, i < len → ∀ j, j < Dat.sz α → w.cell? ((a.add (i * Dat.sz α)).add j) = some ((f i).2.getD j undef) := fun i hi j hj => by
        obtain ⟨h1, h2, h3⟩ := hf i hi
        obtain ⟨g1, g2⟩ := cells?_get h1
        rw [g2 j hj, List.getD_eq_getElem?_getD, List.getElem?_eq_getElem (by omega)]; rfl
      obtain ⟨hsp, arr, ty, fz, hh, _⟩ := cell?_inv (hcell 0 h0 0 hpos)
      have hsp' : a.spot = none := by simpa [Addr.add] using hsp
      rw [(addr_add a _ _).1] at hh
      obtain ⟨b, off, spot⟩ := a
      simp only at hsp'
      subst hsp'
      have hb : b < w.heap.size := by
        rcases Nat.lt_or_ge b w.heap.size with h | h
        · exact h
        · have hh' : w.heap[b]? = some (.cells arr ty fz) := hh
          rw [Array.getElem?_eq_none h] at hh'; cases hh'
      refine ⟨l, rfl, rfl, fun j c hj => ?_⟩
      cases j with
      | succ j => simp [cells] at hj
      | zero =>
        simp only [cells, List.getElem?_cons_zero, Option.some.injEq] at hj
        subst hj
        refine ⟨?_, rfl⟩
        have hmain : RepD (fun b => b < w.heap.size) w.heap (.sl (Dat.sz α) (l.map cells)) (.slice (some ⟨b, off, none⟩) (l.map cells).length cap) := by
          refine .sl (l.map cells) b off cap (Dat.sz α) arr ty fz (fun i j => (f i).2.getD j undef) hb hh (by simpa [hll] using hl) hm (fun i e h => ?_) (fun i e j c h1 h2 => ?_) (fun i e j c h1 h2 => ?_)
          · obtain ⟨g1, rfl⟩ := hli i e h
            exact (hf i g1).2.1
          · obtain ⟨g1, rfl⟩ := hli i e h1
            obtain ⟨q1, q2, q3⟩ := hf i g1
            have hj : j < Dat.sz α := by have := (List.getElem?_eq_some_iff.1 h2).1; omega
            obtain ⟨_, arr2, ty2, fz2, hh2, hg⟩ := cell?_inv (hcell i g1 j hj)
            rw [(addr_add _ _ _).1] at hh2
            rw [(addr_add _ _ _).2] at hg
            have hh2' : w.heap[b]? = some (.cells arr2 ty2 fz2) := hh2
            have hh' : w.heap[b]? = some (.cells arr ty fz) := hh
            rw [hh'] at hh2'
            cases hh2'
            exact ⟨hg, (q3 j c h2).2⟩
          · obtain ⟨g1, rfl⟩ := hli i e h1
            exact ((hf i g1).2.2 j c h2).1
        simpa [hll] using hmain
theorem ReadsAs.arg {t e : TypeId} {α : Type} [DatL α] (h : ReadsAs P t (List α)) (ht : P.underlying t = some (.slice e)) {H : Type} {en : TypeId × Value → H} {W : World} {r : Reach} {base : Nat} {sp : Nat → Bool} {v : Value} {d : DataW H} {ps : List MemPlace}
    (hval : Value.okWide P W r base t v) (hd : DataW.Trod en P W 0 sp true t v d ps) : ∃ l : List α, ∀ E, Rep E (fun b => b < W.heap.size) W.heap (enc l) v := by
  obtain ⟨a, len, cap, rfl⟩ := WideShapes.okWide_slice ht hval
  obtain ⟨fuel, hf⟩ := hd
  obtain ⟨l, _, _, h3⟩ := h.rd en W sp fuel _ _ hf
  exact ⟨l, fun E => .d (h3 0 _ rfl).1⟩
theorem ReadsAs.argS {t : TypeId} {fs : Array Field} {α : Type} [DatL α] (h : ReadsAs P t α) (hag : Dat.agg α = true) (ht : P.underlying t = some (.struct fs)) {H : Type} {en : TypeId × Value → H} {W : World} {r : Reach} {base : Nat} {sp : Nat → Bool} {v : Value} {d : DataW H} {ps : List MemPlace}
    (hval : Value.okWide P W r base t v) (hd : DataW.Trod en P W 0 sp true t v d ps) : ∃ a : α, ∀ E, Rep E (fun b => b < W.heap.size) W.heap (enc a) v := by
  obtain ⟨vs, rfl, _⟩ := WideShapes.okWide_struct ht hval
  obtain ⟨fuel, hf⟩ := hd
  obtain ⟨a, h1, h2, h3⟩ := h.rd en W sp fuel _ _ hf
  have hc : (Value.agg vs).cells = vs := by simp [Value.cells]
  rw [hc] at h2 h3
  have e : ∀ j, vs.toList.getD j undef = vs.getD j undef := fun j => by simp [List.getD_eq_getElem?_getD, Array.getD_eq_getD_getElem?]
  refine ⟨a, fun E => ?_⟩
  rw [enc, if_pos hag]
  refine .agg _ vs (by simpa [h1] using h2) (fun j c hj => .d (by have := (h3 j c hj).1; rwa [e] at this)) (fun j hj => ?_)
  have hj' : j < (cells a).length := by rw [h1, ← h2]; simpa using hj
  have := (h3 j _ (List.getElem?_eq_getElem hj')).2
  rwa [e] at this
theorem law_walkG [Glob P] {f : FuncId} {args : List C} (hF : FC P f args [] (enc true) []) {vs : Array Value} {W : World} (hg : GlobOk P (fun b => b < W.heap.size) W.heap) (hs : vs.size = args.length)
    (ha : ∀ (j : Nat) (c : C), args[j]? = some c → ∀ E, Rep E (fun b => b < W.heap.size) W.heap c (vs.getD j undef)) :
    Calls P f vs W fun e w' => e = .returned (.bool true) ∧ RowKit.Below W.heap.size W w' := by
  refine (hF.2 default (fun b => b < W.heap.size) vs W hg ⟨hs, fun j c hj => ha j c hj _⟩ ⟨by simp, fun k c h => by simp at h, fun k c _ _ h => by simp at h, fun k c h => by simp at h, fun k c h => by simp at h, fun b hb => hb⟩).mono ?_
  rintro e w' ⟨v, E', U', rfl, hr, hce⟩
  have : v = .bool true := rep_s hr
  subst this
  exact ⟨rfl, hce.os, hce.tape, hce.output, hce.size, fun k hk => hce.rest k hk (fun k c h => by simp at h)⟩
end Go.Am
end
section
namespace Go.Am
open Dat (cells)
def v0 := And.intro @enc_int <| And.intro @enc_bool <| And.intro @enc_str <| And.intro @enc_list <| And.intro @enc_gs <| And.intro @cells_gs <| And.intro @sz_gs <| And.intro @dec_gs <| And.intro @decV_gs <| And.intro @getD_gs <| And.intro @gs_eta <| And.intro @sz_int <| And.intro @sz_bool <| And.intro @sz_str <| And.intro @sz_list <| And.intro @decV_int <| And.intro @decV_bool <| And.intro @decV_str <| And.intro @decV_nil <| And.intro @decV_sl <| And.intro @dec_int <| And.intro @dec_bool <| And.intro @dec_str <| And.intro @dec_list <| And.intro @decL_nil <| And.intro @decL_cons <| And.intro @decL_map <| And.intro @getD_int <| And.intro @getD_bool <| And.intro @getD_str <| And.intro @cells_int <| And.intro @cells_bool <| And.intro @cells_str <| And.intro @cells_list <| And.intro @Option.getD_some.{0} <| And.intro @Option.getD_none.{0} <| And.intro @Option.map_some.{0, 0} <| And.intro @Option.map_none.{0, 0} <| And.intro @Option.bind_some.{0, 0} <| @Option.bind_none.{0, 0}
def v1 := And.intro @Option.some.injEq.{0} <| And.intro @true_and <| And.intro @and_true <| And.intro @and_self <| And.intro @Int.lt_irrefl <| And.intro @Nat.lt_irrefl <| And.intro @Nat.zero_add <| And.intro @Nat.add_zero <| And.intro @Bool.false_eq_true <| And.intro @Bool.not_true <| And.intro @Bool.not_false <| And.intro @Bool.true_eq_false <| And.intro @decide_true <| And.intro @decide_false <| And.intro @decide_eq_true_eq <| And.intro @Bool.not_eq_true' <| And.intro @decide_eq_false_iff_not <| And.intro @List.map_cons.{0, 0} <| And.intro @List.map_nil.{0, 0} <| And.intro @List.length_cons.{0} <| And.intro @List.length_nil.{0} <| And.intro @List.length_map.{0, 0} <| And.intro @List.take_succ_cons.{0} <| And.intro @List.take_zero.{0} <| And.intro @List.take_nil.{0} <| And.intro @List.drop_succ_cons.{0} <| And.intro @List.drop_zero.{0} <| And.intro @List.drop_nil.{0} <| And.intro @List.headD_cons.{0} <| And.intro @List.getD_cons_zero.{0} <| And.intro @List.getD_cons_succ.{0} <| And.intro @List.cons_append.{0} <| And.intro @List.nil_append.{0} <| And.intro @List.append_nil.{0} <| And.intro @List.all_cons.{0} <| And.intro @List.all_nil.{0} <| And.intro @Bool.and_true <| And.intro @Bool.true_and <| And.intro @Bool.and_self <| @List.isEmpty_nil.{0}
def v2 := And.intro @List.isEmpty_cons.{0} <| And.intro @List.replicate_succ.{0} <| And.intro @List.replicate_zero.{0} <| And.intro @List.set_cons_zero.{0} <| And.intro @List.set_cons_succ.{0} <| And.intro @List.lookup_nil.{0, 0} <| And.intro @lookup_if <| And.intro @Option.isSome_none.{0} <| And.intro @Option.isSome_some.{0} <| And.intro @Int.toNat_natCast <| And.intro @Int.toNat_zero <| And.intro @and_false <| And.intro @false_and <| And.intro @imp_self <| And.intro @true_implies <| And.intro @false_implies <| And.intro @C.s.injEq <| And.intro @C.sl.injEq <| And.intro @C.tup.injEq <| And.intro @C.agg.injEq <| And.intro @C.own.injEq <| And.intro @Go.Value.int.injEq <| And.intro @Go.Value.bool.injEq <| And.intro @Go.Value.string.injEq <| And.intro @Bool.or_false <| And.intro @Bool.or_self <| And.intro @Bool.false_or <| And.intro @Bool.or_true <| And.intro @Bool.true_or <| And.intro @ER.cont.injEq <| And.intro @List.getElem?_cons_zero.{0} <| And.intro @List.getElem?_cons_succ.{0} <| And.intro @List.getElem?_nil.{0} <| And.intro @List.contains_cons.{0} <| And.intro @List.contains_nil.{0} <| @beq_self_eq_true.{0}
def V := And.intro @v0 <| And.intro @v1 <| @v2
end Go.Am
end
section
namespace Go.Am
open Dat (cells)
variable {P : Program} [Glob P]
theorem CEv.below {E : Env} {U : Nat → Prop} {w w' : World} (hi : Inv E U w.heap []) (hb : RowKit.Below w.heap.size w w') : CEv E U w [] E U w' [] :=
  ⟨hb.os, hb.tape, hb.output, hb.size, fun b h => ⟨h, hb.block b (hi.lt b h)⟩, fun b h _ => hb.block b h, fun _ _ h => (by cases h), fun b h => .inl h, fun _ _ h => (by cases h),
    ⟨hi.nd, fun _ _ h => (by cases h), fun _ _ _ _ h => (by cases h), fun _ _ h => (by cases h), fun _ _ h => (by cases h), fun b h => Nat.lt_of_lt_of_le (hi.lt b h) hb.size⟩⟩
theorem FC.scal {f : FuncId} {vs : List Value} {r : C} (hf : FnOk P f)
    (h : ∀ (U : Nat → Prop) (w : World), GlobOk P U w.heap → (∀ b, U b → b < w.heap.size) → Calls P f vs.toArray w fun e w' => ∃ v, e = .returned v ∧ (∀ E U h, Rep E U h r v) ∧ RowKit.Below w.heap.size w w') : FC P f (vs.map C.s) [] r [] := by
  refine ⟨hf, fun E U aS w hg ha hi => ?_⟩
  have hv : aS = vs.toArray := by
    refine Array.ext (by simpa using ha.1) (fun i h1 h2 => ?_)
    have h3 : (vs.map C.s)[i]? = some (.s vs[i]) := by simp at h2; simp [h2]
    have := rep_s (ha.2 i _ h3)
    rw [Array.getD_eq_getD_getElem?, Array.getElem?_eq_getElem h1] at this
    simpa using this
  subst hv
  refine (h U w hg hi.lt).mono ?_
  rintro e w' ⟨v, rfl, hr, hb⟩
  exact ⟨v, E, U, rfl, hr E U w'.heap, CEv.below hi hb⟩
theorem strs_rep {E : Env} {U : Nat → Prop} {w : World} {xs : List ByteArray} {v : Value} (h : Rep E U w.heap (enc xs) v) (hU : ∀ b, U b → b < w.heap.size) :
    (xs = [] ∧ ∃ a c, v = .slice a 0 c) ∨ ∃ b off cap, v = .slice (some ⟨b, off, none⟩) xs.length cap ∧ xs.length ≤ cap ∧ b < w.heap.size ∧ ∀ (j : Nat) x, xs[j]? = some x → w.cell? ⟨b, off + j, none⟩ = some (.string x) := by
  have h : Rep E U w.heap (.sl 1 (xs.map cells)) v := h
  generalize he : xs.map cells = es at h
  cases h with
  | d hd =>
    cases hd with
    | sl0 _ a cap hc =>
      refine .inl ⟨by simpa using he, a, cap, rfl⟩
    | sl _ b off cap _ arr ty fz vf hUb hb hcap hmax hsz hv hr =>
      have hl : es.length = xs.length := by rw [← he, List.length_map]
      refine .inr ⟨b, off, cap, by rw [hl], by omega, hU b hUb, fun j x hj => ?_⟩
      have h1 : es[j]? = some [C.s (.string x)] := by rw [← he, List.getElem?_map, hj]; rfl
      obtain ⟨h2, _⟩ := hv j _ 0 _ h1 rfl
      have h3 := hr j _ 0 _ h1 rfl
      have h4 : vf j 0 = .string x := by generalize vf j 0 = q at h3; cases h3; rfl
      rw [h4] at h2
      have e : off + j * 1 + 0 = off + j := by omega
      rw [e] at h2
      simp only [World.cell?, hb]
      simpa using h2
end Go.Am
end
section
namespace Go.Am
open Dat (cells)
variable {P : Program}
structure ReadsP (P : Program) (t : TypeId) (α : Type) [DatL α] (p : α → Prop) : Prop where
  sz : P.cellsOf t = Dat.sz α
  pos : 0 < Dat.sz α
  rd : ∀ {H : Type} (en : TypeId × Value → H) (w : World) (sp : Nat → Bool) (fuel : Nat) (cs : List Value) (x : DataW H × List MemPlace), DataW.trod en P w 0 sp true fuel t cs = some x →
    ∃ a : α, p a ∧ (cells a).length = Dat.sz α ∧ cs.length = Dat.sz α ∧ ∀ (j : Nat) (c : C), (cells a)[j]? = some c → RepD (fun b => b < w.heap.size) w.heap c (cs.getD j undef) ∧ (cs.getD j undef).oneCell' = true
theorem ReadsP.int {t : TypeId} (ht : P.underlying t = some (.int .i64)) (hc : P.cellsOf t = 1) : ReadsP P t Int (fun n => -9223372036854775808 ≤ n ∧ n ≤ 9223372036854775807) := by
  refine ⟨hc, by decide, fun en w sp fuel cs x h => ?_⟩
  obtain ⟨n, rfl, _, hw⟩ := DataW.trod_int ht h
  have hw' : -9223372036854775808 ≤ n ∧ n ≤ 9223372036854775807 := by
    have e1 : IntKind.i64.min = -9223372036854775808 := rfl
    have e2 : IntKind.i64.max = 9223372036854775807 := rfl
    simpa [Lit.wf, e1, e2] using hw
  refine ⟨n, hw', rfl, rfl, fun j c hj => ?_⟩
  cases j with
  | zero =>
    simp only [cells, List.getElem?_cons_zero, Option.some.injEq] at hj
    subst hj
    exact ⟨.s _, rfl⟩
  | succ j => simp [cells] at hj
theorem ReadsP.list {t e : TypeId} {α : Type} [DatL α] {p : α → Prop} (he : ReadsP P e α p) (ht : P.underlying t = some (.slice e)) (hc : P.cellsOf t = 1) : ReadsP P t (List α) (fun l => ∀ a ∈ l, p a) := by
  refine ⟨hc, (by show 0 < 1; decide), fun en w sp fuel cs x h => ?_⟩
  rcases DataW.trod_slice ht h with ⟨rfl, _⟩ | ⟨a, len, cap, elems, rest, n, _, rfl, _, _, hl, hm, hlen, hel, _, _⟩
  · refine ⟨[], fun a h => (by cases h), rfl, rfl, fun j c hj => ?_⟩
    cases j with
    | zero =>
      simp only [cells, List.getElem?_cons_zero, Option.some.injEq] at hj
      subst hj
      exact ⟨.sl0 _ _ _ (by simp [maxLen]), rfl⟩
    | succ j => simp [cells] at hj
  · have hpos := he.pos
    rcases Nat.eq_zero_or_pos len with h0 | h0
    · subst h0
      refine ⟨[], fun a h => (by cases h), rfl, rfl, fun j c hj => ?_⟩
      cases j with
      | zero =>
        simp only [cells, List.getElem?_cons_zero, Option.some.injEq] at hj
        subst hj
        exact ⟨.sl0 _ _ _ hm, rfl⟩
      | succ j => simp [cells] at hj
    · have hget : ∀ i, i < len → ∃ q : α × List Value, p q.1 ∧ w.cells? 0 (a.add (i * Dat.sz α)) (Dat.sz α) = some q.2 ∧ (cells q.1).length = Dat.sz α ∧ ∀ (j : Nat) (c : C), (cells q.1)[j]? = some c → RepD (fun b => b < w.heap.size) w.heap c (q.2.getD j undef) ∧ (q.2.getD j undef).oneCell' = true := fun i hi => by
        have h1 := hel i hi
        rw [List.getElem?_eq_getElem (by omega), Option.bind_eq_some_iff] at h1
        obtain ⟨ci, h2, h3⟩ := h1
        obtain ⟨q, h0, h4, h5, h6⟩ := he.rd en w sp n ci _ h3
        exact ⟨(q, ci), h0, by rw [← he.sz]; exact h2, h4, h6⟩
      have hex : ∀ i : Nat, ∃ q : α × List Value, i < len → p q.1 ∧ w.cells? 0 (a.add (i * Dat.sz α)) (Dat.sz α) = some q.2 ∧ (cells q.1).length = Dat.sz α ∧ ∀ (j : Nat) (c : C), (cells q.1)[j]? = some c → RepD (fun b => b < w.heap.size) w.heap c (q.2.getD j undef) ∧ (q.2.getD j undef).oneCell' = true := fun i => by
        by_cases hi : i < len
        · obtain ⟨q, hq⟩ := hget i hi; exact ⟨q, fun _ => hq⟩
        · obtain ⟨q, _⟩ := hget 0 h0; exact ⟨q, fun h => absurd h hi⟩
      obtain ⟨f, hf⟩ := Classical.axiomOfChoice hex
      let l : List α := (List.range len).map fun i => (f i).1
      have hll : l.length = len := by simp [l]
      have hli : ∀ (i : Nat) (e : List C), (l.map cells)[i]? = some e → i < len ∧ e = cells (f i).1 := fun i e h => by
        rw [List.getElem?_map, List.getElem?_map, Option.map_map, Option.map_eq_some_iff] at h
        obtain ⟨k, h1, rfl⟩ := h
        have hi := (List.getElem?_eq_some_iff.1 h1).1
        simp only [List.length_range] at hi
        rw [List.getElem?_range hi] at h1
        cases h1
        exact ⟨hi, rfl⟩
      have hcell : ∀ i, i < len → ∀ j, j < Dat.sz α → w.cell? ((a.add (i * Dat.sz α)).add j) = some ((f i).2.getD j undef) := fun i hi j hj => by
        obtain ⟨_, h1, h2, h3⟩ := hf i hi
        obtain ⟨g1, g2⟩ := cells?_get h1
        rw [g2 j hj, List.getD_eq_getElem?_getD, List.getElem?_eq_getElem (by omega)]; rfl
      obtain ⟨hsp, arr, ty, fz, hh, _⟩ := cell?_inv (hcell 0 h0 0 hpos)
      have hsp' : a.spot = none := by simpa [Addr.add] using hsp
      rw [(addr_add a _ _).1] at hh
      obtain ⟨b, off, spot⟩ := a
      simp only at hsp'
      subst hsp'
      have hb : b < w.heap.size := by
        rcases Nat.lt_or_ge b w.heap.size with h | h
        · exact h
        · have hh' : w.heap[b]? = some (.cells arr ty fz) := hh
          rw [Array.getElem?_eq_none h] at hh'; cases hh'
      refine ⟨l, fun a ha => (by obtain ⟨i, hi, rfl⟩ := List.mem_map.1 ha; exact (hf i (List.mem_range.1 hi)).1), rfl, rfl, fun j c hj => ?_⟩
      cases j with
      | succ j => simp [cells] at hj
      | zero =>
        simp only [cells, List.getElem?_cons_zero, Option.some.injEq] at hj
        subst hj
        refine ⟨?_, rfl⟩
        have hmain : RepD (fun b => b < w.heap.size) w.heap (.sl (Dat.sz α) (l.map cells)) (.slice (some ⟨b, off, none⟩) (l.map cells).length cap) := by
          refine .sl (l.map cells) b off cap (Dat.sz α) arr ty fz (fun i j => (f i).2.getD j undef) hb hh (by simpa [hll] using hl) hm (fun i e h => ?_) (fun i e j c h1 h2 => ?_) (fun i e j c h1 h2 => ?_)
          · obtain ⟨g1, rfl⟩ := hli i e h
            exact (hf i g1).2.2.1
          · obtain ⟨g1, rfl⟩ := hli i e h1
            obtain ⟨_, q1, q2, q3⟩ := hf i g1
            have hj : j < Dat.sz α := by have := (List.getElem?_eq_some_iff.1 h2).1; omega
            obtain ⟨_, arr2, ty2, fz2, hh2, hg⟩ := cell?_inv (hcell i g1 j hj)
            rw [(addr_add _ _ _).1] at hh2
            rw [(addr_add _ _ _).2] at hg
            have hh2' : w.heap[b]? = some (.cells arr2 ty2 fz2) := hh2
            have hh' : w.heap[b]? = some (.cells arr ty fz) := hh
            rw [hh'] at hh2'
            cases hh2'
            exact ⟨hg, (q3 j c h2).2⟩
          · obtain ⟨g1, rfl⟩ := hli i e h1
            exact ((hf i g1).2.2.2 j c h2).1
        simpa [hll] using hmain
theorem field_rdP {t tf : TypeId} {fs : Array Field} {β : Type} [DatL β] {p : β → Prop} (hf : ReadsP P tf β p) (ht : P.underlying t = some (.struct fs)) {H : Type} {en : TypeId × Value → H} {w : World} {sp : Nat → Bool} {fuel : Nat} {cs : List Value} {x : DataW H × List MemPlace}
    (h : DataW.trod en P w 0 sp true fuel t cs = some x) (i : Nat) {f : Field} (hi : fs[i]? = some f) (hft : f.type = tf) : cs.length = P.cellsOf t ∧ ∃ b : β, p b ∧ (cells b).length = Dat.sz β ∧
      ∀ (j : Nat) (c : C), (cells b)[j]? = some c → RepD (fun b => b < w.heap.size) w.heap c (cs.getD (f.offset + j) undef) ∧ (cs.getD (f.offset + j) undef).oneCell' = true := by
  obtain ⟨xs, n, _, _, hl, hxs, hx⟩ := DataW.trod_struct ht h
  refine ⟨hl, ?_⟩
  have h1 := hx i f hi
  have hi' : i < xs.length := by rw [hxs]; exact (Array.getElem?_eq_some_iff.1 hi).1
  rw [List.getElem?_eq_getElem hi', hft] at h1
  obtain ⟨b, h1', h2, h3, h4⟩ := hf.rd en w sp n _ _ h1
  refine ⟨b, h1', h2, fun j c hj => ?_⟩
  have hj' : j < Dat.sz β := by have := (List.getElem?_eq_some_iff.1 hj).1; omega
  have h5 := h4 j c hj
  have e : ((cs.drop f.offset).take (P.cellsOf tf)).getD j undef = cs.getD (f.offset + j) undef := by
    rw [hf.sz]
    simp only [List.getD_eq_getElem?_getD, List.getElem?_take, List.getElem?_drop, if_pos hj']
  rw [e] at h5
  exact h5
theorem ReadsP.arg {t e : TypeId} {α : Type} [DatL α] {p : List α → Prop} (h : ReadsP P t (List α) p) (ht : P.underlying t = some (.slice e)) {H : Type} {en : TypeId × Value → H} {W : World} {r : Reach} {base : Nat} {sp : Nat → Bool} {v : Value} {d : DataW H} {ps : List MemPlace}
    (hval : Value.okWide P W r base t v) (hd : DataW.Trod en P W 0 sp true t v d ps) : ∃ l : List α, p l ∧ ∀ E, Rep E (fun b => b < W.heap.size) W.heap (enc l) v := by
  obtain ⟨a, len, cap, rfl⟩ := WideShapes.okWide_slice ht hval
  obtain ⟨fuel, hf⟩ := hd
  obtain ⟨l, h0, _, _, h3⟩ := h.rd en W sp fuel _ _ hf
  exact ⟨l, h0, fun E => .d (h3 0 _ rfl).1⟩
theorem ReadsP.argS {t : TypeId} {fs : Array Field} {α : Type} [DatL α] {p : α → Prop} (h : ReadsP P t α p) (hag : Dat.agg α = true) (ht : P.underlying t = some (.struct fs)) {H : Type} {en : TypeId × Value → H} {W : World} {r : Reach} {base : Nat} {sp : Nat → Bool} {v : Value} {d : DataW H} {ps : List MemPlace}
    (hval : Value.okWide P W r base t v) (hd : DataW.Trod en P W 0 sp true t v d ps) : ∃ a : α, p a ∧ ∀ E, Rep E (fun b => b < W.heap.size) W.heap (enc a) v := by
  obtain ⟨vs, rfl, _⟩ := WideShapes.okWide_struct ht hval
  obtain ⟨fuel, hf⟩ := hd
  obtain ⟨a, h0, h1, h2, h3⟩ := h.rd en W sp fuel _ _ hf
  have hc : (Value.agg vs).cells = vs := by simp [Value.cells]
  rw [hc] at h2 h3
  have e : ∀ j, vs.toList.getD j undef = vs.getD j undef := fun j => by simp [List.getD_eq_getElem?_getD, Array.getD_eq_getD_getElem?]
  refine ⟨a, h0, fun E => ?_⟩
  rw [enc, if_pos hag]
  refine .agg _ vs (by simpa [h1] using h2) (fun j c hj => .d (by have := (h3 j c hj).1; rwa [e] at this)) (fun j hj => ?_)
  have hj' : j < (cells a).length := by rw [h1, ← h2]; simpa using hj
  have := (h3 j _ (List.getElem?_eq_getElem hj')).2
  rwa [e] at this
theorem laid_iface {n nm : String} {d : DataW Unit} {r : List (String × DataW Unit)} {W : World} {g : Nat} {ti : TypeId} {ms : Array (String × TypeId)} (h : laidMet P ((n, .iface nm d) :: r) W)
    (hg : P.globalNamed n = some g) (ht : (P.globals[g]?).map (·.type) = some ti) (hi : P.underlying ti = some (.interface ms)) : ∃ tp p ty fz, W.heap[g]? = some (.cells #[.iface tp p] ty fz) := by
  obtain ⟨ps, ⟨g0, t0, cs0, f0, p0, q0, hg0, ht0, hv0, hd0, _, e0⟩, _, _⟩ := h
  obtain rfl := Option.some.inj (hg.symm.trans hg0)
  obtain rfl := Option.some.inj (ht.symm.trans ht0)
  obtain ⟨_, u, v, hcs, _, _⟩ := iface_of_trod hi hd0
  have hcs : cs0 = #[.iface u v] := by cases cs0; simpa using hcs
  subst hcs
  unfold World.var? at hv0
  rw [hg] at hv0
  simp only [Option.bind_some] at hv0
  split at hv0
  · rename_i cs ty fz hh
    cases hv0
    exact ⟨u, v, ty, fz, hh⟩
  · cases hv0
theorem var_heap {n : String} {cs : Array Value} {W : World} {g : Nat} (h : W.var? P n = some cs) (hg : P.globalNamed n = some g) : ∃ ty fz, W.heap[g]? = some (.cells cs ty fz) := by
  unfold World.var? at h
  rw [hg] at h
  simp only [Option.bind_some] at h
  split at h
  · rename_i cs ty fz hh
    cases h
    exact ⟨ty, fz, hh⟩
  · cases h
end Go.Am
end
section
open Go Go.Am
open Go.Am.Dat (cells)
namespace Go.Proofs.YtfgpbmjmoobcnaaGreatDoor
def varsOk (U : Nat → Prop) (h : Array Obj) : Prop :=
  (∃ ty fz, U 1 ∧ h[1]? = some (.cells (Lib.pow10Tab.map fun z => Value.int .u64 z).toArray ty fz)) ∧
  (∃ tp p ty fz, U 4 ∧ h[4]? = some (.cells #[.iface tp p] ty fz)) ∧ (∃ tp p ty fz, U 5 ∧ h[5]? = some (.cells #[.iface tp p] ty fz))
instance : Glob Tryz.prog where
  gl := []
  inv := varsOk
  mono := fun U U' h h' ⟨⟨a, b, c, d⟩, ⟨e, f, g, i, j, k⟩, l, m, n, o, p, q⟩ hk =>
    ⟨⟨a, b, (hk 1 c).1, (hk 1 c).2.trans d⟩, ⟨e, f, g, i, (hk 4 j).1, (hk 4 j).2.trans k⟩, l, m, n, o, (hk 5 p).1, (hk 5 p).2.trans q⟩
end Go.Proofs.YtfgpbmjmoobcnaaGreatDoor
end
section
open Go Go.Am
open Go.Am.Dat (cells)
namespace Go.Proofs.YtfgpbmjmoobcnaaGreatDoor
set_option maxRecDepth 100000
def c3 : AC := .seq (.region false [⟨some 4, none, .mv (.const (.bool false)), false⟩]) (.keep [0, 1] (.seq (.seq (.region false [⟨some 12, none, .call (.func 4) [], false⟩, ⟨some 13, none, .un .not (.tmp 12), false⟩]) (.keep [0, 1, 13] (.cond (.tmp 13) (.seq (.region false [⟨some 4, none, .mv (.const (.bool false)), false⟩]) (.keep [4] (.ret))) (.skip)))) (.keep [0, 1] (.seq (.seq (.region false [⟨some 14, none, .mv (.tmp 0), false⟩, ⟨some 15, none, .len false (.tmp 14), false⟩, ⟨some 16, none, .bin .gtr 3 (.tmp 15) (.const (.int .i64 8)), false⟩, ⟨some 17, none, .mv (.tmp 16), false⟩, ⟨some 18, some (17, false), .mv (.tmp 1), false⟩, ⟨some 19, some (17, false), .len true (.tmp 18), false⟩, ⟨some 20, some (17, false), .bin .gtr 3 (.tmp 19) (.const (.int .i64 100)), false⟩, ⟨some 21, none, .pick (.tmp 17) (.const (.bool true)) (.tmp 20), false⟩]) (.keep [0, 1, 21] (.cond (.tmp 21) (.seq (.region false [⟨some 4, none, .mv (.const (.bool true)), false⟩]) (.keep [4] (.ret))) (.skip)))) (.keep [0, 1] (.seq (.region false [⟨some 22, none, .mv (.tmp 0), false⟩, ⟨some 23, none, .call (.func 6) [(.tmp 22)], false⟩, ⟨some 24, none, .call (.func 5) [(.tmp 23)], false⟩, ⟨some 5, none, .mv (.tmp 24), false⟩]) (.keep [0, 1, 5] (.seq (.region false [⟨some 26, none, .mv (.tmp 1), false⟩, ⟨some 27, none, .call (.func 7) [(.tmp 26)], false⟩, ⟨some 25, none, .mv (.tmp 27), false⟩, ⟨some 28, none, .extr (.tmp 25) 0, false⟩, ⟨some 29, none, .extr (.tmp 25) 1, false⟩, ⟨some 6, none, .mv (.tmp 28), false⟩, ⟨some 7, none, .mv (.tmp 29), false⟩]) (.keep [0, 1, 5, 6, 7] (.seq (.region false [⟨some 31, none, .mv (.tmp 1), false⟩, ⟨some 32, none, .call (.func 8) [(.tmp 31)], false⟩, ⟨some 30, none, .mv (.tmp 32), false⟩, ⟨some 33, none, .extr (.tmp 30) 0, false⟩, ⟨some 34, none, .extr (.tmp 30) 1, false⟩, ⟨some 8, none, .mv (.tmp 33), false⟩, ⟨some 9, none, .mv (.tmp 34), false⟩]) (.keep [0, 5, 6, 7, 8, 9] (.seq (.seq (.region false [⟨some 35, none, .mv (.tmp 5), false⟩, ⟨some 36, none, .mv (.tmp 0), false⟩, ⟨some 37, none, .call (.func 9) [(.tmp 36)], false⟩, ⟨some 38, none, .bin .neq 9 (.tmp 35) (.tmp 37), false⟩, ⟨some 39, none, .mv (.tmp 38), false⟩, ⟨some 40, some (39, false), .mv (.tmp 7), false⟩, ⟨some 41, some (39, false), .mv (.tmp 9), false⟩, ⟨some 42, some (39, false), .bin .neq 3 (.tmp 40) (.tmp 41), false⟩, ⟨some 43, none, .pick (.tmp 39) (.const (.bool true)) (.tmp 42), false⟩, ⟨some 44, none, .mv (.tmp 43), false⟩, ⟨some 45, some (44, false), .mv (.tmp 6), false⟩, ⟨some 46, some (44, false), .mv (.tmp 8), false⟩, ⟨some 47, some (44, false), .call (.func 10) [(.tmp 45), (.tmp 46)], false⟩, ⟨some 48, some (44, false), .un .not (.tmp 47), false⟩, ⟨some 49, none, .pick (.tmp 44) (.const (.bool true)) (.tmp 48), false⟩]) (.keep [0, 5, 49] (.cond (.tmp 49) (.seq (.region false [⟨some 4, none, .mv (.const (.bool false)), false⟩]) (.keep [4] (.ret))) (.skip)))) (.keep [0, 5] (.seq (.seq (.region false [⟨some 50, none, .mv (.tmp 0), false⟩, ⟨some 51, none, .call (.func 11) [(.tmp 50)], false⟩, ⟨some 52, none, .bin .neq 3 (.tmp 51) (.const (.int .i64 0)), false⟩]) (.keep [0, 5, 52] (.cond (.tmp 52) (.seq (.region false [⟨some 4, none, .mv (.const (.bool true)), false⟩]) (.keep [4] (.ret))) (.skip)))) (.keep [0, 5] (.seq (.region false [⟨some 54, none, .mv (.tmp 5), false⟩, ⟨some 55, none, .call (.func 7) [(.tmp 54)], false⟩, ⟨some 53, none, .mv (.tmp 55), false⟩, ⟨some 56, none, .extr (.tmp 53) 0, false⟩, ⟨some 57, none, .extr (.tmp 53) 1, false⟩, ⟨some 10, none, .mv (.tmp 56), false⟩, ⟨some 11, none, .mv (.tmp 57), false⟩]) (.keep [0, 10, 11] (.seq (.region false [⟨some 58, none, .mv (.tmp 11), false⟩, ⟨some 59, none, .bin .eql 26 (.tmp 58) (.const (.int .i64 0)), false⟩, ⟨some 60, none, .mv (.tmp 59), false⟩, ⟨some 61, some (60, true), .mv (.tmp 10), false⟩, ⟨some 62, some (60, true), .mv (.tmp 0), false⟩, ⟨some 63, some (60, true), .call (.func 10) [(.tmp 61), (.tmp 62)], false⟩, ⟨some 64, none, .pick (.tmp 60) (.tmp 63) (.const (.bool false)), false⟩, ⟨some 4, none, .mv (.tmp 64), false⟩]) (.keep [4] (.ret))))))))))))))))))))
def rv3 : List RV := [.tmp 4]
theorem is3 : FnIs Tryz.prog 3 65 c3 rv3 := ⟨⟨Tryz.f3, _, Tryz.func3, by kernel_rfl, rfl, rfl, by kernel_rfl, by kernel_rfl⟩, by decide⟩
def c4 : AC := .seq (.region false [⟨some 0, none, .mv (.const (.bool false)), false⟩]) (.keep [] (.seq (.region false [⟨some 11, none, .call (.func 13) [], false⟩, ⟨some 12, none, .call (.func 12) [(.tmp 11), (.const (.int .i64 7))], false⟩, ⟨some 10, none, .mv (.tmp 12), false⟩, ⟨some 13, none, .extr (.tmp 10) 0, false⟩, ⟨some 14, none, .extr (.tmp 10) 1, false⟩, ⟨some 1, none, .mv (.tmp 13), false⟩, ⟨some 2, none, .mv (.tmp 14), false⟩]) (.keep [1, 2] (.seq (.region false [⟨some 16, none, .mkSl false 3 1 [.int .i64 0] 4 [(0, (.const (.int .i64 0))), (1, (.const (.int .i64 1))), (2, (.const (.int .i64 1))), (3, (.const (.int .i64 0)))], false⟩, ⟨some 17, none, .call (.func 14) [(.const (.int .i64 4)), (.tmp 16)], false⟩, ⟨some 15, none, .mv (.tmp 17), false⟩, ⟨some 18, none, .extr (.tmp 15) 0, false⟩, ⟨some 19, none, .extr (.tmp 15) 1, false⟩, ⟨some 3, none, .mv (.tmp 18), false⟩, ⟨some 4, none, .mv (.tmp 19), false⟩]) (.keep [1, 2, 3, 4] (.seq (.region false [⟨some 21, none, .build [.int .i64 0, .int .i64 0] [(0, 1, (.const (.int .i64 5))), (1, 1, (.const (.int .i64 1)))], false⟩, ⟨some 22, none, .mkSl false 43 2 [.int .i64 0, .int .i64 0] 1 [(0, (.tmp 21))], false⟩, ⟨some 23, none, .build [.int .i64 0, .int .i64 0, .slice none 0 0] [(0, 1, (.const (.int .i64 4))), (1, 1, (.const (.int .i64 2))), (2, 1, (.tmp 22))], false⟩, ⟨some 24, none, .call (.func 15) [(.tmp 23)], false⟩, ⟨some 20, none, .mv (.tmp 24), false⟩, ⟨some 25, none, .extr (.tmp 20) 0, false⟩, ⟨some 26, none, .extr (.tmp 20) 1, false⟩, ⟨some 5, none, .mv (.tmp 25), false⟩, ⟨some 6, none, .mv (.tmp 26), false⟩]) (.keep [1, 2, 3, 4, 5, 6] (.seq (.region false [⟨some 28, none, .build [.int .i64 0, .int .i64 0] [(0, 1, (.const (.int .i64 1)))], false⟩, ⟨some 29, none, .build [.int .i64 0, .int .i64 0] [(1, 1, (.const (.int .i64 1)))], false⟩, ⟨some 30, none, .mkSl false 43 2 [.int .i64 0, .int .i64 0] 2 [(0, (.tmp 28)), (1, (.tmp 29))], false⟩, ⟨some 31, none, .build [.int .i64 0, .int .i64 0] [], false⟩, ⟨some 32, none, .build [.int .i64 0, .int .i64 0] [(0, 1, (.const (.int .i64 2)))], false⟩, ⟨some 33, none, .mkSl false 43 2 [.int .i64 0, .int .i64 0] 2 [(0, (.tmp 31)), (1, (.tmp 32))], false⟩, ⟨some 34, none, .mkSl false 22 1 [.slice none 0 0] 2 [(0, (.tmp 30)), (1, (.tmp 33))], false⟩, ⟨some 35, none, .build [.int .i64 0, .int .i64 0] [(0, 1, (.const (.int .i64 2))), (1, 1, (.const (.int .i64 1)))], false⟩, ⟨some 36, none, .mkSl false 43 2 [.int .i64 0, .int .i64 0] 1 [(0, (.tmp 35))], false⟩, ⟨some 37, none, .build [.int .i64 0, .int .i64 0] [(0, 1, (.const (.int .i64 2))), (1, 1, (.const (.int .i64 2)))], false⟩, ⟨some 38, none, .mkSl false 43 2 [.int .i64 0, .int .i64 0] 1 [(0, (.tmp 37))], false⟩, ⟨some 39, none, .mkSl false 22 1 [.slice none 0 0] 2 [(0, (.tmp 36)), (1, (.tmp 38))], false⟩, ⟨some 40, none, .call (.func 16) [(.tmp 34), (.tmp 39)], false⟩, ⟨some 27, none, .mv (.tmp 40), false⟩, ⟨some 41, none, .extr (.tmp 27) 0, false⟩, ⟨some 42, none, .extr (.tmp 27) 1, false⟩, ⟨some 43, none, .extr (.tmp 27) 2, false⟩, ⟨some 7, none, .mv (.tmp 41), false⟩, ⟨some 8, none, .mv (.tmp 42), false⟩, ⟨some 9, none, .mv (.tmp 43), false⟩]) (.keep [1, 2, 3, 4, 5, 6, 7, 8, 9] (.seq (.region false [⟨some 44, none, .mv (.tmp 2), false⟩, ⟨some 45, none, .bin .eql 26 (.tmp 44) (.const (.int .i64 0)), false⟩, ⟨some 46, none, .mv (.tmp 45), false⟩, ⟨some 47, some (46, true), .mv (.tmp 1), false⟩, ⟨some 48, some (46, true), .mkSl false 3 1 [.int .i64 0] 7 [(0, (.const (.int .i64 1))), (1, (.const (.int .i64 0))), (2, (.const (.int .i64 0))), (3, (.const (.int .i64 1))), (4, (.const (.int .i64 0))), (5, (.const (.int .i64 1))), (6, (.const (.int .i64 1)))], false⟩, ⟨some 49, some (46, true), .call (.func 17) [(.tmp 47), (.tmp 48)], false⟩, ⟨some 50, none, .pick (.tmp 46) (.tmp 49) (.const (.bool false)), false⟩, ⟨some 51, none, .mv (.tmp 50), false⟩, ⟨some 52, some (51, true), .mv (.tmp 4), false⟩, ⟨some 53, some (51, true), .bin .eql 26 (.tmp 52) (.const (.int .i64 0)), false⟩, ⟨some 54, none, .pick (.tmp 51) (.tmp 53) (.const (.bool false)), false⟩, ⟨some 55, none, .mv (.tmp 54), false⟩, ⟨some 56, some (55, true), .mv (.tmp 3), false⟩, ⟨some 57, some (55, true), .build [.int .i64 0, .int .i64 0] [(0, 1, (.const (.int .i64 3))), (1, 1, (.const (.int .i64 (-1))))], false⟩, ⟨some 58, some (55, true), .mkSl false 43 2 [.int .i64 0, .int .i64 0] 1 [(0, (.tmp 57))], false⟩, ⟨some 59, some (55, true), .call (.func 10) [(.tmp 56), (.tmp 58)], false⟩, ⟨some 60, none, .pick (.tmp 55) (.tmp 59) (.const (.bool false)), false⟩, ⟨some 61, none, .mv (.tmp 60), false⟩, ⟨some 62, some (61, true), .mv (.tmp 6), false⟩, ⟨some 63, some (61, true), .bin .eql 26 (.tmp 62) (.const (.int .i64 0)), false⟩, ⟨some 64, none, .pick (.tmp 61) (.tmp 63) (.const (.bool false)), false⟩, ⟨some 65, none, .mv (.tmp 64), false⟩, ⟨some 66, some (65, true), .mv (.tmp 5), false⟩, ⟨some 67, some (65, true), .mkSl false 3 1 [.int .i64 0] 4 [(0, (.const (.int .i64 48))), (1, (.const (.int .i64 8))), (2, (.const (.int .i64 (-8)))), (3, (.const (.int .i64 24)))], false⟩, ⟨some 68, some (65, true), .call (.func 17) [(.tmp 66), (.tmp 67)], false⟩, ⟨some 69, none, .pick (.tmp 65) (.tmp 68) (.const (.bool false)), false⟩, ⟨some 70, none, .mv (.tmp 69), false⟩, ⟨some 71, some (70, true), .mv (.tmp 9), false⟩, ⟨some 72, some (70, true), .bin .eql 26 (.tmp 71) (.const (.int .i64 0)), false⟩, ⟨some 73, none, .pick (.tmp 70) (.tmp 72) (.const (.bool false)), false⟩, ⟨some 74, none, .mv (.tmp 73), false⟩, ⟨some 75, some (74, true), .mv (.tmp 8), false⟩, ⟨some 76, some (74, true), .bin .eql 3 (.tmp 75) (.const (.int .i64 4)), false⟩, ⟨some 77, none, .pick (.tmp 74) (.tmp 76) (.const (.bool false)), false⟩, ⟨some 78, none, .mv (.tmp 77), false⟩, ⟨some 79, some (78, true), .mv (.tmp 7), false⟩, ⟨some 80, some (78, true), .build [.int .i64 0, .int .i64 0] [(0, 1, (.const (.int .i64 12)))], false⟩, ⟨some 81, some (78, true), .mkSl false 43 2 [.int .i64 0, .int .i64 0] 1 [(0, (.tmp 80))], false⟩, ⟨some 82, some (78, true), .build [.int .i64 0, .int .i64 0] [(0, 1, (.const (.int .i64 4))), (1, 1, (.const (.int .i64 4)))], false⟩, ⟨some 83, some (78, true), .mkSl false 43 2 [.int .i64 0, .int .i64 0] 1 [(0, (.tmp 82))], false⟩, ⟨some 84, some (78, true), .mkSl false 22 1 [.slice none 0 0] 2 [(0, (.tmp 81)), (1, (.tmp 83))], false⟩, ⟨some 85, some (78, true), .call (.func 18) [(.tmp 79), (.tmp 84)], false⟩, ⟨some 86, none, .pick (.tmp 78) (.tmp 85) (.const (.bool false)), false⟩, ⟨some 0, none, .mv (.tmp 86), false⟩]) (.keep [0] (.ret))))))))))))
def rv4 : List RV := [.tmp 0]
theorem is4 : FnIs Tryz.prog 4 87 c4 rv4 := ⟨⟨Tryz.f4, _, Tryz.func4, by kernel_rfl, rfl, rfl, by kernel_rfl, by kernel_rfl⟩, by decide⟩
def c5l1 : AC := .seq (.region false [⟨some 9, none, .bin .lss 3 (.tmp 8) (.tmp 7), false⟩]) (.keep [3, 6, 7, 8, 9] (.seq (.cond (.tmp 9) (.skip) (.exit 0)) (.keep [3, 6, 7, 8] (.seq (.block 1 (.seq (.region false [⟨some 10, none, .iaddr 2 [.int .i64 0, .int .i64 0] (.tmp 6) (.tmp 8), false⟩, ⟨some 11, none, .load true 2 (.tmp 10), false⟩, ⟨some 5, none, .alloc [.int .i64 0, .int .i64 0], false⟩, ⟨none, none, .store false 2 (.tmp 5) (.tmp 11), false⟩]) (.keep [3, 5, 6, 7, 8] (.region true [⟨some 12, none, .mv (.tmp 3), false⟩, ⟨some 13, none, .faddr 0 (.tmp 5), false⟩, ⟨some 14, none, .load false 1 (.tmp 13), false⟩, ⟨some 15, none, .call (.func 19) [(.tmp 14)], false⟩, ⟨some 16, none, .bin .add 9 (.tmp 15) (.const (.string ⟨#[44]⟩)), false⟩, ⟨some 17, none, .faddr 1 (.tmp 5), false⟩, ⟨some 18, none, .load false 1 (.tmp 17), false⟩, ⟨some 19, none, .call (.func 19) [(.tmp 18)], false⟩, ⟨some 20, none, .bin .add 9 (.tmp 16) (.tmp 19), false⟩, ⟨some 21, none, .mkSl false 9 1 [.string ⟨#[]⟩] 1 [(0, (.tmp 20))], false⟩, ⟨some 22, none, .app 51 9 1 16 [.string ⟨#[]⟩] (.tmp 12) (.tmp 21), true⟩, ⟨some 3, none, .mv (.tmp 22), true⟩])))) (.keep [3, 6, 7, 8] (.region false [⟨some 23, none, .bin .add 3 (.tmp 8) (.const (.int .i64 1)), false⟩, ⟨some 8, none, .mv (.tmp 23), false⟩]))))))
def c5 : AC := .seq (.region false [⟨some 2, none, .mv (.const (.string ⟨#[]⟩)), false⟩]) (.keep [0] (.seq (.region false [⟨some 3, none, .mv (.const (.slice none 0 0)), false⟩]) (.keep [0, 3] (.nilrow 3 1 9 (.seq (.seq (.region false [⟨some 6, none, .mv (.tmp 0), false⟩, ⟨some 7, none, .len false (.tmp 6), false⟩, ⟨some 8, none, .mv (.const (.int .i64 0)), false⟩]) (.keep [3, 6, 7, 8] (.block 0 (.loop c5l1)))) (.keep [3] (.fz [3] (.seq (.region false [⟨some 24, none, .mv (.tmp 3), false⟩, ⟨some 25, none, .call (.func 20) [(.tmp 24), (.const (.string ⟨#[32]⟩))], false⟩, ⟨some 2, none, .mv (.tmp 25), false⟩]) (.keep [2] (.ret))))))))))
def rv5 : List RV := [.tmp 2]
theorem is5 : FnIs Tryz.prog 5 26 c5 rv5 := ⟨⟨Tryz.f5, _, Tryz.func5, by kernel_rfl, rfl, rfl, by kernel_rfl, by kernel_rfl⟩, by decide⟩
def c6 : AC := .seq (.region false [⟨some 2, none, .mv (.const (.slice none 0 0)), false⟩]) (.keep [0] (.seq (.region false [⟨some 3, none, .mkSl true 43 2 [.int .i64 0, .int .i64 0] 0 [], false⟩, ⟨some 4, none, .mv (.tmp 0), false⟩, ⟨some 5, none, .app 22 43 2 16 [.int .i64 0, .int .i64 0] (.tmp 3) (.tmp 4), false⟩, ⟨some 2, none, .mv (.tmp 5), false⟩]) (.keep [2] (.ret))))
def rv6 : List RV := [.tmp 2]
theorem is6 : FnIs Tryz.prog 6 6 c6 rv6 := ⟨⟨Tryz.f6, _, Tryz.func6, by kernel_rfl, rfl, rfl, by kernel_rfl, by kernel_rfl⟩, by decide⟩
def c7r1 : AC := .block 1 (.seq (.region false [⟨some 18, none, .mv (.tmp 5), false⟩, ⟨some 19, none, .call (.func 22) [(.tmp 18), (.const (.string ⟨#[44]⟩))], false⟩, ⟨some 17, none, .mv (.tmp 19), false⟩, ⟨some 20, none, .extr (.tmp 17) 0, false⟩, ⟨some 21, none, .extr (.tmp 17) 1, false⟩, ⟨some 22, none, .extr (.tmp 17) 2, false⟩, ⟨some 6, none, .mv (.tmp 20), false⟩, ⟨some 7, none, .mv (.tmp 21), false⟩, ⟨some 8, none, .mv (.tmp 22), false⟩]) (.keep [2, 3, 4, 6, 7, 15] (.seq (.region false [⟨some 24, none, .mv (.tmp 6), false⟩, ⟨some 25, none, .call (.func 23) [(.tmp 24)], false⟩, ⟨some 23, none, .mv (.tmp 25), false⟩, ⟨some 26, none, .extr (.tmp 23) 0, false⟩, ⟨some 27, none, .extr (.tmp 23) 1, false⟩, ⟨some 9, none, .mv (.tmp 26), false⟩, ⟨some 10, none, .mv (.tmp 27), false⟩]) (.keep [2, 3, 4, 7, 9, 10, 15] (.seq (.region false [⟨some 29, none, .mv (.tmp 7), false⟩, ⟨some 30, none, .call (.func 23) [(.tmp 29)], false⟩, ⟨some 28, none, .mv (.tmp 30), false⟩, ⟨some 31, none, .extr (.tmp 28) 0, false⟩, ⟨some 32, none, .extr (.tmp 28) 1, false⟩, ⟨some 11, none, .mv (.tmp 31), false⟩, ⟨some 12, none, .mv (.tmp 32), false⟩]) (.keep [2, 3, 4, 9, 10, 11, 12, 15] (.seq (.seq (.region false [⟨some 33, none, .mv (.tmp 10), false⟩, ⟨some 34, none, .un .not (.tmp 33), false⟩, ⟨some 35, none, .mv (.tmp 34), false⟩, ⟨some 36, some (35, false), .mv (.tmp 12), false⟩, ⟨some 37, some (35, false), .un .not (.tmp 36), false⟩, ⟨some 38, none, .pick (.tmp 35) (.const (.bool true)) (.tmp 37), false⟩]) (.keep [2, 3, 4, 9, 11, 15, 38] (.cond (.tmp 38) (.seq (.region false [⟨none, none, .store false 1 (.tmp 2) (.const (.slice none 0 0)), false⟩, ⟨none, none, .store false 1 (.tmp 3) (.const (.int .i64 7)), false⟩]) (.keep [2, 3] (.ret))) (.skip)))) (.keep [2, 3, 4, 9, 11, 15] (.region false [⟨some 39, none, .load false 1 (.tmp 4), false⟩, ⟨some 40, none, .mv (.tmp 9), false⟩, ⟨some 41, none, .mv (.tmp 11), false⟩, ⟨some 42, none, .build [.int .i64 0, .int .i64 0] [(0, 1, (.tmp 40)), (1, 1, (.tmp 41))], false⟩, ⟨some 43, none, .mkSl false 43 2 [.int .i64 0, .int .i64 0] 1 [(0, (.tmp 42))], false⟩, ⟨some 44, none, .app 22 43 2 16 [.int .i64 0, .int .i64 0] (.tmp 39) (.tmp 43), false⟩, ⟨none, none, .store true 1 (.tmp 4) (.tmp 44), false⟩])))))))))
def c7 : AC := .seq (.region false [⟨some 2, none, .alloc [.slice none 0 0], false⟩, ⟨some 3, none, .alloc [.int .i64 0], false⟩]) (.keep [0, 2, 3] (.seq (.region false [⟨some 4, none, .alloc [.slice none 0 0], false⟩]) (.keep [0, 2, 3, 4] (.seq (.seq (.region false [⟨some 14, none, .mv (.tmp 0), false⟩, ⟨some 15, none, .call (.func 21) [(.tmp 14), (.const (.string ⟨#[32]⟩))], false⟩]) (.keep [2, 3, 4, 15] (.block 0 (.rangeFunc (.tmp 15) [16] (.region false [⟨some 5, none, .mv (.tmp 16), false⟩]) c7r1)))) (.keep [2, 3, 4] (.seq (.seq (.region false [⟨some 45, none, .load false 1 (.tmp 4), false⟩, ⟨some 46, none, .call (.func 24) [(.tmp 45)], false⟩, ⟨some 13, none, .mv (.tmp 46), false⟩]) (.keep [2, 3, 4, 13] (.seq (.region false [⟨some 47, none, .mv (.tmp 13), false⟩, ⟨some 48, none, .bin .neq 26 (.tmp 47) (.const (.int .i64 0)), false⟩]) (.keep [2, 3, 4, 13, 48] (.cond (.tmp 48) (.seq (.region false [⟨some 49, none, .mv (.tmp 13), false⟩, ⟨none, none, .store false 1 (.tmp 2) (.const (.slice none 0 0)), false⟩, ⟨none, none, .store false 1 (.tmp 3) (.tmp 49), false⟩]) (.keep [2, 3] (.ret))) (.skip)))))) (.keep [2, 3, 4] (.seq (.region false [⟨some 50, none, .load false 1 (.tmp 4), false⟩, ⟨none, none, .store false 1 (.tmp 2) (.tmp 50), false⟩, ⟨none, none, .store false 1 (.tmp 3) (.const (.int .i64 0)), false⟩]) (.keep [2, 3] (.ret))))))))))
def rv7 : List RV := [.cell 2 false 1, .cell 3 false 1]
theorem is7 : FnIs Tryz.prog 7 51 c7 rv7 := ⟨⟨Tryz.f7, _, Tryz.func7, by kernel_rfl, rfl, rfl, by kernel_rfl, by kernel_rfl⟩, by decide⟩
def c8l1 : AC := .seq (.seq (.region false [⟨some 15, none, .mv (.tmp 6), false⟩, ⟨some 16, none, .mv (.tmp 5), false⟩, ⟨some 17, none, .len false (.tmp 16), false⟩, ⟨some 18, none, .bin .lss 3 (.tmp 15) (.tmp 17), false⟩]) (.keep [4, 5, 6, 18] (.cond (.tmp 18) (.skip) (.exit 0)))) (.keep [4, 5, 6] (.seq (.block 1 (.seq (.region false [⟨some 21, none, .mv (.tmp 5), false⟩, ⟨some 22, none, .mv (.tmp 6), false⟩, ⟨some 23, none, .iaddr 1 [.string ⟨#[]⟩] (.tmp 21) (.tmp 22), false⟩, ⟨some 24, none, .load false 1 (.tmp 23), false⟩, ⟨some 25, none, .call (.func 25) [(.tmp 24), (.const (.int .u8 44))], false⟩, ⟨some 7, none, .mv (.tmp 25), false⟩]) (.keep [4, 5, 6, 7] (.seq (.seq (.region false [⟨some 26, none, .mv (.tmp 7), false⟩, ⟨some 27, none, .len false (.tmp 26), false⟩, ⟨some 28, none, .bin .neq 3 (.tmp 27) (.const (.int .i64 2)), false⟩]) (.keep [4, 5, 6, 7, 28] (.cond (.tmp 28) (.seq (.region false [⟨some 2, none, .mv (.const (.slice none 0 0)), false⟩, ⟨some 3, none, .mv (.const (.int .i64 7)), false⟩]) (.keep [2, 3] (.ret))) (.skip)))) (.keep [4, 5, 6, 7] (.seq (.region false [⟨some 30, none, .mv (.tmp 7), false⟩, ⟨some 31, none, .iaddr 1 [.string ⟨#[]⟩] (.tmp 30) (.const (.int .i64 0)), false⟩, ⟨some 32, none, .load false 1 (.tmp 31), false⟩, ⟨some 33, none, .call (.func 26) [(.tmp 32), (.const (.int .i64 9))], false⟩, ⟨some 29, none, .mv (.tmp 33), false⟩, ⟨some 34, none, .extr (.tmp 29) 0, false⟩, ⟨some 35, none, .extr (.tmp 29) 1, false⟩, ⟨some 8, none, .mv (.tmp 34), false⟩, ⟨some 9, none, .mv (.tmp 35), false⟩]) (.keep [4, 5, 6, 7, 8, 9] (.seq (.region false [⟨some 37, none, .mv (.tmp 7), false⟩, ⟨some 38, none, .iaddr 1 [.string ⟨#[]⟩] (.tmp 37) (.const (.int .i64 1)), false⟩, ⟨some 39, none, .load false 1 (.tmp 38), false⟩, ⟨some 40, none, .call (.func 26) [(.tmp 39), (.const (.int .i64 9))], false⟩, ⟨some 36, none, .mv (.tmp 40), false⟩, ⟨some 41, none, .extr (.tmp 36) 0, false⟩, ⟨some 42, none, .extr (.tmp 36) 1, false⟩, ⟨some 10, none, .mv (.tmp 41), false⟩, ⟨some 11, none, .mv (.tmp 42), false⟩]) (.keep [4, 5, 6, 8, 9, 10, 11] (.seq (.seq (.region false [⟨some 43, none, .mv (.tmp 9), false⟩, ⟨some 44, none, .un .not (.tmp 43), false⟩, ⟨some 45, none, .mv (.tmp 44), false⟩, ⟨some 46, some (45, false), .mv (.tmp 11), false⟩, ⟨some 47, some (45, false), .un .not (.tmp 46), false⟩, ⟨some 48, none, .pick (.tmp 45) (.const (.bool true)) (.tmp 47), false⟩]) (.keep [4, 5, 6, 8, 10, 48] (.cond (.tmp 48) (.seq (.region false [⟨some 2, none, .mv (.const (.slice none 0 0)), false⟩, ⟨some 3, none, .mv (.const (.int .i64 7)), false⟩]) (.keep [2, 3] (.ret))) (.skip)))) (.keep [4, 5, 6, 8, 10] (.region false [⟨some 49, none, .mv (.tmp 4), false⟩, ⟨some 50, none, .mv (.tmp 8), false⟩, ⟨some 51, none, .mv (.tmp 10), false⟩, ⟨some 52, none, .build [.int .i64 0, .int .i64 0] [(0, 1, (.tmp 50)), (1, 1, (.tmp 51))], false⟩, ⟨some 53, none, .mkSl false 43 2 [.int .i64 0, .int .i64 0] 1 [(0, (.tmp 52))], false⟩, ⟨some 54, none, .app 22 43 2 16 [.int .i64 0, .int .i64 0] (.tmp 49) (.tmp 53), false⟩, ⟨some 4, none, .mv (.tmp 54), false⟩])))))))))))) (.keep [4, 5, 6] (.region false [⟨some 19, none, .mv (.tmp 6), false⟩, ⟨some 20, none, .bin .add 3 (.tmp 19) (.const (.int .i64 1)), false⟩, ⟨some 6, none, .mv (.tmp 20), false⟩]))))
def c8 : AC := .seq (.region false [⟨some 2, none, .mv (.const (.slice none 0 0)), false⟩, ⟨some 3, none, .mv (.const (.int .i64 0)), false⟩]) (.keep [0] (.seq (.region false [⟨some 4, none, .mv (.const (.slice none 0 0)), false⟩]) (.keep [0, 4] (.nilrow 4 2 43 (.seq (.region false [⟨some 13, none, .mv (.tmp 0), false⟩, ⟨some 14, none, .call (.func 25) [(.tmp 13), (.const (.int .u8 32))], false⟩, ⟨some 5, none, .mv (.tmp 14), false⟩]) (.keep [4, 5] (.seq (.seq (.region false [⟨some 6, none, .mv (.const (.int .i64 0)), false⟩]) (.keep [4, 5, 6] (.block 0 (.loop c8l1)))) (.keep [4] (.fz [4] (.seq (.seq (.region false [⟨some 55, none, .mv (.tmp 4), false⟩, ⟨some 56, none, .call (.func 11) [(.tmp 55)], false⟩, ⟨some 12, none, .mv (.tmp 56), false⟩]) (.keep [4, 12] (.seq (.region false [⟨some 57, none, .mv (.tmp 12), false⟩, ⟨some 58, none, .bin .neq 3 (.tmp 57) (.const (.int .i64 0)), false⟩]) (.keep [4, 12, 58] (.cond (.tmp 58) (.seq (.region false [⟨some 59, none, .mv (.tmp 12), false⟩, ⟨some 2, none, .mv (.const (.slice none 0 0)), false⟩, ⟨some 3, none, .mv (.tmp 59), false⟩]) (.keep [2, 3] (.ret))) (.skip)))))) (.keep [4] (.seq (.region false [⟨some 60, none, .mv (.tmp 4), false⟩, ⟨some 2, none, .mv (.tmp 60), false⟩, ⟨some 3, none, .mv (.const (.int .i64 0)), false⟩]) (.keep [2, 3] (.ret))))))))))))))
def rv8 : List RV := [.tmp 2, .tmp 3]
theorem is8 : FnIs Tryz.prog 8 61 c8 rv8 := ⟨⟨Tryz.f8, _, Tryz.func8, by kernel_rfl, rfl, rfl, by kernel_rfl, by kernel_rfl⟩, by decide⟩
def c9l1 : AC := .seq (.seq (.region false [⟨some 5, none, .mv (.tmp 4), false⟩, ⟨some 6, none, .mv (.tmp 0), false⟩, ⟨some 7, none, .len false (.tmp 6), false⟩, ⟨some 8, none, .bin .lss 3 (.tmp 5) (.tmp 7), false⟩]) (.keep [0, 3, 4, 8] (.cond (.tmp 8) (.skip) (.exit 0)))) (.keep [0, 3, 4] (.seq (.block 1 (.seq (.seq (.region false [⟨some 11, none, .mv (.tmp 4), false⟩, ⟨some 12, none, .bin .gtr 3 (.tmp 11) (.const (.int .i64 0)), false⟩]) (.keep [0, 3, 4, 12] (.cond (.tmp 12) (.region false [⟨some 13, none, .mv (.tmp 3), false⟩, ⟨some 14, none, .bin .add 9 (.tmp 13) (.const (.string ⟨#[32]⟩)), false⟩, ⟨some 3, none, .mv (.tmp 14), false⟩]) (.skip)))) (.keep [0, 3, 4] (.region true [⟨some 15, none, .mvs (.tmp 3), false⟩, ⟨some 16, none, .mv (.tmp 0), false⟩, ⟨some 17, none, .mvs (.tmp 4), false⟩, ⟨some 18, none, .iaddr 2 [.int .i64 0, .int .i64 0] (.tmp 16) (.tmp 17), false⟩, ⟨some 19, none, .faddr 0 (.tmp 18), false⟩, ⟨some 20, none, .load false 1 (.tmp 19), false⟩, ⟨some 21, none, .call (.func 27) [(.tmp 20)], false⟩, ⟨some 22, none, .bin .add 9 (.tmp 15) (.tmp 21), false⟩, ⟨some 23, none, .bin .add 9 (.tmp 22) (.const (.string ⟨#[44]⟩)), false⟩, ⟨some 24, none, .mv (.tmp 0), false⟩, ⟨some 25, none, .mv (.tmp 4), false⟩, ⟨some 26, none, .iaddr 2 [.int .i64 0, .int .i64 0] (.tmp 24) (.tmp 25), false⟩, ⟨some 27, none, .faddr 1 (.tmp 26), false⟩, ⟨some 28, none, .load false 1 (.tmp 27), false⟩, ⟨some 29, none, .call (.func 27) [(.tmp 28)], false⟩, ⟨some 30, none, .bin .add 9 (.tmp 23) (.tmp 29), true⟩, ⟨some 3, none, .mv (.tmp 30), true⟩])))) (.keep [0, 3, 4] (.region false [⟨some 9, none, .mv (.tmp 4), false⟩, ⟨some 10, none, .bin .add 3 (.tmp 9) (.const (.int .i64 1)), false⟩, ⟨some 4, none, .mv (.tmp 10), false⟩]))))
def c9 : AC := .seq (.region false [⟨some 2, none, .mv (.const (.string ⟨#[]⟩)), false⟩]) (.keep [0] (.seq (.region false [⟨some 3, none, .mv (.const (.string ⟨#[]⟩)), false⟩]) (.keep [0, 3] (.seq (.seq (.region false [⟨some 4, none, .mv (.const (.int .i64 0)), false⟩]) (.keep [0, 3, 4] (.block 0 (.loop c9l1)))) (.keep [3] (.seq (.region false [⟨some 31, none, .mv (.tmp 3), false⟩, ⟨some 2, none, .mv (.tmp 31), false⟩]) (.keep [2] (.ret))))))))
def rv9 : List RV := [.tmp 2]
theorem is9 : FnIs Tryz.prog 9 32 c9 rv9 := ⟨⟨Tryz.f9, _, Tryz.func9, by kernel_rfl, rfl, rfl, by kernel_rfl, by kernel_rfl⟩, by decide⟩
def c10l1 : AC := .seq (.seq (.region false [⟨some 11, none, .mv (.tmp 5), false⟩, ⟨some 12, none, .mv (.tmp 0), false⟩, ⟨some 13, none, .len false (.tmp 12), false⟩, ⟨some 14, none, .bin .lss 3 (.tmp 11) (.tmp 13), false⟩]) (.keep [0, 1, 5, 14] (.cond (.tmp 14) (.skip) (.exit 0)))) (.keep [0, 1, 5] (.seq (.block 1 (.seq (.region true [⟨some 17, none, .mv (.tmp 0), false⟩, ⟨some 18, none, .mvs (.tmp 5), false⟩, ⟨some 19, none, .iaddr 2 [.int .i64 0, .int .i64 0] (.tmp 17) (.tmp 18), false⟩, ⟨some 20, none, .load true 2 (.tmp 19), false⟩, ⟨some 21, none, .mv (.tmp 1), false⟩, ⟨some 22, none, .mv (.tmp 5), false⟩, ⟨some 23, none, .iaddr 2 [.int .i64 0, .int .i64 0] (.tmp 21) (.tmp 22), false⟩, ⟨some 24, none, .load true 2 (.tmp 23), false⟩, ⟨some 25, none, .ext (.eqs true [0, 0]) [(.tmp 20), (.tmp 24)], true⟩]) (.keep [0, 1, 5, 25] (.cond (.tmp 25) (.seq (.region false [⟨some 4, none, .mv (.const (.bool false)), false⟩]) (.keep [4] (.ret))) (.skip))))) (.keep [0, 1, 5] (.region false [⟨some 15, none, .mv (.tmp 5), false⟩, ⟨some 16, none, .bin .add 3 (.tmp 15) (.const (.int .i64 1)), false⟩, ⟨some 5, none, .mv (.tmp 16), false⟩]))))
def c10 : AC := .seq (.region false [⟨some 4, none, .mv (.const (.bool false)), false⟩]) (.keep [0, 1] (.seq (.seq (.region false [⟨some 6, none, .mv (.tmp 0), false⟩, ⟨some 7, none, .len false (.tmp 6), false⟩, ⟨some 8, none, .mv (.tmp 1), false⟩, ⟨some 9, none, .len false (.tmp 8), false⟩, ⟨some 10, none, .bin .neq 3 (.tmp 7) (.tmp 9), false⟩]) (.keep [0, 1, 10] (.cond (.tmp 10) (.seq (.region false [⟨some 4, none, .mv (.const (.bool false)), false⟩]) (.keep [4] (.ret))) (.skip)))) (.keep [0, 1] (.seq (.seq (.region false [⟨some 5, none, .mv (.const (.int .i64 0)), false⟩]) (.keep [0, 1, 5] (.block 0 (.loop c10l1)))) (.keep [] (.seq (.region false [⟨some 4, none, .mv (.const (.bool true)), false⟩]) (.keep [4] (.ret))))))))
def rv10 : List RV := [.tmp 4]
theorem is10 : FnIs Tryz.prog 10 26 c10 rv10 := ⟨⟨Tryz.f10, _, Tryz.func10, by kernel_rfl, rfl, rfl, by kernel_rfl, by kernel_rfl⟩, by decide⟩
def c11l1 : AC := .seq (.seq (.region false [⟨some 10, none, .mv (.tmp 3), false⟩, ⟨some 11, none, .mv (.tmp 0), false⟩, ⟨some 12, none, .len false (.tmp 11), false⟩, ⟨some 13, none, .bin .lss 3 (.tmp 10) (.tmp 12), false⟩]) (.keep [0, 3, 13] (.cond (.tmp 13) (.skip) (.exit 0)))) (.keep [0, 3] (.seq (.block 1 (.seq (.region false [⟨some 16, none, .mv (.tmp 0), false⟩, ⟨some 17, none, .mv (.tmp 3), false⟩, ⟨some 18, none, .iaddr 2 [.int .i64 0, .int .i64 0] (.tmp 16) (.tmp 17), false⟩, ⟨some 19, none, .load true 2 (.tmp 18), false⟩, ⟨some 20, none, .call (.func 28) [(.tmp 19), (.const (.int .i64 100000000))], false⟩, ⟨some 21, none, .un .not (.tmp 20), false⟩]) (.keep [0, 3, 21] (.cond (.tmp 21) (.seq (.region false [⟨some 2, none, .mv (.const (.int .i64 2)), false⟩]) (.keep [2] (.ret))) (.skip))))) (.keep [0, 3] (.region false [⟨some 14, none, .mv (.tmp 3), false⟩, ⟨some 15, none, .bin .add 3 (.tmp 14) (.const (.int .i64 1)), false⟩, ⟨some 3, none, .mv (.tmp 15), false⟩]))))
def c11 : AC := .seq (.region false [⟨some 2, none, .mv (.const (.int .i64 0)), false⟩]) (.keep [0] (.seq (.seq (.region false [⟨some 4, none, .mv (.tmp 0), false⟩, ⟨some 5, none, .len false (.tmp 4), false⟩, ⟨some 6, none, .bin .eql 3 (.tmp 5) (.const (.int .i64 0)), false⟩]) (.keep [0, 6] (.cond (.tmp 6) (.seq (.region false [⟨some 2, none, .mv (.const (.int .i64 10)), false⟩]) (.keep [2] (.ret))) (.skip)))) (.keep [0] (.seq (.seq (.region false [⟨some 7, none, .mv (.tmp 0), false⟩, ⟨some 8, none, .len false (.tmp 7), false⟩, ⟨some 9, none, .bin .gtr 3 (.tmp 8) (.const (.int .i64 200)), false⟩]) (.keep [0, 9] (.cond (.tmp 9) (.seq (.region false [⟨some 2, none, .mv (.const (.int .i64 8)), false⟩]) (.keep [2] (.ret))) (.skip)))) (.keep [0] (.seq (.seq (.region false [⟨some 3, none, .mv (.const (.int .i64 0)), false⟩]) (.keep [0, 3] (.block 0 (.loop c11l1)))) (.keep [] (.seq (.region false [⟨some 2, none, .mv (.const (.int .i64 0)), false⟩]) (.keep [2] (.ret))))))))))
def rv11 : List RV := [.tmp 2]
theorem is11 : FnIs Tryz.prog 11 22 c11 rv11 := ⟨⟨Tryz.f11, _, Tryz.func11, by kernel_rfl, rfl, rfl, by kernel_rfl, by kernel_rfl⟩, by decide⟩
def c12r1 : AC := .block 1 (.seq (.region false [⟨some 23, none, .load false 1 (.tmp 7), false⟩, ⟨some 24, none, .mv (.tmp 8), false⟩, ⟨some 25, none, .mkSl false 3 1 [.int .i64 0] 1 [(0, (.tmp 24))], false⟩, ⟨some 26, none, .app 34 3 1 8 [.int .i64 0] (.tmp 23) (.tmp 25), false⟩, ⟨none, none, .store true 1 (.tmp 7) (.tmp 26), false⟩]) (.keep [3, 7, 21] (.seq (.region false [⟨some 27, none, .load false 1 (.tmp 7), false⟩, ⟨some 28, none, .len false (.tmp 27), false⟩, ⟨some 29, none, .load false 1 (.tmp 3), false⟩, ⟨some 30, none, .bin .eql 3 (.tmp 28) (.tmp 29), false⟩]) (.keep [3, 7, 21, 30] (.cond (.tmp 30) (.exit 0) (.skip))))))
def c12 : AC := .seq (.region false [⟨some 2, none, .box (.tmp 0), false⟩, ⟨some 3, none, .box (.tmp 1), false⟩, ⟨some 4, none, .mv (.const (.slice none 0 0)), false⟩, ⟨some 5, none, .mv (.const (.int .i64 0)), false⟩]) (.keep [2, 3] (.seq (.seq (.region true [⟨some 9, none, .load true 3 (.tmp 2), false⟩, ⟨some 10, none, .call (.func 30) [(.tmp 9)], false⟩, ⟨some 11, none, .load false 1 (.tmp 3), false⟩, ⟨some 12, none, .call (.func 32) [(.tmp 11), (.const (.int .i64 1)), (.const (.int .i64 400))], true⟩, ⟨some 13, none, .call (.func 31) [(.tmp 12), (.const (.int .i64 2))], true⟩, ⟨some 14, none, .mkSl false 26 1 [.int .i64 0] 2 [(0, (.tmp 10)), (1, (.tmp 13))], true⟩, ⟨some 15, none, .call (.func 29) [(.tmp 14)], true⟩, ⟨some 6, none, .mv (.tmp 15), true⟩]) (.keep [2, 3, 6] (.seq (.region false [⟨some 16, none, .mv (.tmp 6), false⟩, ⟨some 17, none, .bin .neq 26 (.tmp 16) (.const (.int .i64 0)), false⟩]) (.keep [2, 3, 6, 17] (.cond (.tmp 17) (.seq (.region false [⟨some 18, none, .mv (.tmp 6), false⟩, ⟨some 4, none, .mv (.const (.slice none 0 0)), false⟩, ⟨some 5, none, .mv (.tmp 18), false⟩]) (.keep [4, 5] (.ret))) (.skip)))))) (.keep [2, 3] (.seq (.region false [⟨some 7, none, .alloc [.slice none 0 0], false⟩]) (.keep [2, 3, 7] (.seq (.seq (.region false [⟨some 19, none, .load true 3 (.tmp 2), false⟩, ⟨some 20, none, .call (.func 33) [(.tmp 19)], false⟩, ⟨some 21, none, .mkFn (.func 34) [(.tmp 20)] [], false⟩]) (.keep [3, 7, 21] (.block 0 (.rangeFunc (.tmp 21) [22] (.region false [⟨some 8, none, .mv (.tmp 22), false⟩]) c12r1)))) (.keep [7] (.seq (.region false [⟨some 31, none, .load false 1 (.tmp 7), false⟩, ⟨some 4, none, .mv (.tmp 31), false⟩, ⟨some 5, none, .mv (.const (.int .i64 0)), false⟩]) (.keep [4, 5] (.ret))))))))))
def rv12 : List RV := [.tmp 4, .tmp 5]
theorem is12 : FnIs Tryz.prog 12 32 c12 rv12 := ⟨⟨Tryz.f12, _, Tryz.func12, by kernel_rfl, rfl, rfl, by kernel_rfl, by kernel_rfl⟩, by decide⟩
def c13 : AC := .seq (.region false [⟨some 0, none, .alloc [.int .i64 0, .slice none 0 0, .slice none 0 0], false⟩]) (.keep [0] (.seq (.region false [⟨some 1, none, .mkSl false 3 1 [.int .i64 0] 2 [(0, (.const (.int .i64 0))), (1, (.const (.int .i64 1)))], false⟩, ⟨some 2, none, .mkSl false 3 1 [.int .i64 0] 3 [(0, (.const (.int .i64 1))), (1, (.const (.int .i64 0))), (2, (.const (.int .i64 0)))], false⟩, ⟨some 3, none, .build [.int .i64 0, .slice none 0 0, .slice none 0 0] [(0, 1, (.const (.int .i64 3))), (1, 1, (.tmp 1)), (2, 1, (.tmp 2))], false⟩, ⟨none, none, .store false 3 (.tmp 0) (.tmp 3), false⟩]) (.keep [0] (.ret))))
def rv13 : List RV := [.cell 0 true 3]
theorem is13 : FnIs Tryz.prog 13 4 c13 rv13 := ⟨⟨Tryz.f13, _, Tryz.func13, by kernel_rfl, rfl, rfl, by kernel_rfl, by kernel_rfl⟩, by decide⟩
def c14r1 : AC := .block 1 (.region true [⟨some 27, none, .load false 1 (.tmp 7), false⟩, ⟨some 28, none, .mv (.tmp 8), false⟩, ⟨some 29, none, .call (.func 38) [(.tmp 28)], false⟩, ⟨some 30, none, .mkSl false 43 2 [.int .i64 0, .int .i64 0] 1 [(0, (.tmp 29))], false⟩, ⟨some 31, none, .app 22 43 2 16 [.int .i64 0, .int .i64 0] (.tmp 27) (.tmp 30), true⟩, ⟨none, none, .store true 1 (.tmp 7) (.tmp 31), true⟩])
def c14 : AC := .seq (.region false [⟨some 4, none, .mv (.const (.slice none 0 0)), false⟩, ⟨some 5, none, .mv (.const (.int .i64 0)), false⟩]) (.keep [0, 1] (.seq (.seq (.region false [⟨some 9, none, .mv (.tmp 0), false⟩, ⟨some 10, none, .call (.func 35) [(.tmp 9)], false⟩, ⟨some 11, none, .mv (.tmp 1), false⟩, ⟨some 12, none, .call (.func 36) [(.tmp 11)], false⟩, ⟨some 13, none, .mkSl false 26 1 [.int .i64 0] 2 [(0, (.tmp 10)), (1, (.tmp 12))], false⟩, ⟨some 14, none, .call (.func 29) [(.tmp 13)], false⟩, ⟨some 6, none, .mv (.tmp 14), false⟩]) (.keep [0, 1, 6] (.seq (.region false [⟨some 15, none, .mv (.tmp 6), false⟩, ⟨some 16, none, .bin .neq 26 (.tmp 15) (.const (.int .i64 0)), false⟩]) (.keep [0, 1, 6, 16] (.cond (.tmp 16) (.seq (.region false [⟨some 17, none, .mv (.tmp 6), false⟩, ⟨some 4, none, .mv (.const (.slice none 0 0)), false⟩, ⟨some 5, none, .mv (.tmp 17), false⟩]) (.keep [4, 5] (.ret))) (.skip)))))) (.keep [0, 1] (.seq (.seq (.region false [⟨some 18, none, .mv (.tmp 1), false⟩, ⟨some 19, none, .len false (.tmp 18), false⟩, ⟨some 20, none, .mv (.tmp 0), false⟩, ⟨some 21, none, .bin .rem 3 (.tmp 19) (.tmp 20), false⟩, ⟨some 22, none, .bin .neq 3 (.tmp 21) (.const (.int .i64 0)), false⟩]) (.keep [0, 1, 22] (.cond (.tmp 22) (.seq (.region false [⟨some 4, none, .mv (.const (.slice none 0 0)), false⟩, ⟨some 5, none, .mv (.const (.int .i64 10)), false⟩]) (.keep [4, 5] (.ret))) (.skip)))) (.keep [0, 1] (.seq (.region false [⟨some 7, none, .alloc [.slice none 0 0], false⟩]) (.keep [0, 1, 7] (.seq (.seq (.region false [⟨some 23, none, .mv (.tmp 1), false⟩, ⟨some 24, none, .mv (.tmp 0), false⟩, ⟨some 25, none, .call (.func 37) [(.tmp 23), (.tmp 24)], false⟩]) (.keep [7, 25] (.block 0 (.rangeFunc (.tmp 25) [26] (.region false [⟨some 8, none, .mv (.tmp 26), false⟩]) c14r1)))) (.keep [7] (.seq (.region false [⟨some 32, none, .load false 1 (.tmp 7), false⟩, ⟨some 4, none, .mv (.tmp 32), false⟩, ⟨some 5, none, .mv (.const (.int .i64 0)), false⟩]) (.keep [4, 5] (.ret))))))))))))
def rv14 : List RV := [.tmp 4, .tmp 5]
theorem is14 : FnIs Tryz.prog 14 33 c14 rv14 := ⟨⟨Tryz.f14, _, Tryz.func14, by kernel_rfl, rfl, rfl, by kernel_rfl, by kernel_rfl⟩, by decide⟩
def c15 : AC := .seq (.region false [⟨some 1, none, .box (.tmp 0), false⟩, ⟨some 2, none, .mv (.const (.slice none 0 0)), false⟩, ⟨some 3, none, .mv (.const (.int .i64 0)), false⟩]) (.keep [1] (.seq (.seq (.region false [⟨some 5, none, .load true 3 (.tmp 1), false⟩, ⟨some 6, none, .call (.func 39) [(.tmp 5)], false⟩, ⟨some 4, none, .mv (.tmp 6), false⟩]) (.keep [1, 4] (.seq (.region false [⟨some 7, none, .mv (.tmp 4), false⟩, ⟨some 8, none, .bin .neq 26 (.tmp 7) (.const (.int .i64 0)), false⟩]) (.keep [1, 4, 8] (.cond (.tmp 8) (.seq (.region false [⟨some 9, none, .mv (.tmp 4), false⟩, ⟨some 2, none, .mv (.const (.slice none 0 0)), false⟩, ⟨some 3, none, .mv (.tmp 9), false⟩]) (.keep [2, 3] (.ret))) (.skip)))))) (.keep [1] (.seq (.region false [⟨some 10, none, .load true 3 (.tmp 1), false⟩, ⟨some 11, none, .call (.func 40) [(.tmp 10), (.func 41)], false⟩, ⟨some 2, none, .mv (.tmp 11), false⟩, ⟨some 3, none, .mv (.const (.int .i64 0)), false⟩]) (.keep [2, 3] (.ret))))))
def rv15 : List RV := [.tmp 2, .tmp 3]
theorem is15 : FnIs Tryz.prog 15 12 c15 rv15 := ⟨⟨Tryz.f15, _, Tryz.func15, by kernel_rfl, rfl, rfl, by kernel_rfl, by kernel_rfl⟩, by decide⟩
def c16l1 : AC := .seq (.region false [⟨some 67, none, .bin .lss 3 (.tmp 66) (.tmp 65), false⟩]) (.keep [9, 10, 11, 13, 58, 59, 60, 64, 65, 66, 67] (.seq (.cond (.tmp 67) (.skip) (.exit 2)) (.keep [9, 10, 11, 13, 58, 59, 60, 64, 65, 66] (.seq (.block 3 (.seq (.region false [⟨some 68, none, .mv (.tmp 66), false⟩, ⟨some 69, none, .iaddr 2 [.int .i64 0, .int .i64 0] (.tmp 64) (.tmp 66), false⟩, ⟨some 70, none, .load true 2 (.tmp 69), false⟩, ⟨some 15, none, .alloc [.int .i64 0, .int .i64 0], false⟩, ⟨some 14, none, .mv (.tmp 68), false⟩, ⟨none, none, .store false 2 (.tmp 15) (.tmp 70), false⟩]) (.keep [9, 10, 11, 13, 14, 15, 58, 59, 60, 64, 65, 66] (.seq (.region false [⟨some 71, none, .mv (.tmp 13), false⟩, ⟨some 72, none, .mv (.tmp 14), false⟩, ⟨some 73, none, .load true 2 (.tmp 9), false⟩, ⟨some 74, none, .load true 2 (.tmp 15), false⟩, ⟨some 75, none, .call (.func 44) [(.tmp 73), (.tmp 74)], false⟩, ⟨some 76, none, .iaddr 2 [.int .i64 0, .int .i64 0] (.tmp 71) (.tmp 72), false⟩, ⟨none, none, .store false 2 (.tmp 76) (.tmp 75), false⟩]) (.keep [9, 10, 11, 13, 14, 58, 59, 60, 64, 65, 66] (.seq (.region false [⟨some 77, none, .mv (.tmp 13), false⟩, ⟨some 78, none, .mv (.tmp 14), false⟩, ⟨some 79, none, .iaddr 2 [.int .i64 0, .int .i64 0] (.tmp 77) (.tmp 78), false⟩, ⟨some 80, none, .load true 2 (.tmp 79), false⟩, ⟨some 81, none, .call (.func 49) [(.tmp 80), (.const (.int .i64 100000000))], false⟩, ⟨some 82, none, .un .not (.tmp 81), false⟩]) (.keep [9, 10, 11, 13, 58, 59, 60, 64, 65, 66, 82] (.cond (.tmp 82) (.seq (.region false [⟨some 4, none, .mv (.const (.slice none 0 0)), false⟩, ⟨some 5, none, .mv (.const (.int .i64 0)), false⟩, ⟨some 6, none, .mv (.const (.int .i64 8)), false⟩]) (.keep [4, 5, 6] (.ret))) (.skip))))))))) (.keep [9, 10, 11, 13, 58, 59, 60, 64, 65, 66] (.region false [⟨some 83, none, .bin .add 3 (.tmp 66) (.const (.int .i64 1)), false⟩, ⟨some 66, none, .mv (.tmp 83), false⟩]))))))
def c16l2 : AC := .seq (.region false [⟨some 61, none, .bin .lss 3 (.tmp 60) (.tmp 59), false⟩]) (.keep [9, 10, 11, 58, 59, 60, 61] (.seq (.cond (.tmp 61) (.skip) (.exit 0)) (.keep [9, 10, 11, 58, 59, 60] (.seq (.block 1 (.seq (.region false [⟨some 62, none, .iaddr 1 [.slice none 0 0] (.tmp 58) (.tmp 60), false⟩, ⟨some 63, none, .load false 1 (.tmp 62), false⟩, ⟨some 13, none, .mv (.tmp 63), false⟩]) (.keep [9, 10, 11, 13, 58, 59, 60] (.seq (.region false [⟨some 64, none, .mv (.tmp 13), false⟩, ⟨some 65, none, .len false (.tmp 64), false⟩, ⟨some 66, none, .mv (.const (.int .i64 0)), false⟩]) (.keep [9, 10, 11, 13, 58, 59, 60, 64, 65, 66] (.block 2 (.loop c16l1))))))) (.keep [9, 10, 11, 58, 59, 60] (.region false [⟨some 84, none, .bin .add 3 (.tmp 60) (.const (.int .i64 1)), false⟩, ⟨some 60, none, .mv (.tmp 84), false⟩]))))))
def c16 : AC := .seq (.region false [⟨some 4, none, .mv (.const (.slice none 0 0)), false⟩, ⟨some 5, none, .mv (.const (.int .i64 0)), false⟩, ⟨some 6, none, .mv (.const (.int .i64 0)), false⟩]) (.keep [0, 1] (.seq (.region false [⟨some 17, none, .mv (.tmp 0), false⟩, ⟨some 18, none, .call (.func 42) [(.tmp 17)], false⟩, ⟨some 16, none, .mv (.tmp 18), false⟩, ⟨some 19, none, .extr (.tmp 16) 0, false⟩, ⟨some 20, none, .extr (.tmp 16) 1, false⟩, ⟨some 7, none, .alloc [.int .i64 0, .int .i64 0], false⟩, ⟨none, none, .store false 2 (.tmp 7) (.tmp 19), false⟩, ⟨some 8, none, .mv (.tmp 20), false⟩]) (.keep [0, 1, 7, 8] (.seq (.seq (.region true [⟨some 21, none, .mvs (.tmp 8), false⟩, ⟨some 22, none, .mv (.tmp 1), false⟩, ⟨some 23, none, .call (.func 43) [(.tmp 22)], false⟩, ⟨some 24, none, .mv (.tmp 1), false⟩, ⟨some 25, none, .len false (.tmp 24), false⟩, ⟨some 26, none, .mv (.tmp 0), false⟩, ⟨some 27, none, .len false (.tmp 26), false⟩, ⟨some 28, none, .bin .eql 3 (.tmp 25) (.tmp 27), false⟩, ⟨some 29, none, .call (.func 31) [(.tmp 28), (.const (.int .i64 13))], false⟩, ⟨some 30, none, .load true 2 (.tmp 7), false⟩, ⟨some 31, none, .build [.int .i64 0, .int .i64 0] [], false⟩, ⟨some 32, none, .ext (.eqs true [0, 0]) [(.tmp 30), (.tmp 31)], false⟩, ⟨some 33, none, .call (.func 31) [(.tmp 32), (.const (.int .i64 27))], true⟩, ⟨some 34, none, .mkSl false 26 1 [.int .i64 0] 4 [(0, (.tmp 21)), (1, (.tmp 23)), (2, (.tmp 29)), (3, (.tmp 33))], true⟩, ⟨some 35, none, .call (.func 29) [(.tmp 34)], true⟩, ⟨some 8, none, .mv (.tmp 35), true⟩]) (.keep [0, 1, 7, 8] (.seq (.region false [⟨some 36, none, .mv (.tmp 8), false⟩, ⟨some 37, none, .bin .neq 26 (.tmp 36) (.const (.int .i64 0)), false⟩]) (.keep [0, 1, 7, 8, 37] (.cond (.tmp 37) (.seq (.region false [⟨some 38, none, .mv (.tmp 8), false⟩, ⟨some 4, none, .mv (.const (.slice none 0 0)), false⟩, ⟨some 5, none, .mv (.const (.int .i64 0)), false⟩, ⟨some 6, none, .mv (.tmp 38), false⟩]) (.keep [4, 5, 6] (.ret))) (.skip)))))) (.keep [0, 1, 7] (.seq (.region false [⟨some 39, none, .faddr 0 (.tmp 7), false⟩, ⟨some 40, none, .load false 1 (.tmp 39), false⟩, ⟨some 41, none, .faddr 1 (.tmp 7), false⟩, ⟨some 42, none, .load false 1 (.tmp 41), false⟩, ⟨some 43, none, .un .neg (.tmp 42), false⟩, ⟨some 44, none, .build [.int .i64 0, .int .i64 0] [(0, 1, (.tmp 40)), (1, 1, (.tmp 43))], false⟩, ⟨some 9, none, .alloc [.int .i64 0, .int .i64 0], false⟩, ⟨none, none, .store false 2 (.tmp 9) (.tmp 44), false⟩]) (.keep [0, 1, 7, 9] (.seq (.region false [⟨some 45, none, .load true 2 (.tmp 7), false⟩, ⟨some 46, none, .load true 2 (.tmp 9), false⟩, ⟨some 47, none, .call (.func 44) [(.tmp 45), (.tmp 46)], false⟩, ⟨some 48, none, .field false 1 0 (.tmp 47), false⟩, ⟨some 10, none, .mv (.tmp 48), false⟩]) (.keep [0, 1, 9, 10] (.seq (.seq (.region false [⟨some 49, none, .mv (.tmp 10), false⟩, ⟨some 50, none, .bin .gtr 3 (.tmp 49) (.const (.int .i64 10000000)), false⟩]) (.keep [0, 1, 9, 10, 50] (.cond (.tmp 50) (.seq (.region false [⟨some 4, none, .mv (.const (.slice none 0 0)), false⟩, ⟨some 5, none, .mv (.const (.int .i64 0)), false⟩, ⟨some 6, none, .mv (.const (.int .i64 8)), false⟩]) (.keep [4, 5, 6] (.ret))) (.skip)))) (.keep [0, 1, 9, 10] (.seq (.region false [⟨some 51, none, .mv (.tmp 0), false⟩, ⟨some 52, none, .call (.func 46) [(.tmp 51)], false⟩, ⟨some 53, none, .call (.func 45) [(.tmp 52)], false⟩, ⟨some 54, none, .mv (.tmp 1), false⟩, ⟨some 55, none, .call (.func 45) [(.tmp 54)], false⟩, ⟨some 56, none, .call (.func 47) [(.tmp 53), (.tmp 55)], false⟩, ⟨some 57, none, .call (.func 48) [(.tmp 56)], false⟩, ⟨some 11, none, .mv (.tmp 57), false⟩]) (.keep [9, 10, 11] (.seq (.seq (.region false [⟨some 58, none, .mv (.tmp 11), false⟩, ⟨some 59, none, .len false (.tmp 58), false⟩, ⟨some 60, none, .mv (.const (.int .i64 0)), false⟩]) (.keep [9, 10, 11, 58, 59, 60] (.block 0 (.loop c16l2)))) (.keep [10, 11] (.seq (.region false [⟨some 85, none, .mv (.tmp 11), false⟩, ⟨some 86, none, .mv (.tmp 10), false⟩, ⟨some 4, none, .mv (.tmp 85), false⟩, ⟨some 5, none, .mv (.tmp 86), false⟩, ⟨some 6, none, .mv (.const (.int .i64 0)), false⟩]) (.keep [4, 5, 6] (.ret))))))))))))))))))
def rv16 : List RV := [.tmp 4, .tmp 5, .tmp 6]
theorem is16 : FnIs Tryz.prog 16 87 c16 rv16 := ⟨⟨Tryz.f16, _, Tryz.func16, by kernel_rfl, rfl, rfl, by kernel_rfl, by kernel_rfl⟩, by decide⟩
def c17l1 : AC := .seq (.seq (.region false [⟨some 11, none, .mv (.tmp 5), false⟩, ⟨some 12, none, .mv (.tmp 0), false⟩, ⟨some 13, none, .len false (.tmp 12), false⟩, ⟨some 14, none, .bin .lss 3 (.tmp 11) (.tmp 13), false⟩]) (.keep [0, 1, 5, 14] (.cond (.tmp 14) (.skip) (.exit 0)))) (.keep [0, 1, 5] (.seq (.block 1 (.seq (.region true [⟨some 17, none, .mv (.tmp 0), false⟩, ⟨some 18, none, .mvs (.tmp 5), false⟩, ⟨some 19, none, .iaddr 1 [.int .i64 0] (.tmp 17) (.tmp 18), false⟩, ⟨some 20, none, .load false 1 (.tmp 19), false⟩, ⟨some 21, none, .mv (.tmp 1), false⟩, ⟨some 22, none, .mv (.tmp 5), false⟩, ⟨some 23, none, .iaddr 1 [.int .i64 0] (.tmp 21) (.tmp 22), false⟩, ⟨some 24, none, .load false 1 (.tmp 23), false⟩, ⟨some 25, none, .bin .neq 3 (.tmp 20) (.tmp 24), true⟩]) (.keep [0, 1, 5, 25] (.cond (.tmp 25) (.seq (.region false [⟨some 4, none, .mv (.const (.bool false)), false⟩]) (.keep [4] (.ret))) (.skip))))) (.keep [0, 1, 5] (.region false [⟨some 15, none, .mv (.tmp 5), false⟩, ⟨some 16, none, .bin .add 3 (.tmp 15) (.const (.int .i64 1)), false⟩, ⟨some 5, none, .mv (.tmp 16), false⟩]))))
def c17 : AC := .seq (.region false [⟨some 4, none, .mv (.const (.bool false)), false⟩]) (.keep [0, 1] (.seq (.seq (.region false [⟨some 6, none, .mv (.tmp 0), false⟩, ⟨some 7, none, .len false (.tmp 6), false⟩, ⟨some 8, none, .mv (.tmp 1), false⟩, ⟨some 9, none, .len false (.tmp 8), false⟩, ⟨some 10, none, .bin .neq 3 (.tmp 7) (.tmp 9), false⟩]) (.keep [0, 1, 10] (.cond (.tmp 10) (.seq (.region false [⟨some 4, none, .mv (.const (.bool false)), false⟩]) (.keep [4] (.ret))) (.skip)))) (.keep [0, 1] (.seq (.seq (.region false [⟨some 5, none, .mv (.const (.int .i64 0)), false⟩]) (.keep [0, 1, 5] (.block 0 (.loop c17l1)))) (.keep [] (.seq (.region false [⟨some 4, none, .mv (.const (.bool true)), false⟩]) (.keep [4] (.ret))))))))
def rv17 : List RV := [.tmp 4]
theorem is17 : FnIs Tryz.prog 17 26 c17 rv17 := ⟨⟨Tryz.f17, _, Tryz.func17, by kernel_rfl, rfl, rfl, by kernel_rfl, by kernel_rfl⟩, by decide⟩
def c18l1 : AC := .seq (.seq (.region false [⟨some 11, none, .mv (.tmp 5), false⟩, ⟨some 12, none, .mv (.tmp 0), false⟩, ⟨some 13, none, .len false (.tmp 12), false⟩, ⟨some 14, none, .bin .lss 3 (.tmp 11) (.tmp 13), false⟩]) (.keep [0, 1, 5, 14] (.cond (.tmp 14) (.skip) (.exit 0)))) (.keep [0, 1, 5] (.seq (.block 1 (.seq (.region true [⟨some 17, none, .mv (.tmp 0), false⟩, ⟨some 18, none, .mvs (.tmp 5), false⟩, ⟨some 19, none, .iaddr 1 [.slice none 0 0] (.tmp 17) (.tmp 18), false⟩, ⟨some 20, none, .load false 1 (.tmp 19), false⟩, ⟨some 21, none, .mv (.tmp 1), false⟩, ⟨some 22, none, .mv (.tmp 5), false⟩, ⟨some 23, none, .iaddr 1 [.slice none 0 0] (.tmp 21) (.tmp 22), false⟩, ⟨some 24, none, .load false 1 (.tmp 23), false⟩, ⟨some 25, none, .call (.func 10) [(.tmp 20), (.tmp 24)], true⟩, ⟨some 26, none, .un .not (.tmp 25), true⟩]) (.keep [0, 1, 5, 26] (.cond (.tmp 26) (.seq (.region false [⟨some 4, none, .mv (.const (.bool false)), false⟩]) (.keep [4] (.ret))) (.skip))))) (.keep [0, 1, 5] (.region false [⟨some 15, none, .mv (.tmp 5), false⟩, ⟨some 16, none, .bin .add 3 (.tmp 15) (.const (.int .i64 1)), false⟩, ⟨some 5, none, .mv (.tmp 16), false⟩]))))
def c18 : AC := .seq (.region false [⟨some 4, none, .mv (.const (.bool false)), false⟩]) (.keep [0, 1] (.seq (.seq (.region false [⟨some 6, none, .mv (.tmp 0), false⟩, ⟨some 7, none, .len false (.tmp 6), false⟩, ⟨some 8, none, .mv (.tmp 1), false⟩, ⟨some 9, none, .len false (.tmp 8), false⟩, ⟨some 10, none, .bin .neq 3 (.tmp 7) (.tmp 9), false⟩]) (.keep [0, 1, 10] (.cond (.tmp 10) (.seq (.region false [⟨some 4, none, .mv (.const (.bool false)), false⟩]) (.keep [4] (.ret))) (.skip)))) (.keep [0, 1] (.seq (.seq (.region false [⟨some 5, none, .mv (.const (.int .i64 0)), false⟩]) (.keep [0, 1, 5] (.block 0 (.loop c18l1)))) (.keep [] (.seq (.region false [⟨some 4, none, .mv (.const (.bool true)), false⟩]) (.keep [4] (.ret))))))))
def rv18 : List RV := [.tmp 4]
theorem is18 : FnIs Tryz.prog 18 27 c18 rv18 := ⟨⟨Tryz.f18, _, Tryz.func18, by kernel_rfl, rfl, rfl, by kernel_rfl, by kernel_rfl⟩, by decide⟩
def c21 : AC := .seq (.region false [⟨some 4, none, .mv (.const (.nilFunc)), false⟩]) (.keep [0, 1] (.seq (.region false [⟨some 5, none, .mv (.tmp 0), false⟩, ⟨some 6, none, .mv (.tmp 1), false⟩, ⟨some 7, none, .call (.func 54) [(.tmp 5), (.tmp 6), (.const (.int .i64 0))], false⟩, ⟨some 4, none, .mv (.tmp 7), false⟩]) (.keep [4] (.ret))))
def rv21 : List RV := [.tmp 4]
theorem is21 : FnIs Tryz.prog 21 8 c21 rv21 := ⟨⟨Tryz.f21, _, Tryz.func21, by kernel_rfl, rfl, rfl, by kernel_rfl, by kernel_rfl⟩, by decide⟩
def c22 : AC := .seq (.region false [⟨some 4, none, .mv (.const (.string ⟨#[]⟩)), false⟩, ⟨some 5, none, .mv (.const (.string ⟨#[]⟩)), false⟩, ⟨some 6, none, .mv (.const (.bool false)), false⟩]) (.keep [0, 1] (.seq (.region false [⟨some 7, none, .mv (.tmp 0), false⟩, ⟨some 8, none, .mv (.tmp 1), false⟩, ⟨some 9, none, .call (.func 55) [(.tmp 7), (.tmp 8)], false⟩, ⟨some 10, none, .extr (.tmp 9) 0, false⟩, ⟨some 11, none, .extr (.tmp 9) 1, false⟩, ⟨some 12, none, .extr (.tmp 9) 2, false⟩, ⟨some 4, none, .mv (.tmp 10), false⟩, ⟨some 5, none, .mv (.tmp 11), false⟩, ⟨some 6, none, .mv (.tmp 12), false⟩]) (.keep [4, 5, 6] (.ret))))
def rv22 : List RV := [.tmp 4, .tmp 5, .tmp 6]
theorem is22 : FnIs Tryz.prog 22 13 c22 rv22 := ⟨⟨Tryz.f22, _, Tryz.func22, by kernel_rfl, rfl, rfl, by kernel_rfl, by kernel_rfl⟩, by decide⟩
def c24 : AC := .seq (.region false [⟨some 2, none, .mv (.const (.int .i64 0)), false⟩]) (.keep [0] (.seq (.region false [⟨some 4, none, .mv (.tmp 0), false⟩, ⟨some 5, none, .call (.func 58) [(.tmp 4), (.func 59)], false⟩, ⟨some 3, none, .mv (.tmp 5), false⟩]) (.keep [0, 3] (.seq (.region false [⟨some 6, none, .mv (.tmp 0), false⟩, ⟨some 7, none, .len false (.tmp 6), false⟩, ⟨some 8, none, .bin .gtr 3 (.tmp 7) (.const (.int .i64 0)), false⟩, ⟨some 9, none, .call (.func 31) [(.tmp 8), (.const (.int .i64 10))], false⟩, ⟨some 10, none, .mv (.tmp 0), false⟩, ⟨some 11, none, .len false (.tmp 10), false⟩, ⟨some 12, none, .bin .leq 3 (.tmp 11) (.const (.int .i64 200)), false⟩, ⟨some 13, none, .call (.func 31) [(.tmp 12), (.const (.int .i64 8))], false⟩, ⟨some 14, none, .mv (.tmp 3), false⟩, ⟨some 15, none, .un .not (.tmp 14), false⟩, ⟨some 16, none, .call (.func 31) [(.tmp 15), (.const (.int .i64 2))], false⟩, ⟨some 17, none, .mkSl false 26 1 [.int .i64 0] 3 [(0, (.tmp 9)), (1, (.tmp 13)), (2, (.tmp 16))], false⟩, ⟨some 18, none, .call (.func 29) [(.tmp 17)], false⟩, ⟨some 2, none, .mv (.tmp 18), false⟩]) (.keep [2] (.ret))))))
def rv24 : List RV := [.tmp 2]
theorem is24 : FnIs Tryz.prog 24 19 c24 rv24 := ⟨⟨Tryz.f24, _, Tryz.func24, by kernel_rfl, rfl, rfl, by kernel_rfl, by kernel_rfl⟩, by decide⟩
def c25l1 : AC := .seq (.seq (.region false [⟨some 8, none, .mv (.tmp 7), false⟩, ⟨some 9, none, .mv (.tmp 0), false⟩, ⟨some 10, none, .len true (.tmp 9), false⟩, ⟨some 11, none, .bin .lss 3 (.tmp 8) (.tmp 10), false⟩]) (.keep [0, 1, 5, 6, 7, 11] (.cond (.tmp 11) (.skip) (.exit 0)))) (.keep [0, 1, 5, 6, 7] (.seq (.block 1 (.seq (.region false [⟨some 14, none, .mv (.tmp 0), false⟩, ⟨some 15, none, .mv (.tmp 7), false⟩, ⟨some 16, none, .istr (.tmp 14) (.tmp 15), false⟩, ⟨some 17, none, .mv (.tmp 1), false⟩, ⟨some 18, none, .bin .eql 5 (.tmp 16) (.tmp 17), false⟩]) (.keep [0, 1, 5, 6, 7, 18] (.cond (.tmp 18) (.seq (.region false [⟨some 19, none, .mv (.tmp 5), false⟩, ⟨some 20, none, .mv (.tmp 0), false⟩, ⟨some 21, none, .mv (.tmp 6), false⟩, ⟨some 22, none, .mv (.tmp 7), false⟩, ⟨some 23, none, .sstr (.tmp 20) (some (.tmp 21)) (some (.tmp 22)), false⟩, ⟨some 24, none, .mkSl false 9 1 [.string ⟨#[]⟩] 1 [(0, (.tmp 23))], false⟩, ⟨some 25, none, .app 51 9 1 16 [.string ⟨#[]⟩] (.tmp 19) (.tmp 24), false⟩, ⟨some 5, none, .mv (.tmp 25), false⟩]) (.keep [0, 1, 5, 7] (.region false [⟨some 26, none, .mv (.tmp 7), false⟩, ⟨some 27, none, .bin .add 3 (.tmp 26) (.const (.int .i64 1)), false⟩, ⟨some 6, none, .mv (.tmp 27), false⟩]))) (.skip))))) (.keep [0, 1, 5, 6, 7] (.region false [⟨some 12, none, .mv (.tmp 7), false⟩, ⟨some 13, none, .bin .add 3 (.tmp 12) (.const (.int .i64 1)), false⟩, ⟨some 7, none, .mv (.tmp 13), false⟩]))))
def c25 : AC := .seq (.region false [⟨some 4, none, .mv (.const (.slice none 0 0)), false⟩]) (.keep [0, 1] (.seq (.region false [⟨some 5, none, .mv (.const (.slice none 0 0)), false⟩]) (.keep [0, 1, 5] (.nilrow 5 1 9 (.seq (.region false [⟨some 6, none, .mv (.const (.int .i64 0)), false⟩]) (.keep [0, 1, 5, 6] (.seq (.seq (.region false [⟨some 7, none, .mv (.const (.int .i64 0)), false⟩]) (.keep [0, 1, 5, 6, 7] (.block 0 (.loop c25l1)))) (.keep [0, 5, 6] (.seq (.region false [⟨some 28, none, .mv (.tmp 5), false⟩, ⟨some 29, none, .mv (.tmp 0), false⟩, ⟨some 30, none, .mv (.tmp 6), false⟩, ⟨some 31, none, .sstr (.tmp 29) (some (.tmp 30)) none, false⟩, ⟨some 32, none, .mkSl false 9 1 [.string ⟨#[]⟩] 1 [(0, (.tmp 31))], false⟩, ⟨some 33, none, .app 51 9 1 16 [.string ⟨#[]⟩] (.tmp 28) (.tmp 32), false⟩, ⟨some 4, none, .mv (.tmp 33), false⟩]) (.keep [4] (.ret)))))))))))
def rv25 : List RV := [.tmp 4]
theorem is25 : FnIs Tryz.prog 25 34 c25 rv25 := ⟨⟨Tryz.f25, _, Tryz.func25, by kernel_rfl, rfl, rfl, by kernel_rfl, by kernel_rfl⟩, by decide⟩
def c26l1 : AC := .seq (.seq (.region false [⟨some 41, none, .mv (.tmp 8), false⟩, ⟨some 42, none, .mv (.tmp 0), false⟩, ⟨some 43, none, .len true (.tmp 42), false⟩, ⟨some 44, none, .bin .lss 3 (.tmp 41) (.tmp 43), false⟩]) (.keep [0, 6, 7, 8, 44] (.cond (.tmp 44) (.skip) (.exit 0)))) (.keep [0, 6, 7, 8] (.seq (.block 1 (.seq (.seq (.region false [⟨some 47, none, .mv (.tmp 0), false⟩, ⟨some 48, none, .mv (.tmp 8), false⟩, ⟨some 49, none, .istr (.tmp 47) (.tmp 48), false⟩, ⟨some 50, none, .bin .lss 5 (.tmp 49) (.const (.int .u8 48)), false⟩, ⟨some 51, none, .mv (.tmp 50), false⟩, ⟨some 52, some (51, false), .mv (.tmp 0), false⟩, ⟨some 53, some (51, false), .mv (.tmp 8), false⟩, ⟨some 54, some (51, false), .istr (.tmp 52) (.tmp 53), false⟩, ⟨some 55, some (51, false), .bin .gtr 5 (.tmp 54) (.const (.int .u8 57)), false⟩, ⟨some 56, none, .pick (.tmp 51) (.const (.bool true)) (.tmp 55), false⟩]) (.keep [0, 6, 7, 8, 56] (.cond (.tmp 56) (.seq (.region false [⟨some 4, none, .mv (.const (.int .i64 0)), false⟩, ⟨some 5, none, .mv (.const (.bool false)), false⟩]) (.keep [4, 5] (.ret))) (.skip)))) (.keep [0, 6, 7, 8] (.region false [⟨some 57, none, .mv (.tmp 7), false⟩, ⟨some 58, none, .bin .mul 3 (.const (.int .i64 10)) (.tmp 57), false⟩, ⟨some 59, none, .mv (.tmp 0), false⟩, ⟨some 60, none, .mv (.tmp 8), false⟩, ⟨some 61, none, .istr (.tmp 59) (.tmp 60), false⟩, ⟨some 62, none, .bin .sub 5 (.tmp 61) (.const (.int .u8 48)), false⟩, ⟨some 63, none, .cvi .i64 (.tmp 62), false⟩, ⟨some 64, none, .bin .add 3 (.tmp 58) (.tmp 63), false⟩, ⟨some 7, none, .mv (.tmp 64), false⟩])))) (.keep [0, 6, 7, 8] (.region false [⟨some 45, none, .mv (.tmp 8), false⟩, ⟨some 46, none, .bin .add 3 (.tmp 45) (.const (.int .i64 1)), false⟩, ⟨some 8, none, .mv (.tmp 46), false⟩]))))
def c26 : AC := .seq (.region false [⟨some 4, none, .mv (.const (.int .i64 0)), false⟩, ⟨some 5, none, .mv (.const (.bool false)), false⟩]) (.keep [0, 1] (.seq (.region false [⟨some 6, none, .mv (.const (.int .i64 0)), false⟩]) (.keep [0, 1, 6] (.seq (.seq (.region false [⟨some 9, none, .mv (.tmp 0), false⟩, ⟨some 10, none, .len true (.tmp 9), false⟩, ⟨some 11, none, .bin .gtr 3 (.tmp 10) (.const (.int .i64 0)), false⟩, ⟨some 12, none, .mv (.tmp 11), false⟩, ⟨some 13, some (12, true), .mv (.tmp 0), false⟩, ⟨some 14, some (12, true), .istr (.tmp 13) (.const (.int .i64 0)), false⟩, ⟨some 15, some (12, true), .bin .eql 5 (.tmp 14) (.const (.int .u8 45)), false⟩, ⟨some 16, none, .pick (.tmp 12) (.tmp 15) (.const (.bool false)), false⟩]) (.keep [0, 1, 6, 16] (.cond (.tmp 16) (.region false [⟨some 6, none, .mv (.const (.int .i64 1)), false⟩]) (.skip)))) (.keep [0, 1, 6] (.seq (.seq (.region false [⟨some 17, none, .mv (.tmp 0), false⟩, ⟨some 18, none, .len true (.tmp 17), false⟩, ⟨some 19, none, .mv (.tmp 6), false⟩, ⟨some 20, none, .bin .eql 3 (.tmp 18) (.tmp 19), false⟩, ⟨some 21, none, .mv (.tmp 20), false⟩, ⟨some 22, some (21, false), .mv (.tmp 0), false⟩, ⟨some 23, some (21, false), .len true (.tmp 22), false⟩, ⟨some 24, some (21, false), .mv (.tmp 6), false⟩, ⟨some 25, some (21, false), .bin .sub 3 (.tmp 23) (.tmp 24), false⟩, ⟨some 26, some (21, false), .mv (.tmp 1), false⟩, ⟨some 27, some (21, false), .bin .gtr 3 (.tmp 25) (.tmp 26), false⟩, ⟨some 28, none, .pick (.tmp 21) (.const (.bool true)) (.tmp 27), false⟩, ⟨some 29, none, .mv (.tmp 28), false⟩, ⟨some 30, some (29, false), .mv (.tmp 0), false⟩, ⟨some 31, some (29, false), .mv (.tmp 6), false⟩, ⟨some 32, some (29, false), .istr (.tmp 30) (.tmp 31), false⟩, ⟨some 33, some (29, false), .bin .eql 5 (.tmp 32) (.const (.int .u8 48)), false⟩, ⟨some 34, some (29, false), .mv (.tmp 33), false⟩, ⟨some 35, some (34, true), .mv (.tmp 0), false⟩, ⟨some 36, some (34, true), .len true (.tmp 35), false⟩, ⟨some 37, some (34, true), .bin .gtr 3 (.tmp 36) (.const (.int .i64 1)), false⟩, ⟨some 38, some (29, false), .pick (.tmp 34) (.tmp 37) (.const (.bool false)), false⟩, ⟨some 39, none, .pick (.tmp 29) (.const (.bool true)) (.tmp 38), false⟩]) (.keep [0, 6, 39] (.cond (.tmp 39) (.seq (.region false [⟨some 4, none, .mv (.const (.int .i64 0)), false⟩, ⟨some 5, none, .mv (.const (.bool false)), false⟩]) (.keep [4, 5] (.ret))) (.skip)))) (.keep [0, 6] (.seq (.region false [⟨some 7, none, .mv (.const (.int .i64 0)), false⟩]) (.keep [0, 6, 7] (.seq (.seq (.region false [⟨some 40, none, .mv (.tmp 6), false⟩, ⟨some 8, none, .mv (.tmp 40), false⟩]) (.keep [0, 6, 7, 8] (.block 0 (.loop c26l1)))) (.keep [6, 7] (.seq (.seq (.region false [⟨some 65, none, .mv (.tmp 6), false⟩, ⟨some 66, none, .bin .eql 3 (.tmp 65) (.const (.int .i64 1)), false⟩]) (.keep [7, 66] (.cond (.tmp 66) (.region false [⟨some 67, none, .mv (.tmp 7), false⟩, ⟨some 68, none, .un .neg (.tmp 67), false⟩, ⟨some 7, none, .mv (.tmp 68), false⟩]) (.skip)))) (.keep [7] (.seq (.region false [⟨some 69, none, .mv (.tmp 7), false⟩, ⟨some 4, none, .mv (.tmp 69), false⟩, ⟨some 5, none, .mv (.const (.bool true)), false⟩]) (.keep [4, 5] (.ret))))))))))))))))
def rv26 : List RV := [.tmp 4, .tmp 5]
theorem is26 : FnIs Tryz.prog 26 70 c26 rv26 := ⟨⟨Tryz.f26, _, Tryz.func26, by kernel_rfl, rfl, rfl, by kernel_rfl, by kernel_rfl⟩, by decide⟩
def c27l1 : AC := .seq (.seq (.region false [⟨some 10, none, .mv (.tmp 0), false⟩, ⟨some 11, none, .bin .neq 3 (.tmp 10) (.const (.int .i64 0)), false⟩]) (.keep [0, 3, 4, 11] (.cond (.tmp 11) (.skip) (.exit 0)))) (.keep [0, 3, 4] (.block 1 (.seq (.region false [⟨some 12, none, .mv (.tmp 0), false⟩, ⟨some 13, none, .bin .rem 3 (.tmp 12) (.const (.int .i64 10)), false⟩, ⟨some 5, none, .mv (.tmp 13), false⟩]) (.keep [0, 3, 4, 5] (.seq (.region false [⟨some 14, none, .mv (.tmp 5), false⟩, ⟨some 15, none, .call (.func 60) [(.tmp 14)], false⟩, ⟨some 16, none, .bin .add 3 (.const (.int .i64 48)) (.tmp 15), false⟩, ⟨some 17, none, .cvi .u8 (.tmp 16), false⟩, ⟨some 18, none, .mkSl false 5 1 [.int .u8 0] 1 [(0, (.tmp 17))], false⟩, ⟨some 19, none, .ext .b2s [(.tmp 18)], false⟩, ⟨some 20, none, .mv (.tmp 3), false⟩, ⟨some 21, none, .bin .add 9 (.tmp 19) (.tmp 20), false⟩, ⟨some 3, none, .mv (.tmp 21), false⟩]) (.keep [0, 3, 4] (.region false [⟨some 22, none, .mv (.tmp 0), false⟩, ⟨some 23, none, .bin .quo 3 (.tmp 22) (.const (.int .i64 10)), false⟩, ⟨some 0, none, .mv (.tmp 23), false⟩])))))))
def c27 : AC := .seq (.region false [⟨some 2, none, .mv (.const (.string ⟨#[]⟩)), false⟩]) (.keep [0] (.seq (.seq (.region false [⟨some 6, none, .mv (.tmp 0), false⟩, ⟨some 7, none, .bin .eql 3 (.tmp 6) (.const (.int .i64 0)), false⟩]) (.keep [0, 7] (.cond (.tmp 7) (.seq (.region false [⟨some 2, none, .mv (.const (.string ⟨#[48]⟩)), false⟩]) (.keep [2] (.ret))) (.skip)))) (.keep [0] (.seq (.region false [⟨some 3, none, .mv (.const (.string ⟨#[]⟩)), false⟩, ⟨some 4, none, .mv (.const (.string ⟨#[]⟩)), false⟩]) (.keep [0, 3, 4] (.seq (.seq (.region false [⟨some 8, none, .mv (.tmp 0), false⟩, ⟨some 9, none, .bin .lss 3 (.tmp 8) (.const (.int .i64 0)), false⟩]) (.keep [0, 3, 4, 9] (.cond (.tmp 9) (.region false [⟨some 4, none, .mv (.const (.string ⟨#[45]⟩)), false⟩]) (.skip)))) (.keep [0, 3, 4] (.seq (.block 0 (.loop c27l1)) (.keep [3, 4] (.seq (.region false [⟨some 24, none, .mv (.tmp 4), false⟩, ⟨some 25, none, .mv (.tmp 3), false⟩, ⟨some 26, none, .bin .add 9 (.tmp 24) (.tmp 25), false⟩, ⟨some 2, none, .mv (.tmp 26), false⟩]) (.keep [2] (.ret))))))))))))
def rv27 : List RV := [.tmp 2]
theorem is27 : FnIs Tryz.prog 27 27 c27 rv27 := ⟨⟨Tryz.f27, _, Tryz.func27, by kernel_rfl, rfl, rfl, by kernel_rfl, by kernel_rfl⟩, by decide⟩
def c28 : AC := .seq (.region false [⟨some 2, none, .box (.tmp 0), false⟩, ⟨some 4, none, .mv (.const (.bool false)), false⟩]) (.keep [1, 2] (.seq (.region false [⟨some 5, none, .faddr 0 (.tmp 2), false⟩, ⟨some 6, none, .load false 1 (.tmp 5), false⟩, ⟨some 7, none, .mv (.tmp 1), false⟩, ⟨some 8, none, .un .neg (.tmp 7), false⟩, ⟨some 9, none, .mv (.tmp 1), false⟩, ⟨some 10, none, .call (.func 61) [(.tmp 6), (.tmp 8), (.tmp 9)], false⟩, ⟨some 11, none, .mv (.tmp 10), false⟩, ⟨some 12, some (11, true), .faddr 1 (.tmp 2), false⟩, ⟨some 13, some (11, true), .load false 1 (.tmp 12), false⟩, ⟨some 14, some (11, true), .mv (.tmp 1), false⟩, ⟨some 15, some (11, true), .un .neg (.tmp 14), false⟩, ⟨some 16, some (11, true), .mv (.tmp 1), false⟩, ⟨some 17, some (11, true), .call (.func 61) [(.tmp 13), (.tmp 15), (.tmp 16)], false⟩, ⟨some 18, none, .pick (.tmp 11) (.tmp 17) (.const (.bool false)), false⟩, ⟨some 4, none, .mv (.tmp 18), false⟩]) (.keep [4] (.ret))))
def rv28 : List RV := [.tmp 4]
theorem is28 : FnIs Tryz.prog 28 19 c28 rv28 := ⟨⟨Tryz.f28, _, Tryz.func28, by kernel_rfl, rfl, rfl, by kernel_rfl, by kernel_rfl⟩, by decide⟩
def c29l1 : AC := .seq (.region false [⟨some 8, none, .bin .lss 3 (.tmp 7) (.tmp 6), false⟩]) (.keep [5, 6, 7, 8] (.seq (.cond (.tmp 8) (.skip) (.exit 0)) (.keep [5, 6, 7] (.seq (.block 1 (.seq (.region false [⟨some 9, none, .iaddr 1 [.int .i64 0] (.tmp 5) (.tmp 7), false⟩, ⟨some 10, none, .load false 1 (.tmp 9), false⟩, ⟨some 4, none, .mv (.tmp 10), false⟩]) (.keep [4, 5, 6, 7] (.seq (.region false [⟨some 11, none, .mv (.tmp 4), false⟩, ⟨some 12, none, .bin .neq 26 (.tmp 11) (.const (.int .i64 0)), false⟩]) (.keep [4, 5, 6, 7, 12] (.cond (.tmp 12) (.seq (.region false [⟨some 13, none, .mv (.tmp 4), false⟩, ⟨some 2, none, .mv (.tmp 13), false⟩]) (.keep [2] (.ret))) (.skip))))))) (.keep [5, 6, 7] (.region false [⟨some 14, none, .bin .add 3 (.tmp 7) (.const (.int .i64 1)), false⟩, ⟨some 7, none, .mv (.tmp 14), false⟩]))))))
def c29 : AC := .seq (.region false [⟨some 2, none, .mv (.const (.int .i64 0)), false⟩]) (.keep [0] (.seq (.seq (.region false [⟨some 5, none, .mv (.tmp 0), false⟩, ⟨some 6, none, .len false (.tmp 5), false⟩, ⟨some 7, none, .mv (.const (.int .i64 0)), false⟩]) (.keep [5, 6, 7] (.block 0 (.loop c29l1)))) (.keep [] (.seq (.region false [⟨some 2, none, .mv (.const (.int .i64 0)), false⟩]) (.keep [2] (.ret))))))
def rv29 : List RV := [.tmp 2]
theorem is29 : FnIs Tryz.prog 29 15 c29 rv29 := ⟨⟨Tryz.f29, _, Tryz.func29, by kernel_rfl, rfl, rfl, by kernel_rfl, by kernel_rfl⟩, by decide⟩
def c30l1 : AC := .seq (.region false [⟨some 26, none, .bin .lss 3 (.tmp 25) (.tmp 24), false⟩]) (.keep [1, 4, 23, 24, 25, 26] (.seq (.cond (.tmp 26) (.skip) (.exit 0)) (.keep [1, 4, 23, 24, 25] (.seq (.block 1 (.seq (.region false [⟨some 27, none, .iaddr 1 [.int .i64 0] (.tmp 23) (.tmp 25), false⟩, ⟨some 28, none, .load false 1 (.tmp 27), false⟩, ⟨some 6, none, .mv (.tmp 28), false⟩]) (.keep [1, 4, 6, 23, 24, 25] (.seq (.seq (.region false [⟨some 29, none, .mv (.tmp 6), false⟩, ⟨some 30, none, .faddr 0 (.tmp 1), false⟩, ⟨some 31, none, .load false 1 (.tmp 30), false⟩, ⟨some 32, none, .bin .sub 3 (.tmp 31) (.const (.int .i64 1)), false⟩, ⟨some 33, none, .call (.func 32) [(.tmp 29), (.const (.int .i64 0)), (.tmp 32)], false⟩, ⟨some 34, none, .call (.func 31) [(.tmp 33), (.const (.int .i64 2))], false⟩, ⟨some 35, none, .mv (.tmp 6), false⟩, ⟨some 36, none, .mv (.tmp 4), false⟩, ⟨some 37, none, .bin .gtr 3 (.tmp 35) (.tmp 36), false⟩, ⟨some 38, none, .call (.func 31) [(.tmp 37), (.const (.int .i64 9))], false⟩, ⟨some 39, none, .mkSl false 26 1 [.int .i64 0] 2 [(0, (.tmp 34)), (1, (.tmp 38))], false⟩, ⟨some 40, none, .call (.func 29) [(.tmp 39)], false⟩, ⟨some 7, none, .mv (.tmp 40), false⟩]) (.keep [1, 6, 7, 23, 24, 25] (.seq (.region false [⟨some 41, none, .mv (.tmp 7), false⟩, ⟨some 42, none, .bin .neq 26 (.tmp 41) (.const (.int .i64 0)), false⟩]) (.keep [1, 6, 7, 23, 24, 25, 42] (.cond (.tmp 42) (.seq (.region false [⟨some 43, none, .mv (.tmp 7), false⟩, ⟨some 2, none, .mv (.tmp 43), false⟩]) (.keep [2] (.ret))) (.skip)))))) (.keep [1, 6, 23, 24, 25] (.region false [⟨some 44, none, .mv (.tmp 6), false⟩, ⟨some 4, none, .mv (.tmp 44), false⟩])))))) (.keep [1, 4, 23, 24, 25] (.region false [⟨some 45, none, .bin .add 3 (.tmp 25) (.const (.int .i64 1)), false⟩, ⟨some 25, none, .mv (.tmp 45), false⟩]))))))
def c30 : AC := .seq (.region false [⟨some 1, none, .box (.tmp 0), false⟩, ⟨some 2, none, .mv (.const (.int .i64 0)), false⟩]) (.keep [1] (.seq (.seq (.region true [⟨some 8, none, .faddr 0 (.tmp 1), false⟩, ⟨some 9, none, .load false 1 (.tmp 8), false⟩, ⟨some 10, none, .call (.func 32) [(.tmp 9), (.const (.int .i64 2)), (.const (.int .i64 10))], false⟩, ⟨some 11, none, .call (.func 31) [(.tmp 10), (.const (.int .i64 2))], false⟩, ⟨some 12, none, .faddr 1 (.tmp 1), false⟩, ⟨some 13, none, .load false 1 (.tmp 12), false⟩, ⟨some 14, none, .len false (.tmp 13), false⟩, ⟨some 15, none, .bin .gtr 3 (.tmp 14) (.const (.int .i64 0)), false⟩, ⟨some 16, none, .call (.func 31) [(.tmp 15), (.const (.int .i64 10))], true⟩, ⟨some 17, none, .mkSl false 26 1 [.int .i64 0] 2 [(0, (.tmp 11)), (1, (.tmp 16))], true⟩, ⟨some 18, none, .call (.func 29) [(.tmp 17)], true⟩, ⟨some 3, none, .mv (.tmp 18), true⟩]) (.keep [1, 3] (.seq (.region false [⟨some 19, none, .mv (.tmp 3), false⟩, ⟨some 20, none, .bin .neq 26 (.tmp 19) (.const (.int .i64 0)), false⟩]) (.keep [1, 3, 20] (.cond (.tmp 20) (.seq (.region false [⟨some 21, none, .mv (.tmp 3), false⟩, ⟨some 2, none, .mv (.tmp 21), false⟩]) (.keep [2] (.ret))) (.skip)))))) (.keep [1] (.seq (.region false [⟨some 4, none, .mv (.const (.int .i64 (-1))), false⟩]) (.keep [1, 4] (.seq (.seq (.region false [⟨some 22, none, .faddr 1 (.tmp 1), false⟩, ⟨some 23, none, .load false 1 (.tmp 22), false⟩, ⟨some 24, none, .len false (.tmp 23), false⟩, ⟨some 25, none, .mv (.const (.int .i64 0)), false⟩]) (.keep [1, 4, 23, 24, 25] (.block 0 (.loop c30l1)))) (.keep [1] (.seq (.region true [⟨some 46, none, .faddr 1 (.tmp 1), false⟩, ⟨some 47, none, .load false 1 (.tmp 46), false⟩, ⟨some 48, none, .iaddr 1 [.int .i64 0] (.tmp 47) (.const (.int .i64 0)), false⟩, ⟨some 49, none, .load false 1 (.tmp 48), false⟩, ⟨some 50, none, .bin .eql 3 (.tmp 49) (.const (.int .i64 0)), false⟩, ⟨some 51, none, .call (.func 31) [(.tmp 50), (.const (.int .i64 3))], false⟩, ⟨some 52, none, .faddr 2 (.tmp 1), false⟩, ⟨some 53, none, .load false 1 (.tmp 52), false⟩, ⟨some 54, none, .len false (.tmp 53), false⟩, ⟨some 55, none, .faddr 0 (.tmp 1), false⟩, ⟨some 56, none, .load false 1 (.tmp 55), false⟩, ⟨some 57, none, .bin .eql 3 (.tmp 54) (.tmp 56), false⟩, ⟨some 58, none, .call (.func 31) [(.tmp 57), (.const (.int .i64 10))], false⟩, ⟨some 59, none, .faddr 2 (.tmp 1), false⟩, ⟨some 60, none, .load false 1 (.tmp 59), false⟩, ⟨some 61, none, .call (.func 62) [(.tmp 60)], true⟩, ⟨some 62, none, .call (.func 31) [(.tmp 61), (.const (.int .i64 15))], true⟩, ⟨some 63, none, .mkSl false 26 1 [.int .i64 0] 3 [(0, (.tmp 51)), (1, (.tmp 58)), (2, (.tmp 62))], true⟩, ⟨some 64, none, .call (.func 29) [(.tmp 63)], true⟩, ⟨some 2, none, .mv (.tmp 64), true⟩]) (.keep [2] (.ret))))))))))
def rv30 : List RV := [.tmp 2]
theorem is30 : FnIs Tryz.prog 30 65 c30 rv30 := ⟨⟨Tryz.f30, _, Tryz.func30, by kernel_rfl, rfl, rfl, by kernel_rfl, by kernel_rfl⟩, by decide⟩
def c31 : AC := .seq (.region false [⟨some 4, none, .mv (.const (.int .i64 0)), false⟩]) (.keep [0, 1] (.seq (.seq (.region false [⟨some 5, none, .mv (.tmp 0), false⟩]) (.keep [1, 5] (.cond (.tmp 5) (.seq (.region false [⟨some 4, none, .mv (.const (.int .i64 0)), false⟩]) (.keep [4] (.ret))) (.skip)))) (.keep [1] (.seq (.region false [⟨some 6, none, .mv (.tmp 1), false⟩, ⟨some 4, none, .mv (.tmp 6), false⟩]) (.keep [4] (.ret))))))
def rv31 : List RV := [.tmp 4]
theorem is31 : FnIs Tryz.prog 31 7 c31 rv31 := ⟨⟨Tryz.f31, _, Tryz.func31, by kernel_rfl, rfl, rfl, by kernel_rfl, by kernel_rfl⟩, by decide⟩
def c32 : AC := .seq (.region false [⟨some 6, none, .mv (.const (.bool false)), false⟩]) (.keep [0, 1, 2] (.seq (.region false [⟨some 7, none, .mv (.tmp 1), false⟩, ⟨some 8, none, .mv (.tmp 0), false⟩, ⟨some 9, none, .bin .leq 3 (.tmp 7) (.tmp 8), false⟩, ⟨some 10, none, .mv (.tmp 9), false⟩, ⟨some 11, some (10, true), .mv (.tmp 0), false⟩, ⟨some 12, some (10, true), .mv (.tmp 2), false⟩, ⟨some 13, some (10, true), .bin .leq 3 (.tmp 11) (.tmp 12), false⟩, ⟨some 14, none, .pick (.tmp 10) (.tmp 13) (.const (.bool false)), false⟩, ⟨some 6, none, .mv (.tmp 14), false⟩]) (.keep [6] (.ret))))
def rv32 : List RV := [.tmp 6]
theorem is32 : FnIs Tryz.prog 32 15 c32 rv32 := ⟨⟨Tryz.f32, _, Tryz.func32, by kernel_rfl, rfl, rfl, by kernel_rfl, by kernel_rfl⟩, by decide⟩
def c33l1 : AC := .seq (.region false [⟨some 16, none, .bin .lss 3 (.tmp 15) (.tmp 14), false⟩]) (.keep [1, 2, 3, 13, 14, 15, 16] (.seq (.cond (.tmp 16) (.skip) (.exit 0)) (.keep [1, 2, 3, 13, 14, 15] (.seq (.block 1 (.seq (.region false [⟨some 17, none, .mv (.tmp 15), false⟩, ⟨some 18, none, .iaddr 1 [.int .i64 0] (.tmp 13) (.tmp 15), false⟩, ⟨some 19, none, .load false 1 (.tmp 18), false⟩, ⟨some 4, none, .mv (.tmp 17), false⟩, ⟨some 5, none, .mv (.tmp 19), false⟩]) (.keep [1, 2, 3, 4, 5, 13, 14, 15] (.region true [⟨some 20, none, .faddr 0 (.tmp 3), false⟩, ⟨some 21, none, .load false 1 (.tmp 20), false⟩, ⟨some 22, none, .mvs (.tmp 5), false⟩, ⟨some 23, none, .cvi .u16 (.tmp 22), false⟩, ⟨some 24, none, .mv (.tmp 4), false⟩, ⟨some 25, none, .bin .shl 71 (.tmp 23) (.tmp 24), false⟩, ⟨some 26, none, .bin .or 71 (.tmp 21) (.tmp 25), true⟩, ⟨some 27, none, .faddr 0 (.tmp 3), true⟩, ⟨none, none, .store false 1 (.tmp 27) (.tmp 26), true⟩])))) (.keep [1, 2, 3, 13, 14, 15] (.region false [⟨some 28, none, .bin .add 3 (.tmp 15) (.const (.int .i64 1)), false⟩, ⟨some 15, none, .mv (.tmp 28), false⟩]))))))
def c33l2 : AC := .seq (.region false [⟨some 33, none, .bin .lss 3 (.tmp 32) (.tmp 31), false⟩]) (.keep [2, 3, 30, 31, 32, 33] (.seq (.cond (.tmp 33) (.skip) (.exit 2)) (.keep [2, 3, 30, 31, 32] (.seq (.block 3 (.seq (.region false [⟨some 34, none, .iaddr 1 [.int .i64 0] (.tmp 30) (.tmp 32), false⟩, ⟨some 35, none, .load false 1 (.tmp 34), false⟩, ⟨some 7, none, .mv (.tmp 35), false⟩]) (.keep [2, 3, 7, 30, 31, 32] (.region true [⟨some 36, none, .faddr 1 (.tmp 3), false⟩, ⟨some 37, none, .load false 1 (.tmp 36), false⟩, ⟨some 38, none, .mv (.tmp 7), false⟩, ⟨some 39, none, .bin .shl 71 (.const (.int .u16 1)) (.tmp 38), false⟩, ⟨some 40, none, .bin .or 71 (.tmp 37) (.tmp 39), true⟩, ⟨some 41, none, .faddr 1 (.tmp 3), true⟩, ⟨none, none, .store false 1 (.tmp 41) (.tmp 40), true⟩])))) (.keep [2, 3, 30, 31, 32] (.region false [⟨some 42, none, .bin .add 3 (.tmp 32) (.const (.int .i64 1)), false⟩, ⟨some 32, none, .mv (.tmp 42), false⟩]))))))
def c33 : AC := .seq (.region false [⟨some 1, none, .box (.tmp 0), false⟩, ⟨some 2, none, .alloc [.int .u16 0, .int .u16 0, .int .i64 0], false⟩]) (.keep [1, 2] (.seq (.region false [⟨some 8, none, .faddr 0 (.tmp 1), false⟩, ⟨some 9, none, .load false 1 (.tmp 8), false⟩, ⟨some 10, none, .bin .sub 3 (.tmp 9) (.const (.int .i64 1)), false⟩, ⟨some 11, none, .build [.int .u16 0, .int .u16 0, .int .i64 0] [(2, 1, (.tmp 10))], false⟩, ⟨some 3, none, .alloc [.int .u16 0, .int .u16 0, .int .i64 0], false⟩, ⟨none, none, .store false 3 (.tmp 3) (.tmp 11), false⟩]) (.keep [1, 2, 3] (.seq (.seq (.region false [⟨some 12, none, .faddr 2 (.tmp 1), false⟩, ⟨some 13, none, .load false 1 (.tmp 12), false⟩, ⟨some 14, none, .len false (.tmp 13), false⟩, ⟨some 15, none, .mv (.const (.int .i64 0)), false⟩]) (.keep [1, 2, 3, 13, 14, 15] (.block 0 (.loop c33l1)))) (.keep [1, 2, 3] (.seq (.seq (.region false [⟨some 29, none, .faddr 1 (.tmp 1), false⟩, ⟨some 30, none, .load false 1 (.tmp 29), false⟩, ⟨some 31, none, .len false (.tmp 30), false⟩, ⟨some 32, none, .mv (.const (.int .i64 0)), false⟩]) (.keep [2, 3, 30, 31, 32] (.block 2 (.loop c33l2)))) (.keep [2, 3] (.seq (.region false [⟨some 43, none, .load true 3 (.tmp 3), false⟩, ⟨none, none, .store false 3 (.tmp 2) (.tmp 43), false⟩]) (.keep [2] (.ret))))))))))
def rv33 : List RV := [.cell 2 true 3]
theorem is33 : FnIs Tryz.prog 33 44 c33 rv33 := ⟨⟨Tryz.f33, _, Tryz.func33, by kernel_rfl, rfl, rfl, by kernel_rfl, by kernel_rfl⟩, by decide⟩
def c34l1 : AC := .seq (.seq (.region false [⟨some 4, none, .mv (.tmp 1), false⟩, ⟨some 5, none, .call (.func 63) [(.tmp 2)], false⟩, ⟨some 6, none, .call (.tmp 4) [(.tmp 5)], false⟩]) (.keep [1, 2, 6] (.cond (.tmp 6) (.skip) (.exit 0)))) (.keep [1, 2] (.block 1 (.skip)))
def c34 : AC := .seq (.region false [⟨some 2, none, .box (.tmp 0), false⟩]) (.keep [1, 2] (.block 0 (.loop c34l1)))
def rv34 : List RV := []
theorem is34 : FnIs Tryz.prog 34 7 c34 rv34 := ⟨⟨Tryz.f34, _, Tryz.func34, by kernel_rfl, rfl, rfl, by kernel_rfl, by kernel_rfl⟩, by decide⟩
def c35 : AC := .seq (.region false [⟨some 2, none, .mv (.const (.int .i64 0)), false⟩]) (.keep [0] (.seq (.region false [⟨some 3, none, .mkSl false 3 1 [.int .i64 0] 3 [(0, (.const (.int .i64 2))), (1, (.const (.int .i64 4))), (2, (.const (.int .i64 6)))], false⟩, ⟨some 4, none, .mv (.tmp 0), false⟩, ⟨some 5, none, .call (.func 64) [(.tmp 3), (.tmp 4)], false⟩, ⟨some 6, none, .call (.func 31) [(.tmp 5), (.const (.int .i64 15))], false⟩, ⟨some 2, none, .mv (.tmp 6), false⟩]) (.keep [2] (.ret))))
def rv35 : List RV := [.tmp 2]
theorem is35 : FnIs Tryz.prog 35 7 c35 rv35 := ⟨⟨Tryz.f35, _, Tryz.func35, by kernel_rfl, rfl, rfl, by kernel_rfl, by kernel_rfl⟩, by decide⟩
def c36 : AC := .seq (.region false [⟨some 2, none, .mv (.const (.int .i64 0)), false⟩]) (.keep [0] (.seq (.region false [⟨some 3, none, .mv (.tmp 0), false⟩, ⟨some 4, none, .len false (.tmp 3), false⟩, ⟨some 5, none, .bin .gtr 3 (.tmp 4) (.const (.int .i64 0)), false⟩, ⟨some 6, none, .call (.func 31) [(.tmp 5), (.const (.int .i64 10))], false⟩, ⟨some 7, none, .mv (.tmp 0), false⟩, ⟨some 8, none, .len false (.tmp 7), false⟩, ⟨some 9, none, .bin .leq 3 (.tmp 8) (.const (.int .i64 400)), false⟩, ⟨some 10, none, .call (.func 31) [(.tmp 9), (.const (.int .i64 8))], false⟩, ⟨some 11, none, .mv (.tmp 0), false⟩, ⟨some 12, none, .call (.func 62) [(.tmp 11)], false⟩, ⟨some 13, none, .call (.func 31) [(.tmp 12), (.const (.int .i64 15))], false⟩, ⟨some 14, none, .mkSl false 26 1 [.int .i64 0] 3 [(0, (.tmp 6)), (1, (.tmp 10)), (2, (.tmp 13))], false⟩, ⟨some 15, none, .call (.func 29) [(.tmp 14)], false⟩, ⟨some 2, none, .mv (.tmp 15), false⟩]) (.keep [2] (.ret))))
def rv36 : List RV := [.tmp 2]
theorem is36 : FnIs Tryz.prog 36 16 c36 rv36 := ⟨⟨Tryz.f36, _, Tryz.func36, by kernel_rfl, rfl, rfl, by kernel_rfl, by kernel_rfl⟩, by decide⟩
def c37 : AC := .seq (.region false [⟨some 2, none, .box (.tmp 0), false⟩, ⟨some 3, none, .box (.tmp 1), false⟩, ⟨some 4, none, .mv (.const (.nilFunc)), false⟩]) (.keep [2, 3] (.seq (.seq (.region false [⟨some 5, none, .load false 1 (.tmp 3), false⟩, ⟨some 6, none, .bin .lss 3 (.tmp 5) (.const (.int .i64 1)), false⟩]) (.keep [2, 3, 6] (.cond (.tmp 6) (.region false [⟨some 7, none, .opq (.makeInterface 9 (.const (.string ⟨#[99, 97, 110, 110, 111, 116, 32, 98, 101, 32, 108, 101, 115, 115, 32, 116, 104, 97, 110, 32, 49]⟩))) 20, false⟩, ⟨none, none, .opq (.panic (.tmp 7)) 0, false⟩]) (.skip)))) (.keep [2, 3] (.seq (.region false [⟨some 8, none, .mkFn (.func 65) [] [(.tmp 2), (.tmp 3)], false⟩, ⟨some 4, none, .mv (.tmp 8), false⟩]) (.keep [4] (.ret))))))
def rv37 : List RV := [.tmp 4]
theorem is37 : FnIs Tryz.prog 37 9 c37 rv37 := ⟨⟨Tryz.f37, _, Tryz.func37, by kernel_rfl, rfl, rfl, by kernel_rfl, by kernel_rfl⟩, by decide⟩
def c38l1 : AC := .seq (.region false [⟨some 9, none, .bin .lss 3 (.tmp 8) (.tmp 7), false⟩]) (.keep [2, 3, 6, 7, 8, 9] (.seq (.cond (.tmp 9) (.skip) (.exit 0)) (.keep [2, 3, 6, 7, 8] (.seq (.block 1 (.seq (.region false [⟨some 10, none, .mv (.tmp 8), false⟩, ⟨some 11, none, .iaddr 1 [.int .i64 0] (.tmp 6) (.tmp 8), false⟩, ⟨some 12, none, .load false 1 (.tmp 11), false⟩, ⟨some 4, none, .mv (.tmp 10), false⟩, ⟨some 5, none, .mv (.tmp 12), false⟩]) (.keep [2, 3, 4, 5, 6, 7, 8] (.region false [⟨some 13, none, .mv (.tmp 4), false⟩, ⟨some 14, none, .bin .rem 3 (.tmp 13) (.const (.int .i64 2)), false⟩, ⟨some 15, none, .mv (.tmp 4), false⟩, ⟨some 16, none, .bin .rem 3 (.tmp 15) (.const (.int .i64 2)), false⟩, ⟨some 17, none, .iarr 2 1 (.tmp 3) (.tmp 16), false⟩, ⟨some 18, none, .load false 1 (.tmp 17), false⟩, ⟨some 19, none, .mv (.tmp 5), false⟩, ⟨some 20, none, .mkSl false 3 1 [.int .i64 0] 1 [(0, (.tmp 19))], false⟩, ⟨some 21, none, .app 34 3 1 8 [.int .i64 0] (.tmp 18) (.tmp 20), false⟩, ⟨some 22, none, .iarr 2 1 (.tmp 3) (.tmp 14), false⟩, ⟨none, none, .store true 1 (.tmp 22) (.tmp 21), false⟩])))) (.keep [2, 3, 6, 7, 8] (.region false [⟨some 23, none, .bin .add 3 (.tmp 8) (.const (.int .i64 1)), false⟩, ⟨some 8, none, .mv (.tmp 23), false⟩]))))))
def c38 : AC := .seq (.region false [⟨some 2, none, .alloc [.int .i64 0, .int .i64 0], false⟩]) (.keep [0, 2] (.seq (.region false [⟨some 3, none, .alloc [.slice none 0 0, .slice none 0 0], false⟩]) (.keep [0, 2, 3] (.seq (.seq (.region false [⟨some 6, none, .mv (.tmp 0), false⟩, ⟨some 7, none, .len false (.tmp 6), false⟩, ⟨some 8, none, .mv (.const (.int .i64 0)), false⟩]) (.keep [2, 3, 6, 7, 8] (.block 0 (.loop c38l1)))) (.keep [2, 3] (.seq (.region true [⟨some 24, none, .iarr 2 1 (.tmp 3) (.const (.int .i64 0)), false⟩, ⟨some 25, none, .load false 1 (.tmp 24), false⟩, ⟨some 26, none, .call (.func 66) [(.tmp 25)], false⟩, ⟨some 27, none, .iarr 2 1 (.tmp 3) (.const (.int .i64 1)), false⟩, ⟨some 28, none, .load false 1 (.tmp 27), false⟩, ⟨some 29, none, .call (.func 66) [(.tmp 28)], true⟩, ⟨some 30, none, .build [.int .i64 0, .int .i64 0] [(0, 1, (.tmp 26)), (1, 1, (.tmp 29))], true⟩, ⟨none, none, .store false 2 (.tmp 2) (.tmp 30), true⟩]) (.keep [2] (.ret))))))))
def rv38 : List RV := [.cell 2 true 2]
theorem is38 : FnIs Tryz.prog 38 31 c38 rv38 := ⟨⟨Tryz.f38, _, Tryz.func38, by kernel_rfl, rfl, rfl, by kernel_rfl, by kernel_rfl⟩, by decide⟩
def c39 : AC := .seq (.region false [⟨some 1, none, .box (.tmp 0), false⟩, ⟨some 2, none, .mv (.const (.int .i64 0)), false⟩]) (.keep [1] (.seq (.region true [⟨some 3, none, .faddr 0 (.tmp 1), false⟩, ⟨some 4, none, .load false 1 (.tmp 3), false⟩, ⟨some 5, none, .call (.func 35) [(.tmp 4)], false⟩, ⟨some 6, none, .faddr 1 (.tmp 1), false⟩, ⟨some 7, none, .load false 1 (.tmp 6), false⟩, ⟨some 8, none, .call (.func 32) [(.tmp 7), (.const (.int .i64 1)), (.const (.int .i64 10000000))], false⟩, ⟨some 9, none, .call (.func 31) [(.tmp 8), (.const (.int .i64 2))], false⟩, ⟨some 10, none, .faddr 2 (.tmp 1), false⟩, ⟨some 11, none, .load false 1 (.tmp 10), false⟩, ⟨some 12, none, .call (.func 24) [(.tmp 11)], true⟩, ⟨some 13, none, .mkSl false 26 1 [.int .i64 0] 3 [(0, (.tmp 5)), (1, (.tmp 9)), (2, (.tmp 12))], true⟩, ⟨some 14, none, .call (.func 29) [(.tmp 13)], true⟩, ⟨some 2, none, .mv (.tmp 14), true⟩]) (.keep [2] (.ret))))
def rv39 : List RV := [.tmp 2]
theorem is39 : FnIs Tryz.prog 39 15 c39 rv39 := ⟨⟨Tryz.f39, _, Tryz.func39, by kernel_rfl, rfl, rfl, by kernel_rfl, by kernel_rfl⟩, by decide⟩
def c40l1 : AC := .seq (.seq (.region false [⟨some 21, none, .mv (.tmp 7), false⟩, ⟨some 22, none, .mv (.tmp 5), false⟩, ⟨some 23, none, .bin .shl 3 (.const (.int .i64 1)) (.tmp 22), false⟩, ⟨some 24, none, .bin .lss 3 (.tmp 21) (.tmp 23), false⟩]) (.keep [2, 3, 5, 6, 7, 24] (.cond (.tmp 24) (.skip) (.exit 0)))) (.keep [2, 3, 5, 6, 7] (.seq (.block 1 (.region false [⟨some 27, none, .load false 1 (.tmp 6), false⟩, ⟨some 28, none, .mv (.tmp 7), false⟩, ⟨some 29, none, .mkSl false 3 1 [.int .i64 0] 1 [(0, (.tmp 28))], false⟩, ⟨some 30, none, .app 34 3 1 8 [.int .i64 0] (.tmp 27) (.tmp 29), false⟩, ⟨none, none, .store true 1 (.tmp 6) (.tmp 30), false⟩])) (.keep [2, 3, 5, 6, 7] (.region false [⟨some 25, none, .mv (.tmp 7), false⟩, ⟨some 26, none, .bin .add 3 (.tmp 25) (.const (.int .i64 2)), false⟩, ⟨some 7, none, .mv (.tmp 26), false⟩]))))
def c40l2 : AC := .seq (.region false [⟨some 50, none, .bin .lss 3 (.tmp 49) (.tmp 48), false⟩]) (.keep [8, 9, 12, 13, 33, 34, 35, 48, 49, 50] (.seq (.cond (.tmp 50) (.skip) (.exit 4)) (.keep [8, 9, 12, 13, 33, 34, 35, 48, 49] (.seq (.block 5 (.seq (.region false [⟨some 51, none, .mv (.tmp 49), false⟩, ⟨some 14, none, .mv (.tmp 51), false⟩]) (.keep [8, 9, 12, 13, 14, 33, 34, 35, 48, 49] (.region true [⟨some 52, none, .mv (.tmp 9), false⟩, ⟨some 53, none, .mv (.tmp 12), false⟩, ⟨some 54, none, .mvs (.tmp 14), false⟩, ⟨some 55, none, .iaddr 1 [.int .i64 0] (.tmp 53) (.tmp 54), false⟩, ⟨some 56, none, .load false 1 (.tmp 55), false⟩, ⟨some 57, none, .mv (.tmp 13), false⟩, ⟨some 58, none, .mv (.tmp 14), false⟩, ⟨some 59, none, .iaddr 1 [.int .i64 0] (.tmp 57) (.tmp 58), false⟩, ⟨some 60, none, .load false 1 (.tmp 59), false⟩, ⟨some 61, none, .mkSl false 3 1 [.int .i64 0] 2 [(0, (.tmp 56)), (1, (.tmp 60))], false⟩, ⟨some 62, none, .app 34 3 1 8 [.int .i64 0] (.tmp 52) (.tmp 61), true⟩, ⟨some 9, none, .mv (.tmp 62), true⟩])))) (.keep [8, 9, 12, 13, 33, 34, 35, 48, 49] (.region false [⟨some 63, none, .bin .add 3 (.tmp 49) (.const (.int .i64 1)), false⟩, ⟨some 49, none, .mv (.tmp 63), false⟩]))))))
def c40l3 : AC := .seq (.region false [⟨some 36, none, .bin .lss 3 (.tmp 35) (.tmp 34), false⟩]) (.keep [8, 9, 33, 34, 35, 36] (.seq (.cond (.tmp 36) (.skip) (.exit 2)) (.keep [8, 9, 33, 34, 35] (.seq (.block 3 (.seq (.region false [⟨some 37, none, .iaddr 2 [.int .i64 0, .int .i64 0] (.tmp 33) (.tmp 35), false⟩, ⟨some 38, none, .load true 2 (.tmp 37), false⟩, ⟨some 11, none, .alloc [.int .i64 0, .int .i64 0], false⟩, ⟨none, none, .store false 2 (.tmp 11) (.tmp 38), false⟩]) (.keep [8, 9, 11, 33, 34, 35] (.seq (.region true [⟨some 39, none, .mv (.tmp 8), false⟩, ⟨some 40, none, .faddr 0 (.tmp 11), false⟩, ⟨some 41, none, .load false 1 (.tmp 40), false⟩, ⟨some 42, none, .call (.tmp 39) [(.tmp 41)], false⟩, ⟨some 43, none, .mv (.tmp 8), false⟩, ⟨some 44, none, .faddr 1 (.tmp 11), false⟩, ⟨some 45, none, .load false 1 (.tmp 44), false⟩, ⟨some 46, none, .call (.tmp 43) [(.tmp 45)], true⟩, ⟨some 12, none, .mv (.tmp 42), true⟩, ⟨some 13, none, .mv (.tmp 46), true⟩]) (.keep [8, 9, 12, 13, 33, 34, 35] (.seq (.region false [⟨some 47, none, .mv (.tmp 12), false⟩, ⟨some 48, none, .len false (.tmp 47), false⟩, ⟨some 49, none, .mv (.const (.int .i64 0)), false⟩]) (.keep [8, 9, 12, 13, 33, 34, 35, 48, 49] (.block 4 (.loop c40l2))))))))) (.keep [8, 9, 33, 34, 35] (.region false [⟨some 64, none, .bin .add 3 (.tmp 35) (.const (.int .i64 1)), false⟩, ⟨some 35, none, .mv (.tmp 64), false⟩]))))))
def c40 : AC := .seq (.region false [⟨some 2, none, .box (.tmp 0), false⟩, ⟨some 3, none, .box (.tmp 1), false⟩, ⟨some 4, none, .mv (.const (.slice none 0 0)), false⟩]) (.keep [2, 3] (.seq (.region false [⟨some 15, none, .faddr 0 (.tmp 2), false⟩, ⟨some 16, none, .load false 1 (.tmp 15), false⟩, ⟨some 17, none, .bin .quo 3 (.tmp 16) (.const (.int .i64 2)), false⟩, ⟨some 5, none, .mv (.tmp 17), false⟩]) (.keep [2, 3, 5] (.seq (.region false [⟨some 6, none, .alloc [.slice none 0 0], false⟩]) (.keep [2, 3, 5, 6] (.seq (.seq (.region false [⟨some 18, none, .mv (.tmp 5), false⟩, ⟨some 19, none, .bin .shl 3 (.const (.int .i64 1)) (.tmp 18), false⟩, ⟨some 20, none, .bin .sub 3 (.const (.int .i64 1)) (.tmp 19), false⟩, ⟨some 7, none, .mv (.tmp 20), false⟩]) (.keep [2, 3, 5, 6, 7] (.block 0 (.loop c40l1)))) (.keep [2, 3, 6] (.seq (.region false [⟨some 31, none, .mkFn (.func 67) [] [(.tmp 6), (.tmp 2), (.tmp 3)], false⟩, ⟨some 8, none, .mv (.tmp 31), false⟩]) (.keep [2, 8] (.seq (.region false [⟨some 9, none, .mv (.const (.slice none 0 0)), false⟩]) (.keep [2, 8, 9] (.nilrow 9 1 3 (.seq (.seq (.region false [⟨some 32, none, .faddr 2 (.tmp 2), false⟩, ⟨some 33, none, .load false 1 (.tmp 32), false⟩, ⟨some 34, none, .len false (.tmp 33), false⟩, ⟨some 35, none, .mv (.const (.int .i64 0)), false⟩]) (.keep [8, 9, 33, 34, 35] (.block 2 (.loop c40l3)))) (.keep [9] (.fz [9] (.seq (.region false [⟨some 65, none, .mv (.tmp 9), false⟩, ⟨some 4, none, .mv (.tmp 65), false⟩]) (.keep [4] (.ret))))))))))))))))))
def rv40 : List RV := [.tmp 4]
theorem is40 : FnIs Tryz.prog 40 66 c40 rv40 := ⟨⟨Tryz.f40, _, Tryz.func40, by kernel_rfl, rfl, rfl, by kernel_rfl, by kernel_rfl⟩, by decide⟩
def c41l1 : AC := .seq (.region false [⟨some 21, none, .bin .lss 3 (.tmp 20) (.tmp 19), false⟩]) (.keep [0, 1, 5, 6, 7, 8, 14, 15, 18, 19, 20, 21] (.seq (.cond (.tmp 21) (.skip) (.exit 2)) (.keep [0, 1, 5, 6, 7, 8, 14, 15, 18, 19, 20] (.seq (.block 3 (.seq (.region false [⟨some 22, none, .mv (.tmp 20), false⟩, ⟨some 23, none, .iaddr 1 [.int .i64 0] (.tmp 18) (.tmp 20), false⟩, ⟨some 24, none, .load false 1 (.tmp 23), false⟩, ⟨some 9, none, .mv (.tmp 22), false⟩, ⟨some 10, none, .mv (.tmp 24), false⟩]) (.keep [0, 1, 5, 6, 7, 8, 9, 10, 14, 15, 18, 19, 20] (.seq (.region false [⟨some 25, none, .mv (.tmp 5), false⟩, ⟨some 26, none, .mv (.tmp 10), false⟩, ⟨some 27, none, .call (.func 69) [(.tmp 25), (.tmp 26)], false⟩, ⟨some 28, none, .mv (.tmp 7), false⟩, ⟨some 29, none, .iaddr 1 [.int .i64 0] (.tmp 27) (.tmp 28), false⟩, ⟨some 30, none, .load false 1 (.tmp 29), false⟩, ⟨some 11, none, .mv (.tmp 30), false⟩]) (.keep [0, 1, 5, 6, 7, 8, 9, 11, 14, 15, 18, 19, 20] (.region true [⟨some 31, none, .mvs (.tmp 11), false⟩, ⟨some 32, none, .mvs (.tmp 11), false⟩, ⟨some 33, none, .iarr 2 1 (.tmp 8) (.tmp 32), false⟩, ⟨some 34, none, .load false 1 (.tmp 33), false⟩, ⟨some 35, none, .mv (.tmp 1), false⟩, ⟨some 36, none, .mv (.tmp 9), false⟩, ⟨some 37, none, .iaddr 1 [.int .i64 0] (.tmp 35) (.tmp 36), false⟩, ⟨some 38, none, .load false 1 (.tmp 37), false⟩, ⟨some 39, none, .mkSl false 3 1 [.int .i64 0] 1 [(0, (.tmp 38))], false⟩, ⟨some 40, none, .app 34 3 1 8 [.int .i64 0] (.tmp 34) (.tmp 39), true⟩, ⟨some 41, none, .iarr 2 1 (.tmp 8) (.tmp 31), true⟩, ⟨none, none, .store true 1 (.tmp 41) (.tmp 40), true⟩])))))) (.keep [0, 1, 5, 6, 7, 8, 14, 15, 18, 19, 20] (.region false [⟨some 42, none, .bin .add 3 (.tmp 20) (.const (.int .i64 1)), false⟩, ⟨some 20, none, .mv (.tmp 42), false⟩]))))))
def c41l2 : AC := .seq (.region false [⟨some 16, none, .bin .lss 3 (.tmp 15) (.tmp 14), false⟩]) (.keep [0, 1, 5, 6, 14, 15, 16] (.seq (.cond (.tmp 16) (.skip) (.exit 0)) (.keep [0, 1, 5, 6, 14, 15] (.seq (.block 1 (.seq (.region false [⟨some 17, none, .mv (.tmp 15), false⟩, ⟨some 7, none, .mv (.tmp 17), false⟩]) (.keep [0, 1, 5, 6, 7, 14, 15] (.seq (.region false [⟨some 8, none, .alloc [.slice none 0 0, .slice none 0 0], false⟩]) (.keep [0, 1, 5, 6, 7, 8, 14, 15] (.seq (.seq (.region false [⟨some 18, none, .mv (.tmp 0), false⟩, ⟨some 19, none, .len false (.tmp 18), false⟩, ⟨some 20, none, .mv (.const (.int .i64 0)), false⟩]) (.keep [0, 1, 5, 6, 7, 8, 14, 15, 18, 19, 20] (.block 2 (.loop c41l1)))) (.keep [0, 1, 5, 6, 8, 14, 15] (.region true [⟨some 43, none, .mv (.tmp 6), false⟩, ⟨some 44, none, .iarr 2 1 (.tmp 8) (.const (.int .i64 1)), false⟩, ⟨some 45, none, .load false 1 (.tmp 44), false⟩, ⟨some 46, none, .call (.func 70) [(.tmp 45)], false⟩, ⟨some 47, none, .iarr 2 1 (.tmp 8) (.const (.int .i64 0)), false⟩, ⟨some 48, none, .load false 1 (.tmp 47), false⟩, ⟨some 49, none, .call (.func 70) [(.tmp 48)], false⟩, ⟨some 50, none, .bin .sub 3 (.tmp 46) (.tmp 49), false⟩, ⟨some 51, none, .mkSl false 3 1 [.int .i64 0] 1 [(0, (.tmp 50))], false⟩, ⟨some 52, none, .app 34 3 1 8 [.int .i64 0] (.tmp 43) (.tmp 51), true⟩, ⟨some 6, none, .mv (.tmp 52), true⟩])))))))) (.keep [0, 1, 5, 6, 14, 15] (.region false [⟨some 53, none, .bin .add 3 (.tmp 15) (.const (.int .i64 1)), false⟩, ⟨some 15, none, .mv (.tmp 53), false⟩]))))))
def c41 : AC := .seq (.region false [⟨some 4, none, .mv (.const (.slice none 0 0)), false⟩]) (.keep [0, 1] (.seq (.region false [⟨some 12, none, .mv (.tmp 0), false⟩, ⟨some 13, none, .call (.func 68) [(.tmp 12)], false⟩, ⟨some 5, none, .mv (.tmp 13), false⟩]) (.keep [0, 1, 5] (.seq (.region false [⟨some 6, none, .mv (.const (.slice none 0 0)), false⟩]) (.keep [0, 1, 5, 6] (.nilrow 6 1 3 (.seq (.seq (.region false [⟨some 14, none, .mv (.tmp 5), false⟩, ⟨some 15, none, .mv (.const (.int .i64 0)), false⟩]) (.keep [0, 1, 5, 6, 14, 15] (.block 0 (.loop c41l2)))) (.keep [6] (.fz [6] (.seq (.region false [⟨some 54, none, .mv (.tmp 6), false⟩, ⟨some 4, none, .mv (.tmp 54), false⟩]) (.keep [4] (.ret))))))))))))
def rv41 : List RV := [.tmp 4]
theorem is41 : FnIs Tryz.prog 41 55 c41 rv41 := ⟨⟨Tryz.f41, _, Tryz.func41, by kernel_rfl, rfl, rfl, by kernel_rfl, by kernel_rfl⟩, by decide⟩
def c42 : AC := .seq (.region false [⟨some 2, none, .alloc [.int .i64 0, .int .i64 0], false⟩, ⟨some 3, none, .mv (.const (.int .i64 0)), false⟩]) (.keep [0, 2] (.seq (.seq (.region false [⟨some 5, none, .mv (.tmp 0), false⟩, ⟨some 6, none, .call (.func 71) [(.tmp 5)], false⟩, ⟨some 4, none, .mv (.tmp 6), false⟩]) (.keep [0, 2, 4] (.seq (.region false [⟨some 7, none, .mv (.tmp 4), false⟩, ⟨some 8, none, .bin .neq 26 (.tmp 7) (.const (.int .i64 0)), false⟩]) (.keep [0, 2, 4, 8] (.cond (.tmp 8) (.seq (.region false [⟨some 9, none, .build [.int .i64 0, .int .i64 0] [], false⟩, ⟨some 10, none, .mv (.tmp 4), false⟩, ⟨none, none, .store false 2 (.tmp 2) (.tmp 9), false⟩, ⟨some 3, none, .mv (.tmp 10), false⟩]) (.keep [2, 3] (.ret))) (.skip)))))) (.keep [0, 2] (.seq (.block 0 (.seq (.region false [⟨some 12, none, .mv (.tmp 0), false⟩, ⟨some 13, none, .len false (.tmp 12), false⟩, ⟨some 14, none, .mv (.tmp 0), false⟩, ⟨some 15, none, .iaddr 1 [.slice none 0 0] (.tmp 14) (.const (.int .i64 0)), false⟩, ⟨some 16, none, .load false 1 (.tmp 15), false⟩, ⟨some 17, none, .len false (.tmp 16), false⟩, ⟨some 18, none, .bin .neq 3 (.tmp 13) (.tmp 17), false⟩, ⟨some 11, none, .mv (.tmp 18), false⟩]) (.keep [0, 2, 11] (.cond (.tmp 11) (.seq (.region false [⟨some 19, none, .build [.int .i64 0, .int .i64 0] [], false⟩, ⟨none, none, .store false 2 (.tmp 2) (.tmp 19), false⟩, ⟨some 3, none, .mv (.const (.int .i64 13)), false⟩]) (.keep [2, 3] (.ret))) (.seq (.region false [⟨some 21, none, .mv (.tmp 0), false⟩, ⟨some 22, none, .len false (.tmp 21), false⟩, ⟨some 23, none, .bin .eql 3 (.tmp 22) (.const (.int .i64 1)), false⟩, ⟨some 20, none, .mv (.tmp 23), false⟩]) (.keep [0, 2, 20] (.cond (.tmp 20) (.seq (.region false [⟨some 24, none, .mv (.tmp 0), false⟩, ⟨some 25, none, .iaddr 1 [.slice none 0 0] (.tmp 24) (.const (.int .i64 0)), false⟩, ⟨some 26, none, .load false 1 (.tmp 25), false⟩, ⟨some 27, none, .iaddr 2 [.int .i64 0, .int .i64 0] (.tmp 26) (.const (.int .i64 0)), false⟩, ⟨some 28, none, .load true 2 (.tmp 27), false⟩, ⟨none, none, .store false 2 (.tmp 2) (.tmp 28), false⟩, ⟨some 3, none, .mv (.const (.int .i64 0)), false⟩]) (.keep [2, 3] (.ret))) (.seq (.region false [⟨some 30, none, .mv (.tmp 0), false⟩, ⟨some 31, none, .len false (.tmp 30), false⟩, ⟨some 32, none, .bin .eql 3 (.tmp 31) (.const (.int .i64 2)), false⟩, ⟨some 29, none, .mv (.tmp 32), false⟩]) (.keep [0, 2, 29] (.cond (.tmp 29) (.seq (.region true [⟨some 33, none, .mv (.tmp 0), false⟩, ⟨some 34, none, .iaddr 1 [.slice none 0 0] (.tmp 33) (.const (.int .i64 0)), false⟩, ⟨some 35, none, .load false 1 (.tmp 34), false⟩, ⟨some 36, none, .iaddr 2 [.int .i64 0, .int .i64 0] (.tmp 35) (.const (.int .i64 0)), false⟩, ⟨some 37, none, .load true 2 (.tmp 36), false⟩, ⟨some 38, none, .mv (.tmp 0), false⟩, ⟨some 39, none, .iaddr 1 [.slice none 0 0] (.tmp 38) (.const (.int .i64 1)), false⟩, ⟨some 40, none, .load false 1 (.tmp 39), false⟩, ⟨some 41, none, .iaddr 2 [.int .i64 0, .int .i64 0] (.tmp 40) (.const (.int .i64 1)), false⟩, ⟨some 42, none, .load true 2 (.tmp 41), false⟩, ⟨some 43, none, .call (.func 44) [(.tmp 37), (.tmp 42)], false⟩, ⟨some 44, none, .mv (.tmp 0), false⟩, ⟨some 45, none, .iaddr 1 [.slice none 0 0] (.tmp 44) (.const (.int .i64 0)), false⟩, ⟨some 46, none, .load false 1 (.tmp 45), false⟩, ⟨some 47, none, .iaddr 2 [.int .i64 0, .int .i64 0] (.tmp 46) (.const (.int .i64 1)), false⟩, ⟨some 48, none, .load true 2 (.tmp 47), false⟩, ⟨some 49, none, .mv (.tmp 0), false⟩, ⟨some 50, none, .iaddr 1 [.slice none 0 0] (.tmp 49) (.const (.int .i64 1)), false⟩, ⟨some 51, none, .load false 1 (.tmp 50), false⟩, ⟨some 52, none, .iaddr 2 [.int .i64 0, .int .i64 0] (.tmp 51) (.const (.int .i64 0)), false⟩, ⟨some 53, none, .load true 2 (.tmp 52), false⟩, ⟨some 54, none, .call (.func 44) [(.tmp 48), (.tmp 53)], true⟩, ⟨some 55, none, .call (.func 72) [(.tmp 43), (.tmp 54)], true⟩, ⟨none, none, .store false 2 (.tmp 2) (.tmp 55), true⟩, ⟨some 3, none, .mv (.const (.int .i64 0)), true⟩]) (.keep [2, 3] (.ret))) (.skip))))))))))) (.keep [2] (.seq (.region false [⟨some 56, none, .build [.int .i64 0, .int .i64 0] [], false⟩, ⟨none, none, .store false 2 (.tmp 2) (.tmp 56), false⟩, ⟨some 3, none, .mv (.const (.int .i64 8)), false⟩]) (.keep [2, 3] (.ret))))))))
def rv42 : List RV := [.cell 2 true 2, .tmp 3]
theorem is42 : FnIs Tryz.prog 42 57 c42 rv42 := ⟨⟨Tryz.f42, _, Tryz.func42, by kernel_rfl, rfl, rfl, by kernel_rfl, by kernel_rfl⟩, by decide⟩
def c43l1 : AC := .seq (.region false [⟨some 23, none, .bin .lss 3 (.tmp 22) (.tmp 21), false⟩]) (.keep [0, 20, 21, 22, 23] (.seq (.cond (.tmp 23) (.skip) (.exit 0)) (.keep [0, 20, 21, 22] (.seq (.block 1 (.seq (.region false [⟨some 24, none, .iaddr 1 [.slice none 0 0] (.tmp 20) (.tmp 22), false⟩, ⟨some 25, none, .load false 1 (.tmp 24), false⟩, ⟨some 5, none, .mv (.tmp 25), false⟩]) (.keep [0, 5, 20, 21, 22] (.seq (.region true [⟨some 26, none, .mv (.tmp 5), false⟩, ⟨some 27, none, .call (.func 24) [(.tmp 26)], false⟩, ⟨some 28, none, .mv (.tmp 5), false⟩, ⟨some 29, none, .len false (.tmp 28), false⟩, ⟨some 30, none, .mv (.tmp 0), false⟩, ⟨some 31, none, .iaddr 1 [.slice none 0 0] (.tmp 30) (.const (.int .i64 0)), false⟩, ⟨some 32, none, .load false 1 (.tmp 31), false⟩, ⟨some 33, none, .len false (.tmp 32), false⟩, ⟨some 34, none, .bin .eql 3 (.tmp 29) (.tmp 33), false⟩, ⟨some 35, none, .call (.func 31) [(.tmp 34), (.const (.int .i64 13))], true⟩, ⟨some 36, none, .mkSl false 26 1 [.int .i64 0] 2 [(0, (.tmp 27)), (1, (.tmp 35))], true⟩, ⟨some 37, none, .call (.func 29) [(.tmp 36)], true⟩, ⟨some 6, none, .mv (.tmp 37), true⟩]) (.keep [0, 6, 20, 21, 22] (.seq (.region false [⟨some 38, none, .mv (.tmp 6), false⟩, ⟨some 39, none, .bin .neq 26 (.tmp 38) (.const (.int .i64 0)), false⟩]) (.keep [0, 6, 20, 21, 22, 39] (.cond (.tmp 39) (.seq (.region false [⟨some 40, none, .mv (.tmp 6), false⟩, ⟨some 2, none, .mv (.tmp 40), false⟩]) (.keep [2] (.ret))) (.skip))))))))) (.keep [0, 20, 21, 22] (.region false [⟨some 41, none, .bin .add 3 (.tmp 22) (.const (.int .i64 1)), false⟩, ⟨some 22, none, .mv (.tmp 41), false⟩]))))))
def c43 : AC := .seq (.region false [⟨some 2, none, .mv (.const (.int .i64 0)), false⟩]) (.keep [0] (.seq (.seq (.region false [⟨some 7, none, .mv (.tmp 0), false⟩, ⟨some 8, none, .len false (.tmp 7), false⟩, ⟨some 9, none, .bin .gtr 3 (.tmp 8) (.const (.int .i64 0)), false⟩, ⟨some 10, none, .call (.func 31) [(.tmp 9), (.const (.int .i64 10))], false⟩, ⟨some 11, none, .mv (.tmp 0), false⟩, ⟨some 12, none, .len false (.tmp 11), false⟩, ⟨some 13, none, .bin .leq 3 (.tmp 12) (.const (.int .i64 4)), false⟩, ⟨some 14, none, .call (.func 31) [(.tmp 13), (.const (.int .i64 8))], false⟩, ⟨some 15, none, .mkSl false 26 1 [.int .i64 0] 2 [(0, (.tmp 10)), (1, (.tmp 14))], false⟩, ⟨some 16, none, .call (.func 29) [(.tmp 15)], false⟩, ⟨some 3, none, .mv (.tmp 16), false⟩]) (.keep [0, 3] (.seq (.region false [⟨some 17, none, .mv (.tmp 3), false⟩, ⟨some 18, none, .bin .neq 26 (.tmp 17) (.const (.int .i64 0)), false⟩]) (.keep [0, 3, 18] (.cond (.tmp 18) (.seq (.region false [⟨some 19, none, .mv (.tmp 3), false⟩, ⟨some 2, none, .mv (.tmp 19), false⟩]) (.keep [2] (.ret))) (.skip)))))) (.keep [0] (.seq (.seq (.region false [⟨some 20, none, .mv (.tmp 0), false⟩, ⟨some 21, none, .len false (.tmp 20), false⟩, ⟨some 22, none, .mv (.const (.int .i64 0)), false⟩]) (.keep [0, 20, 21, 22] (.block 0 (.loop c43l1)))) (.keep [] (.seq (.region false [⟨some 2, none, .mv (.const (.int .i64 0)), false⟩]) (.keep [2] (.ret))))))))
def rv43 : List RV := [.tmp 2]
theorem is43 : FnIs Tryz.prog 43 42 c43 rv43 := ⟨⟨Tryz.f43, _, Tryz.func43, by kernel_rfl, rfl, rfl, by kernel_rfl, by kernel_rfl⟩, by decide⟩
def c44 : AC := .seq (.region false [⟨some 2, none, .box (.tmp 0), false⟩, ⟨some 3, none, .box (.tmp 1), false⟩, ⟨some 4, none, .alloc [.int .i64 0, .int .i64 0], false⟩]) (.keep [2, 3, 4] (.seq (.region false [⟨some 5, none, .faddr 0 (.tmp 2), false⟩, ⟨some 6, none, .load false 1 (.tmp 5), false⟩, ⟨some 7, none, .faddr 0 (.tmp 3), false⟩, ⟨some 8, none, .load false 1 (.tmp 7), false⟩, ⟨some 9, none, .bin .mul 3 (.tmp 6) (.tmp 8), false⟩, ⟨some 10, none, .faddr 1 (.tmp 2), false⟩, ⟨some 11, none, .load false 1 (.tmp 10), false⟩, ⟨some 12, none, .faddr 1 (.tmp 3), false⟩, ⟨some 13, none, .load false 1 (.tmp 12), false⟩, ⟨some 14, none, .bin .mul 3 (.tmp 11) (.tmp 13), false⟩, ⟨some 15, none, .bin .sub 3 (.tmp 9) (.tmp 14), false⟩, ⟨some 16, none, .faddr 0 (.tmp 2), false⟩, ⟨some 17, none, .load false 1 (.tmp 16), false⟩, ⟨some 18, none, .faddr 1 (.tmp 3), false⟩, ⟨some 19, none, .load false 1 (.tmp 18), false⟩, ⟨some 20, none, .bin .mul 3 (.tmp 17) (.tmp 19), false⟩, ⟨some 21, none, .faddr 1 (.tmp 2), false⟩, ⟨some 22, none, .load false 1 (.tmp 21), false⟩, ⟨some 23, none, .faddr 0 (.tmp 3), false⟩, ⟨some 24, none, .load false 1 (.tmp 23), false⟩, ⟨some 25, none, .bin .mul 3 (.tmp 22) (.tmp 24), false⟩, ⟨some 26, none, .bin .add 3 (.tmp 20) (.tmp 25), false⟩, ⟨some 27, none, .build [.int .i64 0, .int .i64 0] [(0, 1, (.tmp 15)), (1, 1, (.tmp 26))], false⟩, ⟨none, none, .store false 2 (.tmp 4) (.tmp 27), false⟩]) (.keep [4] (.ret))))
def rv44 : List RV := [.cell 4 true 2]
theorem is44 : FnIs Tryz.prog 44 28 c44 rv44 := ⟨⟨Tryz.f44, _, Tryz.func44, by kernel_rfl, rfl, rfl, by kernel_rfl, by kernel_rfl⟩, by decide⟩
def c45l1 : AC := .seq (.region false [⟨some 18, none, .bin .lss 3 (.tmp 17) (.tmp 16), false⟩]) (.keep [3, 6, 9, 10, 11, 15, 16, 17, 18] (.seq (.cond (.tmp 18) (.skip) (.exit 2)) (.keep [3, 6, 9, 10, 11, 15, 16, 17] (.seq (.block 3 (.seq (.region false [⟨some 19, none, .iaddr 2 [.int .i64 0, .int .i64 0] (.tmp 15) (.tmp 17), false⟩, ⟨some 20, none, .load true 2 (.tmp 19), false⟩, ⟨some 8, none, .alloc [.int .i64 0, .int .i64 0], false⟩, ⟨none, none, .store false 2 (.tmp 8) (.tmp 20), false⟩]) (.keep [3, 6, 8, 9, 10, 11, 15, 16, 17] (.region false [⟨some 21, none, .mv (.tmp 6), false⟩, ⟨some 22, none, .faddr 0 (.tmp 8), false⟩, ⟨some 23, none, .load false 1 (.tmp 22), false⟩, ⟨some 24, none, .ext .i2f [(.tmp 23)], false⟩, ⟨some 25, none, .faddr 1 (.tmp 8), false⟩, ⟨some 26, none, .load false 1 (.tmp 25), false⟩, ⟨some 27, none, .ext .i2f [(.tmp 26)], false⟩, ⟨some 28, none, .ext .cplx [(.tmp 24), (.tmp 27)], false⟩, ⟨some 29, none, .mkSl false 120 1 [.complex .f64 0 0] 1 [(0, (.tmp 28))], false⟩, ⟨some 30, none, .app 119 120 1 16 [.complex .f64 0 0] (.tmp 21) (.tmp 29), false⟩, ⟨some 6, none, .mv (.tmp 30), false⟩])))) (.keep [3, 6, 9, 10, 11, 15, 16, 17] (.region false [⟨some 31, none, .bin .add 3 (.tmp 17) (.const (.int .i64 1)), false⟩, ⟨some 17, none, .mv (.tmp 31), false⟩]))))))
def c45l2 : AC := .seq (.region false [⟨some 12, none, .bin .lss 3 (.tmp 11) (.tmp 10), false⟩]) (.keep [3, 9, 10, 11, 12] (.seq (.cond (.tmp 12) (.skip) (.exit 0)) (.keep [3, 9, 10, 11] (.seq (.block 1 (.seq (.region false [⟨some 13, none, .iaddr 1 [.slice none 0 0] (.tmp 9) (.tmp 11), false⟩, ⟨some 14, none, .load false 1 (.tmp 13), false⟩, ⟨some 5, none, .mv (.tmp 14), false⟩]) (.keep [3, 5, 9, 10, 11] (.seq (.region false [⟨some 6, none, .mv (.const (.slice none 0 0)), false⟩]) (.keep [3, 5, 6, 9, 10, 11] (.nilrow 6 1 120 (.seq (.seq (.region false [⟨some 15, none, .mv (.tmp 5), false⟩, ⟨some 16, none, .len false (.tmp 15), false⟩, ⟨some 17, none, .mv (.const (.int .i64 0)), false⟩]) (.keep [3, 6, 9, 10, 11, 15, 16, 17] (.block 2 (.loop c45l1)))) (.keep [3, 6, 9, 10, 11] (.fz [6] (.region false [⟨some 32, none, .mv (.tmp 3), false⟩, ⟨some 33, none, .mv (.tmp 6), false⟩, ⟨some 34, none, .mkSl false 119 1 [.slice none 0 0] 1 [(0, (.tmp 33))], false⟩, ⟨some 35, none, .app 89 119 1 24 [.slice none 0 0] (.tmp 32) (.tmp 34), false⟩, ⟨some 3, none, .mv (.tmp 35), false⟩])))))))))) (.keep [3, 9, 10, 11] (.region false [⟨some 36, none, .bin .add 3 (.tmp 11) (.const (.int .i64 1)), false⟩, ⟨some 11, none, .mv (.tmp 36), false⟩]))))))
def c45 : AC := .seq (.region false [⟨some 2, none, .mv (.const (.slice none 0 0)), false⟩]) (.keep [0] (.seq (.region false [⟨some 3, none, .mv (.const (.slice none 0 0)), false⟩]) (.keep [0, 3] (.nilrow 3 1 119 (.seq (.seq (.region false [⟨some 9, none, .mv (.tmp 0), false⟩, ⟨some 10, none, .len false (.tmp 9), false⟩, ⟨some 11, none, .mv (.const (.int .i64 0)), false⟩]) (.keep [3, 9, 10, 11] (.block 0 (.loop c45l2)))) (.keep [3] (.fz [3] (.seq (.region false [⟨some 37, none, .mv (.tmp 3), false⟩, ⟨some 2, none, .mv (.tmp 37), false⟩]) (.keep [2] (.ret))))))))))
def rv45 : List RV := [.tmp 2]
theorem is45 : FnIs Tryz.prog 45 38 c45 rv45 := ⟨⟨Tryz.f45, _, Tryz.func45, by kernel_rfl, rfl, rfl, by kernel_rfl, by kernel_rfl⟩, by decide⟩
def c46 : AC := .seq (.region false [⟨some 2, none, .mv (.const (.slice none 0 0)), false⟩]) (.keep [0] (.seq (.seq (.region false [⟨some 4, none, .mv (.tmp 0), false⟩, ⟨some 5, none, .len false (.tmp 4), false⟩, ⟨some 6, none, .bin .eql 3 (.tmp 5) (.const (.int .i64 1)), false⟩]) (.keep [0, 6] (.cond (.tmp 6) (.seq (.region false [⟨some 7, none, .build [.int .i64 0, .int .i64 0] [(0, 1, (.const (.int .i64 1)))], false⟩, ⟨some 8, none, .mkSl false 43 2 [.int .i64 0, .int .i64 0] 1 [(0, (.tmp 7))], false⟩, ⟨some 9, none, .mkSl false 22 1 [.slice none 0 0] 1 [(0, (.tmp 8))], false⟩, ⟨some 2, none, .mv (.tmp 9), false⟩]) (.keep [2] (.ret))) (.skip)))) (.keep [0] (.seq (.region false [⟨some 10, none, .build [.int .i64 0, .int .i64 0] [], false⟩, ⟨some 3, none, .alloc [.int .i64 0, .int .i64 0], false⟩, ⟨none, none, .store false 2 (.tmp 3) (.tmp 10), false⟩]) (.keep [0, 3] (.seq (.region true [⟨some 11, none, .mv (.tmp 0), false⟩, ⟨some 12, none, .iaddr 1 [.slice none 0 0] (.tmp 11) (.const (.int .i64 1)), false⟩, ⟨some 13, none, .load false 1 (.tmp 12), false⟩, ⟨some 14, none, .iaddr 2 [.int .i64 0, .int .i64 0] (.tmp 13) (.const (.int .i64 1)), false⟩, ⟨some 15, none, .load true 2 (.tmp 14), false⟩, ⟨some 16, none, .load true 2 (.tmp 3), false⟩, ⟨some 17, none, .mv (.tmp 0), false⟩, ⟨some 18, none, .iaddr 1 [.slice none 0 0] (.tmp 17) (.const (.int .i64 0)), false⟩, ⟨some 19, none, .load false 1 (.tmp 18), false⟩, ⟨some 20, none, .iaddr 2 [.int .i64 0, .int .i64 0] (.tmp 19) (.const (.int .i64 1)), false⟩, ⟨some 21, none, .load true 2 (.tmp 20), false⟩, ⟨some 22, none, .call (.func 72) [(.tmp 16), (.tmp 21)], false⟩, ⟨some 23, none, .mkSl false 43 2 [.int .i64 0, .int .i64 0] 2 [(0, (.tmp 15)), (1, (.tmp 22))], false⟩, ⟨some 24, none, .load true 2 (.tmp 3), false⟩, ⟨some 25, none, .mv (.tmp 0), false⟩, ⟨some 26, none, .iaddr 1 [.slice none 0 0] (.tmp 25) (.const (.int .i64 1)), false⟩, ⟨some 27, none, .load false 1 (.tmp 26), false⟩, ⟨some 28, none, .iaddr 2 [.int .i64 0, .int .i64 0] (.tmp 27) (.const (.int .i64 0)), false⟩, ⟨some 29, none, .load true 2 (.tmp 28), false⟩, ⟨some 30, none, .call (.func 72) [(.tmp 24), (.tmp 29)], false⟩, ⟨some 31, none, .mv (.tmp 0), false⟩, ⟨some 32, none, .iaddr 1 [.slice none 0 0] (.tmp 31) (.const (.int .i64 0)), false⟩, ⟨some 33, none, .load false 1 (.tmp 32), false⟩, ⟨some 34, none, .iaddr 2 [.int .i64 0, .int .i64 0] (.tmp 33) (.const (.int .i64 0)), false⟩, ⟨some 35, none, .load true 2 (.tmp 34), false⟩, ⟨some 36, none, .mkSl false 43 2 [.int .i64 0, .int .i64 0] 2 [(0, (.tmp 30)), (1, (.tmp 35))], false⟩, ⟨some 37, none, .mkSl false 22 1 [.slice none 0 0] 2 [(0, (.tmp 23)), (1, (.tmp 36))], true⟩, ⟨some 2, none, .mv (.tmp 37), true⟩]) (.keep [2] (.ret))))))))
def rv46 : List RV := [.tmp 2]
theorem is46 : FnIs Tryz.prog 46 38 c46 rv46 := ⟨⟨Tryz.f46, _, Tryz.func46, by kernel_rfl, rfl, rfl, by kernel_rfl, by kernel_rfl⟩, by decide⟩
def c47l1 : AC := .seq (.region false [⟨some 37, none, .bin .lss 3 (.tmp 36) (.tmp 35), false⟩]) (.keep [1, 5, 8, 10, 13, 14, 15, 24, 25, 26, 34, 35, 36, 37] (.seq (.cond (.tmp 37) (.skip) (.exit 4)) (.keep [1, 5, 8, 10, 13, 14, 15, 24, 25, 26, 34, 35, 36] (.seq (.block 5 (.seq (.region false [⟨some 38, none, .mv (.tmp 36), false⟩, ⟨some 39, none, .iaddr 1 [.complex .f64 0 0] (.tmp 34) (.tmp 36), false⟩, ⟨some 40, none, .load false 1 (.tmp 39), false⟩, ⟨some 11, none, .mv (.tmp 38), false⟩, ⟨some 12, none, .mv (.tmp 40), false⟩]) (.keep [1, 5, 8, 10, 11, 12, 13, 14, 15, 24, 25, 26, 34, 35, 36] (.region false [⟨some 41, none, .mv (.tmp 8), false⟩, ⟨some 42, none, .mv (.tmp 11), false⟩, ⟨some 43, none, .iaddr 1 [.complex .f64 0 0] (.tmp 41) (.tmp 42), false⟩, ⟨some 44, none, .load false 1 (.tmp 43), false⟩, ⟨some 45, none, .mv (.tmp 10), false⟩, ⟨some 46, none, .mv (.tmp 12), false⟩, ⟨some 47, none, .ext (.cbin .mul) [(.tmp 45), (.tmp 46)], false⟩, ⟨some 48, none, .ext (.cbin .add) [(.tmp 44), (.tmp 47)], false⟩, ⟨some 49, none, .iaddr 1 [.complex .f64 0 0] (.tmp 41) (.tmp 42), false⟩, ⟨none, none, .store false 1 (.tmp 49) (.tmp 48), false⟩])))) (.keep [1, 5, 8, 10, 13, 14, 15, 24, 25, 26, 34, 35, 36] (.region false [⟨some 50, none, .bin .add 3 (.tmp 36) (.const (.int .i64 1)), false⟩, ⟨some 36, none, .mv (.tmp 50), false⟩]))))))
def c47l2 : AC := .seq (.region false [⟨some 27, none, .bin .lss 3 (.tmp 26) (.tmp 25), false⟩]) (.keep [1, 5, 8, 13, 14, 15, 24, 25, 26, 27] (.seq (.cond (.tmp 27) (.skip) (.exit 2)) (.keep [1, 5, 8, 13, 14, 15, 24, 25, 26] (.seq (.block 3 (.seq (.region false [⟨some 28, none, .mv (.tmp 26), false⟩, ⟨some 29, none, .iaddr 1 [.complex .f64 0 0] (.tmp 24) (.tmp 26), false⟩, ⟨some 30, none, .load false 1 (.tmp 29), false⟩, ⟨some 9, none, .mv (.tmp 28), false⟩, ⟨some 10, none, .mv (.tmp 30), false⟩]) (.keep [1, 5, 8, 9, 10, 13, 14, 15, 24, 25, 26] (.seq (.region false [⟨some 31, none, .mv (.tmp 1), false⟩, ⟨some 32, none, .mv (.tmp 9), false⟩, ⟨some 33, none, .iaddr 1 [.slice none 0 0] (.tmp 31) (.tmp 32), false⟩, ⟨some 34, none, .load false 1 (.tmp 33), false⟩, ⟨some 35, none, .len false (.tmp 34), false⟩, ⟨some 36, none, .mv (.const (.int .i64 0)), false⟩]) (.keep [1, 5, 8, 10, 13, 14, 15, 24, 25, 26, 34, 35, 36] (.block 4 (.loop c47l1))))))) (.keep [1, 5, 8, 13, 14, 15, 24, 25, 26] (.region false [⟨some 51, none, .bin .add 3 (.tmp 26) (.const (.int .i64 1)), false⟩, ⟨some 26, none, .mv (.tmp 51), false⟩]))))))
def c47l3 : AC := .seq (.region false [⟨some 16, none, .bin .lss 3 (.tmp 15) (.tmp 14), false⟩]) (.keep [1, 5, 13, 14, 15, 16] (.seq (.cond (.tmp 16) (.skip) (.exit 0)) (.keep [1, 5, 13, 14, 15] (.seq (.block 1 (.seq (.region false [⟨some 17, none, .iaddr 1 [.slice none 0 0] (.tmp 13) (.tmp 15), false⟩, ⟨some 18, none, .load false 1 (.tmp 17), false⟩, ⟨some 7, none, .mv (.tmp 18), false⟩]) (.keep [1, 5, 7, 13, 14, 15] (.seq (.region false [⟨some 19, none, .mv (.tmp 1), false⟩, ⟨some 20, none, .iaddr 1 [.slice none 0 0] (.tmp 19) (.const (.int .i64 0)), false⟩, ⟨some 21, none, .load false 1 (.tmp 20), false⟩, ⟨some 22, none, .len false (.tmp 21), false⟩, ⟨some 23, none, .makeSl 120 1 16 [.complex .f64 0 0] (.tmp 22) (.tmp 22), false⟩, ⟨some 8, none, .mv (.tmp 23), false⟩]) (.keep [1, 5, 7, 8, 13, 14, 15] (.seq (.seq (.region false [⟨some 24, none, .mv (.tmp 7), false⟩, ⟨some 25, none, .len false (.tmp 24), false⟩, ⟨some 26, none, .mv (.const (.int .i64 0)), false⟩]) (.keep [1, 5, 8, 13, 14, 15, 24, 25, 26] (.block 2 (.loop c47l2)))) (.keep [1, 5, 8, 13, 14, 15] (.fz [8] (.region false [⟨some 52, none, .mv (.tmp 5), false⟩, ⟨some 53, none, .mv (.tmp 8), false⟩, ⟨some 54, none, .mkSl false 119 1 [.slice none 0 0] 1 [(0, (.tmp 53))], false⟩, ⟨some 55, none, .app 89 119 1 24 [.slice none 0 0] (.tmp 52) (.tmp 54), false⟩, ⟨some 5, none, .mv (.tmp 55), false⟩]))))))))) (.keep [1, 5, 13, 14, 15] (.region false [⟨some 56, none, .bin .add 3 (.tmp 15) (.const (.int .i64 1)), false⟩, ⟨some 15, none, .mv (.tmp 56), false⟩]))))))
def c47 : AC := .seq (.region false [⟨some 4, none, .mv (.const (.slice none 0 0)), false⟩]) (.keep [0, 1] (.seq (.region false [⟨some 5, none, .mv (.const (.slice none 0 0)), false⟩]) (.keep [0, 1, 5] (.nilrow 5 1 119 (.seq (.seq (.region false [⟨some 13, none, .mv (.tmp 0), false⟩, ⟨some 14, none, .len false (.tmp 13), false⟩, ⟨some 15, none, .mv (.const (.int .i64 0)), false⟩]) (.keep [1, 5, 13, 14, 15] (.block 0 (.loop c47l3)))) (.keep [5] (.fz [5] (.seq (.region false [⟨some 57, none, .mv (.tmp 5), false⟩, ⟨some 4, none, .mv (.tmp 57), false⟩]) (.keep [4] (.ret))))))))))
def rv47 : List RV := [.tmp 4]
theorem is47 : FnIs Tryz.prog 47 58 c47 rv47 := ⟨⟨Tryz.f47, _, Tryz.func47, by kernel_rfl, rfl, rfl, by kernel_rfl, by kernel_rfl⟩, by decide⟩
def c48l1 : AC := .seq (.region false [⟨some 18, none, .bin .lss 3 (.tmp 17) (.tmp 16), false⟩]) (.keep [3, 6, 9, 10, 11, 15, 16, 17, 18] (.seq (.cond (.tmp 18) (.skip) (.exit 2)) (.keep [3, 6, 9, 10, 11, 15, 16, 17] (.seq (.block 3 (.seq (.region false [⟨some 19, none, .iaddr 1 [.complex .f64 0 0] (.tmp 15) (.tmp 17), false⟩, ⟨some 20, none, .load false 1 (.tmp 19), false⟩, ⟨some 8, none, .mv (.tmp 20), false⟩]) (.keep [3, 6, 8, 9, 10, 11, 15, 16, 17] (.region false [⟨some 21, none, .mv (.tmp 6), false⟩, ⟨some 22, none, .mv (.tmp 8), false⟩, ⟨some 23, none, .ext .re [(.tmp 22)], false⟩, ⟨some 24, none, .ext (.f2i .i64) [(.tmp 23)], false⟩, ⟨some 25, none, .mv (.tmp 8), false⟩, ⟨some 26, none, .ext .im [(.tmp 25)], false⟩, ⟨some 27, none, .ext (.f2i .i64) [(.tmp 26)], false⟩, ⟨some 28, none, .build [.int .i64 0, .int .i64 0] [(0, 1, (.tmp 24)), (1, 1, (.tmp 27))], false⟩, ⟨some 29, none, .mkSl false 43 2 [.int .i64 0, .int .i64 0] 1 [(0, (.tmp 28))], false⟩, ⟨some 30, none, .app 22 43 2 16 [.int .i64 0, .int .i64 0] (.tmp 21) (.tmp 29), false⟩, ⟨some 6, none, .mv (.tmp 30), false⟩])))) (.keep [3, 6, 9, 10, 11, 15, 16, 17] (.region false [⟨some 31, none, .bin .add 3 (.tmp 17) (.const (.int .i64 1)), false⟩, ⟨some 17, none, .mv (.tmp 31), false⟩]))))))
def c48l2 : AC := .seq (.region false [⟨some 12, none, .bin .lss 3 (.tmp 11) (.tmp 10), false⟩]) (.keep [3, 9, 10, 11, 12] (.seq (.cond (.tmp 12) (.skip) (.exit 0)) (.keep [3, 9, 10, 11] (.seq (.block 1 (.seq (.region false [⟨some 13, none, .iaddr 1 [.slice none 0 0] (.tmp 9) (.tmp 11), false⟩, ⟨some 14, none, .load false 1 (.tmp 13), false⟩, ⟨some 5, none, .mv (.tmp 14), false⟩]) (.keep [3, 5, 9, 10, 11] (.seq (.region false [⟨some 6, none, .mv (.const (.slice none 0 0)), false⟩]) (.keep [3, 5, 6, 9, 10, 11] (.nilrow 6 2 43 (.seq (.seq (.region false [⟨some 15, none, .mv (.tmp 5), false⟩, ⟨some 16, none, .len false (.tmp 15), false⟩, ⟨some 17, none, .mv (.const (.int .i64 0)), false⟩]) (.keep [3, 6, 9, 10, 11, 15, 16, 17] (.block 2 (.loop c48l1)))) (.keep [3, 6, 9, 10, 11] (.fz [6] (.region false [⟨some 32, none, .mv (.tmp 3), false⟩, ⟨some 33, none, .mv (.tmp 6), false⟩, ⟨some 34, none, .mkSl false 22 1 [.slice none 0 0] 1 [(0, (.tmp 33))], false⟩, ⟨some 35, none, .app 46 22 1 24 [.slice none 0 0] (.tmp 32) (.tmp 34), false⟩, ⟨some 3, none, .mv (.tmp 35), false⟩])))))))))) (.keep [3, 9, 10, 11] (.region false [⟨some 36, none, .bin .add 3 (.tmp 11) (.const (.int .i64 1)), false⟩, ⟨some 11, none, .mv (.tmp 36), false⟩]))))))
def c48 : AC := .seq (.region false [⟨some 2, none, .mv (.const (.slice none 0 0)), false⟩]) (.keep [0] (.seq (.region false [⟨some 3, none, .mv (.const (.slice none 0 0)), false⟩]) (.keep [0, 3] (.nilrow 3 1 22 (.seq (.seq (.region false [⟨some 9, none, .mv (.tmp 0), false⟩, ⟨some 10, none, .len false (.tmp 9), false⟩, ⟨some 11, none, .mv (.const (.int .i64 0)), false⟩]) (.keep [3, 9, 10, 11] (.block 0 (.loop c48l2)))) (.keep [3] (.fz [3] (.seq (.region false [⟨some 37, none, .mv (.tmp 3), false⟩, ⟨some 2, none, .mv (.tmp 37), false⟩]) (.keep [2] (.ret))))))))))
def rv48 : List RV := [.tmp 2]
theorem is48 : FnIs Tryz.prog 48 38 c48 rv48 := ⟨⟨Tryz.f48, _, Tryz.func48, by kernel_rfl, rfl, rfl, by kernel_rfl, by kernel_rfl⟩, by decide⟩
def c49 : AC := .seq (.region false [⟨some 2, none, .box (.tmp 0), false⟩, ⟨some 4, none, .mv (.const (.bool false)), false⟩]) (.keep [1, 2] (.seq (.region false [⟨some 5, none, .faddr 0 (.tmp 2), false⟩, ⟨some 6, none, .load false 1 (.tmp 5), false⟩, ⟨some 7, none, .mv (.tmp 1), false⟩, ⟨some 8, none, .call (.func 73) [(.tmp 6), (.tmp 7)], false⟩, ⟨some 9, none, .mv (.tmp 8), false⟩, ⟨some 10, some (9, true), .faddr 1 (.tmp 2), false⟩, ⟨some 11, some (9, true), .load false 1 (.tmp 10), false⟩, ⟨some 12, some (9, true), .mv (.tmp 1), false⟩, ⟨some 13, some (9, true), .call (.func 73) [(.tmp 11), (.tmp 12)], false⟩, ⟨some 14, none, .pick (.tmp 9) (.tmp 13) (.const (.bool false)), false⟩, ⟨some 4, none, .mv (.tmp 14), false⟩]) (.keep [4] (.ret))))
def rv49 : List RV := [.tmp 4]
theorem is49 : FnIs Tryz.prog 49 15 c49 rv49 := ⟨⟨Tryz.f49, _, Tryz.func49, by kernel_rfl, rfl, rfl, by kernel_rfl, by kernel_rfl⟩, by decide⟩
def c54 : AC := .seq (.region false [⟨some 3, none, .box (.tmp 0), false⟩, ⟨some 4, none, .box (.tmp 1), false⟩, ⟨some 5, none, .box (.tmp 2), false⟩, ⟨some 6, none, .mv (.const (.nilFunc)), false⟩]) (.keep [3, 4, 5] (.seq (.region false [⟨some 7, none, .mkFn (.func 77) [] [(.tmp 4), (.tmp 3), (.tmp 5)], false⟩, ⟨some 6, none, .mv (.tmp 7), false⟩]) (.keep [6] (.ret))))
def rv54 : List RV := [.tmp 6]
theorem is54 : FnIs Tryz.prog 54 8 c54 rv54 := ⟨⟨Tryz.f54, _, Tryz.func54, by kernel_rfl, rfl, rfl, by kernel_rfl, by kernel_rfl⟩, by decide⟩
def c55 : AC := .seq (.region false [⟨some 4, none, .mv (.const (.string ⟨#[]⟩)), false⟩, ⟨some 5, none, .mv (.const (.string ⟨#[]⟩)), false⟩, ⟨some 6, none, .mv (.const (.bool false)), false⟩]) (.keep [0, 1] (.seq (.seq (.region false [⟨some 8, none, .mv (.tmp 0), false⟩, ⟨some 9, none, .mv (.tmp 1), false⟩, ⟨some 10, none, .call (.func 80) [(.tmp 8), (.tmp 9)], false⟩, ⟨some 7, none, .mv (.tmp 10), false⟩]) (.keep [0, 1, 7] (.seq (.region false [⟨some 11, none, .mv (.tmp 7), false⟩, ⟨some 12, none, .bin .geq 3 (.tmp 11) (.const (.int .i64 0)), false⟩]) (.keep [0, 1, 7, 12] (.cond (.tmp 12) (.seq (.region true [⟨some 13, none, .mvs (.tmp 0), false⟩, ⟨some 14, none, .mvs (.tmp 7), false⟩, ⟨some 15, none, .sstr (.tmp 13) none (some (.tmp 14)), false⟩, ⟨some 16, none, .mvs (.tmp 0), false⟩, ⟨some 17, none, .mvs (.tmp 7), false⟩, ⟨some 18, none, .mvs (.tmp 1), false⟩, ⟨some 19, none, .len true (.tmp 18), false⟩, ⟨some 20, none, .bin .add 3 (.tmp 17) (.tmp 19), false⟩, ⟨some 21, none, .sstr (.tmp 16) (some (.tmp 20)) none, false⟩, ⟨some 4, none, .mv (.tmp 15), false⟩, ⟨some 5, none, .mv (.tmp 21), true⟩, ⟨some 6, none, .mv (.const (.bool true)), true⟩]) (.keep [4, 5, 6] (.ret))) (.skip)))))) (.keep [0] (.seq (.region false [⟨some 22, none, .mv (.tmp 0), false⟩, ⟨some 4, none, .mv (.tmp 22), false⟩, ⟨some 5, none, .mv (.const (.string ⟨#[]⟩)), false⟩, ⟨some 6, none, .mv (.const (.bool false)), false⟩]) (.keep [4, 5, 6] (.ret))))))
def rv55 : List RV := [.tmp 4, .tmp 5, .tmp 6]
theorem is55 : FnIs Tryz.prog 55 23 c55 rv55 := ⟨⟨Tryz.f55, _, Tryz.func55, by kernel_rfl, rfl, rfl, by kernel_rfl, by kernel_rfl⟩, by decide⟩
def c58 : AC := .seq (.region false [⟨some 4, none, .mv (.const (.bool false)), false⟩]) (.keep [0, 1] (.seq (.region false [⟨some 5, none, .mv (.tmp 0), false⟩, ⟨some 6, none, .mv (.tmp 1), false⟩, ⟨some 7, none, .call (.func 84) [(.tmp 5), (.tmp 6)], false⟩, ⟨some 8, none, .bin .geq 3 (.tmp 7) (.const (.int .i64 0)), false⟩, ⟨some 4, none, .mv (.tmp 8), false⟩]) (.keep [4] (.ret))))
def rv58 : List RV := [.tmp 4]
theorem is58 : FnIs Tryz.prog 58 9 c58 rv58 := ⟨⟨Tryz.f58, _, Tryz.func58, by kernel_rfl, rfl, rfl, by kernel_rfl, by kernel_rfl⟩, by decide⟩
def c59 : AC := .seq (.region false [⟨some 1, none, .box (.tmp 0), false⟩, ⟨some 2, none, .mv (.const (.bool false)), false⟩]) (.keep [1] (.seq (.region false [⟨some 3, none, .load true 2 (.tmp 1), false⟩, ⟨some 4, none, .call (.func 49) [(.tmp 3), (.const (.int .i64 100000000))], false⟩, ⟨some 5, none, .un .not (.tmp 4), false⟩, ⟨some 2, none, .mv (.tmp 5), false⟩]) (.keep [2] (.ret))))
def rv59 : List RV := [.tmp 2]
theorem is59 : FnIs Tryz.prog 59 6 c59 rv59 := ⟨⟨Tryz.f59, _, Tryz.func59, by kernel_rfl, rfl, rfl, by kernel_rfl, by kernel_rfl⟩, by decide⟩
def c60 : AC := .seq (.region false [⟨some 2, none, .mv (.const (.int .i64 0)), false⟩]) (.keep [0] (.seq (.region false [⟨some 3, none, .mv (.tmp 0), false⟩, ⟨some 4, none, .mv (.tmp 0), false⟩, ⟨some 5, none, .un .neg (.tmp 4), false⟩, ⟨some 6, none, .ext (.mx true) [(.tmp 3), (.tmp 5)], false⟩, ⟨some 2, none, .mv (.tmp 6), false⟩]) (.keep [2] (.ret))))
def rv60 : List RV := [.tmp 2]
theorem is60 : FnIs Tryz.prog 60 7 c60 rv60 := ⟨⟨Tryz.f60, _, Tryz.func60, by kernel_rfl, rfl, rfl, by kernel_rfl, by kernel_rfl⟩, by decide⟩
def c61 : AC := .seq (.region false [⟨some 6, none, .mv (.const (.bool false)), false⟩]) (.keep [0, 1, 2] (.seq (.region false [⟨some 7, none, .mv (.tmp 1), false⟩, ⟨some 8, none, .mv (.tmp 0), false⟩, ⟨some 9, none, .bin .leq 3 (.tmp 7) (.tmp 8), false⟩, ⟨some 10, none, .mv (.tmp 9), false⟩, ⟨some 11, some (10, true), .mv (.tmp 0), false⟩, ⟨some 12, some (10, true), .mv (.tmp 2), false⟩, ⟨some 13, some (10, true), .bin .leq 3 (.tmp 11) (.tmp 12), false⟩, ⟨some 14, none, .pick (.tmp 10) (.tmp 13) (.const (.bool false)), false⟩, ⟨some 6, none, .mv (.tmp 14), false⟩]) (.keep [6] (.ret))))
def rv61 : List RV := [.tmp 6]
theorem is61 : FnIs Tryz.prog 61 15 c61 rv61 := ⟨⟨Tryz.f61, _, Tryz.func61, by kernel_rfl, rfl, rfl, by kernel_rfl, by kernel_rfl⟩, by decide⟩
def c62 : AC := .seq (.region false [⟨some 2, none, .mv (.const (.bool false)), false⟩]) (.keep [0] (.seq (.region false [⟨some 3, none, .mv (.tmp 0), false⟩, ⟨some 4, none, .call (.func 85) [(.tmp 3), (.func 86)], false⟩, ⟨some 5, none, .un .not (.tmp 4), false⟩, ⟨some 2, none, .mv (.tmp 5), false⟩]) (.keep [2] (.ret))))
def rv62 : List RV := [.tmp 2]
theorem is62 : FnIs Tryz.prog 62 6 c62 rv62 := ⟨⟨Tryz.f62, _, Tryz.func62, by kernel_rfl, rfl, rfl, by kernel_rfl, by kernel_rfl⟩, by decide⟩
def c63l1 : AC := .seq (.seq (.region false [⟨some 21, none, .mv (.tmp 5), false⟩, ⟨some 22, none, .bin .neq 71 (.tmp 21) (.const (.int .u16 0)), false⟩]) (.keep [0, 3, 4, 5, 22] (.cond (.tmp 22) (.skip) (.exit 0)))) (.keep [0, 3, 4, 5] (.seq (.block 1 (.region false [⟨some 27, none, .mv (.tmp 4), false⟩, ⟨some 28, none, .bin .xor 71 (.tmp 27) (.const (.int .u16 1)), false⟩, ⟨some 4, none, .mv (.tmp 28), false⟩])) (.keep [0, 3, 4, 5] (.region false [⟨some 23, none, .mv (.tmp 5), false⟩, ⟨some 24, none, .mv (.tmp 5), false⟩, ⟨some 25, none, .bin .sub 71 (.tmp 24) (.const (.int .u16 1)), false⟩, ⟨some 26, none, .bin .and 71 (.tmp 23) (.tmp 25), false⟩, ⟨some 5, none, .mv (.tmp 26), false⟩]))))
def c63 : AC := .seq (.region false [⟨some 2, none, .mv (.const (.int .i64 0)), false⟩]) (.keep [0] (.seq (.region false [⟨some 6, none, .mv (.tmp 0), false⟩, ⟨some 7, none, .nilc (.tmp 6), false⟩, ⟨some 8, none, .faddr 0 (.tmp 7), false⟩, ⟨some 9, none, .load false 1 (.tmp 8), false⟩, ⟨some 10, none, .bin .and 71 (.tmp 9) (.const (.int .u16 1)), false⟩, ⟨some 11, none, .cvi .i64 (.tmp 10), false⟩, ⟨some 3, none, .mv (.tmp 11), false⟩]) (.keep [0, 3] (.seq (.region false [⟨some 4, none, .mv (.const (.int .u16 0)), false⟩]) (.keep [0, 3, 4] (.seq (.seq (.region true [⟨some 12, none, .mv (.tmp 0), false⟩, ⟨some 13, none, .nilc (.tmp 12), false⟩, ⟨some 14, none, .faddr 0 (.tmp 13), false⟩, ⟨some 15, none, .load false 1 (.tmp 14), false⟩, ⟨some 16, none, .mv (.tmp 0), false⟩, ⟨some 17, none, .nilc (.tmp 16), false⟩, ⟨some 18, none, .faddr 1 (.tmp 17), false⟩, ⟨some 19, none, .load false 1 (.tmp 18), false⟩, ⟨some 20, none, .bin .and 71 (.tmp 15) (.tmp 19), true⟩, ⟨some 5, none, .mv (.tmp 20), true⟩]) (.keep [0, 3, 4, 5] (.block 0 (.loop c63l1)))) (.keep [0, 3, 4] (.seq (.region true [⟨some 29, none, .mv (.tmp 0), false⟩, ⟨some 30, none, .mv (.tmp 0), false⟩, ⟨some 31, none, .nilc (.tmp 30), false⟩, ⟨some 32, none, .faddr 0 (.tmp 31), false⟩, ⟨some 33, none, .load false 1 (.tmp 32), false⟩, ⟨some 34, none, .bin .shr 71 (.tmp 33) (.const (.int .u64 1)), false⟩, ⟨some 35, none, .mvs (.tmp 4), false⟩, ⟨some 36, none, .mv (.tmp 0), false⟩, ⟨some 37, none, .nilc (.tmp 36), false⟩, ⟨some 38, none, .faddr 2 (.tmp 37), false⟩, ⟨some 39, none, .load false 1 (.tmp 38), false⟩, ⟨some 40, none, .bin .shl 71 (.tmp 35) (.tmp 39), false⟩, ⟨some 41, none, .bin .or 71 (.tmp 34) (.tmp 40), false⟩, ⟨some 42, none, .nilc (.tmp 29), true⟩, ⟨some 43, none, .faddr 0 (.tmp 42), true⟩, ⟨none, none, .store false 1 (.tmp 43) (.tmp 41), true⟩]) (.keep [3] (.seq (.region false [⟨some 44, none, .mv (.tmp 3), false⟩, ⟨some 2, none, .mv (.tmp 44), false⟩]) (.keep [2] (.ret))))))))))))
def rv63 : List RV := [.tmp 2]
theorem is63 : FnIs Tryz.prog 63 45 c63 rv63 := ⟨⟨Tryz.f63, _, Tryz.func63, by kernel_rfl, rfl, rfl, by kernel_rfl, by kernel_rfl⟩, by decide⟩
def c64 : AC := .seq (.region false [⟨some 4, none, .mv (.const (.bool false)), false⟩]) (.keep [0, 1] (.seq (.region false [⟨some 5, none, .mv (.tmp 0), false⟩, ⟨some 6, none, .mv (.tmp 1), false⟩, ⟨some 7, none, .call (.func 87) [(.tmp 5), (.tmp 6)], false⟩, ⟨some 8, none, .bin .geq 3 (.tmp 7) (.const (.int .i64 0)), false⟩, ⟨some 4, none, .mv (.tmp 8), false⟩]) (.keep [4] (.ret))))
def rv64 : List RV := [.tmp 4]
theorem is64 : FnIs Tryz.prog 64 9 c64 rv64 := ⟨⟨Tryz.f64, _, Tryz.func64, by kernel_rfl, rfl, rfl, by kernel_rfl, by kernel_rfl⟩, by decide⟩
def c65l1 : AC := .seq (.seq (.region false [⟨some 6, none, .mv (.tmp 4), false⟩, ⟨some 7, none, .load false 1 (.tmp 1), false⟩, ⟨some 8, none, .len false (.tmp 7), false⟩, ⟨some 9, none, .bin .lss 3 (.tmp 6) (.tmp 8), false⟩]) (.keep [0, 1, 2, 4, 9] (.cond (.tmp 9) (.skip) (.exit 0)))) (.keep [0, 1, 2, 4] (.seq (.block 1 (.seq (.region true [⟨some 13, none, .load false 1 (.tmp 2), false⟩, ⟨some 14, none, .load false 1 (.tmp 1), false⟩, ⟨some 15, none, .mv (.tmp 4), false⟩, ⟨some 16, none, .ssl 1 (.tmp 14) (some (.tmp 15)) none none, false⟩, ⟨some 17, none, .len false (.tmp 16), false⟩, ⟨some 18, none, .ext (.mx false) [(.tmp 13), (.tmp 17)], true⟩, ⟨some 5, none, .mv (.tmp 18), true⟩]) (.keep [0, 1, 2, 4, 5] (.seq (.region false [⟨some 19, none, .mv (.tmp 0), false⟩, ⟨some 20, none, .load false 1 (.tmp 1), false⟩, ⟨some 21, none, .mv (.tmp 4), false⟩, ⟨some 22, none, .mv (.tmp 4), false⟩, ⟨some 23, none, .mv (.tmp 5), false⟩, ⟨some 24, none, .bin .add 3 (.tmp 22) (.tmp 23), false⟩, ⟨some 25, none, .mv (.tmp 4), false⟩, ⟨some 26, none, .mv (.tmp 5), false⟩, ⟨some 27, none, .bin .add 3 (.tmp 25) (.tmp 26), false⟩, ⟨some 28, none, .ssl 1 (.tmp 20) (some (.tmp 21)) (some (.tmp 24)) (some (.tmp 27)), false⟩, ⟨some 29, none, .call (.tmp 19) [(.tmp 28)], false⟩, ⟨some 30, none, .un .not (.tmp 29), false⟩]) (.keep [0, 1, 2, 4, 30] (.cond (.tmp 30) (.ret) (.skip))))))) (.keep [0, 1, 2, 4] (.region false [⟨some 10, none, .mv (.tmp 4), false⟩, ⟨some 11, none, .load false 1 (.tmp 2), false⟩, ⟨some 12, none, .bin .add 3 (.tmp 10) (.tmp 11), false⟩, ⟨some 4, none, .mv (.tmp 12), false⟩]))))
def c65 : AC := .seq (.region false [⟨some 4, none, .mv (.const (.int .i64 0)), false⟩]) (.keep [0, 1, 2, 4] (.block 0 (.loop c65l1)))
def rv65 : List RV := []
theorem is65 : FnIs Tryz.prog 65 31 c65 rv65 := ⟨⟨Tryz.f65, _, Tryz.func65, by kernel_rfl, rfl, rfl, by kernel_rfl, by kernel_rfl⟩, by decide⟩
def c66 : AC := .seq (.region false [⟨some 2, none, .mv (.const (.int .i64 0)), false⟩]) (.keep [0] (.seq (.region false [⟨some 5, none, .mv (.tmp 0), false⟩, ⟨some 6, none, .iaddr 1 [.int .i64 0] (.tmp 5) (.const (.int .i64 0)), false⟩, ⟨some 7, none, .load false 1 (.tmp 6), false⟩, ⟨some 8, none, .bin .mul 3 (.const (.int .i64 2)) (.tmp 7), false⟩, ⟨some 9, none, .bin .sub 3 (.const (.int .i64 1)) (.tmp 8), false⟩, ⟨some 3, none, .mv (.tmp 9), false⟩]) (.keep [0, 3] (.seq (.seq (.region false [⟨some 10, none, .mv (.tmp 0), false⟩, ⟨some 11, none, .len false (.tmp 10), false⟩, ⟨some 12, none, .bin .eql 3 (.tmp 11) (.const (.int .i64 1)), false⟩]) (.keep [0, 3, 12] (.cond (.tmp 12) (.seq (.region false [⟨some 13, none, .mv (.tmp 3), false⟩, ⟨some 2, none, .mv (.tmp 13), false⟩]) (.keep [2] (.ret))) (.skip)))) (.keep [0, 3] (.seq (.region false [⟨some 14, none, .mv (.tmp 0), false⟩, ⟨some 15, none, .ssl 1 (.tmp 14) (some (.const (.int .i64 1))) none none, false⟩, ⟨some 4, none, .mv (.tmp 15), false⟩]) (.keep [3, 4] (.seq (.region true [⟨some 16, none, .mvs (.tmp 3), false⟩, ⟨some 17, none, .mv (.tmp 4), false⟩, ⟨some 18, none, .len false (.tmp 17), false⟩, ⟨some 19, none, .bin .shl 3 (.const (.int .i64 1)) (.tmp 18), false⟩, ⟨some 20, none, .mv (.tmp 4), false⟩, ⟨some 21, none, .call (.func 66) [(.tmp 20)], false⟩, ⟨some 22, none, .bin .sub 3 (.tmp 19) (.tmp 21), true⟩, ⟨some 23, none, .bin .mul 3 (.tmp 16) (.tmp 22), true⟩, ⟨some 2, none, .mv (.tmp 23), true⟩]) (.keep [2] (.ret))))))))))
def rv66 : List RV := [.tmp 2]
theorem is66 : FnIs Tryz.prog 66 24 c66 rv66 := ⟨⟨Tryz.f66, _, Tryz.func66, by kernel_rfl, rfl, rfl, by kernel_rfl, by kernel_rfl⟩, by decide⟩
def c67l1 : AC := .seq (.region false [⟨some 12, none, .bin .lss 3 (.tmp 11) (.tmp 10), false⟩]) (.keep [0, 1, 2, 3, 6, 9, 10, 11, 12] (.seq (.cond (.tmp 12) (.skip) (.exit 0)) (.keep [0, 1, 2, 3, 6, 9, 10, 11] (.seq (.block 1 (.seq (.region false [⟨some 13, none, .iaddr 1 [.int .i64 0] (.tmp 9) (.tmp 11), false⟩, ⟨some 14, none, .load false 1 (.tmp 13), false⟩, ⟨some 8, none, .mv (.tmp 14), false⟩]) (.keep [0, 1, 2, 3, 6, 8, 9, 10, 11] (.region false [⟨some 15, none, .mv (.tmp 6), false⟩, ⟨some 16, none, .mv (.tmp 0), false⟩, ⟨some 17, none, .mv (.tmp 8), false⟩, ⟨some 18, none, .faddr 1 (.tmp 2), false⟩, ⟨some 19, none, .load false 1 (.tmp 18), false⟩, ⟨some 20, none, .bin .mul 3 (.tmp 17) (.tmp 19), false⟩, ⟨some 21, none, .bin .sub 3 (.tmp 16) (.tmp 20), false⟩, ⟨some 22, none, .mv (.tmp 0), false⟩, ⟨some 23, none, .mv (.tmp 8), false⟩, ⟨some 24, none, .faddr 1 (.tmp 2), false⟩, ⟨some 25, none, .load false 1 (.tmp 24), false⟩, ⟨some 26, none, .bin .mul 3 (.tmp 23) (.tmp 25), false⟩, ⟨some 27, none, .bin .sub 3 (.tmp 22) (.tmp 26), false⟩, ⟨some 28, none, .bin .mul 3 (.tmp 21) (.tmp 27), false⟩, ⟨some 29, none, .mkSl false 3 1 [.int .i64 0] 1 [(0, (.tmp 28))], false⟩, ⟨some 30, none, .app 34 3 1 8 [.int .i64 0] (.tmp 15) (.tmp 29), false⟩, ⟨some 6, none, .mv (.tmp 30), false⟩])))) (.keep [0, 1, 2, 3, 6, 9, 10, 11] (.region false [⟨some 31, none, .bin .add 3 (.tmp 11) (.const (.int .i64 1)), false⟩, ⟨some 11, none, .mv (.tmp 31), false⟩]))))))
def c67 : AC := .seq (.region false [⟨some 5, none, .mv (.const (.slice none 0 0)), false⟩]) (.keep [0, 1, 2, 3] (.seq (.region false [⟨some 6, none, .mv (.const (.slice none 0 0)), false⟩]) (.keep [0, 1, 2, 3, 6] (.nilrow 6 1 3 (.seq (.seq (.region false [⟨some 9, none, .load false 1 (.tmp 1), false⟩, ⟨some 10, none, .len false (.tmp 9), false⟩, ⟨some 11, none, .mv (.const (.int .i64 0)), false⟩]) (.keep [0, 1, 2, 3, 6, 9, 10, 11] (.block 0 (.loop c67l1)))) (.keep [1, 3, 6] (.fz [6] (.seq (.region false [⟨some 32, none, .load false 1 (.tmp 3), false⟩, ⟨some 33, none, .load false 1 (.tmp 1), false⟩, ⟨some 34, none, .mv (.tmp 6), false⟩, ⟨some 35, none, .call (.tmp 32) [(.tmp 33), (.tmp 34)], false⟩, ⟨some 5, none, .mv (.tmp 35), false⟩]) (.keep [5] (.ret))))))))))
def rv67 : List RV := [.tmp 5]
theorem is67 : FnIs Tryz.prog 67 36 c67 rv67 := ⟨⟨Tryz.f67, _, Tryz.func67, by kernel_rfl, rfl, rfl, by kernel_rfl, by kernel_rfl⟩, by decide⟩
def c68l1 : AC := .seq (.seq (.region false [⟨some 4, none, .mv (.tmp 3), false⟩, ⟨some 5, none, .bin .shl 3 (.const (.int .i64 1)) (.tmp 4), false⟩, ⟨some 6, none, .mv (.tmp 0), false⟩, ⟨some 7, none, .len false (.tmp 6), false⟩, ⟨some 8, none, .bin .lss 3 (.tmp 5) (.tmp 7), false⟩]) (.keep [0, 3, 8] (.cond (.tmp 8) (.skip) (.exit 0)))) (.keep [0, 3] (.block 1 (.region false [⟨some 9, none, .mv (.tmp 3), false⟩, ⟨some 10, none, .bin .add 3 (.tmp 9) (.const (.int .i64 1)), false⟩, ⟨some 3, none, .mv (.tmp 10), false⟩])))
def c68 : AC := .seq (.region false [⟨some 2, none, .mv (.const (.int .i64 0)), false⟩]) (.keep [0] (.seq (.region false [⟨some 3, none, .mv (.const (.int .i64 0)), false⟩]) (.keep [0, 3] (.seq (.block 0 (.loop c68l1)) (.keep [3] (.seq (.region false [⟨some 11, none, .mv (.tmp 3), false⟩, ⟨some 2, none, .mv (.tmp 11), false⟩]) (.keep [2] (.ret))))))))
def rv68 : List RV := [.tmp 2]
theorem is68 : FnIs Tryz.prog 68 12 c68 rv68 := ⟨⟨Tryz.f68, _, Tryz.func68, by kernel_rfl, rfl, rfl, by kernel_rfl, by kernel_rfl⟩, by decide⟩
def c69l1 : AC := .seq (.region false [⟨some 10, none, .bin .lss 3 (.tmp 9) (.tmp 8), false⟩]) (.keep [0, 1, 8, 9, 10] (.seq (.cond (.tmp 10) (.skip) (.exit 0)) (.keep [0, 1, 8, 9] (.seq (.block 1 (.seq (.region false [⟨some 11, none, .mv (.tmp 9), false⟩, ⟨some 5, none, .mv (.tmp 11), false⟩]) (.keep [0, 1, 5, 8, 9] (.seq (.region false [⟨some 12, none, .mv (.tmp 5), false⟩, ⟨some 13, none, .mv (.tmp 0), false⟩, ⟨some 14, none, .call (.func 88) [(.tmp 12), (.tmp 13)], false⟩, ⟨some 6, none, .mv (.tmp 14), false⟩]) (.keep [0, 1, 6, 8, 9] (.seq (.region false [⟨some 15, none, .mv (.tmp 6), false⟩, ⟨some 16, none, .call (.func 66) [(.tmp 15)], false⟩, ⟨some 17, none, .mv (.tmp 1), false⟩, ⟨some 18, none, .bin .eql 3 (.tmp 16) (.tmp 17), false⟩]) (.keep [0, 1, 6, 8, 9, 18] (.cond (.tmp 18) (.seq (.region false [⟨some 19, none, .mv (.tmp 6), false⟩, ⟨some 4, none, .mv (.tmp 19), false⟩]) (.keep [4] (.ret))) (.skip))))))))) (.keep [0, 1, 8, 9] (.region false [⟨some 20, none, .bin .add 3 (.tmp 9) (.const (.int .i64 1)), false⟩, ⟨some 9, none, .mv (.tmp 20), false⟩]))))))
def c69 : AC := .seq (.region false [⟨some 4, none, .mv (.const (.slice none 0 0)), false⟩]) (.keep [0, 1] (.seq (.seq (.region false [⟨some 7, none, .mv (.tmp 0), false⟩, ⟨some 8, none, .bin .shl 3 (.const (.int .i64 1)) (.tmp 7), false⟩, ⟨some 9, none, .mv (.const (.int .i64 0)), false⟩]) (.keep [0, 1, 8, 9] (.block 0 (.loop c69l1)))) (.keep [] (.seq (.region false [⟨some 4, none, .mv (.const (.slice none 0 0)), false⟩]) (.keep [4] (.ret))))))
def rv69 : List RV := [.tmp 4]
theorem is69 : FnIs Tryz.prog 69 21 c69 rv69 := ⟨⟨Tryz.f69, _, Tryz.func69, by kernel_rfl, rfl, rfl, by kernel_rfl, by kernel_rfl⟩, by decide⟩
def c70l1 : AC := .seq (.seq (.region false [⟨some 12, none, .mv (.tmp 4), false⟩, ⟨some 13, none, .mv (.tmp 0), false⟩, ⟨some 14, none, .len false (.tmp 13), false⟩, ⟨some 15, none, .bin .lss 3 (.tmp 12) (.tmp 14), false⟩]) (.keep [0, 3, 4, 15] (.cond (.tmp 15) (.skip) (.exit 0)))) (.keep [0, 3, 4] (.seq (.block 1 (.region false [⟨some 18, none, .mv (.tmp 3), false⟩, ⟨some 19, none, .mv (.tmp 0), false⟩, ⟨some 20, none, .mv (.tmp 4), false⟩, ⟨some 21, none, .iaddr 1 [.int .i64 0] (.tmp 19) (.tmp 20), false⟩, ⟨some 22, none, .load false 1 (.tmp 21), false⟩, ⟨some 23, none, .ext (.mx false) [(.tmp 18), (.tmp 22)], false⟩, ⟨some 3, none, .mv (.tmp 23), false⟩])) (.keep [0, 3, 4] (.region false [⟨some 16, none, .mv (.tmp 4), false⟩, ⟨some 17, none, .bin .add 3 (.tmp 16) (.const (.int .i64 1)), false⟩, ⟨some 4, none, .mv (.tmp 17), false⟩]))))
def c70 : AC := .seq (.region false [⟨some 2, none, .mv (.const (.int .i64 0)), false⟩]) (.keep [0] (.seq (.seq (.region false [⟨some 5, none, .mv (.tmp 0), false⟩, ⟨some 6, none, .len false (.tmp 5), false⟩, ⟨some 7, none, .bin .lss 3 (.tmp 6) (.const (.int .i64 1)), false⟩]) (.keep [0, 7] (.cond (.tmp 7) (.region false [⟨some 8, none, .opq (.makeInterface 9 (.const (.string ⟨#[115, 108, 105, 99, 101, 115, 46, 77, 105, 110, 58, 32, 101, 109, 112, 116, 121, 32, 108, 105, 115, 116]⟩))) 20, false⟩, ⟨none, none, .opq (.panic (.tmp 8)) 0, false⟩]) (.skip)))) (.keep [0] (.seq (.region false [⟨some 9, none, .mv (.tmp 0), false⟩, ⟨some 10, none, .iaddr 1 [.int .i64 0] (.tmp 9) (.const (.int .i64 0)), false⟩, ⟨some 11, none, .load false 1 (.tmp 10), false⟩, ⟨some 3, none, .mv (.tmp 11), false⟩]) (.keep [0, 3] (.seq (.seq (.region false [⟨some 4, none, .mv (.const (.int .i64 1)), false⟩]) (.keep [0, 3, 4] (.block 0 (.loop c70l1)))) (.keep [3] (.seq (.region false [⟨some 24, none, .mv (.tmp 3), false⟩, ⟨some 2, none, .mv (.tmp 24), false⟩]) (.keep [2] (.ret))))))))))
def rv70 : List RV := [.tmp 2]
theorem is70 : FnIs Tryz.prog 70 25 c70 rv70 := ⟨⟨Tryz.f70, _, Tryz.func70, by kernel_rfl, rfl, rfl, by kernel_rfl, by kernel_rfl⟩, by decide⟩
def c71l1 : AC := .seq (.region false [⟨some 24, none, .bin .lss 3 (.tmp 23) (.tmp 22), false⟩]) (.keep [0, 21, 22, 23, 24] (.seq (.cond (.tmp 24) (.skip) (.exit 0)) (.keep [0, 21, 22, 23] (.seq (.block 1 (.seq (.region false [⟨some 25, none, .iaddr 1 [.slice none 0 0] (.tmp 21) (.tmp 23), false⟩, ⟨some 26, none, .load false 1 (.tmp 25), false⟩, ⟨some 5, none, .mv (.tmp 26), false⟩]) (.keep [0, 5, 21, 22, 23] (.seq (.region false [⟨some 27, none, .mv (.tmp 5), false⟩, ⟨some 28, none, .call (.func 58) [(.tmp 27), (.func 89)], false⟩, ⟨some 6, none, .mv (.tmp 28), false⟩]) (.keep [0, 5, 6, 21, 22, 23] (.seq (.region false [⟨some 29, none, .mv (.tmp 5), false⟩, ⟨some 30, none, .len false (.tmp 29), false⟩, ⟨some 31, none, .bin .gtr 3 (.tmp 30) (.const (.int .i64 0)), false⟩, ⟨some 32, none, .mv (.tmp 31), false⟩, ⟨some 33, some (32, true), .mv (.tmp 5), false⟩, ⟨some 34, some (32, true), .len false (.tmp 33), false⟩, ⟨some 35, some (32, true), .mv (.tmp 0), false⟩, ⟨some 36, some (32, true), .iaddr 1 [.slice none 0 0] (.tmp 35) (.const (.int .i64 0)), false⟩, ⟨some 37, some (32, true), .load false 1 (.tmp 36), false⟩, ⟨some 38, some (32, true), .len false (.tmp 37), false⟩, ⟨some 39, some (32, true), .bin .eql 3 (.tmp 34) (.tmp 38), false⟩, ⟨some 40, none, .pick (.tmp 32) (.tmp 39) (.const (.bool false)), false⟩, ⟨some 41, none, .call (.func 31) [(.tmp 40), (.const (.int .i64 10))], false⟩, ⟨some 42, none, .mv (.tmp 5), false⟩, ⟨some 43, none, .len false (.tmp 42), false⟩, ⟨some 44, none, .bin .leq 3 (.tmp 43) (.const (.int .i64 4)), false⟩, ⟨some 45, none, .call (.func 31) [(.tmp 44), (.const (.int .i64 8))], false⟩, ⟨some 46, none, .mv (.tmp 6), false⟩, ⟨some 47, none, .un .not (.tmp 46), false⟩, ⟨some 48, none, .call (.func 31) [(.tmp 47), (.const (.int .i64 2))], false⟩, ⟨some 49, none, .mkSl false 26 1 [.int .i64 0] 3 [(0, (.tmp 41)), (1, (.tmp 45)), (2, (.tmp 48))], false⟩, ⟨some 50, none, .call (.func 29) [(.tmp 49)], false⟩, ⟨some 7, none, .mv (.tmp 50), false⟩]) (.keep [0, 7, 21, 22, 23] (.seq (.region false [⟨some 51, none, .mv (.tmp 7), false⟩, ⟨some 52, none, .bin .neq 26 (.tmp 51) (.const (.int .i64 0)), false⟩]) (.keep [0, 7, 21, 22, 23, 52] (.cond (.tmp 52) (.seq (.region false [⟨some 53, none, .mv (.tmp 7), false⟩, ⟨some 2, none, .mv (.tmp 53), false⟩]) (.keep [2] (.ret))) (.skip))))))))))) (.keep [0, 21, 22, 23] (.region false [⟨some 54, none, .bin .add 3 (.tmp 23) (.const (.int .i64 1)), false⟩, ⟨some 23, none, .mv (.tmp 54), false⟩]))))))
def c71 : AC := .seq (.region false [⟨some 2, none, .mv (.const (.int .i64 0)), false⟩]) (.keep [0] (.seq (.seq (.region false [⟨some 8, none, .mv (.tmp 0), false⟩, ⟨some 9, none, .len false (.tmp 8), false⟩, ⟨some 10, none, .bin .gtr 3 (.tmp 9) (.const (.int .i64 0)), false⟩, ⟨some 11, none, .call (.func 31) [(.tmp 10), (.const (.int .i64 10))], false⟩, ⟨some 12, none, .mv (.tmp 0), false⟩, ⟨some 13, none, .len false (.tmp 12), false⟩, ⟨some 14, none, .bin .leq 3 (.tmp 13) (.const (.int .i64 4)), false⟩, ⟨some 15, none, .call (.func 31) [(.tmp 14), (.const (.int .i64 8))], false⟩, ⟨some 16, none, .mkSl false 26 1 [.int .i64 0] 2 [(0, (.tmp 11)), (1, (.tmp 15))], false⟩, ⟨some 17, none, .call (.func 29) [(.tmp 16)], false⟩, ⟨some 3, none, .mv (.tmp 17), false⟩]) (.keep [0, 3] (.seq (.region false [⟨some 18, none, .mv (.tmp 3), false⟩, ⟨some 19, none, .bin .neq 26 (.tmp 18) (.const (.int .i64 0)), false⟩]) (.keep [0, 3, 19] (.cond (.tmp 19) (.seq (.region false [⟨some 20, none, .mv (.tmp 3), false⟩, ⟨some 2, none, .mv (.tmp 20), false⟩]) (.keep [2] (.ret))) (.skip)))))) (.keep [0] (.seq (.seq (.region false [⟨some 21, none, .mv (.tmp 0), false⟩, ⟨some 22, none, .len false (.tmp 21), false⟩, ⟨some 23, none, .mv (.const (.int .i64 0)), false⟩]) (.keep [0, 21, 22, 23] (.block 0 (.loop c71l1)))) (.keep [] (.seq (.region false [⟨some 2, none, .mv (.const (.int .i64 0)), false⟩]) (.keep [2] (.ret))))))))
def rv71 : List RV := [.tmp 2]
theorem is71 : FnIs Tryz.prog 71 55 c71 rv71 := ⟨⟨Tryz.f71, _, Tryz.func71, by kernel_rfl, rfl, rfl, by kernel_rfl, by kernel_rfl⟩, by decide⟩
def c72 : AC := .seq (.region false [⟨some 2, none, .box (.tmp 0), false⟩, ⟨some 3, none, .box (.tmp 1), false⟩, ⟨some 4, none, .alloc [.int .i64 0, .int .i64 0], false⟩]) (.keep [2, 3, 4] (.seq (.region false [⟨some 5, none, .faddr 0 (.tmp 2), false⟩, ⟨some 6, none, .load false 1 (.tmp 5), false⟩, ⟨some 7, none, .faddr 0 (.tmp 3), false⟩, ⟨some 8, none, .load false 1 (.tmp 7), false⟩, ⟨some 9, none, .bin .sub 3 (.tmp 6) (.tmp 8), false⟩, ⟨some 10, none, .faddr 1 (.tmp 2), false⟩, ⟨some 11, none, .load false 1 (.tmp 10), false⟩, ⟨some 12, none, .faddr 1 (.tmp 3), false⟩, ⟨some 13, none, .load false 1 (.tmp 12), false⟩, ⟨some 14, none, .bin .sub 3 (.tmp 11) (.tmp 13), false⟩, ⟨some 15, none, .build [.int .i64 0, .int .i64 0] [(0, 1, (.tmp 9)), (1, 1, (.tmp 14))], false⟩, ⟨none, none, .store false 2 (.tmp 4) (.tmp 15), false⟩]) (.keep [4] (.ret))))
def rv72 : List RV := [.cell 4 true 2]
theorem is72 : FnIs Tryz.prog 72 16 c72 rv72 := ⟨⟨Tryz.f72, _, Tryz.func72, by kernel_rfl, rfl, rfl, by kernel_rfl, by kernel_rfl⟩, by decide⟩
def c73 : AC := .seq (.region false [⟨some 4, none, .mv (.const (.bool false)), false⟩]) (.keep [0, 1] (.seq (.region false [⟨some 5, none, .mv (.tmp 0), false⟩, ⟨some 6, none, .mv (.tmp 1), false⟩, ⟨some 7, none, .un .neg (.tmp 6), false⟩, ⟨some 8, none, .mv (.tmp 1), false⟩, ⟨some 9, none, .call (.func 32) [(.tmp 5), (.tmp 7), (.tmp 8)], false⟩, ⟨some 4, none, .mv (.tmp 9), false⟩]) (.keep [4] (.ret))))
def rv73 : List RV := [.tmp 4]
theorem is73 : FnIs Tryz.prog 73 10 c73 rv73 := ⟨⟨Tryz.f73, _, Tryz.func73, by kernel_rfl, rfl, rfl, by kernel_rfl, by kernel_rfl⟩, by decide⟩
def c77l1 : AC := .seq (.seq (.region false [⟨some 12, none, .load false 1 (.tmp 2), false⟩, ⟨some 13, none, .len true (.tmp 12), false⟩, ⟨some 14, none, .bin .gtr 3 (.tmp 13) (.const (.int .i64 0)), false⟩]) (.keep [0, 2, 14] (.cond (.tmp 14) (.skip) (.exit 0)))) (.keep [0, 2] (.block 1 (.seq (.region false [⟨some 16, none, .load false 1 (.tmp 2), false⟩, ⟨some 17, none, .call (.func 78) [(.tmp 16)], false⟩, ⟨some 15, none, .mv (.tmp 17), false⟩, ⟨some 18, none, .extr (.tmp 15) 0, false⟩, ⟨some 19, none, .extr (.tmp 15) 1, false⟩, ⟨some 5, none, .mv (.tmp 18), false⟩, ⟨some 6, none, .mv (.tmp 19), false⟩]) (.keep [0, 2, 6] (.seq (.seq (.region false [⟨some 20, none, .mv (.tmp 0), false⟩, ⟨some 21, none, .load false 1 (.tmp 2), false⟩, ⟨some 22, none, .mv (.tmp 6), false⟩, ⟨some 23, none, .sstr (.tmp 21) none (some (.tmp 22)), false⟩, ⟨some 24, none, .call (.tmp 20) [(.tmp 23)], false⟩, ⟨some 25, none, .un .not (.tmp 24), false⟩]) (.keep [0, 2, 6, 25] (.cond (.tmp 25) (.ret) (.skip)))) (.keep [0, 2, 6] (.region false [⟨some 26, none, .load false 1 (.tmp 2), false⟩, ⟨some 27, none, .mv (.tmp 6), false⟩, ⟨some 28, none, .sstr (.tmp 26) (some (.tmp 27)) none, false⟩, ⟨none, none, .store false 1 (.tmp 2) (.tmp 28), false⟩])))))))
def c77l2 : AC := .block 3 (.seq (.region false [⟨some 29, none, .load false 1 (.tmp 2), false⟩, ⟨some 30, none, .load false 1 (.tmp 1), false⟩, ⟨some 31, none, .call (.func 79) [(.tmp 29), (.tmp 30)], false⟩, ⟨some 7, none, .mv (.tmp 31), false⟩]) (.keep [0, 1, 2, 3, 7] (.seq (.seq (.region false [⟨some 32, none, .mv (.tmp 7), false⟩, ⟨some 33, none, .bin .lss 3 (.tmp 32) (.const (.int .i64 0)), false⟩]) (.keep [0, 1, 2, 3, 7, 33] (.cond (.tmp 33) (.exit 2) (.skip)))) (.keep [0, 1, 2, 3, 7] (.seq (.region false [⟨some 34, none, .load false 1 (.tmp 2), false⟩, ⟨some 35, none, .mv (.tmp 7), false⟩, ⟨some 36, none, .load false 1 (.tmp 3), false⟩, ⟨some 37, none, .bin .add 3 (.tmp 35) (.tmp 36), false⟩, ⟨some 38, none, .sstr (.tmp 34) none (some (.tmp 37)), false⟩, ⟨some 8, none, .mv (.tmp 38), false⟩]) (.keep [0, 1, 2, 3, 7, 8] (.seq (.seq (.region false [⟨some 39, none, .mv (.tmp 0), false⟩, ⟨some 40, none, .mv (.tmp 8), false⟩, ⟨some 41, none, .call (.tmp 39) [(.tmp 40)], false⟩, ⟨some 42, none, .un .not (.tmp 41), false⟩]) (.keep [0, 1, 2, 3, 7, 42] (.cond (.tmp 42) (.ret) (.skip)))) (.keep [0, 1, 2, 3, 7] (.region false [⟨some 43, none, .load false 1 (.tmp 2), false⟩, ⟨some 44, none, .mv (.tmp 7), false⟩, ⟨some 45, none, .load false 1 (.tmp 1), false⟩, ⟨some 46, none, .len true (.tmp 45), false⟩, ⟨some 47, none, .bin .add 3 (.tmp 44) (.tmp 46), false⟩, ⟨some 48, none, .sstr (.tmp 43) (some (.tmp 47)) none, false⟩, ⟨none, none, .store false 1 (.tmp 2) (.tmp 48), false⟩])))))))))
def c77 : AC := .seq (.seq (.region false [⟨some 9, none, .load false 1 (.tmp 1), false⟩, ⟨some 10, none, .len true (.tmp 9), false⟩, ⟨some 11, none, .bin .eql 3 (.tmp 10) (.const (.int .i64 0)), false⟩]) (.keep [0, 1, 2, 3, 11] (.cond (.tmp 11) (.seq (.block 0 (.loop c77l1)) (.keep [] (.ret))) (.skip)))) (.keep [0, 1, 2, 3] (.seq (.block 2 (.loop c77l2)) (.keep [0, 2] (.region false [⟨some 49, none, .mv (.tmp 0), false⟩, ⟨some 50, none, .load false 1 (.tmp 2), false⟩, ⟨some 51, none, .call (.tmp 49) [(.tmp 50)], false⟩]))))
def rv77 : List RV := []
theorem is77 : FnIs Tryz.prog 77 52 c77 rv77 := ⟨⟨Tryz.f77, _, Tryz.func77, by kernel_rfl, rfl, rfl, by kernel_rfl, by kernel_rfl⟩, by decide⟩
def c84l1 : AC := .seq (.region false [⟨some 9, none, .bin .lss 3 (.tmp 8) (.tmp 7), false⟩]) (.keep [0, 1, 7, 8, 9] (.seq (.cond (.tmp 9) (.skip) (.exit 0)) (.keep [0, 1, 7, 8] (.seq (.block 1 (.seq (.region false [⟨some 10, none, .mv (.tmp 8), false⟩, ⟨some 5, none, .mv (.tmp 10), false⟩]) (.keep [0, 1, 5, 7, 8] (.seq (.region false [⟨some 11, none, .mv (.tmp 1), false⟩, ⟨some 12, none, .mv (.tmp 0), false⟩, ⟨some 13, none, .mv (.tmp 5), false⟩, ⟨some 14, none, .iaddr 2 [.int .i64 0, .int .i64 0] (.tmp 12) (.tmp 13), false⟩, ⟨some 15, none, .load true 2 (.tmp 14), false⟩, ⟨some 16, none, .call (.tmp 11) [(.tmp 15)], false⟩]) (.keep [0, 1, 5, 7, 8, 16] (.cond (.tmp 16) (.seq (.region false [⟨some 17, none, .mv (.tmp 5), false⟩, ⟨some 4, none, .mv (.tmp 17), false⟩]) (.keep [4] (.ret))) (.skip))))))) (.keep [0, 1, 7, 8] (.region false [⟨some 18, none, .bin .add 3 (.tmp 8) (.const (.int .i64 1)), false⟩, ⟨some 8, none, .mv (.tmp 18), false⟩]))))))
def c84 : AC := .seq (.region false [⟨some 4, none, .mv (.const (.int .i64 0)), false⟩]) (.keep [0, 1] (.seq (.seq (.region false [⟨some 6, none, .mv (.tmp 0), false⟩, ⟨some 7, none, .len false (.tmp 6), false⟩, ⟨some 8, none, .mv (.const (.int .i64 0)), false⟩]) (.keep [0, 1, 7, 8] (.block 0 (.loop c84l1)))) (.keep [] (.seq (.region false [⟨some 4, none, .mv (.const (.int .i64 (-1))), false⟩]) (.keep [4] (.ret))))))
def rv84 : List RV := [.tmp 4]
theorem is84 : FnIs Tryz.prog 84 19 c84 rv84 := ⟨⟨Tryz.f84, _, Tryz.func84, by kernel_rfl, rfl, rfl, by kernel_rfl, by kernel_rfl⟩, by decide⟩
def c85 : AC := .seq (.region false [⟨some 4, none, .mv (.const (.bool false)), false⟩]) (.keep [0, 1] (.seq (.region false [⟨some 5, none, .mv (.tmp 0), false⟩, ⟨some 6, none, .mv (.tmp 1), false⟩, ⟨some 7, none, .call (.func 107) [(.tmp 5), (.tmp 6)], false⟩, ⟨some 8, none, .bin .geq 3 (.tmp 7) (.const (.int .i64 0)), false⟩, ⟨some 4, none, .mv (.tmp 8), false⟩]) (.keep [4] (.ret))))
def rv85 : List RV := [.tmp 4]
theorem is85 : FnIs Tryz.prog 85 9 c85 rv85 := ⟨⟨Tryz.f85, _, Tryz.func85, by kernel_rfl, rfl, rfl, by kernel_rfl, by kernel_rfl⟩, by decide⟩
def c86 : AC := .seq (.region false [⟨some 2, none, .mv (.const (.bool false)), false⟩]) (.keep [0] (.seq (.region false [⟨some 3, none, .mv (.tmp 0), false⟩, ⟨some 4, none, .call (.func 32) [(.tmp 3), (.const (.int .i64 0)), (.const (.int .i64 1))], false⟩, ⟨some 5, none, .un .not (.tmp 4), false⟩, ⟨some 2, none, .mv (.tmp 5), false⟩]) (.keep [2] (.ret))))
def rv86 : List RV := [.tmp 2]
theorem is86 : FnIs Tryz.prog 86 6 c86 rv86 := ⟨⟨Tryz.f86, _, Tryz.func86, by kernel_rfl, rfl, rfl, by kernel_rfl, by kernel_rfl⟩, by decide⟩
def c87l1 : AC := .seq (.region false [⟨some 9, none, .bin .lss 3 (.tmp 8) (.tmp 7), false⟩]) (.keep [0, 1, 7, 8, 9] (.seq (.cond (.tmp 9) (.skip) (.exit 0)) (.keep [0, 1, 7, 8] (.seq (.block 1 (.seq (.region false [⟨some 10, none, .mv (.tmp 8), false⟩, ⟨some 5, none, .mv (.tmp 10), false⟩]) (.keep [0, 1, 5, 7, 8] (.seq (.region false [⟨some 11, none, .mv (.tmp 1), false⟩, ⟨some 12, none, .mv (.tmp 0), false⟩, ⟨some 13, none, .mv (.tmp 5), false⟩, ⟨some 14, none, .iaddr 1 [.int .i64 0] (.tmp 12) (.tmp 13), false⟩, ⟨some 15, none, .load false 1 (.tmp 14), false⟩, ⟨some 16, none, .bin .eql 3 (.tmp 11) (.tmp 15), false⟩]) (.keep [0, 1, 5, 7, 8, 16] (.cond (.tmp 16) (.seq (.region false [⟨some 17, none, .mv (.tmp 5), false⟩, ⟨some 4, none, .mv (.tmp 17), false⟩]) (.keep [4] (.ret))) (.skip))))))) (.keep [0, 1, 7, 8] (.region false [⟨some 18, none, .bin .add 3 (.tmp 8) (.const (.int .i64 1)), false⟩, ⟨some 8, none, .mv (.tmp 18), false⟩]))))))
def c87 : AC := .seq (.region false [⟨some 4, none, .mv (.const (.int .i64 0)), false⟩]) (.keep [0, 1] (.seq (.seq (.region false [⟨some 6, none, .mv (.tmp 0), false⟩, ⟨some 7, none, .len false (.tmp 6), false⟩, ⟨some 8, none, .mv (.const (.int .i64 0)), false⟩]) (.keep [0, 1, 7, 8] (.block 0 (.loop c87l1)))) (.keep [] (.seq (.region false [⟨some 4, none, .mv (.const (.int .i64 (-1))), false⟩]) (.keep [4] (.ret))))))
def rv87 : List RV := [.tmp 4]
theorem is87 : FnIs Tryz.prog 87 19 c87 rv87 := ⟨⟨Tryz.f87, _, Tryz.func87, by kernel_rfl, rfl, rfl, by kernel_rfl, by kernel_rfl⟩, by decide⟩
def c88l1 : AC := .seq (.seq (.region false [⟨some 9, none, .mv (.tmp 6), false⟩, ⟨some 10, none, .bin .geq 3 (.tmp 9) (.const (.int .i64 0)), false⟩]) (.keep [0, 5, 6, 10] (.cond (.tmp 10) (.skip) (.exit 0)))) (.keep [0, 5, 6] (.seq (.block 1 (.region false [⟨some 13, none, .mv (.tmp 5), false⟩, ⟨some 14, none, .mv (.tmp 0), false⟩, ⟨some 15, none, .mv (.tmp 6), false⟩, ⟨some 16, none, .bin .shr 3 (.tmp 14) (.tmp 15), false⟩, ⟨some 17, none, .bin .and 3 (.tmp 16) (.const (.int .i64 1)), false⟩, ⟨some 18, none, .mkSl false 3 1 [.int .i64 0] 1 [(0, (.tmp 17))], false⟩, ⟨some 19, none, .app 34 3 1 8 [.int .i64 0] (.tmp 13) (.tmp 18), false⟩, ⟨some 5, none, .mv (.tmp 19), false⟩])) (.keep [0, 5, 6] (.region false [⟨some 11, none, .mv (.tmp 6), false⟩, ⟨some 12, none, .bin .sub 3 (.tmp 11) (.const (.int .i64 1)), false⟩, ⟨some 6, none, .mv (.tmp 12), false⟩]))))
def c88 : AC := .seq (.region false [⟨some 4, none, .mv (.const (.slice none 0 0)), false⟩]) (.keep [0, 1] (.seq (.region false [⟨some 5, none, .mv (.const (.slice none 0 0)), false⟩]) (.keep [0, 1, 5] (.nilrow 5 1 3 (.seq (.seq (.region false [⟨some 7, none, .mv (.tmp 1), false⟩, ⟨some 8, none, .bin .sub 3 (.tmp 7) (.const (.int .i64 1)), false⟩, ⟨some 6, none, .mv (.tmp 8), false⟩]) (.keep [0, 5, 6] (.block 0 (.loop c88l1)))) (.keep [5] (.fz [5] (.seq (.region false [⟨some 20, none, .mv (.tmp 5), false⟩, ⟨some 4, none, .mv (.tmp 20), false⟩]) (.keep [4] (.ret))))))))))
def rv88 : List RV := [.tmp 4]
theorem is88 : FnIs Tryz.prog 88 21 c88 rv88 := ⟨⟨Tryz.f88, _, Tryz.func88, by kernel_rfl, rfl, rfl, by kernel_rfl, by kernel_rfl⟩, by decide⟩
def c89 : AC := .seq (.region false [⟨some 1, none, .box (.tmp 0), false⟩, ⟨some 2, none, .mv (.const (.bool false)), false⟩]) (.keep [1] (.seq (.region false [⟨some 3, none, .load true 2 (.tmp 1), false⟩, ⟨some 4, none, .call (.func 49) [(.tmp 3), (.const (.int .i64 1000))], false⟩, ⟨some 5, none, .un .not (.tmp 4), false⟩, ⟨some 2, none, .mv (.tmp 5), false⟩]) (.keep [2] (.ret))))
def rv89 : List RV := [.tmp 2]
theorem is89 : FnIs Tryz.prog 89 6 c89 rv89 := ⟨⟨Tryz.f89, _, Tryz.func89, by kernel_rfl, rfl, rfl, by kernel_rfl, by kernel_rfl⟩, by decide⟩
def c107l1 : AC := .seq (.region false [⟨some 9, none, .bin .lss 3 (.tmp 8) (.tmp 7), false⟩]) (.keep [0, 1, 7, 8, 9] (.seq (.cond (.tmp 9) (.skip) (.exit 0)) (.keep [0, 1, 7, 8] (.seq (.block 1 (.seq (.region false [⟨some 10, none, .mv (.tmp 8), false⟩, ⟨some 5, none, .mv (.tmp 10), false⟩]) (.keep [0, 1, 5, 7, 8] (.seq (.region false [⟨some 11, none, .mv (.tmp 1), false⟩, ⟨some 12, none, .mv (.tmp 0), false⟩, ⟨some 13, none, .mv (.tmp 5), false⟩, ⟨some 14, none, .iaddr 1 [.int .i64 0] (.tmp 12) (.tmp 13), false⟩, ⟨some 15, none, .load false 1 (.tmp 14), false⟩, ⟨some 16, none, .call (.tmp 11) [(.tmp 15)], false⟩]) (.keep [0, 1, 5, 7, 8, 16] (.cond (.tmp 16) (.seq (.region false [⟨some 17, none, .mv (.tmp 5), false⟩, ⟨some 4, none, .mv (.tmp 17), false⟩]) (.keep [4] (.ret))) (.skip))))))) (.keep [0, 1, 7, 8] (.region false [⟨some 18, none, .bin .add 3 (.tmp 8) (.const (.int .i64 1)), false⟩, ⟨some 8, none, .mv (.tmp 18), false⟩]))))))
def c107 : AC := .seq (.region false [⟨some 4, none, .mv (.const (.int .i64 0)), false⟩]) (.keep [0, 1] (.seq (.seq (.region false [⟨some 6, none, .mv (.tmp 0), false⟩, ⟨some 7, none, .len false (.tmp 6), false⟩, ⟨some 8, none, .mv (.const (.int .i64 0)), false⟩]) (.keep [0, 1, 7, 8] (.block 0 (.loop c107l1)))) (.keep [] (.seq (.region false [⟨some 4, none, .mv (.const (.int .i64 (-1))), false⟩]) (.keep [4] (.ret))))))
def rv107 : List RV := [.tmp 4]
theorem is107 : FnIs Tryz.prog 107 19 c107 rv107 := ⟨⟨Tryz.f107, _, Tryz.func107, by kernel_rfl, rfl, rfl, by kernel_rfl, by kernel_rfl⟩, by decide⟩
end Go.Proofs.YtfgpbmjmoobcnaaGreatDoor
end
section
open Go Go.Am
open Go.Am.Dat (cells)
namespace Go.Proofs.YtfgpbmjmoobcnaaGreatDoor.D
set_option maxRecDepth 100000
def c48l1 : AC := .seq (.region false [⟨some 18, none, .bin .lss 3 (.tmp 17) (.tmp 16), false⟩]) (.keep [3, 6, 9, 10, 11, 15, 16, 17, 18] (.seq (.cond (.tmp 18) (.skip) (.exit 2)) (.keep [3, 6, 9, 10, 11, 15, 16, 17] (.seq (.block 3 (.seq (.region false [⟨some 19, none, .iaddr 1 [.complex .f64 0 0] (.tmp 15) (.tmp 17), false⟩, ⟨some 20, none, .load false 1 (.tmp 19), false⟩, ⟨some 8, none, .mv (.tmp 20), false⟩]) (.keep [3, 6, 8, 9, 10, 11, 15, 16, 17] (.region false [⟨some 21, none, .mv (.tmp 6), false⟩, ⟨some 22, none, .mv (.tmp 8), false⟩, ⟨some 23, none, .ext .re [(.tmp 22)], false⟩, ⟨some 24, none, .ext (.f2i .i64) [(.tmp 23)], false⟩, ⟨some 25, none, .mv (.tmp 8), false⟩, ⟨some 26, none, .ext .im [(.tmp 25)], false⟩, ⟨some 27, none, .ext (.f2i .i64) [(.tmp 26)], false⟩, ⟨some 28, none, .build [.int .i64 0, .int .i64 0] [(0, 1, (.tmp 24)), (1, 1, (.tmp 27))], false⟩, ⟨some 29, none, .mkSl false 43 2 [.int .i64 0, .int .i64 0] 1 [(0, (.tmp 28))], false⟩, ⟨some 30, none, .app 22 43 2 16 [.int .i64 0, .int .i64 0] (.tmp 21) (.tmp 29), false⟩, ⟨some 6, none, .mv (.tmp 30), false⟩])))) (.keep [3, 6, 9, 10, 11, 15, 16, 17] (.region false [⟨some 31, none, .bin .add 3 (.tmp 17) (.const (.int .i64 1)), false⟩, ⟨some 17, none, .mv (.tmp 31), false⟩]))))))
def c48l2 : AC := .seq (.region false [⟨some 12, none, .bin .lss 3 (.tmp 11) (.tmp 10), false⟩]) (.keep [3, 9, 10, 11, 12] (.seq (.cond (.tmp 12) (.skip) (.exit 0)) (.keep [3, 9, 10, 11] (.seq (.block 1 (.seq (.region false [⟨some 13, none, .iaddr 1 [.slice none 0 0] (.tmp 9) (.tmp 11), false⟩, ⟨some 14, none, .load false 1 (.tmp 13), false⟩, ⟨some 5, none, .mv (.tmp 14), false⟩]) (.keep [3, 5, 9, 10, 11] (.seq (.region false [⟨some 6, none, .mv (.const (.slice none 0 0)), false⟩]) (.keep [3, 5, 6, 9, 10, 11] (.nilrow 6 2 43 (.seq (.seq (.region false [⟨some 15, none, .mv (.tmp 5), false⟩, ⟨some 16, none, .len false (.tmp 15), false⟩, ⟨some 17, none, .mv (.const (.int .i64 0)), false⟩]) (.keep [3, 6, 9, 10, 11, 15, 16, 17] (.block 2 (.loop c48l1)))) (.keep [3, 6, 9, 10, 11] (.region false [⟨some 32, none, .mv (.tmp 3), false⟩, ⟨some 33, none, .mv (.tmp 6), false⟩, ⟨some 34, none, .mkSl true 22 1 [.slice none 0 0] 1 [(0, (.tmp 33))], false⟩, ⟨some 35, none, .app 46 22 1 24 [.slice none 0 0] (.tmp 32) (.tmp 34), false⟩, ⟨some 3, none, .mv (.tmp 35), false⟩]))))))))) (.keep [3, 9, 10, 11] (.region false [⟨some 36, none, .bin .add 3 (.tmp 11) (.const (.int .i64 1)), false⟩, ⟨some 11, none, .mv (.tmp 36), false⟩]))))))
def c48 : AC := .seq (.region false [⟨some 2, none, .mv (.const (.slice none 0 0)), false⟩]) (.keep [0] (.seq (.region false [⟨some 3, none, .mv (.const (.slice none 0 0)), false⟩]) (.keep [0, 3] (.nilrow 3 1 22 (.deepen 3 2 43 (.seq (.seq (.region false [⟨some 9, none, .mv (.tmp 0), false⟩, ⟨some 10, none, .len false (.tmp 9), false⟩, ⟨some 11, none, .mv (.const (.int .i64 0)), false⟩]) (.keep [3, 9, 10, 11] (.block 0 (.loop c48l2)))) (.keep [3] (.seq (.region false [⟨some 37, none, .mv (.tmp 3), false⟩, ⟨some 2, none, .mv (.tmp 37), false⟩]) (.keep [2] (.ret))))))))))
def rv48 : List RV := [.tmp 2]
theorem is48 : FnIs Tryz.prog 48 38 c48 rv48 := ⟨⟨Tryz.f48, _, Tryz.func48, by kernel_rfl, rfl, rfl, by kernel_rfl, by kernel_rfl⟩, by decide⟩
def c16l1 : AC := .seq (.region false [⟨some 67, none, .bin .lss 3 (.tmp 66) (.tmp 65), false⟩]) (.keep [9, 10, 11, 13, 58, 59, 60, 64, 65, 66, 67] (.seq (.cond (.tmp 67) (.skip) (.exit 2)) (.keep [9, 10, 11, 13, 58, 59, 60, 64, 65, 66] (.seq (.block 3 (.seq (.region false [⟨some 68, none, .mv (.tmp 66), false⟩, ⟨some 69, none, .iaddr 2 [.int .i64 0, .int .i64 0] (.tmp 64) (.tmp 66), false⟩, ⟨some 70, none, .load true 2 (.tmp 69), false⟩, ⟨some 15, none, .alloc [.int .i64 0, .int .i64 0], false⟩, ⟨some 14, none, .mv (.tmp 68), false⟩, ⟨none, none, .store false 2 (.tmp 15) (.tmp 70), false⟩]) (.keep [9, 10, 11, 13, 14, 15, 58, 59, 60, 64, 65, 66] (.seq (.region false [⟨some 71, none, .mv (.tmp 13), false⟩, ⟨some 72, none, .mv (.tmp 14), false⟩, ⟨some 73, none, .load true 2 (.tmp 9), false⟩, ⟨some 74, none, .load true 2 (.tmp 15), false⟩, ⟨some 75, none, .call (.func 44) [(.tmp 73), (.tmp 74)], false⟩, ⟨some 76, none, .iaddr 2 [.int .i64 0, .int .i64 0] (.tmp 71) (.tmp 72), false⟩, ⟨none, none, .store false 2 (.tmp 76) (.tmp 75), false⟩]) (.keep [9, 10, 11, 13, 14, 58, 59, 60, 64, 65, 66] (.seq (.region false [⟨some 77, none, .mv (.tmp 13), false⟩, ⟨some 78, none, .mv (.tmp 14), false⟩, ⟨some 79, none, .iaddr 2 [.int .i64 0, .int .i64 0] (.tmp 77) (.tmp 78), false⟩, ⟨some 80, none, .load true 2 (.tmp 79), false⟩, ⟨some 81, none, .call (.func 49) [(.tmp 80), (.const (.int .i64 100000000))], false⟩, ⟨some 82, none, .un .not (.tmp 81), false⟩]) (.keep [9, 10, 11, 13, 58, 59, 60, 64, 65, 66, 82] (.cond (.tmp 82) (.seq (.region false [⟨some 4, none, .mv (.const (.slice none 0 0)), false⟩, ⟨some 5, none, .mv (.const (.int .i64 0)), false⟩, ⟨some 6, none, .mv (.const (.int .i64 8)), false⟩]) (.keep [4, 5, 6] (.ret))) (.skip))))))))) (.keep [9, 10, 11, 13, 58, 59, 60, 64, 65, 66] (.region false [⟨some 83, none, .bin .add 3 (.tmp 66) (.const (.int .i64 1)), false⟩, ⟨some 66, none, .mv (.tmp 83), false⟩]))))))
def c16l2 : AC := .seq (.region false [⟨some 61, none, .bin .lss 3 (.tmp 60) (.tmp 59), false⟩]) (.keep [9, 10, 11, 58, 59, 60, 61] (.seq (.cond (.tmp 61) (.skip) (.exit 0)) (.keep [9, 10, 11, 58, 59, 60] (.seq (.block 1 (.seq (.region false [⟨some 62, none, .iaddr 1 [.slice none 0 0] (.tmp 58) (.tmp 60), false⟩, ⟨some 63, none, .load false 1 (.tmp 62), false⟩, ⟨some 13, none, .mv (.tmp 63), false⟩]) (.keep [9, 10, 11, 13, 58, 59, 60] (.seq (.region false [⟨some 64, none, .mv (.tmp 13), false⟩, ⟨some 65, none, .len false (.tmp 64), false⟩, ⟨some 66, none, .mv (.const (.int .i64 0)), false⟩]) (.keep [9, 10, 11, 13, 58, 59, 60, 64, 65, 66] (.block 2 (.loop c16l1))))))) (.keep [9, 10, 11, 58, 59, 60] (.region false [⟨some 84, none, .bin .add 3 (.tmp 60) (.const (.int .i64 1)), false⟩, ⟨some 60, none, .mv (.tmp 84), false⟩]))))))
def c16 : AC := .seq (.region false [⟨some 4, none, .mv (.const (.slice none 0 0)), false⟩, ⟨some 5, none, .mv (.const (.int .i64 0)), false⟩, ⟨some 6, none, .mv (.const (.int .i64 0)), false⟩]) (.keep [0, 1] (.seq (.region false [⟨some 17, none, .mv (.tmp 0), false⟩, ⟨some 18, none, .call (.func 42) [(.tmp 17)], false⟩, ⟨some 16, none, .mv (.tmp 18), false⟩, ⟨some 19, none, .extr (.tmp 16) 0, false⟩, ⟨some 20, none, .extr (.tmp 16) 1, false⟩, ⟨some 7, none, .alloc [.int .i64 0, .int .i64 0], false⟩, ⟨none, none, .store false 2 (.tmp 7) (.tmp 19), false⟩, ⟨some 8, none, .mv (.tmp 20), false⟩]) (.keep [0, 1, 7, 8] (.seq (.seq (.region true [⟨some 21, none, .mvs (.tmp 8), false⟩, ⟨some 22, none, .mv (.tmp 1), false⟩, ⟨some 23, none, .call (.func 43) [(.tmp 22)], false⟩, ⟨some 24, none, .mv (.tmp 1), false⟩, ⟨some 25, none, .len false (.tmp 24), false⟩, ⟨some 26, none, .mv (.tmp 0), false⟩, ⟨some 27, none, .len false (.tmp 26), false⟩, ⟨some 28, none, .bin .eql 3 (.tmp 25) (.tmp 27), false⟩, ⟨some 29, none, .call (.func 31) [(.tmp 28), (.const (.int .i64 13))], false⟩, ⟨some 30, none, .load true 2 (.tmp 7), false⟩, ⟨some 31, none, .build [.int .i64 0, .int .i64 0] [], false⟩, ⟨some 32, none, .ext (.eqs true [0, 0]) [(.tmp 30), (.tmp 31)], false⟩, ⟨some 33, none, .call (.func 31) [(.tmp 32), (.const (.int .i64 27))], true⟩, ⟨some 34, none, .mkSl false 26 1 [.int .i64 0] 4 [(0, (.tmp 21)), (1, (.tmp 23)), (2, (.tmp 29)), (3, (.tmp 33))], true⟩, ⟨some 35, none, .call (.func 29) [(.tmp 34)], true⟩, ⟨some 8, none, .mv (.tmp 35), true⟩]) (.keep [0, 1, 7, 8] (.seq (.region false [⟨some 36, none, .mv (.tmp 8), false⟩, ⟨some 37, none, .bin .neq 26 (.tmp 36) (.const (.int .i64 0)), false⟩]) (.keep [0, 1, 7, 8, 37] (.cond (.tmp 37) (.seq (.region false [⟨some 38, none, .mv (.tmp 8), false⟩, ⟨some 4, none, .mv (.const (.slice none 0 0)), false⟩, ⟨some 5, none, .mv (.const (.int .i64 0)), false⟩, ⟨some 6, none, .mv (.tmp 38), false⟩]) (.keep [4, 5, 6] (.ret))) (.skip)))))) (.keep [0, 1, 7] (.seq (.region false [⟨some 39, none, .faddr 0 (.tmp 7), false⟩, ⟨some 40, none, .load false 1 (.tmp 39), false⟩, ⟨some 41, none, .faddr 1 (.tmp 7), false⟩, ⟨some 42, none, .load false 1 (.tmp 41), false⟩, ⟨some 43, none, .un .neg (.tmp 42), false⟩, ⟨some 44, none, .build [.int .i64 0, .int .i64 0] [(0, 1, (.tmp 40)), (1, 1, (.tmp 43))], false⟩, ⟨some 9, none, .alloc [.int .i64 0, .int .i64 0], false⟩, ⟨none, none, .store false 2 (.tmp 9) (.tmp 44), false⟩]) (.keep [0, 1, 7, 9] (.seq (.region false [⟨some 45, none, .load true 2 (.tmp 7), false⟩, ⟨some 46, none, .load true 2 (.tmp 9), false⟩, ⟨some 47, none, .call (.func 44) [(.tmp 45), (.tmp 46)], false⟩, ⟨some 48, none, .field false 1 0 (.tmp 47), false⟩, ⟨some 10, none, .mv (.tmp 48), false⟩]) (.keep [0, 1, 9, 10] (.seq (.seq (.region false [⟨some 49, none, .mv (.tmp 10), false⟩, ⟨some 50, none, .bin .gtr 3 (.tmp 49) (.const (.int .i64 10000000)), false⟩]) (.keep [0, 1, 9, 10, 50] (.cond (.tmp 50) (.seq (.region false [⟨some 4, none, .mv (.const (.slice none 0 0)), false⟩, ⟨some 5, none, .mv (.const (.int .i64 0)), false⟩, ⟨some 6, none, .mv (.const (.int .i64 8)), false⟩]) (.keep [4, 5, 6] (.ret))) (.skip)))) (.keep [0, 1, 9, 10] (.seq (.region false [⟨some 51, none, .mv (.tmp 0), false⟩, ⟨some 52, none, .call (.func 46) [(.tmp 51)], false⟩, ⟨some 53, none, .call (.func 45) [(.tmp 52)], false⟩, ⟨some 54, none, .mv (.tmp 1), false⟩, ⟨some 55, none, .call (.func 45) [(.tmp 54)], false⟩, ⟨some 56, none, .call (.func 47) [(.tmp 53), (.tmp 55)], false⟩, ⟨some 57, none, .call (.func 48) [(.tmp 56)], false⟩, ⟨some 11, none, .mv (.tmp 57), false⟩]) (.keep [9, 10, 11] (.seq (.seq (.region false [⟨some 58, none, .mv (.tmp 11), false⟩, ⟨some 59, none, .len false (.tmp 58), false⟩, ⟨some 60, none, .mv (.const (.int .i64 0)), false⟩]) (.keep [9, 10, 11, 58, 59, 60] (.block 0 (.loop c16l2)))) (.keep [10, 11] (.fz [11] (.seq (.region false [⟨some 85, none, .mv (.tmp 11), false⟩, ⟨some 86, none, .mv (.tmp 10), false⟩, ⟨some 4, none, .mv (.tmp 85), false⟩, ⟨some 5, none, .mv (.tmp 86), false⟩, ⟨some 6, none, .mv (.const (.int .i64 0)), false⟩]) (.keep [4, 5, 6] (.ret)))))))))))))))))))
def rv16 : List RV := [.tmp 4, .tmp 5, .tmp 6]
theorem is16 : FnIs Tryz.prog 16 87 c16 rv16 := ⟨⟨Tryz.f16, _, Tryz.func16, by kernel_rfl, rfl, rfl, by kernel_rfl, by kernel_rfl⟩, by decide⟩
end Go.Proofs.YtfgpbmjmoobcnaaGreatDoor.D
end
section
namespace Go.Proofs
open Go.Shelf
def Tryz.lays156_ren : Go.Shelf.Ren := ⟨fun | 156 => 20 | 165 => 51 | 166 => 52 | 169 => 53 | 240 => 75 | 241 => 76 | 276 => 94 | 277 => 95 | n => n, fun | 31 => 51 | 9 => 9 | 3 => 3 | 4 => 4 | 0 => 0 | 20 => 20 | 72 => 97 | 76 => 101 | 70 => 94 | 37 => 95 | 75 => 100 | 127 => 124 | 164 => 141 | 5 => 5 | 80 => 103 | n => n, fun | n => n⟩
theorem Tryz.lays156 : Go.Proofs.Lays.n156 Tryz.prog Tryz.lays156_ren := {
  mixed := by kernel_rfl
  f156 := Tryz.func20.trans (congrArg some (by kernel_rfl))
  f165 := Tryz.func51.trans (congrArg some (by kernel_rfl))
  f166 := Tryz.func52.trans (congrArg some (by kernel_rfl))
  f169 := Tryz.func53.trans (congrArg some (by kernel_rfl))
  f240 := Tryz.func75.trans (congrArg some (by kernel_rfl))
  f241 := Tryz.func76.trans (congrArg some (by kernel_rfl))
  f276 := Tryz.func94.trans (congrArg some (by kernel_rfl))
  f277 := Tryz.func95.trans (congrArg some (by kernel_rfl))
  t0 := Tryz.underlying0
  a0 := Tryz.isAgg0
  z0 := Tryz.sizeOf0
  v0 := Tryz.zeroValue0
  t3 := Tryz.underlying3
  a3 := Tryz.isAgg3
  z3 := Tryz.sizeOf3
  v3 := Tryz.zeroValue3
  t4 := Tryz.underlying4
  a4 := Tryz.isAgg4
  z4 := Tryz.sizeOf4
  v4 := Tryz.zeroValue4
  t9 := Tryz.underlying9
  a9 := Tryz.isAgg9
  z9 := Tryz.sizeOf9
  v9 := Tryz.zeroValue9
  t20 := Tryz.underlying20
  a20 := Tryz.isAgg20
  z20 := Tryz.sizeOf20
  v20 := Tryz.zeroValue20
  t31 := Tryz.underlying51
  a31 := Tryz.isAgg51
  z31 := Tryz.sizeOf51
  v31 := Tryz.zeroValue51
  t37 := Tryz.underlying95
  a37 := Tryz.isAgg95
  z37 := Tryz.sizeOf95
  v37 := Tryz.zeroValue95
  t70 := Tryz.underlying94
  a70 := Tryz.isAgg94
  z70 := Tryz.sizeOf94
  v70 := Tryz.zeroValue94
  t72 := Tryz.underlying97
  a72 := Tryz.isAgg97
  z72 := Tryz.sizeOf97
  v72 := Tryz.zeroValue97
  t75 := Tryz.underlying100
  a75 := Tryz.isAgg100
  z75 := Tryz.sizeOf100
  v75 := Tryz.zeroValue100
  t76 := Tryz.underlying101
  a76 := Tryz.isAgg101
  z76 := Tryz.sizeOf101
  v76 := Tryz.zeroValue101
  t127 := Tryz.underlying124
  a127 := Tryz.isAgg124
  z127 := Tryz.sizeOf124
  v127 := Tryz.zeroValue124
  t164 := Tryz.underlying141
  a164 := Tryz.isAgg141
  z164 := Tryz.sizeOf141
  v164 := Tryz.zeroValue141 }
theorem Tryz.Builder_Extra_156 : Builder.Extra Tryz.prog Tryz.lays156_ren := {
  sizeBuilder := by kernel_rfl
  liesBuilder := by kernel_rfl
  t5 := Tryz.underlying5
  a5 := Tryz.isAgg5
  z5 := Tryz.sizeOf5
  v5 := Tryz.zeroValue5
  infoByte := by kernel_rfl
  cellsByte := by kernel_rfl
  sizeByte := by kernel_rfl
  neB5 := by decide }
def Tryz.laysM171_ren : Go.Shelf.Ren := ⟨fun | 171 => 19 | 243 => 50 | 246 => 74 | 283 => 90 | 284 => 91 | 285 => 92 | 286 => 93 | 129 => 109 | 317 => 108 | 318 => 110 | 319 => 111 | 320 => 112 | 337 => 118 | 338 => 119 | n => n, fun | 3 => 3 | 9 => 9 | 2 => 2 | 4 => 4 | 171 => 135 | 0 => 0 | 53 => 136 | 37 => 95 | 5 => 5 | 173 => 139 | 212 => 154 | 51 => 155 | 20 => 20 | 213 => 156 | 46 => 133 | 232 => 175 | 233 => 176 | n => n, fun | 17 => 1 | 18 => 6 | 19 => 7 | n => n⟩
theorem Tryz.laysM171 : Go.Proofs.LaysM.n171 Tryz.prog Tryz.laysM171_ren := {
  mixed := by kernel_rfl
  f129 := Tryz.func109.trans (congrArg some (by kernel_rfl))
  f171 := Tryz.func19.trans (congrArg some (by kernel_rfl))
  f243 := Tryz.func50.trans (congrArg some (by kernel_rfl))
  f246 := Tryz.func74.trans (congrArg some (by kernel_rfl))
  f283 := Tryz.func90.trans (congrArg some (by kernel_rfl))
  f284 := Tryz.func91.trans (congrArg some (by kernel_rfl))
  f285 := Tryz.func92.trans (congrArg some (by kernel_rfl))
  f286 := Tryz.func93.trans (congrArg some (by kernel_rfl))
  f317 := Tryz.func108.trans (congrArg some (by kernel_rfl))
  f318 := Tryz.func110.trans (congrArg some (by kernel_rfl))
  f319 := Tryz.func111.trans (congrArg some (by kernel_rfl))
  f320 := Tryz.func112.trans (congrArg some (by kernel_rfl))
  f337 := Tryz.func118.trans (congrArg some (by kernel_rfl))
  f338 := Tryz.func119.trans (congrArg some (by kernel_rfl))
  t0 := Tryz.underlying0
  a0 := Tryz.isAgg0
  z0 := Tryz.sizeOf0
  v0 := Tryz.zeroValue0
  t2 := Tryz.underlying2
  a2 := Tryz.isAgg2
  z2 := Tryz.sizeOf2
  v2 := Tryz.zeroValue2
  t3 := Tryz.underlying3
  a3 := Tryz.isAgg3
  z3 := Tryz.sizeOf3
  v3 := Tryz.zeroValue3
  t4 := Tryz.underlying4
  a4 := Tryz.isAgg4
  z4 := Tryz.sizeOf4
  v4 := Tryz.zeroValue4
  t5 := Tryz.underlying5
  a5 := Tryz.isAgg5
  z5 := Tryz.sizeOf5
  v5 := Tryz.zeroValue5
  t9 := Tryz.underlying9
  a9 := Tryz.isAgg9
  z9 := Tryz.sizeOf9
  v9 := Tryz.zeroValue9
  t20 := Tryz.underlying20
  a20 := Tryz.isAgg20
  z20 := Tryz.sizeOf20
  v20 := Tryz.zeroValue20
  t37 := Tryz.underlying95
  a37 := Tryz.isAgg95
  z37 := Tryz.sizeOf95
  v37 := Tryz.zeroValue95
  t46 := Tryz.underlying133
  a46 := Tryz.isAgg133
  z46 := Tryz.sizeOf133
  v46 := Tryz.zeroValue133
  t51 := Tryz.underlying155
  a51 := Tryz.isAgg155
  z51 := Tryz.sizeOf155
  v51 := Tryz.zeroValue155
  t53 := Tryz.underlying136
  a53 := Tryz.isAgg136
  z53 := Tryz.sizeOf136
  v53 := Tryz.zeroValue136
  t171 := Tryz.underlying135
  a171 := Tryz.isAgg135
  z171 := Tryz.sizeOf135
  v171 := Tryz.zeroValue135
  t173 := Tryz.underlying139
  a173 := Tryz.isAgg139
  z173 := Tryz.sizeOf139
  v173 := Tryz.zeroValue139
  t212 := Tryz.underlying154
  a212 := Tryz.isAgg154
  z212 := Tryz.sizeOf154
  v212 := Tryz.zeroValue154
  t213 := Tryz.underlying156
  a213 := Tryz.isAgg156
  z213 := Tryz.sizeOf156
  t232 := Tryz.underlying175
  a232 := Tryz.isAgg175
  z232 := Tryz.sizeOf175
  v232 := Tryz.zeroValue175
  t233 := Tryz.underlying176
  a233 := Tryz.isAgg176
  z233 := Tryz.sizeOf176
  v233 := Tryz.zeroValue176
  g17 := by kernel_rfl
  g18 := by kernel_rfl
  g19 := by kernel_rfl
  i0 := by kernel_rfl
  i2 := by kernel_rfl
  i3 := by kernel_rfl
  i4 := by kernel_rfl
  i5 := by kernel_rfl
  i9 := by kernel_rfl
  i20 := by kernel_rfl
  i37 := by kernel_rfl
  i46 := by kernel_rfl
  i51 := by kernel_rfl
  i53 := by kernel_rfl
  i171 := by kernel_rfl
  i173 := by kernel_rfl
  i212 := by kernel_rfl
  i232 := by kernel_rfl
  i233 := by kernel_rfl
  m17 := by kernel_rfl
  m18 := by kernel_rfl
  m19 := by kernel_rfl }
def Tryz.laysC172_ren : Go.Shelf.Ren := ⟨fun | 172 => 56 | 244 => 81 | 245 => 82 | 247 => 101 | 279 => 102 | 280 => 103 | 281 => 104 | 282 => 105 | 287 => 115 | 316 => 116 | 171 => 19 | 205 => 117 | 321 => 120 | 322 => 121 | 243 => 50 | 246 => 74 | 283 => 90 | 284 => 91 | 285 => 92 | 286 => 93 | 129 => 109 | 317 => 108 | 318 => 110 | 319 => 111 | 320 => 112 | 337 => 118 | 338 => 119 | n => n, fun | 9 => 9 | 3 => 3 | 75 => 100 | 76 => 101 | 4 => 4 | 5 => 5 | 167 => 145 | 37 => 95 | 0 => 0 | 85 => 146 | 2 => 2 | 168 => 148 | 53 => 136 | 175 => 164 | 46 => 133 | 210 => 168 | 127 => 124 | 145 => 174 | 143 => 172 | 21 => 21 | 171 => 135 | 173 => 139 | 212 => 154 | 51 => 155 | 20 => 20 | 213 => 156 | 232 => 175 | 233 => 176 | 80 => 103 | n => n, fun | 15 => 4 | 16 => 5 | 17 => 1 | 18 => 6 | 19 => 7 | n => n⟩
theorem Tryz.laysC172 : Go.Proofs.LaysC.n172 Tryz.prog Tryz.laysC172_ren := {
  mixed := by kernel_rfl
  f129 := Tryz.func109.trans (congrArg some (by kernel_rfl))
  f171 := Tryz.func19.trans (congrArg some (by kernel_rfl))
  f172 := Tryz.func56.trans (congrArg some (by kernel_rfl))
  f205 := Tryz.func117.trans (congrArg some (by kernel_rfl))
  f243 := Tryz.func50.trans (congrArg some (by kernel_rfl))
  f244 := Tryz.func81.trans (congrArg some (by kernel_rfl))
  f245 := Tryz.func82.trans (congrArg some (by kernel_rfl))
  f246 := Tryz.func74.trans (congrArg some (by kernel_rfl))
  f247 := Tryz.func101.trans (congrArg some (by kernel_rfl))
  f279 := Tryz.func102.trans (congrArg some (by kernel_rfl))
  f280 := Tryz.func103.trans (congrArg some (by kernel_rfl))
  f281 := Tryz.func104.trans (congrArg some (by kernel_rfl))
  f282 := Tryz.func105.trans (congrArg some (by kernel_rfl))
  f283 := Tryz.func90.trans (congrArg some (by kernel_rfl))
  f284 := Tryz.func91.trans (congrArg some (by kernel_rfl))
  f285 := Tryz.func92.trans (congrArg some (by kernel_rfl))
  f286 := Tryz.func93.trans (congrArg some (by kernel_rfl))
  f287 := Tryz.func115.trans (congrArg some (by kernel_rfl))
  f316 := Tryz.func116.trans (congrArg some (by kernel_rfl))
  f317 := Tryz.func108.trans (congrArg some (by kernel_rfl))
  f318 := Tryz.func110.trans (congrArg some (by kernel_rfl))
  f319 := Tryz.func111.trans (congrArg some (by kernel_rfl))
  f320 := Tryz.func112.trans (congrArg some (by kernel_rfl))
  f321 := Tryz.func120.trans (congrArg some (by kernel_rfl))
  f322 := Tryz.func121.trans (congrArg some (by kernel_rfl))
  f337 := Tryz.func118.trans (congrArg some (by kernel_rfl))
  f338 := Tryz.func119.trans (congrArg some (by kernel_rfl))
  t0 := Tryz.underlying0
  a0 := Tryz.isAgg0
  z0 := Tryz.sizeOf0
  v0 := Tryz.zeroValue0
  t2 := Tryz.underlying2
  a2 := Tryz.isAgg2
  z2 := Tryz.sizeOf2
  v2 := Tryz.zeroValue2
  t3 := Tryz.underlying3
  a3 := Tryz.isAgg3
  z3 := Tryz.sizeOf3
  v3 := Tryz.zeroValue3
  t4 := Tryz.underlying4
  a4 := Tryz.isAgg4
  z4 := Tryz.sizeOf4
  v4 := Tryz.zeroValue4
  t5 := Tryz.underlying5
  a5 := Tryz.isAgg5
  z5 := Tryz.sizeOf5
  v5 := Tryz.zeroValue5
  t9 := Tryz.underlying9
  a9 := Tryz.isAgg9
  z9 := Tryz.sizeOf9
  v9 := Tryz.zeroValue9
  t20 := Tryz.underlying20
  a20 := Tryz.isAgg20
  z20 := Tryz.sizeOf20
  v20 := Tryz.zeroValue20
  t21 := Tryz.underlying21
  a21 := Tryz.isAgg21
  z21 := Tryz.sizeOf21
  v21 := Tryz.zeroValue21
  t37 := Tryz.underlying95
  a37 := Tryz.isAgg95
  z37 := Tryz.sizeOf95
  v37 := Tryz.zeroValue95
  t46 := Tryz.underlying133
  a46 := Tryz.isAgg133
  z46 := Tryz.sizeOf133
  v46 := Tryz.zeroValue133
  t51 := Tryz.underlying155
  a51 := Tryz.isAgg155
  z51 := Tryz.sizeOf155
  v51 := Tryz.zeroValue155
  t53 := Tryz.underlying136
  a53 := Tryz.isAgg136
  z53 := Tryz.sizeOf136
  v53 := Tryz.zeroValue136
  t75 := Tryz.underlying100
  a75 := Tryz.isAgg100
  z75 := Tryz.sizeOf100
  v75 := Tryz.zeroValue100
  t76 := Tryz.underlying101
  a76 := Tryz.isAgg101
  z76 := Tryz.sizeOf101
  v76 := Tryz.zeroValue101
  t85 := Tryz.underlying146
  a85 := Tryz.isAgg146
  z85 := Tryz.sizeOf146
  v85 := Tryz.zeroValue146
  t127 := Tryz.underlying124
  a127 := Tryz.isAgg124
  z127 := Tryz.sizeOf124
  v127 := Tryz.zeroValue124
  t143 := Tryz.underlying172
  a143 := Tryz.isAgg172
  z143 := Tryz.sizeOf172
  v143 := Tryz.zeroValue172
  t145 := Tryz.underlying174
  a145 := Tryz.isAgg174
  z145 := Tryz.sizeOf174
  v145 := Tryz.zeroValue174
  t167 := Tryz.underlying145
  a167 := Tryz.isAgg145
  z167 := Tryz.sizeOf145
  v167 := Tryz.zeroValue145
  t168 := Tryz.underlying148
  a168 := Tryz.isAgg148
  z168 := Tryz.sizeOf148
  v168 := Tryz.zeroValue148
  t171 := Tryz.underlying135
  a171 := Tryz.isAgg135
  z171 := Tryz.sizeOf135
  v171 := Tryz.zeroValue135
  t173 := Tryz.underlying139
  a173 := Tryz.isAgg139
  z173 := Tryz.sizeOf139
  v173 := Tryz.zeroValue139
  t175 := Tryz.underlying164
  a175 := Tryz.isAgg164
  z175 := Tryz.sizeOf164
  v175 := Tryz.zeroValue164
  t210 := Tryz.underlying168
  a210 := Tryz.isAgg168
  z210 := Tryz.sizeOf168
  v210 := Tryz.zeroValue168
  t212 := Tryz.underlying154
  a212 := Tryz.isAgg154
  z212 := Tryz.sizeOf154
  v212 := Tryz.zeroValue154
  t213 := Tryz.underlying156
  a213 := Tryz.isAgg156
  z213 := Tryz.sizeOf156
  t232 := Tryz.underlying175
  a232 := Tryz.isAgg175
  z232 := Tryz.sizeOf175
  v232 := Tryz.zeroValue175
  t233 := Tryz.underlying176
  a233 := Tryz.isAgg176
  z233 := Tryz.sizeOf176
  v233 := Tryz.zeroValue176
  g15 := by kernel_rfl
  g16 := by kernel_rfl
  g17 := by kernel_rfl
  g18 := by kernel_rfl
  g19 := by kernel_rfl
  t80 := Tryz.underlying103
  a80 := Tryz.isAgg103
  z80 := Tryz.sizeOf103
  v80 := Tryz.zeroValue103
  i0 := by kernel_rfl
  i2 := by kernel_rfl
  i3 := by kernel_rfl
  i4 := by kernel_rfl
  i5 := by kernel_rfl
  i9 := by kernel_rfl
  i20 := by kernel_rfl
  i21 := by kernel_rfl
  i37 := by kernel_rfl
  i46 := by kernel_rfl
  i51 := by kernel_rfl
  i53 := by kernel_rfl
  i75 := by kernel_rfl
  i76 := by kernel_rfl
  i80 := by kernel_rfl
  i85 := by kernel_rfl
  i127 := by kernel_rfl
  i143 := by kernel_rfl
  i145 := by kernel_rfl
  i167 := by kernel_rfl
  i168 := by kernel_rfl
  i171 := by kernel_rfl
  i173 := by kernel_rfl
  i175 := by kernel_rfl
  i210 := by kernel_rfl
  i212 := by kernel_rfl
  i232 := by kernel_rfl
  i233 := by kernel_rfl
  m15 := by kernel_rfl
  m16 := by kernel_rfl
  m17 := by kernel_rfl
  m18 := by kernel_rfl
  m19 := by kernel_rfl
  c0 := by kernel_rfl
  c2 := by kernel_rfl
  c3 := by kernel_rfl
  c4 := by kernel_rfl
  c5 := by kernel_rfl
  c9 := by kernel_rfl
  c20 := by kernel_rfl
  c21 := by kernel_rfl
  c37 := by kernel_rfl
  c46 := by kernel_rfl
  c51 := by kernel_rfl
  c53 := by kernel_rfl
  c75 := by kernel_rfl
  c76 := by kernel_rfl
  c80 := by kernel_rfl
  c85 := by kernel_rfl
  c127 := by kernel_rfl
  c143 := by kernel_rfl
  c145 := by kernel_rfl
  c167 := by kernel_rfl
  c168 := by kernel_rfl
  c171 := by kernel_rfl
  c173 := by kernel_rfl
  c175 := by kernel_rfl
  c210 := by kernel_rfl
  c212 := by kernel_rfl
  c213 := by kernel_rfl
  c232 := by kernel_rfl
  c233 := by kernel_rfl }
def Tryz.lays219_ren : Go.Shelf.Ren := ⟨fun | 219 => 80 | 217 => 97 | 225 => 98 | 224 => 99 | 267 => 100 | 266 => 113 | 314 => 114 | n => n, fun | 9 => 9 | 3 => 3 | 4 => 4 | 5 => 5 | 46 => 133 | 146 => 162 | 51 => 155 | n => n, fun | 1 => 0 | n => n⟩
theorem Tryz.lays219 : Go.Proofs.Lays.n219 Tryz.prog Tryz.lays219_ren := {
  mixed := by kernel_rfl
  f217 := Tryz.func97.trans (congrArg some (by kernel_rfl))
  f219 := Tryz.func80.trans (congrArg some (by kernel_rfl))
  f224 := Tryz.func99.trans (congrArg some (by kernel_rfl))
  f225 := Tryz.func98.trans (congrArg some (by kernel_rfl))
  f266 := Tryz.func113.trans (congrArg some (by kernel_rfl))
  f267 := Tryz.func100.trans (congrArg some (by kernel_rfl))
  f314 := Tryz.func114.trans (congrArg some (by kernel_rfl))
  t3 := Tryz.underlying3
  a3 := Tryz.isAgg3
  z3 := Tryz.sizeOf3
  v3 := Tryz.zeroValue3
  t4 := Tryz.underlying4
  a4 := Tryz.isAgg4
  z4 := Tryz.sizeOf4
  v4 := Tryz.zeroValue4
  t5 := Tryz.underlying5
  a5 := Tryz.isAgg5
  z5 := Tryz.sizeOf5
  v5 := Tryz.zeroValue5
  t9 := Tryz.underlying9
  a9 := Tryz.isAgg9
  z9 := Tryz.sizeOf9
  v9 := Tryz.zeroValue9
  t46 := Tryz.underlying133
  a46 := Tryz.isAgg133
  z46 := Tryz.sizeOf133
  v46 := Tryz.zeroValue133
  t51 := Tryz.underlying155
  a51 := Tryz.isAgg155
  z51 := Tryz.sizeOf155
  v51 := Tryz.zeroValue155
  t146 := Tryz.underlying162
  a146 := Tryz.isAgg162
  z146 := Tryz.sizeOf162
  v146 := Tryz.zeroValue162
  g1 := by kernel_rfl }
def Tryz.lays143_ren : Go.Shelf.Ren := ⟨fun | 143 => 79 | 219 => 80 | 217 => 97 | 225 => 98 | 224 => 99 | 267 => 100 | 266 => 113 | 314 => 114 | n => n, fun | 9 => 9 | 3 => 3 | 4 => 4 | 5 => 5 | 46 => 133 | 146 => 162 | 51 => 155 | n => n, fun | 1 => 0 | n => n⟩
theorem Tryz.lays143 : Go.Proofs.Lays.n143 Tryz.prog Tryz.lays143_ren := {
  mixed := by kernel_rfl
  f143 := Tryz.func79.trans (congrArg some (by kernel_rfl))
  f217 := Tryz.func97.trans (congrArg some (by kernel_rfl))
  f219 := Tryz.func80.trans (congrArg some (by kernel_rfl))
  f224 := Tryz.func99.trans (congrArg some (by kernel_rfl))
  f225 := Tryz.func98.trans (congrArg some (by kernel_rfl))
  f266 := Tryz.func113.trans (congrArg some (by kernel_rfl))
  f267 := Tryz.func100.trans (congrArg some (by kernel_rfl))
  f314 := Tryz.func114.trans (congrArg some (by kernel_rfl))
  t3 := Tryz.underlying3
  a3 := Tryz.isAgg3
  z3 := Tryz.sizeOf3
  v3 := Tryz.zeroValue3
  t4 := Tryz.underlying4
  a4 := Tryz.isAgg4
  z4 := Tryz.sizeOf4
  v4 := Tryz.zeroValue4
  t5 := Tryz.underlying5
  a5 := Tryz.isAgg5
  z5 := Tryz.sizeOf5
  v5 := Tryz.zeroValue5
  t9 := Tryz.underlying9
  a9 := Tryz.isAgg9
  z9 := Tryz.sizeOf9
  v9 := Tryz.zeroValue9
  t46 := Tryz.underlying133
  a46 := Tryz.isAgg133
  z46 := Tryz.sizeOf133
  v46 := Tryz.zeroValue133
  t51 := Tryz.underlying155
  a51 := Tryz.isAgg155
  z51 := Tryz.sizeOf155
  v51 := Tryz.zeroValue155
  t146 := Tryz.underlying162
  a146 := Tryz.isAgg162
  z146 := Tryz.sizeOf162
  v146 := Tryz.zeroValue162
  g1 := by kernel_rfl }
def Tryz.lays101_ren : Go.Shelf.Ren := ⟨fun | 101 => 57 | 208 => 83 | 206 => 106 | n => n, fun | 9 => 9 | 4 => 4 | 3 => 3 | n => n, fun | n => n⟩
theorem Tryz.lays101 : Go.Proofs.Lays.n101 Tryz.prog Tryz.lays101_ren := {
  mixed := by kernel_rfl
  f101 := Tryz.func57.trans (congrArg some (by kernel_rfl))
  f206 := Tryz.func106.trans (congrArg some (by kernel_rfl))
  f208 := Tryz.func83.trans (congrArg some (by kernel_rfl))
  t3 := Tryz.underlying3
  a3 := Tryz.isAgg3
  z3 := Tryz.sizeOf3
  v3 := Tryz.zeroValue3
  t4 := Tryz.underlying4
  a4 := Tryz.isAgg4
  z4 := Tryz.sizeOf4
  v4 := Tryz.zeroValue4
  t9 := Tryz.underlying9
  a9 := Tryz.isAgg9
  z9 := Tryz.sizeOf9
  v9 := Tryz.zeroValue9 }
end Go.Proofs
end
section
open Go Go.Am
open Go.Am.Dat (cells)
namespace Go.Proofs.YtfgpbmjmoobcnaaGreatDoor
set_option maxHeartbeats 4000000
set_option maxRecDepth 100000
theorem below_grow (w : World) (k : Nat) (os : Array Obj) : RowKit.Below w.heap.size w (Go.Sort.grow (w.drewN k) os) :=
  ⟨rfl, rfl, rfl, by simp [Go.Sort.grow], fun b hb => by simp [Go.Sort.grow, Array.getElem?_append, hb]⟩
theorem tab_ok {U : Nat → Prop} {w : World} (hg : GlobOk Tryz.prog U w.heap) (nm : String) (hn : Tryz.prog.globalNamed nm = some 1) : Lib.TabIs Tryz.prog w nm .u64 Lib.pow10Tab := by
  obtain ⟨⟨ty, fz, _, h⟩, _⟩ := hg.2
  simp only [Lib.TabIs, World.var?, hn, Option.bind_some, h]
theorem syn_ok {U : Nat → Prop} {w : World} (hg : GlobOk Tryz.prog U w.heap) : ∃ tp p, w.var? Tryz.prog "strconv.ErrSyntax" = some #[.iface tp p] := by
  obtain ⟨_, ⟨tp, p, ty, fz, _, h⟩, _⟩ := hg.2
  have hn : Tryz.prog.globalNamed "strconv.ErrSyntax" = some 4 := by kernel_rfl
  exact ⟨tp, p, by simp only [World.var?, hn, Option.bind_some, h]⟩
theorem rng_ok {U : Nat → Prop} {w : World} (hg : GlobOk Tryz.prog U w.heap) : ∃ tp p, w.var? Tryz.prog "strconv.ErrRange" = some #[.iface tp p] := by
  obtain ⟨_, _, ⟨tp, p, ty, fz, _, h⟩⟩ := hg.2
  have hn : Tryz.prog.globalNamed "strconv.ErrRange" = some 5 := by kernel_rfl
  exact ⟨tp, p, by simp only [World.var?, hn, Option.bind_some, h]⟩
def itoaB (n : Int) : ByteArray := ⟨(Lib.itoa n).toArray⟩
theorem Itoa_c (n : Int) (h : InR .i64 n) : FC Tryz.prog 19 [enc n] [] (enc (itoaB n)) [] := by
  have h : -9223372036854775808 ≤ n ∧ n ≤ 9223372036854775807 := by simpa [InR] using h
  refine FC.scal (vs := [.int .i64 n]) ⟨_, Tryz.func19, by kernel_rfl, by kernel_rfl⟩ (fun U w hg hU => ?_)
  refine (Any.strconv_Itoa Tryz.laysM171 n h.1 h.2 w (tab_ok hg _ (by kernel_rfl))).mono ?_
  rintro e w' ⟨rfl, k, os, rfl⟩
  exact ⟨_, rfl, fun E U h => .d (.s _), below_grow w k os⟩
def ent19 : Ent Tryz.prog := .of1 19 (fun n => InR .i64 n) (fun n : Int => enc (itoaB n)) (fun _ => trivial) (fun n h => Itoa_c n h)
def joinB (xs : List ByteArray) (sep : ByteArray) : ByteArray := ⟨(Lib.join (xs.map (·.data.toList)) sep.data.toList).toArray⟩
theorem Join_c (xs : List ByteArray) (sep : ByteArray) (h : xs.length ≤ 1000000 ∧ (Lib.join (xs.map (·.data.toList)) sep.data.toList).length ≤ 140737488355328) : FC Tryz.prog 20 [enc xs, enc sep] [] (enc (joinB xs sep)) [] := by
  refine ⟨⟨_, Tryz.func20, by kernel_rfl, by kernel_rfl⟩, fun E U aS w hg ha hi => ?_⟩
  obtain ⟨hs, hr⟩ := ha
  have h0 := hr 0 _ rfl
  have h1 := rep_s (hr 1 _ rfl)
  have fin : ∀ (R : ByteArray), joinB xs sep = R → ∀ e w', (e = Ending.returned (.string R) ∧ RowKit.Below w.heap.size w w') → ∃ v E' U', e = .returned v ∧ Rep E' U' w'.heap (enc (joinB xs sep)) v ∧ CEv E U w [] E' U' w' [] := by
    rintro R hR e w' ⟨rfl, hb⟩
    exact ⟨_, E, U, rfl, by rw [hR]; exact .d (.s _), CEv.below hi hb⟩
  have hv : ∀ a b, aS.getD 0 undef = a → aS.getD 1 undef = b → aS = #[a, b] := fun a b ha hb => by
    refine Array.ext (by simpa using hs) (fun i h1 h2 => ?_)
    simp at h2
    match i, h2 with
    | 0, _ => rw [← ha, Array.getD_eq_getD_getElem?, Array.getElem?_eq_getElem h1]; rfl
    | 1, _ => rw [← hb, Array.getD_eq_getD_getElem?, Array.getElem?_eq_getElem h1]; rfl
  rcases strs_rep h0 hi.lt with ⟨rfl, a, c, e⟩ | ⟨b, off, cap, e, hcap, hb, hcell⟩
  · rw [hv _ _ e h1]
    refine (Any.strings_Join_none Tryz.lays156 Tryz.Builder_Extra_156 a c sep w).mono (fun e w' h => fin _ rfl e w' ⟨h.1, h.2 ▸ RowKit.Below.refl _ _⟩)
  · rw [hv _ _ e h1]
    exact (Any.strings_Join Tryz.lays156 Tryz.Builder_Extra_156 b off cap xs sep w hcell hb (by omega) hcap h.2).mono (fin _ rfl)
def ent20 : Ent Tryz.prog := .of2 20 (fun xs sep => xs.length ≤ 1000000 ∧ (Lib.join (xs.map (·.data.toList)) sep.data.toList).length ≤ 140737488355328) (fun (xs : List ByteArray) (sep : ByteArray) => enc (joinB xs sep)) (fun _ _ => trivial) (fun xs sep h => Join_c xs sep h)
def trimB (s p : ByteArray) : ByteArray := ⟨(Lib.trimPrefix s.data.toList p.data.toList).toArray⟩
theorem Index_c (s : ByteArray) (c : UInt8) : FC Tryz.prog 79 [enc s, enc (⟨#[c]⟩ : ByteArray)] [] (enc (Lib.indexByte s.data.toList c)) [] := by
  refine FC.scal (vs := [.string s, .string ⟨#[c]⟩]) ⟨_, Tryz.func79, by kernel_rfl, by kernel_rfl⟩ (fun U w hg hU => ?_)
  refine (Any.strings_Index_one Tryz.lays143 s c w).mono ?_
  rintro e w' ⟨rfl, rfl⟩
  exact ⟨_, rfl, fun E U h => .d (.s _), .refl _ _⟩
theorem IndexL_c (s : ByteArray) (c : UInt8) : FC Tryz.prog 80 [enc s, enc (⟨#[c]⟩ : ByteArray)] [] (enc (Lib.indexByte s.data.toList c)) [] := by
  refine FC.scal (vs := [.string s, .string ⟨#[c]⟩]) ⟨_, Tryz.func80, by kernel_rfl, by kernel_rfl⟩ (fun U w hg hU => ?_)
  refine (Any.stringslite_Index_one Tryz.lays219 s c w).mono ?_
  rintro e w' ⟨rfl, rfl⟩
  exact ⟨_, rfl, fun E U h => .d (.s _), .refl _ _⟩
end Go.Proofs.YtfgpbmjmoobcnaaGreatDoor
end
section
open Go Go.Am Go.Shelf Go.RowKit
open Go.Am.Dat (cells)
namespace Go.Proofs.YtfgpbmjmoobcnaaGreatDoor
set_option maxHeartbeats 4000000
set_option maxRecDepth 100000
def minusB : ByteArray := ⟨#[45]⟩
theorem below_growB {B : Nat} (w : World) (hB : B ≤ w.heap.size) (k : Nat) (os : Array Obj) : Below B w (Go.Sort.grow (w.drewN k) os) :=
  ⟨rfl, rfl, rfl, by simp [Go.Sort.grow], fun b hb => by simp [Go.Sort.grow, Array.getElem?_append, Nat.lt_of_lt_of_le hb hB]⟩
end Go.Proofs.YtfgpbmjmoobcnaaGreatDoor
end
