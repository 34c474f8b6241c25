/- Part 3 of the proof of: SymbolPeriods returns true for every input and never panics: behind its period a register is the same, and behind no fewer steps; a jump over a sum is one jump behind the other; one step is what Next does; conditions: none beyond the given statement. -/
import GoSem.Core.Float
import Derived.WideShapes
import Derived.ChangeArms
import Derived.OpenShut
import Derived.Test.YtfgpbmjmoobcnaaProg
import Derived.KernelRfl
import Derived.Test.YtfgpbmjmoobcnaaAm2
set_option linter.all false
section
namespace Go.Am
variable {P : Program} [Glob P] {cx : Cx} {Q : ASt → Prop} {k : List It} {st : ASt}
theorem S_loop' {x : AC} {α : Type} (sh : α → ASt) (inv : α → Prop) (μ : α → Nat) (v0 : α) (h0 : inv v0) (hs : cS st (sh v0))
    (hr : ∀ v, inv v → SG P cx Q (.c x :: .post (br sh inv μ v) :: k) (sh v)) : SG P cx Q (.c (.loop x) :: k) st := by
  refine S_leS hs ?_
  refine S_code fun code hc E U a w hh => ?_
  cases code <;> simp [compC] at hc
  rename_i c
  intro b kk cs hro hF hroom
  have key : ∀ n v, μ v ≤ n → inv v → ∀ E U a w, Holds P cx E U a w (sh v) →
      ∃ e a' w', WE P cx Q k e a' w' ∧ ArrivesIn (Machine.fenced P (FW cx.ro)) P (lone (b.atR a (.code c :: .inLoop c :: kk)) cs w) b kk cs e a' w' := by
    intro n
    induction n using Nat.strongRecOn with
    | _ n ih =>
      intro v hn hv E U a w hh
      have hbody := hr v hv E U a w hh c hc
      obtain ⟨e, a₁, w₁, hq, harr⟩ := hbody b (.inLoop c :: kk) cs hro hF hroom
      cases e with
      | normal =>
        obtain ⟨E', U', s, g1, v', g2, g3, g4⟩ := hq
        have g5 := g1.leC (fun i => leT'_spec i g4.1) ⟨by rw [← keysOf_eq]; exact keysNd_nodup g4.2.1, subChs_spec g4.2.2⟩
        obtain ⟨e₂, a₂, w₂, hq₂, harr₂⟩ := ih (μ v') (by omega) v' (Nat.le_refl _) g2 E' U' a₁ w₁ g5
        exact ⟨e₂, a₂, w₂, hq₂, .of_steps (StepsIn.trans harr (.one (fenced_calm hF hroom rfl) stepR_inLoop)) harr₂⟩
      | exit id => exact ⟨_, a₁, w₁, hq, .pass (x := .inLoop c) rfl (fun _ _ => .inl (by simp)) harr⟩
      | goto l => exact ⟨_, a₁, w₁, hq, .pass (x := .inLoop c) rfl (fun _ _ => .inl (by simp)) harr⟩
      | ret => exact ⟨_, a₁, w₁, hq, .pass (x := .inLoop c) rfl (fun _ _ => .inl (by simp)) harr⟩
      | panic ch => exact ⟨_, a₁, w₁, hq, .pass (x := .inLoop c) rfl (fun _ _ => .inl (by simp)) harr⟩
      | outgrown => exact ⟨_, a₁, w₁, hq, .pass (x := .inLoop c) rfl (fun _ _ => .inl (by simp)) harr⟩
  obtain ⟨e, a', w', hq, harr⟩ := key _ v0 (Nat.le_refl _) h0 E U a w hh
  exact ⟨e, a', w', hq, .of_steps (.one (fenced_calm hF hroom rfl) stepR_loop) harr⟩
def co (t : Slots) : Slots → Slots
  | [] => t
  | (i, c) :: r => co (cJ t i c) r
def bL (ch : Chs) : Chs → Chs
  | [] => ch
  | (i, c) :: r => bL (cJ ch i c) r
def b0 (st : ASt) (ts : Slots) (cs : Chs) : ASt := ⟨co st.t ts, bL st.ch cs⟩
theorem S_loopU {x : AC} {α : Type} (ts : α → Slots) (cs : α → Chs) (inv : α → Prop) (μ : α → Nat) (v0 : α) (h0 : inv v0) (hs : cS st (b0 st (ts v0) (cs v0)))
    (hr : ∀ v, inv v → SG P cx Q (.c x :: .post (br (fun v => b0 st (ts v) (cs v)) inv μ v) :: k) (b0 st (ts v) (cs v))) : SG P cx Q (.c (.loop x) :: k) st :=
  S_loop' (fun v => b0 st (ts v) (cs v)) inv μ v0 h0 hs hr
theorem S_for {x : AC} (n : Nat) (sh : Nat → ASt) (inv : Nat → Prop) (h0 : inv 0) (hs : cS st (sh 0))
    (hr : ∀ i, i ≤ n → inv i → SG P cx Q (.c x :: .post (cG n sh inv i) :: k) (sh i)) : SG P cx Q (.c (.loop x) :: k) st := by
  refine S_loop' sh (fun i => i ≤ n ∧ inv i) (fun i => n - i) 0 ⟨Nat.zero_le _, h0⟩ hs (fun i hi => ?_)
  have h := hr i hi.1 hi.2
  refine fun E U a w hh code hc => wpIn_mono (h E U a w hh code hc) (fun e a w he => ?_)
  cases e <;> first | exact he | skip
  obtain ⟨E', U', s, g1, g2, g3, g4⟩ := he
  exact ⟨E', U', s, g1, i + 1, ⟨g2, g3⟩, (by show n - (i + 1) < n - i; omega), g4⟩
theorem S_forU {x : AC} (n : Nat) (ts : Nat → Slots) (cs : Nat → Chs) (inv : Nat → Prop) (h0 : inv 0) (hs : cS st (b0 st (ts 0) (cs 0)))
    (hr : ∀ i, i ≤ n → inv i → SG P cx Q (.c x :: .post (cG n (fun i => b0 st (ts i) (cs i)) inv i) :: k) (b0 st (ts i) (cs i))) : SG P cx Q (.c (.loop x) :: k) st :=
  S_for n (fun i => b0 st (ts i) (cs i)) inv h0 hs hr
theorem fc_intro' {f : FuncId} {n : Nat} {ac : AC} {rvs : List RV} {args : List C} {r : C} (hf : FnIs P f n ac rvs) (hargs : args.length ≤ n)
    (h : ∀ cx : Cx, aR args → SG P cx (bG rvs [] r []) [.c ac] ⟨argS 0 args, []⟩) : FC P f args [] r [] := by
  have hf' := hf
  obtain ⟨⟨fn, code, h1, h2, h3, _⟩, _⟩ := hf'
  exact FC.lens ⟨fn, h1, h2, by rw [h3]; rfl⟩ fun hl _ => fc_intro [] hf hargs (fun p hp => by simp at hp) (by simp) (fun k cs hm => by simp at hm) (fun cx _ _ _ => h cx hl)
def aj (chs : Chs) : Chs → Prop
  | [] => True
  | (k, .box _) :: r => (match lk chs k with | some (.box _) => True | some _ => False | none => True) ∧ aj chs r
  | _ :: r => aj chs r
theorem kindsOk_spec {chs : Chs} (hn : (chs.map (·.1)).Nodup) : ∀ {l : Chs}, aj chs l → ∀ k cs, (k, .box cs) ∈ l → (∃ c, (k, c) ∈ chs) → ∃ cs0, (k, .box cs0) ∈ chs
  | [], _, k, cs, hm, _ => by simp at hm
  | (j, c0) :: r, h, k, cs, hm, hex => by
    have hr : aj chs r := by cases c0 <;> first | exact h | exact h.2
    rcases List.mem_cons.1 hm with e | e
    · cases e
      obtain ⟨c, hc⟩ := hex
      have hl := lk_of_mem hn hc
      have h1 := h.1
      rw [hl] at h1
      cases c with
      | box cs0 => exact ⟨cs0, hc⟩
      | _ => exact h1.elim
    · exact kindsOk_spec hn hr k cs e hex
def bX : Chs → Prop
  | [] => True
  | (k, _) :: r => (100000 ≤ k ∧ k < 200000) ∧ bX r
theorem bigK_spec : ∀ {l : Chs}, bX l → ∀ p ∈ l, 100000 ≤ p.1 ∧ p.1 < 200000
  | [], _, p, h => by simp at h
  | (k, c) :: r, h, p, hp => by
    rcases List.mem_cons.1 hp with e | e
    · rw [e]; exact h.1
    · exact bigK_spec h.2 p e
theorem fc_introC {f : FuncId} {n : Nat} {ac : AC} {rvs : List RV} {args : List C} {chs : Chs} {r : C} {chs' : Chs} (kp : List Nat) (hf : FnIs P f n ac rvs) (hargs : args.length ≤ n) (hks : bX chs) (hn0 : ay (aL chs)) (hn1 : ay (aL chs')) (hkd : aj chs chs')
    (h : ∀ cx : Cx, cx.n = n ∧ cx.ro = none ∧ cx.hi = 200000 → aR args → av chs → SG P cx (bG rvs kp r chs') [.c ac] ⟨argS 0 args, chs⟩) : FC P f args chs r chs' := by
  have hf' := hf
  obtain ⟨⟨fn, code, h1, h2, h3, _⟩, _⟩ := hf'
  exact FC.lens ⟨fn, h1, h2, by rw [h3]; rfl⟩ fun hl hc => fc_intro kp hf hargs (bigK_spec hks) (by rw [← keysOf_eq]; exact keysNd_nodup hn1) (kindsOk_spec (by rw [← keysOf_eq]; exact keysNd_nodup hn0) hkd) (fun cx h1 h2 h3 => h cx ⟨h1, h2, h3⟩ hl hc)
end Go.Am
end
section
namespace Go.Am
variable {P : Program} [Glob P]
class Dat (α : Type) where
  sz : Nat
  agg : Bool
  cells : α → List C
  dec : List C → Option α
  ok : ∀ {l a}, dec l = some a → l = cells a
  data : ∀ a, (cells a).all (fun c => match c with | .s _ => true | .sl _ _ => true | _ => false) = true
  one : agg = false → ∀ a, (cells a).length = 1
  nilv : Option α := none
  nil_ok : ∀ a, nilv = some a → agg = false ∧ ∃ n, cells a = [.sl n []] := by intro a h; cases h
open Dat (cells)
def enc {α : Type} [Dat α] (a : α) : C := if Dat.agg α = true then .agg (cells a) else (cells a).headD .any
def decL {α : Type} [Dat α] : List (List C) → Option (List α)
  | [] => some []
  | l :: ls => (Dat.dec l).bind fun a => (decL ls).map (a :: ·)
theorem decL_ok {α : Type} [Dat α] : ∀ {ls : List (List C)} {aS : List α}, decL ls = some aS → ls = aS.map cells
  | [], aS, h => by simp [decL] at h; subst h; rfl
  | l :: ls, aS, h => by
    simp only [decL, Option.bind_eq_some_iff, Option.map_eq_some_iff] at h
    obtain ⟨a, h1, bs, h2, rfl⟩ := h
    rw [List.map_cons, ← Dat.ok h1, ← decL_ok h2]
class DatL (α : Type) extends Dat α where
  dec_cells : ∀ a : α, Dat.dec (cells a) = some a
theorem decL_map {α : Type} [DatL α] : ∀ aS : List α, decL (aS.map cells) = some aS
  | [] => rfl
  | a :: aS => by simp [decL, DatL.dec_cells, decL_map aS]
instance : DatL Int where
  sz := 1
  agg := false
  cells n := [.s (.int .i64 n)]
  dec | [.s (.int .i64 n)] => some n | _ => none
  ok := by intro l a h; split at h <;> cases h; rfl
  data := fun a => rfl
  one := fun _ a => rfl
  dec_cells := fun a => rfl
instance : DatL Bool where
  sz := 1
  agg := false
  cells b := [.s (.bool b)]
  dec | [.s (.bool b)] => some b | _ => none
  ok := by intro l a h; split at h <;> cases h; rfl
  data := fun a => rfl
  one := fun _ a => rfl
  dec_cells := fun a => rfl
instance : DatL ByteArray where
  sz := 1
  agg := false
  cells b := [.s (.string b)]
  dec | [.s (.string b)] => some b | _ => none
  ok := by intro l a h; split at h <;> cases h; rfl
  data := fun a => rfl
  one := fun _ a => rfl
  dec_cells := fun a => rfl
instance {α : Type} [DatL α] : DatL (List α) where
  sz := 1
  agg := false
  cells l := [.sl (Dat.sz α) (l.map cells)]
  dec
    | [.sl n es] => if n = Dat.sz α then decL es else none
    | _ => none
  ok := by
    intro l a h
    split at h
    · split at h
      · rename_i hn; rw [hn, decL_ok h]
      · cases h
    · cases h
  nilv := some []
  nil_ok := by intro a h; cases h; exact ⟨rfl, _, rfl⟩
  data := fun a => rfl
  one := fun _ a => rfl
  dec_cells := fun a => by simp [decL_map]
theorem one_cells {α : Type} [Dat α] (h : Dat.agg α = false) (a : α) : cells a = [enc a] := by
  have h1 := Dat.one h a
  unfold enc
  rw [if_neg (by rw [h]; simp)]
  match hc : cells a, h1 with
  | [c], _ => rfl
def decV {α : Type} [Dat α] (c : C) : Option α :=
  match c with
  | .agg cs => if Dat.agg α = true then Dat.dec cs else none
  | .s (.slice none 0 0) => Dat.nilv
  | c => if Dat.agg α = true then none else Dat.dec [c]
theorem leC1_refl (c : C) : bP c c := by
  cases c <;> simp [bP]
theorem decV_ok {α : Type} [Dat α] {c : C} {a : α} (h : decV c = some a) : bP c (enc a) := by
  unfold decV at h
  split at h
  · split at h
    · rename_i hg
      have : enc a = .agg (cells a) := by unfold enc; rw [if_pos hg]
      rw [this, ← Dat.ok h]; simp [bP]
    · cases h
  · obtain ⟨hg, n, hc⟩ := Dat.nil_ok a h
    have : enc a = .sl n [] := by unfold enc; rw [if_neg (by rw [hg]; simp), hc]; rfl
    rw [this]; simp [bP]
  · split at h
    · cases h
    · rename_i hg
      have h2 := Dat.ok h
      rw [one_cells (by simpa using hg) a] at h2
      have h3 := (List.cons.inj h2).1
      rw [← h3]
      exact leC1_refl c
theorem FC.le {f : FuncId} {args args' : List C} {chs : Chs} {r : C} {chs' : Chs} (h : ca args args') (hf : FC P f args' chs r chs') : FC P f args chs r chs' :=
  ⟨hf.1, fun E U vs w hg ha hi => by
    obtain ⟨h1, h2⟩ := leCs_rep (E := E) (U := U) (h := w.heap) h
    exact hf.2 E U vs w hg ⟨by rw [h1]; exact ha.1, h2 _ ha.2⟩ hi⟩
theorem WfR.plain {r : C} (h : keysIn [] r) : WfR [] r [] [] := ⟨fun k c h => by simp at h, fun k cs h => by simp at h, h, fun k c h => by simp at h⟩
def Ent.of1 {α : Type} [Dat α] (id : FuncId) (pre : α → Prop) (res : α → C) (hk : ∀ a, keysIn [] (res a)) (h : ∀ a, pre a → FC P id [enc a] [] (res a) []) : Ent P where
  id := id
  sp := fun args chs => match args, chs with
    | [x], [] => (decV x).bind fun a => some (pre a, res a, [], [])
    | _, _ => none
  ok := by
    intro args chs p r chs' nk hs hp
    split at hs
    · simp only [Option.bind_eq_some_iff, Option.some.injEq, Prod.mk.injEq] at hs
      obtain ⟨a, ha, rfl, rfl, rfl, rfl⟩ := hs
      exact ⟨(h a hp).le (args' := [_]) ⟨decV_ok ha, trivial⟩, .plain (hk a)⟩
    · cases hs
def Ent.of0 (id : FuncId) (res : C) (hk : keysIn [] res) (h : FC P id [] [] res []) : Ent P where
  id := id
  sp := fun args chs => match args, chs with
    | [], [] => some (True, res, [], [])
    | _, _ => none
  ok := by
    intro args chs p r chs' nk hs hp
    split at hs
    · simp only [Option.some.injEq, Prod.mk.injEq] at hs
      obtain ⟨rfl, rfl, rfl, rfl⟩ := hs
      exact ⟨h, .plain hk⟩
    · cases hs
def Ent.of2 {α β : Type} [Dat α] [Dat β] (id : FuncId) (pre : α → β → Prop) (res : α → β → C) (hk : ∀ a b, keysIn [] (res a b)) (h : ∀ a b, pre a b → FC P id [enc a, enc b] [] (res a b) []) : Ent P where
  id := id
  sp := fun args chs => match args, chs with
    | [x, y], [] => (decV x).bind fun a => (decV y).bind fun b => some (pre a b, res a b, [], [])
    | _, _ => none
  ok := by
    intro args chs p r chs' nk hs hp
    split at hs
    · simp only [Option.bind_eq_some_iff, Option.some.injEq, Prod.mk.injEq] at hs
      obtain ⟨a, ha, b, hb, rfl, rfl, rfl, rfl⟩ := hs
      exact ⟨(h a b hp).le (args' := [_, _]) ⟨decV_ok ha, decV_ok hb, trivial⟩, .plain (hk a b)⟩
    · cases hs
def Ent.of3 {α β γ : Type} [Dat α] [Dat β] [Dat γ] (id : FuncId) (pre : α → β → γ → Prop) (res : α → β → γ → C) (hk : ∀ a b c, keysIn [] (res a b c)) (h : ∀ a b c, pre a b c → FC P id [enc a, enc b, enc c] [] (res a b c) []) : Ent P where
  id := id
  sp := fun args chs => match args, chs with
    | [x, y, z], [] => (decV x).bind fun a => (decV y).bind fun b => (decV z).bind fun c => some (pre a b c, res a b c, [], [])
    | _, _ => none
  ok := by
    intro args chs p r chs' nk hs hp
    split at hs
    · simp only [Option.bind_eq_some_iff, Option.some.injEq, Prod.mk.injEq] at hs
      obtain ⟨a, ha, b, hb, c, hc, rfl, rfl, rfl, rfl⟩ := hs
      exact ⟨(h a b c hp).le (args' := [_, _, _]) ⟨decV_ok ha, decV_ok hb, decV_ok hc, trivial⟩, .plain (hk a b c)⟩
    · cases hs
theorem enc_int (n : Int) : enc n = .s (.int .i64 n) := rfl
theorem enc_bool (b : Bool) : enc b = .s (.bool b) := rfl
theorem enc_str (b : ByteArray) : enc b = .s (.string b) := rfl
theorem enc_list {α : Type} [DatL α] (l : List α) : enc l = .sl (Dat.sz α) (l.map cells) := rfl
theorem cells_int (n : Int) : cells n = [.s (.int .i64 n)] := rfl
theorem cells_bool (n : Bool) : cells n = [.s (.bool n)] := rfl
theorem cells_str (n : ByteArray) : cells n = [.s (.string n)] := rfl
theorem cells_list {α : Type} [DatL α] (l : List α) : cells l = [.sl (Dat.sz α) (l.map cells)] := rfl
theorem sz_int : Dat.sz Int = 1 := rfl
theorem sz_bool : Dat.sz Bool = 1 := rfl
theorem sz_str : Dat.sz ByteArray = 1 := rfl
theorem sz_list {α : Type} [DatL α] : Dat.sz (List α) = 1 := rfl
theorem decV_int (n : Int) : decV (.s (.int .i64 n)) = some n := rfl
theorem decV_bool (n : Bool) : decV (.s (.bool n)) = some n := rfl
theorem decV_str (n : ByteArray) : decV (.s (.string n)) = some n := rfl
theorem dec_int (n : Int) : Dat.dec [C.s (.int .i64 n)] = some n := rfl
theorem dec_bool (n : Bool) : Dat.dec [C.s (.bool n)] = some n := rfl
theorem dec_str (n : ByteArray) : Dat.dec [C.s (.string n)] = some n := rfl
theorem dec_list {α : Type} [DatL α] (n : Nat) (es : List (List C)) : Dat.dec (α := List α) [C.sl n es] = if n = Dat.sz α then decL es else none := rfl
theorem decV_nil {α : Type} [DatL α] : decV (α := List α) (.s (.slice none 0 0)) = some [] := rfl
theorem decV_sl {α : Type} [DatL α] (n : Nat) (es : List (List C)) : decV (α := List α) (.sl n es) = if n = Dat.sz α then decL es else none := rfl
theorem decL_nil {α : Type} [Dat α] : decL (α := α) [] = some [] := rfl
theorem decL_cons {α : Type} [Dat α] (l : List C) (ls : List (List C)) : decL (α := α) (l :: ls) = (Dat.dec l).bind fun a => (decL ls).map (a :: ·) := rfl
theorem getD_int (xs : List Int) (n : Nat) : List.getD (xs.map cells) n [C.s (.int .i64 0)] = [.s (.int .i64 (xs.getD n 0))] := by
  simp only [List.getD_eq_getElem?_getD, List.getElem?_map]
  cases xs[n]? <;> rfl
theorem getD_bool (xs : List Bool) (n : Nat) : List.getD (xs.map cells) n [C.s (.bool false)] = [.s (.bool (xs.getD n false))] := by
  simp only [List.getD_eq_getElem?_getD, List.getElem?_map]
  cases xs[n]? <;> rfl
theorem getD_str (xs : List ByteArray) (n : Nat) : List.getD (xs.map cells) n [C.s (.string ⟨#[]⟩)] = [.s (.string (xs.getD n ⟨#[]⟩))] := by
  simp only [List.getD_eq_getElem?_getD, List.getElem?_map]
  cases xs[n]? <;> rfl
theorem getD_list {α : Type} [DatL α] (xs : List (List α)) (n : Nat) (d : List C) (h : n < xs.length) : List.getD (xs.map cells) n d = [.sl (Dat.sz α) ((xs.getD n []).map cells)] := by
  simp only [List.getD_eq_getElem?_getD, List.getElem?_map, List.getElem?_eq_getElem h]
  rfl
end Go.Am
namespace Go.Am
open Dat (cells)
structure Gs where
  re : Int
  im : Int
  deriving DecidableEq, Inhabited
instance : DatL Gs where
  sz := 2
  agg := true
  cells g := [.s (.int .i64 g.re), .s (.int .i64 g.im)]
  dec | [.s (.int .i64 a), .s (.int .i64 b)] => some ⟨a, b⟩ | _ => none
  ok := by intro l a h; split at h <;> cases h; rfl
  data := fun a => rfl
  one := fun h => by cases h
  dec_cells := fun a => rfl
theorem enc_gs (g : Gs) : enc g = .agg [.s (.int .i64 g.re), .s (.int .i64 g.im)] := rfl
theorem cells_gs (g : Gs) : cells g = [.s (.int .i64 g.re), .s (.int .i64 g.im)] := rfl
theorem sz_gs : Dat.sz Gs = 2 := rfl
theorem dec_gs (a b : Int) : Dat.dec [C.s (.int .i64 a), .s (.int .i64 b)] = some (⟨a, b⟩ : Gs) := rfl
theorem decV_gs (a b : Int) : decV (.agg [C.s (.int .i64 a), .s (.int .i64 b)]) = some (⟨a, b⟩ : Gs) := rfl
theorem getD_gs (xs : List Gs) (n : Nat) : List.getD (xs.map cells) n [C.s (.int .i64 0), .s (.int .i64 0)] = [.s (.int .i64 (xs.getD n ⟨0, 0⟩).re), .s (.int .i64 (xs.getD n ⟨0, 0⟩).im)] := by
  simp only [List.getD_eq_getElem?_getD, List.getElem?_map]
  cases xs[n]? <;> rfl
theorem gs_eta (g : Gs) : Gs.mk g.re g.im = g := rfl
theorem lookup_if {α : Type} (d k : Nat) (c : α) (m : List (Nat × α)) : List.lookup k ((d, c) :: m) = if k = d then some c else List.lookup k m := by
  rw [List.lookup_cons]
  by_cases h : k = d
  · simp [h]
  · have : (k == d) = false := by simp [h]
    rw [this, if_neg h]
theorem drop_getD {α : Type} {l : List α} {i : Nat} (d : α) (h : i < l.length) : l.drop i = l.getD i d :: l.drop (i + 1) := by
  rw [List.drop_eq_getElem_cons h, List.getD_eq_getElem?_getD, List.getElem?_eq_getElem h]; rfl
theorem take_getD {α : Type} {l : List α} {i : Nat} (d : α) (h : i < l.length) : l.take (i + 1) = l.take i ++ [l.getD i d] := by
  rw [List.take_succ_eq_append_getElem h, List.getD_eq_getElem?_getD, List.getElem?_eq_getElem h]; rfl
theorem LenOk.list {α : Type} [DatL α] {n : Nat} {l : List α} (h : LenOk (.sl n (l.map cells))) : l.length ≤ 9223372036854775807 := by simpa using h.sl.1
theorem LenOk.inner {α : Type} [DatL α] {n : Nat} {l : List (List α)} (h : LenOk (.sl n (l.map cells))) (i : Nat) (hi : i < l.length) : (l.getD i []).length ≤ 9223372036854775807 := by
  have := h.sl.2 (cells l[i]) (List.mem_map.2 ⟨l[i], List.getElem_mem hi, rfl⟩) _ (List.mem_singleton.2 rfl)
  have h2 := this.sl.1
  rw [List.getD_eq_getElem?_getD, List.getElem?_eq_getElem hi]
  simpa using h2
end Go.Am
end
section
namespace Go.Am
open Dat (cells)
variable {P : Program} [Glob P]
structure Moved (U F : Nat → Prop) (w : World) (U' F' : Nat → Prop) (w' : World) : Prop where
  os : w'.os = w.os
  tape : w'.tape = w.tape
  output : w'.output = w.output
  size : w.heap.size ≤ w'.heap.size
  keep : ∀ b, U b → U' b ∧ w'.heap[b]? = w.heap[b]?
  rest : ∀ b, b < w.heap.size → ¬ F b → w'.heap[b]? = w.heap[b]?
  live : ∀ b, F' b → w.heap.size ≤ b ∨ F b
  newU : ∀ b, U' b → U b ∨ w.heap.size ≤ b ∨ F b
  out : ∀ b, F' b → ¬ U' b
  fpl : ∀ b, F' b → b < w'.heap.size
  lt : ∀ b, U' b → b < w'.heap.size
def YAt (P : Program) [Glob P] (l : Nat) (xs : List C) (R : Res) (Rt : Option Res) (Rf : Res) : Prop :=
  ∀ (E : Env) (U F : Nat → Prop) (w : World) (vs : Array Value), GlobOk P U w.heap → ArgsR E U w.heap xs vs → R.φ F U w.heap → (∀ b, F b → ¬ U b) → (∀ b, F b → b < w.heap.size) → (∀ b, U b → b < w.heap.size) →
    ∃ fn tmps assign body, (Instr.yield l vs).run P w = .ok (.round l fn tmps assign body) w ∧
      ∀ ro, RoundIn (FW ro) 0 P l fn tmps assign body w fun e w' => ∃ (b : Bool) (F' U' : Nat → Prop), e = .returned (.bool b) ∧
        (match b with | true => ∃ R', Rt = some R' ∧ R'.φ F' U' w'.heap | false => Rf.φ F' U' w'.heap) ∧ Moved U F w U' F' w'
def ce (ch : Chs) (kr : Nat) (b : Bool) (R : Res) : Eff := ⟨True, .s (.bool b), (kr, .res R) :: bF [(kr, .inner)] (bQ ch kr), [(kr, .inner)]⟩
def bA (ch : Chs) (kr : Nat) (Rt : Option Res) (Rf : Res) : List Eff :=
  match Rt with
  | some R => [ce ch kr true R, ce ch kr false Rf]
  | none => [ce ch kr false Rf]
theorem Ev.res {E : Env} {U F' U' : Nat → Prop} {w w' : World} {ch : Chs} {kr : Nat} {R R' : Res} (hi : Inv E U w.heap ch) (hl : lk ch kr = some (.res R)) (hm : Moved U (E kr).fp w U' F' w') (hφ : R'.φ F' U' w'.heap) (d : Nat) :
    Ev E U w ch [(kr, .inner)] d (updE E kr { E kr with fp := F' }) U' w' ((kr, .res R') :: bF [(kr, .inner)] (bQ ch kr)) := by
  have hkm := lk_mem hl
  have hd : ∀ c, (kr, c) ∉ bQ ch kr := fun c => not_mem_delA hi.nd
  have hmem : ∀ k' c, (k', c) ∈ bQ ch kr → (k', c) ∈ ch ∧ k' ≠ kr := fun k' c h => ⟨mem_delA h, fun e => hd c (e ▸ h)⟩
  have henv : ∀ k', [(kr, Sb.inner)].lookup k' = none → updE E kr { E kr with fp := F' } k' = E k' := fun k' h => by
    rw [look1] at h
    split at h
    · cases h
    · exact updE_other E _ (by assumption)
  have henvI : ∀ k', [(kr, Sb.inner)].lookup k' = some .inner → (updE E kr { E kr with fp := F' } k').toKE0 = (E k').toKE0 := fun k' h => by
    rw [look1] at h
    split at h
    · have e : k' = kr := by assumption
      subst e; rw [updE_same]
    · cases h
  have hsub : ∀ k' c', [(kr, Sb.inner)].lookup k' = some (.c c') → ∀ v, Rep E U w.heap (.own k') v → Rep (updE E kr { E kr with fp := F' }) U' w'.heap c' v := fun k' c' h => by
    rw [look1] at h; split at h <;> cases h
  refine Ev.gen (news := [(kr, .res R')]) (old := bQ ch kr) hi hm.os hm.tape hm.output hm.size (delA_sub ch kr) hm.keep henv henvI hsub (fun k' c h => updE_other E _ (hmem k' c h).2)
    (fun k' c h b hb => hm.rest b (hi.fpl k' c (hmem k' c h).1 b hb) (fun hb' => hi.sep k' c kr _ (hmem k' c h).1 hkm (hmem k' c h).2 b hb hb')) (fun b hb1 hb2 => hm.rest b hb1 (hb2 kr _ hkm)) (by simp) (fun k' c h => ?_) (fun k' c h => ?_) (fun k' c h b hb => ?_) (fun k' c h b hb => ?_)
    (fun k1 x1 k2 x2 h1 h2 hne => ?_) (fun b hb => ?_) (fun k' c h b hb => ?_) hm.lt (fun k' cs h => ?_)
  · simp only [List.mem_singleton, Prod.mk.injEq] at h; obtain ⟨rfl, rfl⟩ := h; exact hd
  · simp only [List.mem_singleton, Prod.mk.injEq] at h; obtain ⟨rfl, rfl⟩ := h; simp only [ChOk, updE_same]; exact hφ
  · simp only [List.mem_singleton, Prod.mk.injEq] at h; obtain ⟨rfl, rfl⟩ := h; rw [updE_same] at hb
    rcases hm.live b hb with g | g
    · exact .inl g
    · exact .inr ⟨_, _, hkm, hd, g⟩
  · simp only [List.mem_singleton, Prod.mk.injEq] at h; obtain ⟨rfl, rfl⟩ := h; rw [updE_same] at hb; exact hm.fpl b hb
  · simp only [List.mem_singleton, Prod.mk.injEq] at h1 h2; exact absurd (h1.1.trans h2.1.symm) hne
  · rcases hm.newU b hb with g | g | g
    · exact .inl g
    · exact .inr (.inl g)
    · exact .inr (.inr ⟨_, _, hkm, hd, g⟩)
  · simp only [List.mem_singleton, Prod.mk.injEq] at h; obtain ⟨rfl, rfl⟩ := h; rw [updE_same] at hb; exact hm.out b hb
  · simp only [List.mem_singleton, Prod.mk.injEq] at h; exact absurd h.2 (by simp)
theorem OpM.yield {ro : Option Nat} {ρ : Operand → C} {ch : Chs} {d l kr : Nat} {xs : List C} {R Rf : Res} {Rt : Option Res} {fo : Operand} {aS : List Operand} (hfo : ρ fo = .s (.func (.yield l) #[] #[])) (hxs : aS.map ρ = xs) (hl : lk ch kr = some (.res R)) (hy : YAt P l xs R Rt Rf) :
    OpM P ro ρ ch d (.call fo aS) (bA ch kr Rt Rf) := by
  intro own o a E U w hc hi hg hρ K Q hK
  obtain ⟨args, ts, ho, ha⟩ := call_of_comp hc
  subst ha
  have hev : a.eval fo = .func (.yield l) #[] #[] := rep_s (hfo ▸ hρ fo (by simp [AOp.reads]))
  have hargs : ArgsR E U w.heap xs (args.map a.eval) := by
    subst hxs
    refine ⟨by simp, fun j c hj => ?_⟩
    simp only [List.getElem?_map, Option.map_eq_some_iff, Array.getElem?_toList] at hj
    obtain ⟨x, hx, rfl⟩ := hj
    rw [getD_of_some (v := a.eval x) (by simp [hx])]
    exact hρ x (by simp only [AOp.reads]; exact List.mem_cons_of_mem _ (by simpa using Array.mem_of_getElem? hx))
  have hkm := lk_mem hl
  obtain ⟨fn, tmps, assign, body, hrun, hround⟩ := hy E U (E kr).fp w (args.map a.eval) hg hargs (hi.ok kr _ hkm) (hi.out kr _ hkm) (hi.fpl kr _ hkm) hi.lt
  have hrun2 : (execOp a.eval o).run P w = .ok (.round l fn tmps assign body) w := by
    simp only [execOp, ho, resolve, hev, Deferred.ofValue, Sem.run_bind, Sem.run_pure, Result.andThen_ok, invoke]
    simpa using hrun
  refine ⟨fun _ _ => trivial, ?_⟩
  rw [Oper.semAt_eq _ _ _ (by rw [ho]; simp), hrun2, Oper.uponIn_round]
  refine ⟨fun h => by simp [FW, Fence.wide] at h, (hround ro).mono fun e w' h => ?_⟩
  obtain ⟨b, F', U', rfl, hb, hm⟩ := h
  show K (a.put o.dst (.bool b)) w'
  cases b with
  | true =>
    obtain ⟨R', rfl, hφ⟩ := hb
    exact hK (ce ch kr true R') (by simp [bA]) _ _ _ _ (.d (.s _)) (Ev.res hi hl hm hφ d)
  | false =>
    exact hK (ce ch kr false Rf) (by unfold bA; cases Rt <;> simp) _ _ _ _ (.d (.s _)) (Ev.res hi hl hm hb d)
end Go.Am
end
section
namespace Go.Am
open Dat (cells)
variable {P : Program} [Glob P]
def ap (bx : List Nat) : C → Bool
  | .own _ | .inn _ _ | .eptr _ _ _ | .iptr _ _ _ _ => false
  | .ptr k _ => cg bx k
  | .agg cs => ptrOnlys bx cs
  | .tup cs => ptrOnlys bx cs
  | .fn _ xs ys => ptrOnlys bx xs && ptrOnlys bx ys
  | _ => true
where ptrOnlys (bx : List Nat) : List C → Bool
  | [] => true
  | c :: cs => ap bx c && ptrOnlys bx cs
theorem ptrOnlys_all {bx : List Nat} : ∀ {cs : List C}, ap.ptrOnlys bx cs = true → ∀ c ∈ cs, ap bx c = true
  | [], _, c, h => by simp at h
  | x :: cs, h, c, hc => by
    simp only [ap.ptrOnlys, Bool.and_eq_true] at h
    rcases List.mem_cons.1 hc with e | e
    · rw [e]; exact h.1
    · exact ptrOnlys_all h.2 c e
theorem Rep.fixed {E E' : Env} {U : Nat → Prop} {h : Array Obj} {c : C} {v : Value} {bx : List Nat} (hr : Rep E U h c v) (hk : ap bx c = true) (he : ∀ k ∈ bx, (E' k).toKE0 = (E k).toKE0) : Rep E' U h c v := by
  induction hr with
  | d hd => exact .d hd
  | ref cs b off arr ty fz vf hU hb hv hr => exact .ref cs b off arr ty fz vf hU hb hv hr
  | agg cs vs hl hr h1 ih => exact .agg cs vs hl (fun j c hj => ih j c hj (ptrOnlys_all (by simpa only [ap] using hk) c (List.mem_of_getElem? hj))) h1
  | tup cs vs hl hr ih => exact .tup cs vs hl (fun j c hj => ih j c hj (ptrOnlys_all (by simpa only [ap] using hk) c (List.mem_of_getElem? hj)))
  | fn f xs ys vs ws hl hr hl' hr' ih ih' =>
    simp only [ap, Bool.and_eq_true] at hk
    exact .fn f xs ys vs ws hl (fun j c hj => ih j c hj (ptrOnlys_all hk.1 c (List.mem_of_getElem? hj))) hl' (fun j c hj => ih' j c hj (ptrOnlys_all hk.2 c (List.mem_of_getElem? hj)))
  | own k => simp [ap] at hk
  | ptr k off => simp only [ap] at hk; rw [← he k (memN_spec.1 hk)]; exact .ptr k off
  | eptr k i j => simp [ap] at hk
  | inn k i => simp [ap] at hk
  | iptr k i n j => simp [ap] at hk
def bN (bx : List Nat) : Slots → Slots
  | [] => []
  | (i, c) :: t => (i, match ap bx c with | true => c | false => .any) :: bN bx t
theorem gt_fixT (bx : List Nat) : ∀ (t : Slots) (i : Nat), gt (bN bx t) i = .any ∨ (gt (bN bx t) i = gt t i ∧ ap bx (gt t i) = true)
  | [], i => .inl rfl
  | (j, c) :: t, i => by
    have ih := gt_fixT bx t i
    simp only [gt, bN, lk] at ih ⊢
    by_cases hj : j = i
    · rw [if_pos hj, if_pos hj]
      cases hp : ap bx c with
      | true => exact .inr ⟨rfl, hp⟩
      | false => exact .inl rfl
    · rw [if_neg hj, if_neg hj]; exact ih
def ak : List Nat → Chs → Prop
  | [], _ => True
  | k :: ks, ch => (match lk ch k with | some (.box _) => True | _ => False) ∧ ak ks ch
def aK (bx : List Nat) : Chs → Prop
  | [] => True
  | (k, .box _) :: r => (k < 100000 ∨ cg bx k = true) ∧ aK bx r
  | (_, .row _ _ _) :: r => aK bx r
  | (_, .deep _ _ _ _ _) :: r => aK bx r
  | (_, .res _) :: r => aK bx r
theorem boxesIn_spec : ∀ {bx : List Nat} {ch : Chs}, ak bx ch → ∀ k ∈ bx, ∃ cs, (k, .box cs) ∈ ch
  | [], _, _, k, h => by simp at h
  | j :: ks, ch, h, k, hk => by
    rcases List.mem_cons.1 hk with e | e
    · subst e
      have h1 := h.1
      cases hl : lk ch k with
      | none => rw [hl] at h1; exact h1.elim
      | some c =>
        rw [hl] at h1
        cases c with
        | box cs => exact ⟨cs, lk_mem hl⟩
        | _ => exact h1.elim
    · exact boxesIn_spec h.2 k e
theorem onlyBx_spec {bx : List Nat} : ∀ {ch : Chs}, aK bx ch → ∀ k cs, (k, .box cs) ∈ ch → 100000 ≤ k → k ∈ bx
  | [], _, k, cs, h, _ => by simp at h
  | (j, c0) :: r, h, k, cs, hm, hk => by
    rcases List.mem_cons.1 hm with e | e
    · cases e
      rcases h.1 with g | g
      · omega
      · exact memN_spec.1 g
    · have hr : aK bx r := by cases c0 <;> first | exact h | exact h.2
      exact onlyBx_spec hr k cs e hk
def cz (bx : List Nat) (ch : Chs) : Prop := ak bx ch ∧ aK bx ch
def clRes (Eb : Env) (l D : Nat) (rec : Loop) (bx : List Nat) (tB : Slots) (tmps : Array Value) (ch : Chs) : Res where
  φ F U h := ∃ Ec : Env, (∀ k c, (k, c) ∈ ch → ChOk Ec U h k c) ∧ (∀ k c k' c', (k, c) ∈ ch → (k', c') ∈ ch → k ≠ k' → ∀ b, (Ec k).fp b → ¬ (Ec k').fp b) ∧
    (∀ k c, (k, c) ∈ ch → ∀ b, (Ec k).fp b → F b ∧ b ≠ l ∧ b ≠ D) ∧ F l ∧ F D ∧ (∀ k ∈ bx, (Ec k).toKE0 = (Eb k).toKE0) ∧
    h[l]? = some (.loop rec) ∧ h[D]? = some (.deferred (some [])) ∧ (∀ j, Rep Eb U h (gt tB j) (tmps.getD j undef))
  mono := by
    intro F U U' h h' ⟨Ec, h1, h2, h3, h4, h5, h6, h7, h8, h9⟩ hU hF
    exact ⟨Ec, fun k c hm => (h1 k c hm).same hU (fun b hb => hF b (h3 k c hm b hb).1), h2, h3, h4, h5, h6, (hF l h4).trans h7, (hF D h5).trans h8, fun j => (h9 j).same hU⟩
def aM (P : Program) [Glob P] (cx : Cx) (Q : ASt → Prop) (k : List It) (t0 : Slots) : Code → Chs → Prop
  | .exit id, ch =>
    match bg id k with
    | .cont k' => SG P cx Q k' ⟨t0, ch⟩
    | .out p => p ⟨t0, ch⟩
    | .none => False
  | .ret, ch => bZ Q k ⟨t0, ch⟩
  | _, _ => False
def endRes (J : Code → Chs → Prop) (Eb : Env) (l D : Nat) (rec : Option Code → Loop) (bx : List Nat) (tB : Slots) (tmps : Array Value) : Res where
  φ F U h := ∃ jump ch, (ch.map (·.1)).Nodup ∧ cz bx ch ∧ J jump ch ∧ (clRes Eb l D (rec (some jump)) bx tB tmps ch).φ F U h
  mono := by
    rintro F U U' h h' ⟨jump, ch, h1, h2, h3, h4⟩ hU hF
    exact ⟨jump, ch, h1, h2, h3, (clRes Eb l D (rec (some jump)) bx tB tmps ch).mono F U U' h h' h4 hU hF⟩
def ItC (P : Program) [Glob P] (f : FuncId) (first caps : List C) (ich : Chs) (kr : Nat) (vals : Nat → List C) (N : Nat) (fin : Bool) : Prop :=
  ∀ (l : Nat) (R : Nat → Res) (Rf : Res), (∀ i, i < N → YAt P l (vals i) (R i) (if i + 1 < N ∨ fin = true then some (R (i + 1)) else none) Rf) →
    FCo P f (first ++ [.s (.func (.yield l) #[] #[])] ++ caps) ((kr, .res (R 0)) :: ich) ((.any, [(kr, .res Rf)]) :: if fin = true then [(.any, [(kr, .res (R N))])] else [])
theorem Holds.busy {cx : Cx} {E : Env} {U : Nat → Prop} {a : Act} {w : World} {s : ASt} {l D : Nat} {o oD o' : Obj} (hh : Holds P cx E U a w s) (hc : cx.hid = [(l, o), (D, oD)]) (hlD : l ≠ D) (hl : l < cx.w0.heap.size) :
    Holds P { cx with w0 := cx.w0.putObj l o', hid := [(l, o'), (D, oD)] } E U a (w.putObj l o') s := by
  obtain ⟨q1, q2, q3⟩ := hh.hid (l, o) (by rw [hc]; simp)
  obtain ⟨p1, p2, p3⟩ := hh.hid (D, oD) (by rw [hc]; simp)
  have hne : ∀ (w : World) b, b ≠ l → (w.putObj l o').heap[b]? = w.heap[b]? := fun w b hb => World.putObj_heap_other hb
  have hU : ∀ b, U b → U b ∧ (w.putObj l o').heap[b]? = w.heap[b]? := fun b hb => ⟨hb, hne w b (fun e => q2 (e ▸ hb))⟩
  have hF : ∀ k c, (k, c) ∈ s.ch → ∀ b, (E k).fp b → (w.putObj l o').heap[b]? = w.heap[b]? := fun k c hm b hb => hne w b (fun e => q3 k c hm (e ▸ hb))
  have hlw : l < w.heap.size := Nat.lt_of_lt_of_le hl hh.size
  have hdf : ∃ Ds : List Nat, a.defers = Ds.map markD ∧ Ds.Nodup ∧ ∀ D ∈ Ds, (cx.w0.putObj l o').heap.size ≤ D ∧ HidB E U (w.putObj l o').heap s.ch D (.deferred (some [])) := by
    obtain ⟨Ds, d1, d2, d3⟩ := hh.df
    refine ⟨Ds, d1, d2, fun D hD => ?_⟩
    obtain ⟨e1, e2, e3, e4⟩ := d3 D hD
    exact ⟨by simpa using e1, (hne w D (by omega)).trans e2, e3, e4⟩
  refine ⟨hh.sz, hdf, fun i => (hh.tok i).same hU, ⟨hh.inv.nd, fun k c hm => (hh.inv.ok k c hm).same hU (hF k c hm), hh.inv.sep, hh.inv.out, fun k c hm b hb => by rw [World.putObj_size]; exact hh.inv.fpl k c hm b hb, fun b hb => by rw [World.putObj_size]; exact hh.inv.lt b hb⟩,
    hh.os, hh.tape, hh.output, by simpa using hh.size, fun b hb hx => ?_, fun b hb => ⟨(hh.keepA b hb).1, ?_⟩, fun k c hm b hb => by simpa using hh.live k c hm b hb, fun b hb => by simpa using hh.base b hb, hh.fix, fun p hp => ?_, hh.gok.mono hU⟩
  · by_cases hb' : b = l
    · subst hb'
      rw [World.putObj_heap_same hlw, World.putObj_heap_same hl]
    · rw [hne w b hb', hne cx.w0 b hb']
      exact hh.fr b (by simpa using hb) hx
  · have hbl : b ≠ l := fun e => q2 (e ▸ (hh.keepA b hb).1)
    rw [hne w b hbl, hne cx.w0 b hbl]; exact (hh.keepA b hb).2
  · simp only [List.mem_cons, List.not_mem_nil, or_false] at hp
    rcases hp with rfl | rfl
    · exact ⟨World.putObj_heap_same hlw, q2, q3⟩
    · exact ⟨(hne w D (Ne.symm hlD)).trans p1, p2, p3⟩
def a4 (t : Slots) : List Nat → List C → Slots
  | p :: ps, v :: vs => a4 (cJ t p v) ps vs
  | _, _ => t
theorem setPs_rep {E : Env} {U : Nat → Prop} {h : Array Obj} : ∀ {ps : List Nat} {vs : List C} {aS : List Value} {t : Slots} {tmps : Array Value}, vs.length = ps.length → aS.length = ps.length → (∀ p ∈ ps, p < tmps.size) →
    (∀ j, Rep E U h (gt t j) (tmps.getD j undef)) → (∀ (j : Nat) c v, vs[j]? = some c → aS[j]? = some v → Rep E U h c v) →
    ∀ j, Rep E U h (gt (a4 t ps vs) j) (((ps.zip aS).foldl (fun tmps (q : Nat × Value) => tmps.setIfInBounds q.1 q.2) tmps).getD j undef)
  | [], vs, aS, t, tmps, _, _, _, h0, _, j => by simp only [a4, List.zip_nil_left, List.foldl_nil]; exact h0 j
  | p :: ps, [], aS, t, tmps, h1, _, _, _, _, j => by simp at h1
  | p :: ps, v :: vs, [], t, tmps, _, h1, _, _, _, j => by simp at h1
  | p :: ps, v :: vs, x :: aS, t, tmps, h1, h2, hp, h0, hv, j => by
    simp only [a4, List.zip_cons_cons, List.foldl_cons]
    refine setPs_rep (by simpa using h1) (by simpa using h2) (fun q hq => by simpa using hp q (List.mem_cons_of_mem _ hq)) (fun i => ?_) (fun i c v hc hx => hv (i + 1) c v (by simpa using hc) (by simpa using hx)) j
    rw [gt_setA]
    have hpl := hp p List.mem_cons_self
    by_cases hi : p = i
    · subst hi
      rw [if_pos rfl, getD_of_some (v := x) (by rw [Array.getElem?_setIfInBounds]; simp [hpl])]
      exact hv 0 v x rfl rfl
    · rw [if_neg hi]
      have : (tmps.setIfInBounds p x).getD i undef = tmps.getD i undef := by simp [Array.getD_eq_getD_getElem?, Array.getElem?_setIfInBounds_ne hi]
      rw [this]; exact h0 i
theorem foldl_size : ∀ (l : List (Nat × Value)) (tmps : Array Value), (l.foldl (fun tmps (q : Nat × Value) => tmps.setIfInBounds q.1 q.2) tmps).size = tmps.size
  | [], _ => rfl
  | (_, _) :: l, tmps => by simp [foldl_size l]
theorem round_fin {cx : Cx} {Eb Ec E2 : Env} {U F U2 : Nat → Prop} {w w3 : World} {l D : Nat} {ob : Obj} {a2 : Act} {st2 : ASt} {ch0 ch1 : Chs} {bx : List Nat} {tB : Slots} {tmps : Array Value} (hh : Holds P cx E2 U2 a2 w3 st2)
    (cw : cx.w0 = w.putObj l ob) (cA : cx.A0 = U) (cX : cx.X = fun b => ∃ k c, (k, c) ∈ ch0 ∧ (Ec k).fp b) (cE : cx.E0 = Eb) (ch : cx.hid = [(l, ob), (D, .deferred (some []))]) (cf : ∀ k ∈ bx, cx.fx k) (hlD : l ≠ D)
    (hFU : ∀ b, F b → ¬ U b) (_hFs : ∀ b, F b → b < w.heap.size) (hX : ∀ k c, (k, c) ∈ ch0 → ∀ b, (Ec k).fp b → F b) (hFl : F l) (hFD : F D) (hsub : ∀ k c, (k, c) ∈ ch1 → (k, c) ∈ st2.ch) (hbx : cz bx ch1) (htB : ∀ j, Rep Eb U w.heap (gt tB j) (tmps.getD j undef)) (rec : Loop) :
    ∃ F', (clRes Eb l D rec bx tB tmps ch1).φ F' U2 (w3.putObj l (.loop rec)).heap ∧ Moved U F w U2 F' (w3.putObj l (.loop rec)) := by
  obtain ⟨q1, q2, q3⟩ := hh.hid (l, ob) (by rw [ch]; simp)
  obtain ⟨p1, p2, p3⟩ := hh.hid (D, .deferred (some [])) (by rw [ch]; simp)
  have hl3 := lt_of_getElem? q1
  have hD3 := lt_of_getElem? p1
  have hne : ∀ b, b ≠ l → (w3.putObj l (.loop rec)).heap[b]? = w3.heap[b]? := fun b hb => World.putObj_heap_other hb
  have hne0 : ∀ b, b ≠ l → cx.w0.heap[b]? = w.heap[b]? := fun b hb => by rw [cw]; exact World.putObj_heap_other hb
  have hs0 : cx.w0.heap.size = w.heap.size := by rw [cw]; simp
  have hXF : ∀ b, cx.X b → F b := fun b hb => by rw [cX] at hb; obtain ⟨k, c, h1, h2⟩ := hb; exact hX k c h1 b h2
  have hkeep : ∀ b, U b → U2 b ∧ (w3.putObj l (.loop rec)).heap[b]? = w.heap[b]? := fun b hb => by
    have hbl : b ≠ l := fun e => hFU l hFl (e ▸ hb)
    have h := hh.keepA b (by rw [cA]; exact hb)
    exact ⟨h.1, (hne b hbl).trans (h.2.trans (hne0 b hbl))⟩
  refine ⟨fun b => (∃ k c, (k, c) ∈ ch1 ∧ (E2 k).fp b) ∨ b = l ∨ b = D, ⟨E2, fun k c hm => ?_, fun k c k' c' hm hm' => hh.inv.sep k c k' c' (hsub k c hm) (hsub k' c' hm'), fun k c hm b hb => ⟨.inl ⟨k, c, hm, hb⟩, fun e => q3 k c (hsub k c hm) (e ▸ hb), fun e => p3 k c (hsub k c hm) (e ▸ hb)⟩,
    .inr (.inl rfl), .inr (.inr rfl), fun k hk => ?_, World.putObj_heap_same hl3, (hne D (Ne.symm hlD)).trans p1, fun j => (htB j).same hkeep⟩, ?_⟩
  · exact (hh.inv.ok k c (hsub k c hm)).same (fun b hb => ⟨hb, hne b (fun e => q2 (e ▸ hb))⟩) (fun b hb => hne b (fun e => q3 k c (hsub k c hm) (e ▸ hb)))
  · obtain ⟨cs, hcs⟩ := boxesIn_spec hbx.1 k hk
    rw [← cE]; exact hh.fix k cs (cf k hk) (hsub k _ hcs)
  · refine ⟨hh.os.trans (by rw [cw]; rfl), hh.tape.trans (by rw [cw]; rfl), hh.output.trans (by rw [cw]; rfl), by rw [World.putObj_size, ← hs0]; exact hh.size, hkeep, fun b hb hF => ?_, fun b hb => ?_, fun b hb => ?_, fun b hb hu => ?_, fun b hb => ?_, fun b hb => by rw [World.putObj_size]; exact hh.inv.lt b hb⟩
    · have hbl : b ≠ l := fun e => hF (e ▸ hFl)
      exact (hne b hbl).trans ((hh.fr b (by rw [hs0]; exact hb) (fun hx => hF (hXF b hx))).trans (hne0 b hbl))
    · rcases hb with ⟨k, c, hm, hb⟩ | rfl | rfl
      · rcases hh.live k c (hsub k c hm) b hb with g | g
        · exact .inl (by rw [← hs0]; exact g)
        · exact .inr (hXF b g)
      · exact .inr hFl
      · exact .inr hFD
    · rcases hh.base b hb with g | g | g
      · exact .inl (by rw [← cA]; exact g)
      · exact .inr (.inl (by rw [← hs0]; exact g))
      · exact .inr (.inr (hXF b g))
    · rcases hb with ⟨k, c, hm, hb⟩ | rfl | rfl
      · exact hh.inv.out k c (hsub k c hm) b hb hu
      · exact q2 hu
      · exact p2 hu
    · rw [World.putObj_size]
      rcases hb with ⟨k, c, hm, hb⟩ | rfl | rfl
      · exact hh.inv.fpl k c (hsub k c hm) b hb
      · exact hl3
      · exact hD3
theorem round_ok {n hi : Nat} (hn : n ≤ 100000) {Eb : Env} {l D : Nat} {fn : FuncId} {tmps : Array Value} {ps : Array Tmp} {x y : Code} {assign body : AC} {bx : List Nat} {tB : Slots} {vs : List C} {ch0 : Chs} {Rt : Option Res} {J : Code → Chs → Prop} {N' : ASt → Prop} {rec : LoopState → Option Code → Loop}
    (hrec : rec = fun s p => { state := s, pending := p, fn, tmps, params := ps, assign := x, body := y, defers := D }) (hnd : (ch0.map (·.1)).Nodup) (hbx0 : cz bx ch0) (hbig : ∀ k ∈ bx, 100000 ≤ k ∧ k < hi) (hlD : l ≠ D) (hsz : tmps.size = n) (hps : ∀ p ∈ ps.toList, p < n)
    (hvl : vs.length = ps.toList.length) (hvk : ∀ c ∈ vs, keysIn [] c) (htp : ∀ j, ap bx (gt tB j) = true) (hx : compC P n assign x = some assign) (hy : compC P n body y = some body)
    (hrun : ∀ cx', cx'.n = n → cx'.hi = hi → SG P cx' (fun _ => False) [.c assign, .post (fun st1 => ∀ cx'', cx''.n = n → cx''.hi = hi → SG P cx'' (fun _ => False) [.c body, .rnd N' (fun j st' => cz bx st'.ch ∧ J j st'.ch)] st1)] ⟨a4 tB ps.toList vs, ch0⟩)
    (hN : ∀ st', N' st' → ∃ ch1, (ch1.map (·.1)).Nodup ∧ cz bx ch1 ∧ (∀ k c, (k, c) ∈ ch1 → (k, c) ∈ st'.ch) ∧ Rt = some (clRes Eb l D (rec .ready none) bx tB tmps ch1)) :
    YAt P l vs (clRes Eb l D (rec .ready none) bx tB tmps ch0) Rt (endRes J Eb l D (fun j => rec .done j) bx tB tmps) := by
  intro E U F w aS hg ha hφ hFU hFs hUl
  obtain ⟨Ec, h1, h2, h3, h4, h5, h6, h7, h8, h9⟩ := hφ
  have hsa : aS.size = ps.size := by rw [ha.1, hvl]; simp
  refine ⟨fn, (ps.zip aS).foldl (fun tmps (t, a) => tmps.setIfInBounds t a) tmps, x, y, ?_, fun ro => ?_⟩
  · have := run_yield (P := P) (args := aS) h7 (by rw [hrec]; exact hsa)
    rw [hrec] at this; exact this
  · have htm : (ps.zip aS).foldl (fun tmps (t, a) => tmps.setIfInBounds t a) tmps = (ps.toList.zip aS.toList).foldl (fun tmps (q : Nat × Value) => tmps.setIfInBounds q.1 q.2) tmps := by
      rw [← Array.foldl_toList, Array.toList_zip]
    rw [htm]
    generalize htm2 : (ps.toList.zip aS.toList).foldl (fun tmps (q : Nat × Value) => tmps.setIfInBounds q.1 q.2) tmps = tm
    have htz : tm.size = n := by rw [← htm2, foldl_size]; exact hsz
    let cx1 : Cx := { n := n, A0 := U, w0 := w, X := fun b => ∃ k c, (k, c) ∈ ch0 ∧ (Ec k).fp b, E0 := Eb, hn := hn, ro := some l, hid := [(l, .loop (rec .ready none)), (D, .deferred (some []))], lo := 100000, hi := hi, hlo := Nat.le_refl _ }
    have hlw := hFs l h4
    have hslots : ∀ j, Rep Ec U w.heap (gt tB j) (tmps.getD j undef) := fun j => (h9 j).fixed (htp j) h6
    have hh1 : Holds P cx1 Ec U { tmps := tm, defers := [] } w ⟨a4 tB ps.toList vs, ch0⟩ := by
      refine ⟨htz, ⟨[], rfl, .nil, fun D hD => by simp at hD⟩, fun j => ?_, ⟨hnd, h1, h2, fun k c hm b hb => hFU b (h3 k c hm b hb).1, fun k c hm b hb => hFs b (h3 k c hm b hb).1, hUl⟩, rfl, rfl, rfl, Nat.le_refl _, fun _ _ _ => rfl, fun b hb => ⟨hb, rfl⟩, fun k c hm b hb => .inr ⟨k, c, hm, hb⟩, fun b hb => .inl hb,
        fun k cs hk hm => h6 k (onlyBx_spec hbx0.2 k cs hm (Cx.fx_ge hk)), fun p hp => ?_, hg⟩
      · rw [← htm2]
        exact setPs_rep (E := Ec) hvl (by simpa using hsa) (fun p hp => by rw [hsz]; exact hps p hp) hslots (fun i c v hc hv => by
          have := ha.2 i c hc
          rw [getD_of_some (v := v) (by simpa using hv)] at this
          exact this.env (hvk c (List.mem_of_getElem? hc)) (fun k hk => by simp at hk)) j
      · simp only [cx1, List.mem_cons, List.not_mem_nil, or_false] at hp
        rcases hp with rfl | rfl
        · exact ⟨h7, hFU l h4, fun k c hm hb => (h3 k c hm l hb).2.1 rfl⟩
        · exact ⟨h8, hFU D h5, fun k c hm hb => (h3 k c hm D hb).2.2 rfl⟩
    refine roundIn_of_wpIn (F := FW ro) (n := 0) trivial (wpIn_mono (hrun cx1 rfl rfl Ec U _ w hh1 x hx) (fun e a1 w1 he => ?_))
    cases e with
    | normal =>
      obtain ⟨E1, U1, st1, g1, g2⟩ := he
      obtain ⟨q1, _⟩ := g1.hid (l, .loop (rec .ready none)) (by simp [cx1])
      refine ⟨_, run_beginRound q1 (by rw [hrec]), ?_⟩
      have hh2 := g1.busy (o' := .loop { rec .ready none with state := .busy }) rfl hlD hlw
      refine wpIn_mono (g2 _ rfl rfl E1 U1 a1 _ hh2 y hy) (fun e a2 w3 he => ?_)
      have fin : ∀ (jump : Option Code) (E2 : Env) (U2 : Nat → Prop) (st2 : ASt) (ch1 : Chs), Holds P { cx1 with w0 := w.putObj l (.loop { rec .ready none with state := .busy }), hid := [(l, .loop { rec .ready none with state := .busy }), (D, .deferred (some []))] } E2 U2 a2 w3 st2 →
          (∀ k c, (k, c) ∈ ch1 → (k, c) ∈ st2.ch) → cz bx ch1 → (Instr.endRound l jump).run P w3 = .ok (.bool jump.isNone) (w3.putObj l (.loop (rec (if jump.isNone then .ready else .done) jump))) ∧
          ∃ F', (clRes Eb l D (rec (if jump.isNone then .ready else .done) jump) bx tB tmps ch1).φ F' U2 (w3.putObj l (.loop (rec (if jump.isNone then .ready else .done) jump))).heap ∧ Moved U F w U2 F' (w3.putObj l (.loop (rec (if jump.isNone then .ready else .done) jump))) := fun jump E2 U2 st2 ch1 hh hsub hbx => by
        obtain ⟨r1, _⟩ := hh.hid (l, .loop { rec .ready none with state := .busy }) (by simp)
        refine ⟨?_, round_fin hh rfl rfl rfl rfl rfl hbig hlD hFU hFs (fun k c hm b hb => (h3 k c hm b hb).1) h4 h5 hsub hbx h9 _⟩
        have := run_endRound (P := P) jump r1
        rw [hrec] at this ⊢; exact this
      cases e with
      | normal =>
        obtain ⟨E2, U2, st2, s1, s2⟩ := he
        obtain ⟨ch1, c1, c2, c3, c4⟩ := hN st2 s2
        obtain ⟨f1, F', f2, f3⟩ := fin none E2 U2 st2 ch1 s1 c3 c2
        exact ⟨_, _, f1, true, F', U2, rfl, ⟨_, c4, f2⟩, f3⟩
      | ret =>
        obtain ⟨E2, U2, st2, s1, s2, s3⟩ := he
        obtain ⟨f1, F', f2, f3⟩ := fin (some .ret) E2 U2 st2 st2.ch s1 (fun _ _ h => h) s2
        exact ⟨_, _, f1, false, F', U2, rfl, ⟨_, _, s1.inv.nd, s2, s3, f2⟩, f3⟩
      | exit id =>
        obtain ⟨E2, U2, st2, s1, s2, s3⟩ := he
        obtain ⟨f1, F', f2, f3⟩ := fin (some (.exit id)) E2 U2 st2 st2.ch s1 (fun _ _ h => h) s2
        exact ⟨_, _, f1, false, F', U2, rfl, ⟨_, _, s1.inv.nd, s2, s3, f2⟩, f3⟩
      | goto t => exact he.elim
      | panic c => exact he.elim
      | outgrown => exact he.elim
    | ret => obtain ⟨_, _, _, _, hf⟩ := he; exact hf.elim
    | exit id => exact he.elim
    | goto t => exact he.elim
    | panic c => exact he.elim
    | outgrown => exact he.elim
end Go.Am
end
section
namespace Go.Am
open Dat (cells)
variable {P : Program} [Glob P]
theorem Holds.after {cx : Cx} {st : ASt} {E : Env} {U U3 F3 : Nat → Prop} {a : Act} {w w1 w3 : World} {l D : Nat} {rec : Loop} {o : Obj} {bx : List Nat} {ch : Chs} (hh : Holds P cx E U a w st)
    (hD : D = w.heap.size) (hl : l = w.heap.size + 1) (hw1 : w1.os = w.os ∧ w1.tape = w.tape ∧ w1.output = w.output ∧ w1.heap.size = w.heap.size + 2 ∧ ∀ b, b < w.heap.size → w1.heap[b]? = w.heap[b]?)
    (hm : Moved U (fun b => (∃ k c, (k, c) ∈ st.ch ∧ (E k).fp b) ∨ b = l ∨ b = D) w1 U3 F3 w3) (hφ : (clRes E l D rec bx (bN bx st.t) a.tmps ch).φ F3 U3 w3.heap) (hnd : (ch.map (·.1)).Nodup) (hbx : cz bx ch) (hb0 : ∀ k ∈ bx, ∃ cs, (k, .box cs) ∈ st.ch) :
    ∃ E', Holds P cx E' U3 { a with defers := markD D :: a.defers } (w3.putObj l o) ⟨bN bx st.t, ch⟩ := by
  obtain ⟨Ec, h1, h2, h3, h4, h5, h6, h7, h8, h9⟩ := hφ
  obtain ⟨v1, v2, v3, v4, v5⟩ := hw1
  have hlD : l ≠ D := by omega
  have hl3 := lt_of_getElem? h7
  have hne : ∀ b, b ≠ l → (w3.putObj l o).heap[b]? = w3.heap[b]? := fun b hb => World.putObj_heap_other hb
  have hUl : ∀ b, U3 b → b ≠ l := fun b hb e => hm.out l h4 (e ▸ hb)
  have hU : ∀ b, U3 b → U3 b ∧ (w3.putObj l o).heap[b]? = w3.heap[b]? := fun b hb => ⟨hb, hne b (hUl b hb)⟩
  have hF1 : ∀ b, ((∃ k c, (k, c) ∈ st.ch ∧ (E k).fp b) ∨ b = l ∨ b = D) → cx.w0.heap.size ≤ b ∨ cx.X b := fun b hb => by
    have := hh.size
    rcases hb with ⟨k, c, g1, g2⟩ | rfl | rfl
    · exact hh.live k c g1 b g2
    · exact .inl (by omega)
    · exact .inl (by omega)
  have hold : ∀ b, b < w.heap.size → (∀ k c, (k, c) ∈ st.ch → ¬ (E k).fp b) → (w3.putObj l o).heap[b]? = w.heap[b]? := fun b hb hn => by
    rw [hne b (by omega), hm.rest b (by omega) (by rintro (⟨k, c, g1, g2⟩ | g | g); exact hn k c g1 g2; omega; omega)]
    exact v5 b hb
  have hkeep : ∀ b, U b → U3 b ∧ (w3.putObj l o).heap[b]? = w.heap[b]? := fun b hb => by
    have hlt := hh.inv.lt b hb
    exact ⟨(hm.keep b hb).1, (hne b (by omega)).trans ((hm.keep b hb).2.trans (v5 b hlt))⟩
  have hidden : ∀ b o', HidB E U w.heap st.ch b o' → HidB Ec U3 (w3.putObj l o).heap ch b o' := fun b o' ⟨g1, g2, g3⟩ => by
    have hlt := lt_of_getElem? g1
    have hnF : ¬ ((∃ k c, (k, c) ∈ st.ch ∧ (E k).fp b) ∨ b = l ∨ b = D) := by rintro (⟨k, c, q1, q2⟩ | q | q); exact g3 k c q1 q2; omega; omega
    refine ⟨(hold b hlt g3).trans g1, fun hu => ?_, fun k c hk hf => ?_⟩
    · rcases hm.newU b hu with q | q | q
      · exact g2 q
      · omega
      · exact hnF q
    · rcases hm.live b (h3 k c hk b hf).1 with q | q
      · omega
      · exact hnF q
  have hfp : ∀ k c, (k, c) ∈ ch → ∀ b, (Ec k).fp b → F3 b ∧ b ≠ l := fun k c hk b hb => ⟨(h3 k c hk b hb).1, (h3 k c hk b hb).2.1⟩
  refine ⟨Ec, hh.sz, ?_, fun i => ?_, ⟨hnd, fun k c hk => (h1 k c hk).same hU (fun b hb => hne b (hfp k c hk b hb).2), h2, fun k c hk b hb => hm.out b (hfp k c hk b hb).1, fun k c hk b hb => by rw [World.putObj_size]; exact hm.fpl b (hfp k c hk b hb).1, fun b hb => by rw [World.putObj_size]; exact hm.lt b hb⟩,
    hm.os.trans (v1.trans hh.os), hm.tape.trans (v2.trans hh.tape), hm.output.trans (v3.trans hh.output), ?_, fun b hb hx => ?_, fun b hb => ?_, fun k c hk b hb => ?_, fun b hb => ?_, fun k cs hk hm' => ?_, fun p hp => hidden _ _ (hh.hid p hp), hh.gok.mono hkeep⟩
  · obtain ⟨Ds, d1, d2, d3⟩ := hh.df
    refine ⟨D :: Ds, by rw [List.map_cons, ← d1], List.nodup_cons.2 ⟨fun hm' => ?_, d2⟩, fun D' hD' => ?_⟩
    · have := lt_of_getElem? (d3 D hm').2.1
      omega
    · rcases List.mem_cons.1 hD' with e | e
      · subst e
        refine ⟨by have := hh.size; omega, (hne D' (Ne.symm hlD)).trans h8, hm.out D' h5, fun k c hk hf => (h3 k c hk D' hf).2.2 rfl⟩
      · exact ⟨(d3 D' e).1, hidden _ _ (d3 D' e).2⟩
  · have := h9 i
    rcases gt_fixT bx st.t i with e | ⟨e, ep⟩
    · show Rep _ _ _ (gt (bN bx st.t) i) _
      rw [e]; exact .d (.any _)
    · exact (this.fixed (by rw [e]; exact ep) h6).same hU
  · rw [World.putObj_size]; have := hm.size; have := hh.size; omega
  · have hlt := hh.size
    rw [hold b (by omega) (fun k c hk hf => by
      rcases hh.live k c hk b hf with q | q
      · omega
      · exact hx q)]
    exact hh.fr b hb hx
  · have := hkeep b (hh.keepA b hb).1
    exact ⟨this.1, this.2.trans (hh.keepA b hb).2⟩
  · rcases hm.live b (hfp k c hk b hb).1 with q | q
    · have := hh.size; exact .inl (by omega)
    · exact hF1 b q
  · rcases hm.newU b hb with q | q | q
    · exact hh.base b q
    · have := hh.size; exact .inr (.inl (by omega))
    · exact .inr (hF1 b q)
  · have hkb := onlyBx_spec hbx.2 k cs hm' (Cx.fx_ge hk)
    obtain ⟨cs0, hc0⟩ := hb0 k hkb
    exact (h6 k hkb).trans (hh.fix k cs0 hk hc0)
theorem S_rangeFunc {cx : Cx} {Q : ASt → Prop} {k : List It} {st : ASt} {g : Operand} {ps : List Nat} {assign body : AC} {f : FuncId} {first caps : List C} {ich : Chs} {kr : Nat} {vals : Nat → List C} {N : Nat} {fin : Bool} (bx : List Nat) (sh : Nat → Chs)
    (hro : cx.ro = none) (hg : cq (cU P st.t g) = some (f, first, caps)) (hit : ItC P f first caps ich kr vals N fin) (hich : ay (kr :: aL ich) ∧ aA ich st.ch) (hkc : (∀ c ∈ first ++ caps, keysIn (aL ich) c) ∧ ∀ k c, (k, c) ∈ ich → keysCh (aL ich) c)
    (hsh0 : aA (sh 0) st.ch ∧ aQ (aL (sh 0)) (aL ich)) (hshn : ∀ i, i ≤ N → ay (aL (sh i)) ∧ cz bx (sh i)) (hbig : ∀ k ∈ bx, 100000 ≤ k ∧ k < cx.hi + 100000)
    (hvl : ∀ i, i < N → (vals i).length = ps.length ∧ ∀ c ∈ vals i, keysIn [] c)
    (hround : ∀ i, i < N → ∀ cx', cx'.n = cx.n → cx'.hi = cx.hi + 100000 → SG P cx' (fun _ => False) [.c assign, .post (fun st1 => ∀ cx'', cx''.n = cx.n → cx''.hi = cx.hi + 100000 →
      SG P cx'' (fun _ => False) [.c body, .rnd (fun st' => (i + 1 < N ∨ fin = true) ∧ aA (sh (i + 1)) st'.ch) (fun j st' => cz bx st'.ch ∧ aM P cx Q k (bN bx st.t) j st'.ch)] st1)] ⟨a4 (bN bx st.t) ps (vals i), sh i⟩)
    (hend : fin = true → SG P cx Q k ⟨bN bx st.t, sh N⟩) : SG P cx Q (.c (.rangeFunc g ps assign body) :: k) st := S_code fun code hc E U a w hh => by
  cases code <;> simp only [compC, reduceCtorEq] at hc
  rename_i g' ps' x y
  split at hc
  · rename_i hps
    simp only [Option.bind_eq_some_iff, Option.map_eq_some_iff] at hc
    obtain ⟨a', c1, b', c2, c3⟩ := hc
    cases c3
    have hbs : ∀ i, i ≤ N → ∀ k ∈ bx, ∃ cs, (k, .box cs) ∈ sh i := fun i hi => boxesIn_spec (hshn i hi).2.1
    obtain ⟨fv, cv, hev, hl1, hr1, hl2, hr2⟩ := fnOf_rep hg (hh.ev g)
    refine wpIn_rangeFunc (fun fn _ => ?_)
    have hround0 : (FW cx.ro).round = none := by rw [hro]; rfl
    rw [hround0]
    obtain ⟨rec, hrec⟩ : ∃ rec : LoopState → Option Code → Loop, rec = fun s p => { state := s, pending := p, fn, tmps := a.tmps, params := ps', assign := x, body := y, defers := w.heap.size } := ⟨_, rfl⟩
    generalize hW1 : (w.alloc (.deferred (some []))).alloc (.loop (rec .ready none)) = W1
    have hsize1 : W1.heap.size = w.heap.size + 2 := by rw [← hW1]; simp [World.size_alloc]
    have hL1 : W1.heap[w.heap.size + 1]? = some (.loop (rec .ready none)) := by
      rw [← hW1]; have := World.alloc_heap_new (w.alloc (.deferred (some []))) (.loop (rec .ready none)); rwa [World.size_alloc] at this
    have hD1 : W1.heap[w.heap.size]? = some (.deferred (some [])) := by
      rw [← hW1]
      show ((w.heap.push (.deferred (some []))).push (.loop (rec .ready none)))[w.heap.size]? = _
      rw [Array.getElem?_push, if_neg (by simp), Array.getElem?_push, if_pos rfl]
    have hold1 : ∀ b, b < w.heap.size → W1.heap[b]? = w.heap[b]? := fun b hb => by
      rw [← hW1]
      show ((w.heap.push (.deferred (some []))).push (.loop (rec .ready none)))[b]? = _
      rw [Array.getElem?_push, if_neg (by simp; omega), Array.getElem?_push, if_neg (by omega)]
    have hos1 : W1.os = w.os ∧ W1.tape = w.tape ∧ W1.output = w.output := by rw [← hW1]; exact ⟨rfl, rfl, rfl⟩
    have hkeep1 : ∀ b, U b → U b ∧ W1.heap[b]? = w.heap[b]? := fun b hb => ⟨hb, hold1 b (hh.inv.lt b hb)⟩
    let l := w.heap.size + 1
    let D := w.heap.size
    let J := aM P cx Q k (bN bx st.t)
    let R : Nat → Res := fun i => clRes E l D (rec .ready none) bx (bN bx st.t) a.tmps (sh i)
    let Rf : Res := endRes J E l D (fun j => rec .done j) bx (bN bx st.t) a.tmps
    have htp : ∀ j, ap bx (gt (bN bx st.t) j) = true := fun j => by
      rcases gt_fixT bx st.t j with e | ⟨e, ep⟩
      · rw [e]; rfl
      · rw [e]; exact ep
    have hy : ∀ i, i < N → YAt P l (vals i) (R i) (if i + 1 < N ∨ fin = true then some (R (i + 1)) else none) Rf := fun i hi => by
      refine round_ok (n := cx.n) (hi := cx.hi + 100000) (assign := assign) (body := body) (N' := fun st' => (i + 1 < N ∨ fin = true) ∧ aA (sh (i + 1)) st'.ch) cx.hn hrec (by rw [← keysOf_eq]; exact keysNd_nodup (hshn i (by omega)).1) (hshn i (by omega)).2 hbig (by show w.heap.size + 1 ≠ w.heap.size; omega) hh.sz
        (fun p hp => by simpa using Array.all_eq_true'.1 hps p (by simpa using hp)) (hvl i hi).1 (hvl i hi).2 htp c1 c2 (hround i hi) (fun st' hst => ?_)
      refine ⟨sh (i + 1), by rw [← keysOf_eq]; exact keysNd_nodup (hshn (i + 1) (by omega)).1, (hshn (i + 1) (by omega)).2, fun k c hm => lk_mem (subChs_spec hst.2 (k, c) hm), ?_⟩
      rw [if_pos hst.1]
    have hF := hit l R Rf hy
    let F0 : Nat → Prop := fun b => (∃ k c, (k, c) ∈ sh 0 ∧ (E k).fp b) ∨ b = l ∨ b = D
    let xr : KE := { E kr with fp := F0 }
    let E1 := updE E kr xr
    have hE1 : ∀ k ∈ aL ich, E1 k = E k := fun k hk => updE_other E xr (fun e => by
      have := (keysNd_nodup hich.1)
      exact (List.nodup_cons.1 this).1 (e ▸ hk))
    have hsub0 : ∀ k c, (k, c) ∈ sh 0 → (k, c) ∈ st.ch := fun k c hm => lk_mem (subChs_spec hsh0.1 (k, c) hm)
    have hsubI : ∀ k c, (k, c) ∈ ich → (k, c) ∈ st.ch := fun k c hm => lk_mem (subChs_spec hich.2 (k, c) hm)
    have hkI : ∀ k c, (k, c) ∈ ich → k ∈ aL ich := fun k c hm => by rw [keysOf_eq]; exact List.mem_map.2 ⟨_, hm, rfl⟩
    have hk0 : ∀ k c, (k, c) ∈ sh 0 → k ∈ aL (sh 0) := fun k c hm => by rw [keysOf_eq]; exact List.mem_map.2 ⟨_, hm, rfl⟩
    have hargs : ArgsR E1 U W1.heap (first ++ [.s (.func (.yield l) #[] #[])] ++ caps) (fv ++ #[.func (.yield l) #[] #[]] ++ cv) := by
      have up : ∀ c v, Rep E U w.heap c v → c ∈ first ++ caps → Rep E1 U W1.heap c v := fun c v hr hc => ((hr.same hkeep1).env (hkc.1 c hc) hE1)
      refine ⟨by simp only [Array.size_append, List.length_append, hl1, hl2]; rfl, fun j c hj => ?_⟩
      simp only [Array.getD_eq_getD_getElem?]
      rw [List.append_assoc, List.getElem?_append] at hj
      rw [Array.append_assoc, Array.getElem?_append, hl1]
      split at hj
      · rename_i hlt
        rw [if_pos hlt]
        have := up c _ (hr1 j c hj) (List.mem_append.2 (.inl (List.mem_of_getElem? hj)))
        simpa [Array.getD_eq_getD_getElem?] using this
      · rename_i hlt
        rw [if_neg hlt, Array.getElem?_append]
        rw [List.getElem?_append] at hj
        by_cases h2 : j - first.length < 1
        · have h0 : j - first.length = 0 := by omega
          rw [if_pos (by simpa using h2)] at hj
          rw [if_pos (by simpa using h2)]
          simp [h0] at hj ⊢
          subst hj
          exact .d (.s _)
        · rw [if_neg (by simpa using h2)] at hj
          rw [if_neg (by simpa using h2)]
          have := up c _ (hr2 _ c hj) (List.mem_append.2 (.inr (List.mem_of_getElem? hj)))
          simpa [Array.getD_eq_getD_getElem?] using this
    have hF0 : ∀ b, F0 b → (∃ k c, (k, c) ∈ st.ch ∧ (E k).fp b) ∨ b = l ∨ b = D := fun b hb => by
      rcases hb with ⟨k, c, g1, g2⟩ | g
      · exact .inl ⟨k, c, hsub0 k c g1, g2⟩
      · exact .inr g
    have hF0U : ∀ b, F0 b → ¬ U b := fun b hb hu => by
      have hlt := hh.inv.lt b hu
      rcases hF0 b hb with ⟨k, c, g1, g2⟩ | g | g
      · exact hh.inv.out k c g1 b g2 hu
      · have : b = w.heap.size + 1 := g; omega
      · have : b = w.heap.size := g; omega
    have hF0l : ∀ b, F0 b → b < W1.heap.size := fun b hb => by
      rcases hF0 b hb with ⟨k, c, g1, g2⟩ | g | g
      · have := hh.inv.fpl k c g1 b g2; omega
      · have : b = w.heap.size + 1 := g; omega
      · have : b = w.heap.size := g; omega
    have hφ0 : (R 0).φ F0 U W1.heap := by
      refine ⟨E, fun k c hm => (hh.inv.ok k c (hsub0 k c hm)).same hkeep1 (fun b hb => hold1 b (hh.inv.fpl k c (hsub0 k c hm) b hb)), fun k c k' c' hm hm' => hh.inv.sep k c k' c' (hsub0 k c hm) (hsub0 k' c' hm'), fun k c hm b hb => ⟨.inl ⟨k, c, hm, hb⟩, ?_, ?_⟩, .inr (.inl rfl), .inr (.inr rfl), fun k hk => rfl, hL1, hD1, fun j => ?_⟩
      · have := hh.inv.fpl k c (hsub0 k c hm) b hb; show b ≠ w.heap.size + 1; omega
      · have := hh.inv.fpl k c (hsub0 k c hm) b hb; show b ≠ w.heap.size; omega
      · rcases gt_fixT bx st.t j with e | ⟨e, ep⟩
        · rw [e]; exact .d (.any _)
        · rw [e]; exact (hh.tok j).same hkeep1
    have hinv1 : Inv E1 U W1.heap ((kr, .res (R 0)) :: ich) := by
      have hnd := keysNd_nodup hich.1
      have hne : ∀ k c, (k, c) ∈ ich → k ≠ kr := fun k c hm e => (List.nodup_cons.1 hnd).1 (e ▸ hkI k c hm)
      have hEk : E1 kr = xr := updE_same E kr xr
      have hfpI : ∀ k c, (k, c) ∈ ich → ∀ b, (E1 k).fp b → (E k).fp b := fun k c hm b hb => by rw [hE1 k (hkI k c hm)] at hb; exact hb
      have hsepI : ∀ k c, (k, c) ∈ ich → ∀ b, (E k).fp b → ¬ F0 b := fun k c hm b hb hf => by
        have hlt := hh.inv.fpl k c (hsubI k c hm) b hb
        rcases hf with ⟨k', c', g1, g2⟩ | g | g
        · have hkk : k ≠ k' := fun e => apartN_spec hsh0.2 k' (hk0 k' c' g1) (e ▸ hkI k c hm)
          exact hh.inv.sep k c k' c' (hsubI k c hm) (hsub0 k' c' g1) hkk b hb g2
        · have : b = w.heap.size + 1 := g; omega
        · have : b = w.heap.size := g; omega
      refine ⟨by rw [keysOf_eq] at hnd; exact hnd, fun k c hm => ?_, fun k c k' c' hm hm' hne' b hb hb' => ?_, fun k c hm b hb => ?_, fun k c hm b hb => ?_, fun b hb => by have := hh.inv.lt b hb; omega⟩
      · rcases List.mem_cons.1 hm with e | e
        · cases e
          show (R 0).φ (E1 kr).fp U W1.heap
          rw [hEk]; exact hφ0
        · have := (hh.inv.ok k c (hsubI k c e)).same hkeep1 (fun b hb => hold1 b (hh.inv.fpl k c (hsubI k c e) b hb))
          exact this.env (hkI k c e) (hkc.2 k c e) hE1
      · rcases List.mem_cons.1 hm with e | e <;> rcases List.mem_cons.1 hm' with e' | e'
        · cases e; cases e'; exact hne' rfl
        · cases e; rw [hEk] at hb; exact hsepI k' c' e' b (hfpI k' c' e' b hb') hb
        · cases e'; rw [hEk] at hb'; exact hsepI k c e b (hfpI k c e b hb) hb'
        · exact hh.inv.sep k c k' c' (hsubI k c e) (hsubI k' c' e') hne' b (hfpI k c e b hb) (hfpI k' c' e' b hb')
      · rcases List.mem_cons.1 hm with e | e
        · cases e; rw [hEk] at hb; exact hF0U b hb
        · exact hh.inv.out k c (hsubI k c e) b (hfpI k c e b hb)
      · rcases List.mem_cons.1 hm with e | e
        · cases e; rw [hEk] at hb; exact hF0l b hb
        · have := hh.inv.fpl k c (hsubI k c e) b (hfpI k c e b hb); omega
    have hcall := hF.2 E1 U _ W1 (hh.gok.mono hkeep1) hargs hinv1
    refine ⟨w.heap.size + 1, [{ target := .collected w.heap.size, args := #[] }], W1, { target := .fn (.func f) cv, args := fv ++ #[.func (.yield (w.heap.size + 1)) #[] #[]] }, W1, f, fv ++ #[.func (.yield (w.heap.size + 1)) #[] #[]] ++ cv, W1, ?_, ?_, fun _ _ => trivial, ?_, fun h => by simp [FW, Fence.wide] at h, ?_⟩
    · rw [← hW1, hrec]; exact run_enterLoop_outer _ _ _ _ _
    · simp only [resolve, hev]
      simp [go_sem]
    · simp only [invoke, run_callFunc hF.1]
    · refine callsIn_FW (hcall.mono fun e w3 h => ?_)
      obtain ⟨o, ho, v, E', U', rfl, _, hce⟩ := h
      have hmv : ∀ Rz, o.2 = [(kr, .res Rz)] → Rz.φ (E' kr).fp U' w3.heap ∧ Moved U (fun b => (∃ k c, (k, c) ∈ st.ch ∧ (E k).fp b) ∨ b = l ∨ b = D) W1 U' (E' kr).fp w3 := fun Rz hz => by
        have hkm : (kr, Ch.res Rz) ∈ o.2 := by rw [hz]; simp
        have hfps : ∀ b, (∃ k0 c0, (k0, c0) ∈ (kr, Ch.res (R 0)) :: ich ∧ (E1 k0).fp b) → (∃ k c, (k, c) ∈ st.ch ∧ (E k).fp b) ∨ b = l ∨ b = D := fun b ⟨k0, c0, g1, g2⟩ => by
          rcases List.mem_cons.1 g1 with e | e
          · cases e
            have : (E1 kr).fp = F0 := by show (updE E kr xr kr).fp = F0; rw [updE_same]
            rw [this] at g2
            exact hF0 b g2
          · rw [hE1 k0 (hkI k0 c0 e)] at g2; exact .inl ⟨k0, c0, hsubI k0 c0 e, g2⟩
        refine ⟨hce.inv.ok kr _ hkm, hce.os, hce.tape, hce.output, hce.size, hce.keep, fun b hb hn => hce.rest b hb (fun k0 c0 g1 g2 => hn (hfps b ⟨k0, c0, g1, g2⟩)), fun b hb => ?_, fun b hb => ?_, hce.inv.out kr _ hkm, hce.inv.fpl kr _ hkm, hce.inv.lt⟩
        · rcases hce.live kr _ hkm b hb with q | q
          · exact .inl q
          · exact .inr (hfps b q)
        · rcases hce.newU b hb with q | q | q
          · exact .inl q
          · exact .inr (.inl q)
          · exact .inr (.inr (hfps b q))
      have hb0 : ∀ k ∈ bx, ∃ cs, (k, .box cs) ∈ st.ch := fun k hk => by
        obtain ⟨cs, hcs⟩ := hbs 0 (Nat.zero_le _) k hk
        exact ⟨cs, hsub0 k _ hcs⟩
      have hw1 : W1.os = w.os ∧ W1.tape = w.tape ∧ W1.output = w.output ∧ W1.heap.size = w.heap.size + 2 ∧ ∀ b, b < w.heap.size → W1.heap[b]? = w.heap[b]? := ⟨hos1.1, hos1.2.1, hos1.2.2, hsize1, hold1⟩
      rcases List.mem_cons.1 ho with e | e
      ·
        subst e
        obtain ⟨⟨jump, ch, n1, n2, n3, n4⟩, hm⟩ := hmv Rf rfl
        have hrl : w3.heap[l]? = some (.loop (rec .done (some jump))) := n4.choose_spec.2.2.2.2.2.2.1
        obtain ⟨Ez, hz⟩ := hh.after (o := .loop { rec .done (some jump) with state := .exhausted }) rfl rfl hw1 hm n4 n1 n2 hb0
        refine ⟨some jump, w3.putObj l (.loop { rec .done (some jump) with state := .exhausted }), ?_, ?_⟩
        · have := run_endLoop (P := P) hrl (by rw [hrec]; simp)
          rw [hrec] at this ⊢; exact this
        · show jump.wpIn (FW cx.ro) 0 P (WE P cx Q k) _ _
          cases jump with
          | exit id =>
            refine wpIn_exit ?_
            simp only [J, aM] at n3
            cases hk : bg id k with
            | cont k' => rw [hk] at n3; exact WE_exit k k' _ _ hk (n3 _ _ _ _ hz)
            | out p => rw [hk] at n3; exact WE_out k p _ _ hk ⟨_, _, _, hz, n3⟩
            | none => rw [hk] at n3; exact n3.elim
          | ret => exact wpIn_ret (WE_ret k _ _ ⟨_, _, _, hz, n3⟩)
          | _ => exact n3.elim
      · cases hfin : fin with
        | false => rw [hfin] at e; simp at e
        | true =>
          rw [hfin] at e
          simp only [if_true, List.mem_singleton] at e
          subst e
          obtain ⟨hφ, hm⟩ := hmv (R N) rfl
          have hrl : w3.heap[l]? = some (.loop (rec .ready none)) := hφ.choose_spec.2.2.2.2.2.2.1
          obtain ⟨Ez, hz⟩ := hh.after (o := .loop { rec .ready none with state := .exhausted }) rfl rfl hw1 hm hφ (by rw [← keysOf_eq]; exact keysNd_nodup (hshn N (Nat.le_refl _)).1) (hshn N (Nat.le_refl _)).2 hb0
          refine ⟨none, w3.putObj l (.loop { rec .ready none with state := .exhausted }), ?_, ?_⟩
          · have := run_endLoop (P := P) hrl (by rw [hrec]; simp)
            rw [hrec] at this ⊢; exact this
          · exact hend hfin _ _ _ _ hz
  · cases hc
end Go.Am
end
section
namespace Go.Am
open Dat (cells)
variable {P : Program} [Glob P] {cx : Cx} {Q : ASt → Prop} {k : List It} {st : ASt}
def cM (b : Nat) : List Nat → List (Nat × Nat)
  | [] => []
  | k :: ks => (k, b + k) :: cM b ks
def cB (ks : List Nat) (m : List (Nat × Nat)) : Slots → Slots
  | [] => []
  | (i, c) :: t => (i, match bv ks c with | true => bT m c | false => .any) :: cB ks m t
theorem rn_shM {b : Nat} : ∀ {ks : List Nat} {k : Nat}, k ∈ ks → rn (cM b ks) k = b + k
  | [], k, h => by simp at h
  | j :: ks, k, h => by
    simp only [rn, cM, lk]
    by_cases hj : j = k
    · rw [if_pos hj, hj]; rfl
    · rw [if_neg hj]
      have := rn_shM (b := b) (ks := ks) (k := k) (by rcases List.mem_cons.1 h with e | e; exact absurd e.symm hj; exact e)
      simpa only [rn] using this
theorem keysB_in {ks : List Nat} : ∀ c : C, bv ks c = true → keysIn ks c := by
  intro c
  have h : ∀ (n : Nat) (c : C), SizeOf.sizeOf c ≤ n → bv ks c = true → keysIn ks c := by
    intro n
    induction n with
    | zero => intro c hc; cases c <;> simp at hc
    | succ n ih =>
      intro c hc hk
      have hl : ∀ cs : List C, SizeOf.sizeOf cs ≤ n → bv.keysBs ks cs = true → keysIn.keysIns ks cs := by
        intro cs
        induction cs with
        | nil => intro _ _; trivial
        | cons x xs ihx =>
          intro hx hkx
          simp at hx
          simp only [bv.keysBs, Bool.and_eq_true] at hkx
          exact ⟨ih x (by omega) hkx.1, ihx (by omega) hkx.2⟩
      cases c with
      | agg cs => simp at hc; exact hl cs (by omega) hk
      | tup cs => simp at hc; exact hl cs (by omega) hk
      | fn f xs ys => simp at hc; simp only [bv, Bool.and_eq_true] at hk; exact ⟨hl xs (by omega) hk.1, hl ys (by omega) hk.2⟩
      | own k => exact memN_spec.1 hk
      | ptr k off => exact memN_spec.1 hk
      | eptr k i j => exact memN_spec.1 hk
      | inn k i => exact memN_spec.1 hk
      | iptr k i n j => exact memN_spec.1 hk
      | _ => trivial
  exact h _ c (Nat.le_refl _)
theorem gt_renT (ks : List Nat) (m : List (Nat × Nat)) : ∀ (t : Slots) (i : Nat), gt (cB ks m t) i = .any ∨ (gt (cB ks m t) i = bT m (gt t i) ∧ bv ks (gt t i) = true)
  | [], i => .inl rfl
  | (j, c) :: t, i => by
    have ih := gt_renT ks m t i
    simp only [gt, cB, lk] at ih ⊢
    by_cases hj : j = i
    · rw [if_pos hj, if_pos hj]
      cases hp : bv ks c with
      | true => exact .inr ⟨rfl, hp⟩
      | false => exact .inl rfl
    · rw [if_neg hj, if_neg hj]; exact ih
def cV (b : Nat) (s : ASt) : ASt := ⟨cB (aL s.ch) (cM b (aL s.ch)) s.t, aU (cM b (aL s.ch)) s.ch⟩
theorem Ghost.sh (b : Nat) (hb : cx.hi ≤ b) (hk : am (aL st.ch) st.ch = true) : Ghost P cx st (cV b st) := fun E U a w hh => by
  obtain ⟨ks, hks⟩ : ∃ ks, aL st.ch = ks := ⟨_, rfl⟩
  obtain ⟨m, hm⟩ : ∃ m, cM b ks = m := ⟨_, rfl⟩
  have hrn : ∀ k ∈ ks, rn m k = b + k := fun k hk => by rw [← hm]; exact rn_shM hk
  have hin : ∀ k c, (k, c) ∈ st.ch → k ∈ ks := fun k c h => by rw [← hks, keysOf_eq]; exact List.mem_map.2 ⟨_, h, rfl⟩
  let E' : Env := fun j => match ks.find? (fun k => rn m k == j) with | some k => E k | none => E j
  have hE : ∀ k ∈ ks, E' (rn m k) = E k := fun k hk => by
    simp only [E']
    cases hfnd : ks.find? (fun k' => rn m k' == rn m k) with
    | none =>
      have := List.find?_eq_none.1 hfnd k hk
      simp at this
    | some k' =>
      have h1 := List.find?_some hfnd
      have h2 := List.mem_of_find?_eq_some hfnd
      have h3 : rn m k' = rn m k := by simpa using h1
      rw [hrn k' h2, hrn k hk] at h3
      have : k' = k := by omega
      rw [this]
  have hch : ∀ k c, (k, c) ∈ aU m st.ch → ∃ k0 c0, (k0, c0) ∈ st.ch ∧ k = rn m k0 ∧ c = aT m c0 ∧ E' k = E k0 := fun k c h => by
    obtain ⟨k0, c0, h0, rfl, rfl⟩ := mem_renChs h
    exact ⟨k0, c0, h0, rfl, rfl, hE k0 (hin k0 c0 h0)⟩
  have hkc : ∀ k c, (k, c) ∈ st.ch → keysCh ks c := fun k c h => by
    cases c with
    | box cs => exact keysIns_of fun c hc => keysB_in c (by rw [← hks]; exact keysBch_all hk k cs h c hc)
    | _ => trivial
  have hid : ∀ D o, HidB E U w.heap st.ch D o → HidB E' U w.heap (aU m st.ch) D o := fun D o ⟨h1, h2, h3⟩ => ⟨h1, h2, fun k c h hf => by
    obtain ⟨k0, c0, h0, _, _, e⟩ := hch k c h
    rw [e] at hf
    exact h3 k0 c0 h0 hf⟩
  have e1 : cV b st = ⟨cB ks m st.t, aU m st.ch⟩ := by simp only [cV, hks, hm]
  rw [e1]
  refine ⟨E', U, hh.sz, ?_, fun i => ?_, ⟨?_, fun k c h => ?_, fun k c k' c' h h' hne x hx hx' => ?_, fun k c h x hx => ?_, fun k c h x hx => ?_, hh.inv.lt⟩, hh.os, hh.tape, hh.output, hh.size, hh.fr, hh.keepA, fun k c h x hx => ?_, hh.base, fun k cs hk h => ?_, fun p hp => hid _ _ (hh.hid p hp), hh.gok⟩
  · obtain ⟨Ds, h1, h2, h3⟩ := hh.df
    exact ⟨Ds, h1, h2, fun D hD => ⟨(h3 D hD).1, hid _ _ (h3 D hD).2⟩⟩
  · rcases gt_renT ks m st.t i with e | ⟨e, ek⟩
    · show Rep _ _ _ (gt (cB ks m st.t) i) _
      rw [e]; exact .d (.any _)
    · show Rep _ _ _ (gt (cB ks m st.t) i) _
      rw [e]; exact (hh.tok i).ren (keysB_in _ ek) hE
  · have e2 : (aU m st.ch).map (·.1) = ks.map (rn m) := by rw [renChs_eq, ← hks, keysOf_eq, List.map_map, List.map_map]; rfl
    rw [e2]
    refine nodup_map_of (by rw [← hks, keysOf_eq]; exact hh.inv.nd) (fun x hx y hy e => ?_)
    rw [hrn x hx, hrn y hy] at e; omega
  · obtain ⟨k0, c0, h0, rfl, rfl, e⟩ := hch k c h
    exact (hh.inv.ok k0 c0 h0).ren (hin k0 c0 h0) (hkc k0 c0 h0) hE
  · obtain ⟨k0, c0, h0, rfl, rfl, e⟩ := hch k c h
    obtain ⟨k1, c1, h1, rfl, rfl, e'⟩ := hch k' c' h'
    rw [e] at hx; rw [e'] at hx'
    exact hh.inv.sep k0 c0 k1 c1 h0 h1 (fun e => hne (by rw [e])) x hx hx'
  · obtain ⟨k0, c0, h0, rfl, rfl, e⟩ := hch k c h
    rw [e] at hx; exact hh.inv.out k0 c0 h0 x hx
  · obtain ⟨k0, c0, h0, rfl, rfl, e⟩ := hch k c h
    rw [e] at hx; exact hh.inv.fpl k0 c0 h0 x hx
  · obtain ⟨k0, c0, h0, rfl, rfl, e⟩ := hch k c h
    rw [e] at hx; exact hh.live k0 c0 h0 x hx
  · obtain ⟨k0, c0, h0, rfl, _, _⟩ := hch k _ h
    have h2 := hk.2
    rw [hrn k0 (hin k0 c0 h0)] at h2
    omega
theorem S_sh (b : Nat) (hb : cx.hi ≤ b) (hk : am (aL st.ch) st.ch = true) (h : SG P cx Q k (cV b st)) : SG P cx Q k st := S_ghost (Ghost.sh b hb hk) h
end Go.Am
end
section
namespace Go.Am
open Dat (cells)
variable {P : Program} [Glob P] {cx : Cx} {Q : ASt → Prop} {k : List It} {st : ASt}
def bh : C → C
  | .isl n _ es => .sl n es
  | c => c
theorem notIsl_unisl (c : C) : aC (bh c) = true := by cases c <;> rfl
theorem notIsl_subI {m : List (Nat × Sb)} (hm : NoIsl m) {c : C} (h : aC c = true) : aC (cn m c) = true := by
  cases c with
  | own k =>
    simp only [cn]
    cases hl : m.lookup k with
    | none => rfl
    | some s =>
      cases s with
      | c x => exact hm k x hl
      | inner => rfl
  | ptr k o => simp only [cn]; cases hl : m.lookup k with | none => rfl | some s => cases s <;> rfl
  | eptr k i j => simp only [cn]; cases hl : m.lookup k with | none => rfl | some s => cases s <;> rfl
  | inn k i => simp only [cn]; split <;> rfl
  | iptr k i n j => simp only [cn]; split <;> rfl
  | isl n t es => cases h
  | _ => rfl
def cF (kk : Nat) (cs : List C) (s : ASt) : ASt := ⟨bM [(kk, .inner)] s.t, (kk, .box ((cs.map bh).map (cn [(kk, .inner)]))) :: bF [(kk, .inner)] (bQ s.ch kk)⟩
theorem Ghost.fzb (kk : Nat) {cs : List C} (hl : lk st.ch kk = some (.box cs)) : Ghost P cx st (cF kk cs st) := fun E U a w hh => by
  have hkm := lk_mem hl
  have hi := hh.inv
  obtain ⟨⟨hnil, arr, ty, b1, b2, b3⟩, hf, hin⟩ := hi.ok kk _ hkm
  let x : KE := { E kk with fp := fun b => (E kk).nil = false ∧ (E kk).blk = b }
  let U' : Nat → Prop := fun b => U b ∨ ∃ i q, boxI cs i = some q ∧ ((E kk).inn i).nil = false ∧ ((E kk).inn i).blk = b
  have hinfp : ∀ b, (∃ i q, boxI cs i = some q ∧ ((E kk).inn i).nil = false ∧ ((E kk).inn i).blk = b) → (E kk).fp b := fun b h => (hf.fp b).2 (.inr h)
  have hkeep : ∀ b, U b → U' b ∧ w.heap[b]? = w.heap[b]? := fun b hb => ⟨.inl hb, rfl⟩
  have henv : ∀ k', [(kk, Sb.inner)].lookup k' = none → updE E kk x k' = E k' := fun k' h => by
    rw [look1] at h
    split at h
    · cases h
    · exact updE_other E x (by assumption)
  have henvI : ∀ k', [(kk, Sb.inner)].lookup k' = some .inner → (updE E kk x k').toKE0 = (E k').toKE0 := fun k' h => by
    rw [look1] at h
    split at h
    · have e : k' = kk := by assumption
      subst e; rw [updE_same]
    · cases h
  have hsub : ∀ k' c', [(kk, Sb.inner)].lookup k' = some (.c c') → ∀ v, Rep E U w.heap (.own k') v → Rep (updE E kk x) U' w.heap c' v := fun k' c' h => by
    rw [look1] at h; split at h <;> cases h
  have hno : NoIsl [(kk, Sb.inner)] := fun k' x' h => by rw [look1] at h; split at h <;> cases h
  have hrep : ∀ c v, Rep E U w.heap c v → Rep (updE E kk x) U' w.heap (cn [(kk, .inner)] c) v := fun c v hr => hr.mono hkeep henv henvI hsub
  have hd : ∀ c, (kk, c) ∉ bQ st.ch kk := fun c => not_mem_delA hi.nd
  have hmem : ∀ k' c, (k', c) ∈ bQ st.ch kk → (k', c) ∈ st.ch ∧ k' ≠ kk := fun k' c h => ⟨mem_delA h, fun e => hd c (e ▸ h)⟩
  have hbI : boxI ((cs.map bh).map (cn [(kk, .inner)])) = noI := boxI_none fun j c hj => by
    simp only [List.getElem?_map, Option.map_eq_some_iff] at hj
    obtain ⟨c1, ⟨c0, _, rfl⟩, rfl⟩ := hj
    exact notIsl_subI hno (notIsl_unisl c0)
  have hok : ChOk (updE E kk x) U' w.heap kk (.box ((cs.map bh).map (cn [(kk, .inner)]))) := by
    simp only [ChOk, updE_same, hbI]
    refine ⟨⟨hnil, arr, ty, b1, by simpa using b2, fun j c hj => .inl ?_⟩, ⟨fun b => ⟨fun h => .inl h, fun h => by rcases h with h | ⟨i, q, h, _⟩; exact h; cases h⟩, fun i q h => (by cases h), fun i j q q' _ h => (by cases h)⟩, fun i n t es h => by cases h⟩
    simp only [List.getElem?_map, Option.map_eq_some_iff] at hj
    obtain ⟨c1, ⟨c0, h0, rfl⟩, rfl⟩ := hj
    rcases b3 j c0 h0 with ⟨r1, r2⟩ | ⟨⟨n, t, es, rfl⟩, r2⟩
    · have hni := notIsl_of_rep r1
      have : bh c0 = c0 := by cases c0 <;> first | rfl | cases hni
      rw [this]
      exact ⟨hrep _ _ r1, r2⟩
    · have hI : boxI cs j = some (n, t, es) := by simp only [boxI, h0, islOf]
      refine ⟨?_, by rw [r2]; exact slV_one _⟩
      rw [r2]
      exact .d (row_data (hin j n t es hI) hkeep (fun hn => ⟨.inr ⟨j, _, hI, hn, rfl⟩, rfl⟩))
  have he := Ev.gen (w1 := w) (E' := updE E kk x) (U' := U') (news := [(kk, .box ((cs.map bh).map (cn [(kk, .inner)])))]) (old := bQ st.ch kk) (d := 0) hi rfl rfl rfl (Nat.le_refl _) (delA_sub st.ch kk) hkeep henv henvI hsub (fun k' c h => updE_other E x (hmem k' c h).2)
    (fun _ _ _ _ _ => rfl) (fun _ _ _ => rfl) (by simp) (fun k' c h => ?_) (fun k' c h => ?_) (fun k' c h b hb => ?_) (fun k' c h b hb => ?_)
    (fun k1 x1 k2 x2 h1 h2 hne => ?_) (fun b hb => ?_) (fun k' c h b hb hu => ?_) (fun b hb => ?_) (fun k' cs' h => ?_)
  · exact ⟨_, _, hh.ghost (by decide) he⟩
  · simp only [List.mem_singleton, Prod.mk.injEq] at h; obtain ⟨rfl, rfl⟩ := h; exact hd
  · simp only [List.mem_singleton, Prod.mk.injEq] at h; obtain ⟨rfl, rfl⟩ := h; exact hok
  · simp only [List.mem_singleton, Prod.mk.injEq] at h; obtain ⟨rfl, rfl⟩ := h; rw [updE_same] at hb; exact .inr ⟨_, _, hkm, hd, (hf.fp b).2 (.inl hb)⟩
  · simp only [List.mem_singleton, Prod.mk.injEq] at h; obtain ⟨rfl, rfl⟩ := h; rw [updE_same] at hb; exact hi.fpl _ _ hkm b ((hf.fp b).2 (.inl hb))
  · simp only [List.mem_singleton, Prod.mk.injEq] at h1 h2; exact absurd (h1.1.trans h2.1.symm) hne
  · rcases hb with hb | hb
    · exact .inl hb
    · exact .inr (.inr ⟨_, _, hkm, hd, hinfp b hb⟩)
  · simp only [List.mem_singleton, Prod.mk.injEq] at h; obtain ⟨rfl, rfl⟩ := h; rw [updE_same] at hb
    rcases hu with hu | ⟨i, q, h1, h2, h3⟩
    · exact hi.out _ _ hkm b ((hf.fp b).2 (.inl hb)) hu
    · exact hf.ne i q h1 h2 hb.1 (h3.trans hb.2.symm)
  · rcases hb with hb | hb
    · exact hi.lt b hb
    · exact hi.fpl _ _ hkm b (hinfp b hb)
  · simp only [List.mem_singleton, Prod.mk.injEq] at h; obtain ⟨rfl, _⟩ := h
    exact .inr ⟨⟨cs, hkm⟩, by rw [updE_same]⟩
theorem S_fzb (kk : Nat) {cs : List C} (hl : lk st.ch kk = some (.box cs)) (h : SG P cx Q k (cF kk cs st)) : SG P cx Q k st := S_ghost (Ghost.fzb kk hl) h
end Go.Am
end
section
namespace Go.Am
open Dat (cells)
open Ieee
def IsD (d : Datum) (n : Int) : Prop := ∃ (s : Bool) (k : Nat) (e : Nat), d = .number s (k * 2 ^ e) (-(e : Int)) ∧ n = if s then -(k : Int) else (k : Int)
def IsF (x : Nat) (n : Int) : Prop := IsD (FloatKind.f64.format.read x) n
theorem log2_mul_pow {k : Nat} (hk : k ≠ 0) (d : Nat) : (k * 2 ^ d).log2 = k.log2 + d := by
  have h : k * 2 ^ d ≠ 0 := Nat.mul_ne_zero hk (by have := Nat.two_pow_pos d; omega)
  apply Nat.le_antisymm
  · have := (Nat.log2_lt (k := k.log2 + d + 1) h).2 (by
      have h1 := Nat.lt_log2_self (n := k)
      have : 2 ^ (k.log2 + d + 1) = 2 ^ (k.log2 + 1) * 2 ^ d := by rw [← Nat.pow_add]; congr 1; omega
      rw [this]
      exact Nat.mul_lt_mul_of_pos_right h1 (Nat.two_pow_pos d))
    omega
  · rw [Nat.le_log2 h, Nat.pow_add]
    exact Nat.mul_le_mul_right _ (Nat.log2_self_le hk)
theorem cut_mul (way : Toward) (s : Bool) (k d : Nat) : way.cut s (k * 2 ^ d) d = k := by
  by_cases hk : k = 0
  · subst hk
    unfold Toward.cut
    simp only [Nat.zero_mul, Nat.zero_div, Nat.zero_mod]
    cases way <;> simp
  · have hl := log2_mul_pow hk d
    unfold Toward.cut
    have hm : min d ((k * 2 ^ d).log2 + 2) = d := by omega
    have hp := Nat.two_pow_pos d
    simp only [hm, Nat.shiftLeft_eq, Nat.one_mul, Nat.mul_div_cancel _ hp, Nat.mul_mod_left]
    cases way <;> simp
theorem read_eq (x : Nat) : double.read x = (if x % 9223372036854775808 < 4503599627370496 then .number (x / 9223372036854775808 % 2 == 1) (x % 9223372036854775808) (-1074)
    else if x % 9223372036854775808 < 9218868437227405312 then .number (x / 9223372036854775808 % 2 == 1) (4503599627370496 + x % 9223372036854775808 % 4503599627370496) (-1074 + (x % 9223372036854775808 / 4503599627370496 - 1 : Nat))
    else if x % 9223372036854775808 = 9218868437227405312 then .infinity (x / 9223372036854775808 % 2 == 1) else .nan (x / 9223372036854775808 % 2 == 1) (x % 9223372036854775808 - 9218868437227405312)) := by
  have hlp : Ieee.double.leastPlace = -1074 := by decide
  have hbi : Ieee.double.binade = 4503599627370496 := by decide
  have hin : Ieee.double.infRung = 9218868437227405312 := by decide
  have hsw : Ieee.double.signWeight = 9223372036854775808 := by decide
  unfold Format.read
  rw [hlp, hbi, hin, hsw]
theorem nearest_read (s : Bool) (k e : Nat) (hk : k < 9007199254740992) : IsD (Ieee.double.read (Ieee.double.nearest s (k * 2 ^ e) (-(e : Int)))) (if s then -(k : Int) else (k : Int)) := by
  have hlp : Ieee.double.leastPlace = -1074 := by decide
  have hbi : Ieee.double.binade = 4503599627370496 := by decide
  have hin : Ieee.double.infRung = 9218868437227405312 := by decide
  have hsw : Ieee.double.signWeight = 9223372036854775808 := by decide
  have hfb : Ieee.double.fractionBits = 52 := rfl
  by_cases h0 : k = 0
  · subst h0
    refine ⟨s, 0, 1074, ?_, by simp⟩
    unfold Format.nearest
    rw [read_eq, Nat.zero_mul, if_pos rfl]
    unfold Format.word
    rw [hsw]
    cases s <;> simp [-Nat.reducePow, -Int.reducePow]
  · have hm0 : k * 2 ^ e ≠ 0 := Nat.mul_ne_zero h0 (by have := Nat.two_pow_pos e; omega)
    have hL : k.log2 ≤ 52 := by
      have := (Nat.log2_lt (k := 53) h0).2 (by simpa using hk)
      omega
    have hlog := log2_mul_pow h0 e
    obtain ⟨f, hf⟩ : ∃ f, k.log2 + f = 52 := ⟨52 - k.log2, by omega⟩
    have hlast : max (-(e : Int) + ((k * 2 ^ e).log2 : Int) - (52 : Nat)) (-1074) = -(f : Int) := by rw [hlog]; push_cast; omega
    have hK1 : 4503599627370496 ≤ k * 2 ^ f := by
      have h1 := Nat.log2_self_le h0
      have h2 := Nat.mul_le_mul_right (2 ^ f) h1
      rw [← Nat.pow_add, hf] at h2
      exact h2
    have hK2 : k * 2 ^ f < 9007199254740992 := by
      have h1 := Nat.lt_log2_self (n := k)
      have h2 := Nat.mul_lt_mul_of_pos_right h1 (Nat.two_pow_pos f)
      rw [← Nat.pow_add, show k.log2 + 1 + f = 53 by omega] at h2
      exact h2
    have hkept : Toward.even.cut s ((k * 2 ^ e) <<< (-(e : Int) - -(f : Int)).toNat) (-(f : Int) - -(e : Int)).toNat = k * 2 ^ f := by
      have e1 : (-(e : Int) - -(f : Int)).toNat = f - e := by omega
      have e2 : (-(f : Int) - -(e : Int)).toNat = e - f := by omega
      rw [e1, e2, Nat.shiftLeft_eq, Nat.mul_assoc, ← Nat.pow_add]
      by_cases hd : e ≤ f
      · rw [show e + (f - e) = f by omega, show e - f = 0 by omega]
        simpa using cut_mul .even s (k * 2 ^ f) 0
      · rw [show e + (f - e) = f + (e - f) by omega, Nat.pow_add, ← Nat.mul_assoc]
        exact cut_mul .even s (k * 2 ^ f) (e - f)
    refine ⟨s, k, f, ?_, rfl⟩
    unfold Format.nearest
    rw [if_neg hm0, hfb, hlp, hlast]
    dsimp only
    rw [hkept, hbi, hin]
    have hf52 : f ≤ 52 := by omega
    generalize k * 2 ^ f = K at hK1 hK2 ⊢
    clear hkept hlast hL hlog hm0 h0 hf hk hlp hbi hin hfb
    have hr : (-(f : Int) - -1074).toNat = 1074 - f := by omega
    rw [hr]
    have hmin : min ((1074 - f) * 4503599627370496 + K) 9218868437227405312 = (1074 - f) * 4503599627370496 + K := by
      apply Nat.min_eq_left
      omega
    rw [hmin]
    rw [read_eq]
    unfold Format.word
    rw [hsw]
    have hR : (1074 - f) * 4503599627370496 + K < 9223372036854775808 := by omega
    have hs1 : (if s then 9223372036854775808 + ((1074 - f) * 4503599627370496 + K) else (1074 - f) * 4503599627370496 + K) / 9223372036854775808 % 2 = if s then 1 else 0 := by cases s <;> simp <;> omega
    have hs2 : (if s then 9223372036854775808 + ((1074 - f) * 4503599627370496 + K) else (1074 - f) * 4503599627370496 + K) % 9223372036854775808 = (1074 - f) * 4503599627370496 + K := by cases s <;> simp <;> omega
    rw [hs1, hs2, if_neg (by omega), if_pos (by omega)]
    have hq : ((1074 - f) * 4503599627370496 + K) / 4503599627370496 = 1075 - f := by omega
    have hq2 : 4503599627370496 + ((1074 - f) * 4503599627370496 + K) % 4503599627370496 = K := by omega
    rw [hq, hq2]
    have hq3 : (-1074 : Int) + ((1075 - f - 1 : Nat) : Int) = -(f : Int) := by omega
    rw [hq3]
    cases s <;> simp
theorem isD_write {d : Datum} {n : Int} (h : IsD d n) (hn : -9007199254740992 < n ∧ n < 9007199254740992) : IsF (FloatKind.f64.format.write d) n := by
  obtain ⟨s, k, e, rfl, hk⟩ := h
  have : k < 9007199254740992 := by cases s <;> simp at hk <;> omega
  rw [hk]
  exact nearest_read s k e this
theorem nearest_F {n : Int} (hn : -9007199254740992 < n ∧ n < 9007199254740992) : IsF (FloatKind.f64.nearest n) n := by
  refine isD_write (d := .number (decide (n < 0)) n.natAbs 0) ⟨decide (n < 0), n.natAbs, 0, by simp, ?_⟩ hn
  by_cases h : n < 0 <;> simp [h] <;> omega
theorem signed_eq (s : Bool) (m u : Nat) : signed s m u = (if s then -(m : Int) else (m : Int)) * 2 ^ u := by
  unfold signed
  cases s <;> simp [Nat.shiftLeft_eq, Int.neg_mul]
theorem isD_sum {a b : Datum} {n m : Int} (ha : IsD a n) (hb : IsD b m) : ∃ d, a.sum b = some d ∧ IsD d (n + m) := by
  obtain ⟨s, k, e, rfl, hk⟩ := ha
  obtain ⟨t, l, f, rfl, hl⟩ := hb
  simp only [Datum.sum]
  refine ⟨_, rfl, ?_⟩
  obtain ⟨g, hg1, hg2⟩ : ∃ g : Nat, min (-(e : Int)) (-(f : Int)) = -(g : Int) ∧ e ≤ g ∧ f ≤ g := ⟨max e f, by omega, by omega, by omega⟩
  rw [hg1, show (-(e : Int) - -(g : Int)).toNat = g - e by omega, show (-(f : Int) - -(g : Int)).toNat = g - f by omega, signed_eq, signed_eq]
  have hT : (if s = true then -((k * 2 ^ e : Nat) : Int) else ((k * 2 ^ e : Nat) : Int)) * 2 ^ (g - e) + (if t = true then -((l * 2 ^ f : Nat) : Int) else ((l * 2 ^ f : Nat) : Int)) * 2 ^ (g - f) = (n + m) * 2 ^ g := by
    have h1 : (2 : Int) ^ g = 2 ^ e * 2 ^ (g - e) := by rw [← Int.pow_add]; congr 1; omega
    have h2 : (2 : Int) ^ g = 2 ^ f * 2 ^ (g - f) := by rw [← Int.pow_add]; congr 1; omega
    rw [Int.add_mul]
    conv => rhs; lhs; rw [h1]
    conv => rhs; rhs; rw [h2]
    rw [hk, hl]
    cases s <;> cases t <;> simp [Int.neg_mul, Int.mul_assoc]
  rw [hT]
  have hp : (0 : Int) < 2 ^ g := Int.pow_pos (by decide)
  generalize n + m = N
  refine ⟨if N * 2 ^ g = 0 then s && t else decide (N * 2 ^ g < 0), N.natAbs, g, ?_, ?_⟩
  · rw [Int.natAbs_mul, Int.natAbs_pow]; rfl
  · by_cases h0 : N = 0
    · subst h0; simp
    · have h1 : N * 2 ^ g ≠ 0 := Int.mul_ne_zero h0 (by omega)
      rw [if_neg h1]
      by_cases h2 : N < 0
      · have h3 : N * 2 ^ g < 0 := Int.mul_neg_of_neg_of_pos h2 hp
        simp only [h3, decide_true, if_true]; omega
      · have h3 : ¬ N * 2 ^ g < 0 := by have := Int.mul_nonneg (show 0 ≤ N by omega) (show (0 : Int) ≤ 2 ^ g by omega); omega
        simp only [h3, decide_false, Bool.false_eq_true, if_false]; omega
theorem isD_opp {a : Datum} {n : Int} (ha : IsD a n) : IsD a.opposite (-n) := by
  obtain ⟨s, k, e, rfl, hk⟩ := ha
  refine ⟨!s, k, e, rfl, ?_⟩
  rw [hk]; cases s <;> simp
theorem isD_product {a b : Datum} {n m : Int} (ha : IsD a n) (hb : IsD b m) : ∃ d, a.product b = some d ∧ IsD d (n * m) := by
  obtain ⟨s, k, e, rfl, hk⟩ := ha
  obtain ⟨t, l, f, rfl, hl⟩ := hb
  refine ⟨_, rfl, s ^^ t, k * l, e + f, ?_, ?_⟩
  · congr 1
    · rw [Nat.pow_add]; simp only [Nat.mul_assoc, Nat.mul_left_comm]
    · push_cast; omega
  · rw [hk, hl]; cases s <;> cases t <;> simp [Int.neg_mul, Int.mul_neg]
theorem add_F {a b : Nat} {n m : Int} (ha : IsF a n) (hb : IsF b m) (h : -9007199254740992 < n + m ∧ n + m < 9007199254740992) : ∃ x, FloatKind.f64.format.add a b = some x ∧ IsF x (n + m) := by
  obtain ⟨d, h1, h2⟩ := isD_sum ha hb
  exact ⟨_, by unfold Format.add; rw [h1]; rfl, isD_write h2 h⟩
theorem sub_F {a b : Nat} {n m : Int} (ha : IsF a n) (hb : IsF b m) (h : -9007199254740992 < n - m ∧ n - m < 9007199254740992) : ∃ x, FloatKind.f64.format.sub a b = some x ∧ IsF x (n - m) := by
  obtain ⟨d, h1, h2⟩ := isD_sum ha (isD_opp hb)
  exact ⟨_, by unfold Format.sub; rw [h1]; rfl, isD_write (by rw [Int.sub_eq_add_neg]; exact h2) h⟩
theorem mul_F {a b : Nat} {n m : Int} (ha : IsF a n) (hb : IsF b m) (h : -9007199254740992 < n * m ∧ n * m < 9007199254740992) : ∃ x, FloatKind.f64.format.mul a b = some x ∧ IsF x (n * m) := by
  obtain ⟨d, h1, h2⟩ := isD_product ha hb
  exact ⟨_, by unfold Format.mul; rw [h1]; rfl, isD_write h2 h⟩
theorem toInt_F {a : Nat} {n : Int} (ha : IsF a n) : (FloatKind.f64.decode a).toInt .zero = some n := by
  obtain ⟨s, k, e, h, hk⟩ := ha
  unfold FloatKind.decode
  rw [h]
  unfold Datum.toInt Datum.integral
  have e1 : (-(e : Int)).toNat = 0 := by omega
  have e2 : (-(-(e : Int))).toNat = e := by omega
  simp only [e1, e2, Nat.shiftLeft_zero, cut_mul, signed_eq, hk]
  cases s <;> simp
end Go.Am
end
section
namespace Go.Am
open Dat (cells)
structure Fz where
  x : Nat
  y : Nat
  deriving DecidableEq, Inhabited
instance : DatL Fz where
  sz := 1
  agg := false
  cells z := [.s (.complex .f64 z.x z.y)]
  dec | [.s (.complex .f64 a b)] => some ⟨a, b⟩ | _ => none
  ok := by intro l a h; split at h <;> cases h; rfl
  data := fun a => rfl
  one := fun _ => by first | rfl | trivial | (intros; rfl)
  dec_cells := fun a => rfl
theorem cells_fz (z : Fz) : cells z = [.s (.complex .f64 z.x z.y)] := rfl
theorem sz_fz : Dat.sz Fz = 1 := rfl
theorem getD_fz (xs : List Fz) (n : Nat) : List.getD (xs.map cells) n [C.s (.complex .f64 0 0)] = [.s (.complex .f64 (xs.getD n ⟨0, 0⟩).x (xs.getD n ⟨0, 0⟩).y)] := by
  simp only [List.getD_eq_getElem?_getD, List.getElem?_map]
  cases xs[n]? <;> rfl
def IsC (z : Fz) (g : Gs) : Prop := IsF z.x g.re ∧ IsF z.y g.im
def mulW (a b : Fz) : Fz := match aX .mul a.x a.y b.x b.y with | some (x, y) => ⟨x, y⟩ | none => ⟨0, 0⟩
def addW (a b : Fz) : Fz := match aX .add a.x a.y b.x b.y with | some (x, y) => ⟨x, y⟩ | none => ⟨0, 0⟩
def toW (g : Gs) : Fz := ⟨FloatKind.f64.nearest g.re, FloatKind.f64.nearest g.im⟩
theorem isC_zero : IsC ⟨0, 0⟩ ⟨0, 0⟩ := by
  have e : FloatKind.f64.nearest 0 = 0 := by decide
  have : IsF 0 0 := by have := nearest_F (n := 0) (by omega); rwa [e] at this
  exact ⟨this, this⟩
theorem isC_toW {g : Gs} (h : g.re.natAbs ≤ 9007199254740991 ∧ g.im.natAbs ≤ 9007199254740991) : IsC (toW g) g := ⟨nearest_F (by omega), nearest_F (by omega)⟩
theorem mulW_c {a b : Fz} {g h : Gs} (ha : IsC a g) (hb : IsC b h) {A B : Nat} (h1 : g.re.natAbs ≤ A ∧ g.im.natAbs ≤ A) (h2 : h.re.natAbs ≤ B ∧ h.im.natAbs ≤ B) (hAB : 2 * (A * B) ≤ 9007199254740991) :
    aX .mul a.x a.y b.x b.y = some ((mulW a b).x, (mulW a b).y) ∧ IsC (mulW a b) ⟨g.re * h.re - g.im * h.im, g.re * h.im + g.im * h.re⟩ := by
  have mb : ∀ {u v : Int}, u.natAbs ≤ A → v.natAbs ≤ B → (u * v).natAbs ≤ A * B := fun hu hv => by rw [Int.natAbs_mul]; exact Nat.mul_le_mul hu hv
  have m1 := mb h1.1 h2.1
  have m2 := mb h1.2 h2.2
  have m3 := mb h1.1 h2.2
  have m4 := mb h1.2 h2.1
  generalize A * B = N at *
  obtain ⟨p, p1, p2⟩ := mul_F ha.1 hb.1 (by omega)
  obtain ⟨q, q1, q2⟩ := mul_F ha.2 hb.2 (by omega)
  obtain ⟨r, r1, r2⟩ := mul_F ha.1 hb.2 (by omega)
  obtain ⟨s, s1, s2⟩ := mul_F ha.2 hb.1 (by omega)
  obtain ⟨t, t1, t2⟩ := sub_F p2 q2 (by omega)
  obtain ⟨u, u1, u2⟩ := add_F r2 s2 (by omega)
  have e : aX .mul a.x a.y b.x b.y = some (t, u) := by simp [aX, fArith, p1, q1, r1, s1, t1, u1]
  have e2 : mulW a b = ⟨t, u⟩ := by unfold mulW; rw [e]
  rw [e2]
  exact ⟨e, t2, u2⟩
theorem addW_c {a b : Fz} {g h : Gs} (ha : IsC a g) (hb : IsC b h) {A B : Nat} (h1 : g.re.natAbs ≤ A ∧ g.im.natAbs ≤ A) (h2 : h.re.natAbs ≤ B ∧ h.im.natAbs ≤ B) (hAB : A + B ≤ 9007199254740991) :
    aX .add a.x a.y b.x b.y = some ((addW a b).x, (addW a b).y) ∧ IsC (addW a b) ⟨g.re + h.re, g.im + h.im⟩ := by
  obtain ⟨t, t1, t2⟩ := add_F ha.1 hb.1 (by omega)
  obtain ⟨u, u1, u2⟩ := add_F ha.2 hb.2 (by omega)
  have e : aX .add a.x a.y b.x b.y = some (t, u) := by simp [aX, fArith, t1, u1]
  have e2 : addW a b = ⟨t, u⟩ := by unfold addW; rw [e]
  rw [e2]
  exact ⟨e, t2, u2⟩
def ofF (x : Nat) : Int := ((FloatKind.f64.decode x).toInt .zero).getD 0
def ofW (z : Fz) : Gs := ⟨ofF z.x, ofF z.y⟩
theorem ofF_c {x : Nat} {n : Int} (h : IsF x n) : (FloatKind.f64.decode x).toInt .zero = some n ∧ ofF x = n := by
  have := toInt_F h
  exact ⟨this, by unfold ofF; rw [this]; rfl⟩
end Go.Am
end
section
namespace Go.Am
open Dat (cells)
variable {P : Program}
structure ReadsAs (P : Program) (t : TypeId) (α : Type) [DatL α] : Prop where
  sz : P.cellsOf t = Dat.sz α
  pos : 0 < Dat.sz α
  rd : ∀ {H : Type} (en : TypeId × Value → H) (w : World) (sp : Nat → Bool) (fuel : Nat) (cs : List Value) (x : DataW H × List MemPlace), DataW.trod en P w 0 sp true fuel t cs = some x →
    ∃ a : α, (cells a).length = Dat.sz α ∧ cs.length = Dat.sz α ∧ ∀ (j : Nat) (c : C), (cells a)[j]? = some c → RepD (fun b => b < w.heap.size) w.heap c (cs.getD j undef) ∧ (cs.getD j undef).oneCell' = true
theorem ReadsAs.int {t : TypeId} (ht : P.underlying t = some (.int .i64)) (hc : P.cellsOf t = 1) : ReadsAs P t Int := by
  refine ⟨hc, by decide, fun en w sp fuel cs x h => ?_⟩
  obtain ⟨n, rfl, _, _⟩ := DataW.trod_int ht h
  refine ⟨n, rfl, rfl, fun j c hj => ?_⟩
  cases j with
  | zero =>
    simp only [cells, List.getElem?_cons_zero, Option.some.injEq] at hj
    subst hj
    exact ⟨.s _, rfl⟩
  | succ j => simp [cells] at hj
theorem cells?_get {w : World} {a : Addr} {n : Nat} {cs : List Value} (h : w.cells? 0 a n = some cs) : cs.length = n ∧ ∀ j, j < n → w.cell? (a.add j) = cs[j]? := by
  unfold World.cells? at h
  rw [if_pos (Nat.zero_le _)] at h
  exact ⟨by simpa using mapM_some_length h, fun j hj => mapM_some_get h j j (by simp [hj])⟩
theorem addr_add (a : Addr) (n m : Nat) : ((a.add n).add m).block = a.block ∧ ((a.add n).add m).off = a.off + n + m := by
  unfold Addr.add
  split <;> split <;> simp_all <;> omega
theorem cell?_inv {w : World} {a : Addr} {v : Value} (h : w.cell? a = some v) : a.spot = none ∧ ∃ arr ty fz, w.heap[a.block]? = some (.cells arr ty fz) ∧ arr[a.off]? = some v := by
  unfold World.cell? at h
  split at h
  · rename_i arr ty fz hh
    split at h
    · cases h
    · rename_i hs
      exact ⟨by cases hq : a.spot <;> simp_all, arr, ty, fz, hh, h⟩
  · cases h
theorem ReadsAs.list {t e : TypeId} {α : Type} [DatL α] (he : ReadsAs P e α) (ht : P.underlying t = some (.slice e)) (hc : P.cellsOf t = 1) : ReadsAs P t (List α) := by
  refine ⟨hc, (by show 0 < 1; decide), fun en w sp fuel cs x h => ?_⟩
  rcases DataW.trod_slice ht h with ⟨rfl, _⟩ | ⟨a, len, cap, elems, rest, n, _, rfl, _, _, hl, hm, hlen, hel, _, _⟩
  · refine ⟨[], rfl, rfl, fun j c hj => ?_⟩
    cases j with
    | zero =>
      simp only [cells, List.getElem?_cons_zero, Option.some.injEq] at hj
      subst hj
      exact ⟨.sl0 _ _ _ (by simp [maxLen]), rfl⟩
    | succ j => simp [cells] at hj
  · have hpos := he.pos
    rcases Nat.eq_zero_or_pos len with h0 | h0
    · subst h0
      refine ⟨[], rfl, rfl, fun j c hj => ?_⟩
      cases j with
      | zero =>
        simp only [cells, List.getElem?_cons_zero, Option.some.injEq] at hj
        subst hj
        exact ⟨.sl0 _ _ _ hm, rfl⟩
      | succ j => simp [cells] at hj
    · have hget : ∀ i, i < len → ∃ q : α × List Value, w.cells? 0 (a.add (i * Dat.sz α)) (Dat.sz α) = some q.2 ∧ (cells q.1).length = Dat.sz α ∧ ∀ (j : Nat) (c : C), (cells q.1)[j]? = some c → RepD (fun b => b < w.heap.size) w.heap c (q.2.getD j undef) ∧ (q.2.getD j undef).oneCell' = true := fun i hi => by
        have h1 := hel i hi
        rw [List.getElem?_eq_getElem (by omega), Option.bind_eq_some_iff] at h1
        obtain ⟨ci, h2, h3⟩ := h1
        obtain ⟨q, h4, h5, h6⟩ := he.rd en w sp n ci _ h3
        exact ⟨(q, ci), by rw [← he.sz]; exact h2, h4, h6⟩
      have hex : ∀ i : Nat, ∃ q : α × List Value, i < len → w.cells? 0 (a.add (i * Dat.sz α)) (Dat.sz α) = some q.2 ∧ (cells q.1).length = Dat.sz α ∧ ∀ (j : Nat) (c : C), (cells q.1)[j]? = some c → RepD (fun b => b < w.heap.size) w.heap c (q.2.getD j undef) ∧ (q.2.getD j undef).oneCell' = true := fun i => by
        by_cases hi : i < len
        · obtain ⟨q, hq⟩ := hget i hi; exact ⟨q, fun _ => hq⟩
        · obtain ⟨q, _⟩ := hget 0 h0; exact ⟨q, fun h => absurd h hi⟩
      obtain ⟨f, hf⟩ := Classical.axiomOfChoice hex
      let l : List α := (List.range len).map fun i => (f i).1
      have hll : l.length = len := by simp [l]
      have hli : ∀ (i : Nat) (e : List C), (l.map cells)[i]? = some e → i < len ∧ e = cells (f i).1 := fun i e h => by
        rw [List.getElem?_map, List.getElem?_map, Option.map_map, Option.map_eq_some_iff] at h
        obtain ⟨k, h1, rfl⟩ := h
        have hi := (List.getElem?_eq_some_iff.1 h1).1
        simp only [List.length_range] at hi
        rw [List.getElem?_range hi] at h1
        cases h1
        exact ⟨hi, rfl⟩
      have hcell : ∀ i, i < len → ∀ j, j < Dat.sz α → w.cell? ((a.add (i * Dat.sz α)).add j) = some ((f i).2.getD j undef) := fun i hi j hj => by
        obtain ⟨h1, h2, h3⟩ := hf i hi
        obtain ⟨g1, g2⟩ := cells?_get h1
        rw [g2 j hj, List.getD_eq_getElem?_getD, List.getElem?_eq_getElem (by omega)]; rfl
      obtain ⟨hsp, arr, ty, fz, hh, _⟩ := cell?_inv (hcell 0 h0 0 hpos)
      have hsp' : a.spot = none := by simpa [Addr.add] using hsp
      rw [(addr_add a _ _).1] at hh
      obtain ⟨b, off, spot⟩ := a
      simp only at hsp'
      subst hsp'
      have hb : b < w.heap.size := by
        rcases Nat.lt_or_ge b w.heap.size with h | h
        · exact h
        · have hh' : w.heap[b]? = some (.cells arr ty fz) := hh
          rw [Array.getElem?_eq_none h] at hh'; cases hh'
      refine ⟨l, rfl, rfl, fun j c hj => ?_⟩
      cases j with
      | succ j => simp [cells] at hj
      | zero =>
        simp only [cells, List.getElem?_cons_zero, Option.some.injEq] at hj
        subst hj
        refine ⟨?_, rfl⟩
        have hmain : RepD (fun b => b < w.heap.size) w.heap (.sl (Dat.sz α) (l.map cells)) (.slice (some ⟨b, off, none⟩) (l.map cells).length cap) := by
          refine .sl (l.map cells) b off cap (Dat.sz α) arr ty fz (fun i j => (f i).2.getD j undef) hb hh (by simpa [hll] using hl) hm (fun i e h => ?_) (fun i e j c h1 h2 => ?_) (fun i e j c h1 h2 => ?_)
          · obtain ⟨g1, rfl⟩ := hli i e h
            exact (hf i g1).2.1
          · obtain ⟨g1, rfl⟩ := hli i e h1
            obtain ⟨q1, q2, q3⟩ := hf i g1
            have hj : j < Dat.sz α := by have := (List.getElem?_eq_some_iff.1 h2).1; omega
            obtain ⟨_, arr2, ty2, fz2, hh2, hg⟩ := cell?_inv (hcell i g1 j hj)
            rw [(addr_add _ _ _).1] at hh2
            rw [(addr_add _ _ _).2] at hg
            have hh2' : w.heap[b]? = some (.cells arr2 ty2 fz2) := hh2
            have hh' : w.heap[b]? = some (.cells arr ty fz) := hh
            rw [hh'] at hh2'
            cases hh2'
            exact ⟨hg, (q3 j c h2).2⟩
          · obtain ⟨g1, rfl⟩ := hli i e h1
            exact ((hf i g1).2.2 j c h2).1
        simpa [hll] using hmain
theorem field_rd {t tf : TypeId} {fs : Array Field} {β : Type} [DatL β] (hf : ReadsAs P tf β) (ht : P.underlying t = some (.struct fs)) {H : Type} {en : TypeId × Value → H} {w : World} {sp : Nat → Bool} {fuel : Nat} {cs : List Value} {x : DataW H × List MemPlace}
    (h : DataW.trod en P w 0 sp true fuel t cs = some x) (i : Nat) {f : Field} (hi : fs[i]? = some f) (hft : f.type = tf) : cs.length = P.cellsOf t ∧ ∃ b : β, (cells b).length = Dat.sz β ∧
      ∀ (j : Nat) (c : C), (cells b)[j]? = some c → RepD (fun b => b < w.heap.size) w.heap c (cs.getD (f.offset + j) undef) ∧ (cs.getD (f.offset + j) undef).oneCell' = true := by
  obtain ⟨xs, n, _, _, hl, hxs, hx⟩ := DataW.trod_struct ht h
  refine ⟨hl, ?_⟩
  have h1 := hx i f hi
  have hi' : i < xs.length := by rw [hxs]; exact (Array.getElem?_eq_some_iff.1 hi).1
  rw [List.getElem?_eq_getElem hi', hft] at h1
  obtain ⟨b, h2, h3, h4⟩ := hf.rd en w sp n _ _ h1
  refine ⟨b, h2, fun j c hj => ?_⟩
  have hj' : j < Dat.sz β := by have := (List.getElem?_eq_some_iff.1 hj).1; omega
  have h5 := h4 j c hj
  have e : ((cs.drop f.offset).take (P.cellsOf tf)).getD j undef = cs.getD (f.offset + j) undef := by
    rw [hf.sz]
    simp only [List.getD_eq_getElem?_getD, List.getElem?_take, List.getElem?_drop, if_pos hj']
  rw [e] at h5
  exact h5
theorem ReadsAs.argS {t : TypeId} {fs : Array Field} {α : Type} [DatL α] (h : ReadsAs P t α) (hag : Dat.agg α = true) (ht : P.underlying t = some (.struct fs)) {H : Type} {en : TypeId × Value → H} {W : World} {r : Reach} {base : Nat} {sp : Nat → Bool} {v : Value} {d : DataW H} {ps : List MemPlace}
    (hval : Value.okWide P W r base t v) (hd : DataW.Trod en P W 0 sp true t v d ps) : ∃ a : α, ∀ E, Rep E (fun b => b < W.heap.size) W.heap (enc a) v := by
  obtain ⟨vs, rfl, _⟩ := WideShapes.okWide_struct ht hval
  obtain ⟨fuel, hf⟩ := hd
  obtain ⟨a, h1, h2, h3⟩ := h.rd en W sp fuel _ _ hf
  have hc : (Value.agg vs).cells = vs := by simp [Value.cells]
  rw [hc] at h2 h3
  have e : ∀ j, vs.toList.getD j undef = vs.getD j undef := fun j => by simp [List.getD_eq_getElem?_getD, Array.getD_eq_getD_getElem?]
  refine ⟨a, fun E => ?_⟩
  rw [enc, if_pos hag]
  refine .agg _ vs (by simpa [h1] using h2) (fun j c hj => .d (by have := (h3 j c hj).1; rwa [e] at this)) (fun j hj => ?_)
  have hj' : j < (cells a).length := by rw [h1, ← h2]; simpa using hj
  have := (h3 j _ (List.getElem?_eq_getElem hj')).2
  rwa [e] at this
theorem law_walk [Glob P] (hg0 : Glob.gl P = []) {f : FuncId} {args : List C} (hF : FC P f args [] (enc true) []) {vs : Array Value} {W : World} (hs : vs.size = args.length)
    (ha : ∀ (j : Nat) (c : C), args[j]? = some c → ∀ E, Rep E (fun b => b < W.heap.size) W.heap c (vs.getD j undef)) :
    Calls P f vs W fun e w' => e = .returned (.bool true) ∧ RowKit.Below W.heap.size W w' := by
  refine (hF.2 default (fun b => b < W.heap.size) vs W (fun g cs h => by rw [hg0] at h; cases h) ⟨hs, fun j c hj => ha j c hj _⟩ ⟨by simp, fun k c h => by simp at h, fun k c _ _ h => by simp at h, fun k c h => by simp at h, fun k c h => by simp at h, fun b hb => hb⟩).mono ?_
  rintro e w' ⟨v, E', U', rfl, hr, hce⟩
  have : v = .bool true := rep_s hr
  subst this
  exact ⟨rfl, hce.os, hce.tape, hce.output, hce.size, fun k hk => hce.rest k hk (fun k c h => by simp at h)⟩
end Go.Am
end
section
namespace Go.Am
open Dat (cells)
def v0 := And.intro @enc_int <| And.intro @enc_bool <| And.intro @enc_str <| And.intro @enc_list <| And.intro @enc_gs <| And.intro @cells_gs <| And.intro @sz_gs <| And.intro @dec_gs <| And.intro @decV_gs <| And.intro @getD_gs <| And.intro @gs_eta <| And.intro @sz_int <| And.intro @sz_bool <| And.intro @sz_str <| And.intro @sz_list <| And.intro @decV_int <| And.intro @decV_bool <| And.intro @decV_str <| And.intro @decV_nil <| And.intro @decV_sl <| And.intro @dec_int <| And.intro @dec_bool <| And.intro @dec_str <| And.intro @dec_list <| And.intro @decL_nil <| And.intro @decL_cons <| And.intro @decL_map <| And.intro @getD_int <| And.intro @getD_bool <| And.intro @getD_str <| And.intro @cells_int <| And.intro @cells_bool <| And.intro @cells_str <| And.intro @cells_list <| And.intro @Option.getD_some.{0} <| And.intro @Option.getD_none.{0} <| And.intro @Option.map_some.{0, 0} <| And.intro @Option.map_none.{0, 0} <| And.intro @Option.bind_some.{0, 0} <| @Option.bind_none.{0, 0}
def v1 := And.intro @Option.some.injEq.{0} <| And.intro @true_and <| And.intro @and_true <| And.intro @and_self <| And.intro @Int.lt_irrefl <| And.intro @Nat.lt_irrefl <| And.intro @Nat.zero_add <| And.intro @Nat.add_zero <| And.intro @Bool.false_eq_true <| And.intro @Bool.not_true <| And.intro @Bool.not_false <| And.intro @Bool.true_eq_false <| And.intro @decide_true <| And.intro @decide_false <| And.intro @decide_eq_true_eq <| And.intro @Bool.not_eq_true' <| And.intro @decide_eq_false_iff_not <| And.intro @List.map_cons.{0, 0} <| And.intro @List.map_nil.{0, 0} <| And.intro @List.length_cons.{0} <| And.intro @List.length_nil.{0} <| And.intro @List.length_map.{0, 0} <| And.intro @List.take_succ_cons.{0} <| And.intro @List.take_zero.{0} <| And.intro @List.take_nil.{0} <| And.intro @List.drop_succ_cons.{0} <| And.intro @List.drop_zero.{0} <| And.intro @List.drop_nil.{0} <| And.intro @List.headD_cons.{0} <| And.intro @List.getD_cons_zero.{0} <| And.intro @List.getD_cons_succ.{0} <| And.intro @List.cons_append.{0} <| And.intro @List.nil_append.{0} <| And.intro @List.append_nil.{0} <| And.intro @List.all_cons.{0} <| And.intro @List.all_nil.{0} <| And.intro @Bool.and_true <| And.intro @Bool.true_and <| And.intro @Bool.and_self <| @List.isEmpty_nil.{0}
def v2 := And.intro @List.isEmpty_cons.{0} <| And.intro @List.replicate_succ.{0} <| And.intro @List.replicate_zero.{0} <| And.intro @List.set_cons_zero.{0} <| And.intro @List.set_cons_succ.{0} <| And.intro @List.lookup_nil.{0, 0} <| And.intro @lookup_if <| And.intro @Option.isSome_none.{0} <| And.intro @Option.isSome_some.{0} <| And.intro @Int.toNat_natCast <| And.intro @Int.toNat_zero <| And.intro @and_false <| And.intro @false_and <| And.intro @imp_self <| And.intro @true_implies <| And.intro @false_implies <| And.intro @C.s.injEq <| And.intro @C.sl.injEq <| And.intro @C.tup.injEq <| And.intro @C.agg.injEq <| And.intro @C.own.injEq <| And.intro @Go.Value.int.injEq <| And.intro @Go.Value.bool.injEq <| And.intro @Go.Value.string.injEq <| And.intro @Bool.or_false <| And.intro @Bool.or_self <| And.intro @Bool.false_or <| And.intro @Bool.or_true <| And.intro @Bool.true_or <| And.intro @ER.cont.injEq <| And.intro @List.getElem?_cons_zero.{0} <| And.intro @List.getElem?_cons_succ.{0} <| And.intro @List.getElem?_nil.{0} <| And.intro @List.contains_cons.{0} <| And.intro @List.contains_nil.{0} <| @beq_self_eq_true.{0}
def V := And.intro @v0 <| And.intro @v1 <| @v2
end Go.Am
end
section
namespace Go.Am
open Dat (cells)
variable {P : Program} [Glob P] {cx : Cx} {Q : ASt → Prop} {k : List It} {st : ASt}
theorem S_uncut {x : AC} (h : SG P cx Q (.c x :: k) st) : SG P cx Q (.c (.cut x) :: k) st := S_code fun code hc E U a w hh => by
  simp only [compC, Option.map_eq_some_iff] at hc
  obtain ⟨x', h1, h2⟩ := hc
  cases h2
  exact h E U a w hh code h1
end Go.Am
end
section
namespace Go.Am
open Dat (cells)
variable {P : Program} [Glob P] {cx : Cx} {Q : ASt → Prop} {k : List It} {st : ASt}
def Recs (P : Program) [Glob P] : List AO → ASt → List (AO × ASt × Eff) → ASt → Prop
  | [], s, [], s' => s' = s
  | o :: os, s, r :: R, s' => r = (o, s, r.2.2) ∧ StepE P o s r.2.2 ∧ (o.tot = true ∨ (r.2.2.ch = s.ch ∧ r.2.2.sub = [])) ∧ Recs P os (cr o.dst r.2.2 s) R s'
  | _, _, _, _ => False
theorem recs_list : ∀ (aos : List AO) (s : ASt) (R : List (AO × ASt × Eff)) (s' : ASt), Recs P aos s R s' → R.length = aos.length ∧
    (∀ (j : Nat) r, R[j]? = some r → aos[j]? = some r.1 ∧ r.2.1 = stS (aos.zip (R.map (·.2.2))) (fun i => decide (i < j)) s ∧ StepE P r.1 r.2.1 r.2.2 ∧ (r.1.tot = true ∨ (r.2.2.ch = r.2.1.ch ∧ r.2.2.sub = []))) ∧
    s' = stS (aos.zip (R.map (·.2.2))) (fun i => decide (i < aos.length)) s
  | [], s, [], s', h => by
    simp only [Recs] at h
    subst h
    exact ⟨rfl, fun j r h => by simp at h, rfl⟩
  | [], s, _ :: _, s', h => by simp [Recs] at h
  | _ :: _, s, [], s', h => by simp [Recs] at h
  | o :: os, s, r :: R, s', h => by
    obtain ⟨h0, h1, h2, h3⟩ := h
    have hp : cr o.dst r.2.2 s = stF (o, r.2.2) s := by
      simp only [cr, stF, chF]
      rcases h2 with h | ⟨h, _⟩
      · rw [if_pos h]
      · by_cases ht : o.tot = true
        · rw [if_pos ht]
        · rw [if_neg ht, h]
    rw [hp] at h3
    obtain ⟨l1, l2, l3⟩ := recs_list os _ R s' h3
    have shift : ∀ j, stS (os.zip (R.map (·.2.2))) (fun i => decide (i < j)) (stF (o, r.2.2) s) = stS ((o :: os).zip ((r :: R).map (·.2.2))) (fun i => decide (i < j + 1)) s := fun j => by
      simp only [stS, List.map_cons, List.zip_cons_cons, foldF, Nat.zero_lt_succ, decide_true, if_true]
      have : ∀ (fs : List (ASt → ASt)) (k : Nat) (a : ASt), foldF fs (fun i => decide (i < j)) k a = foldF fs (fun i => decide (i < j + 1)) (k + 1) a := by
        intro fs
        induction fs with
        | nil => intro k a; rfl
        | cons f r ih =>
          intro k a
          simp only [foldF]
          rw [ih]
          by_cases hk : k < j
          · simp [hk]
          · simp [hk]
      exact this _ 0 _
    refine ⟨by simp [l1], fun j q hj => ?_, ?_⟩
    · cases j with
      | zero =>
        simp only [List.getElem?_cons_zero, Option.some.injEq] at hj
        subst hj
        have e0 : stS ((o :: os).zip ((r :: R).map (·.2.2))) (fun i => decide (i < 0)) s = s := foldF_id _ _ 0 s (fun k f _ hs => by simp at hs)
        rw [e0]
        have g1 : r.1 = o := by rw [h0]
        have g2 : r.2.1 = s := by rw [h0]
        rw [g1, g2]
        exact ⟨rfl, rfl, h1, h2⟩
      | succ j =>
        simp only [List.getElem?_cons_succ] at hj ⊢
        rw [← shift j]
        exact l2 j q hj
    · rw [l3, shift]; rfl
def reC (P : Program) [Glob P] (L : List (Ent P)) (t : Slots) (h : Chs) (o : AO) (v : C) : Option Eff → Prop
  | some e2 => o.guard = none ∧ e2.cond ∧ e2.v = v ∧ e2.ch = h ∧ e2.sub = []
  | none => match bE L (cU P t) h (o.dst.getD 0) o.op with
    | .cal (.eff e2) => o.guard = none ∧ e2.cond ∧ e2.v = v ∧ e2.ch = h ∧ e2.sub = []
    | _ => False
def opSlots : List Operand → List Nat
  | [] => []
  | .tmp t :: l => t :: opSlots l
  | _ :: l => opSlots l
theorem mem_opSlots {x : Nat} : ∀ {l : List Operand}, x ∈ l.filterMap (fun x => match x with | .tmp t => some t | _ => none) → x ∈ opSlots l
  | [], h => by simp at h
  | y :: l, h => by
    simp only [List.mem_filterMap, List.mem_cons] at h
    obtain ⟨z, hz, hx⟩ := h
    rcases hz with rfl | hz
    · cases z with
      | tmp t => simp only [Option.some.injEq] at hx; subst hx; exact List.mem_cons_self
      | _ => cases hx
    · have ih := mem_opSlots (l := l) (List.mem_filterMap.2 ⟨z, hz, hx⟩)
      cases y with
      | tmp t => exact List.mem_cons_of_mem _ ih
      | _ => exact ih
def fixS (m : List (Nat × Sb)) (t : Slots) : List Nat → Prop
  | [] => True
  | x :: l => cn m (gt t x) = gt t x ∧ fixS m t l
theorem fixS_all {m : List (Nat × Sb)} {t : Slots} {x : Nat} : ∀ {l : List Nat}, fixS m t l → x ∈ l → cn m (gt t x) = gt t x
  | [], _, h => by cases h
  | y :: l, h, hx => by
    rcases List.mem_cons.1 hx with rfl | hx
    · exact h.1
    · exact fixS_all h.2 hx
def robC (P : Program) [Glob P] (L : List (Ent P)) (e j : Nat) : Option (AO × ASt × Eff) → Option (AO × ASt × Eff) → Prop
  | some (o, s, ef), some (_, se, efe) =>
    cn efe.sub ef.v = ef.v ∧ fixS efe.sub (if j < e then s.t else se.t) (opSlots o.op.reads) ∧
      reC P L s.t (if j < e then efe.ch else se.ch) o ef.v (cN (cU P s.t) (if j < e then efe.ch else se.ch) (o.dst.getD 0) o.op)
  | _, _ => False
def robL (P : Program) [Glob P] (L : List (Ent P)) (e : Nat) (R : List (AO × ASt × Eff)) : List Nat → Prop
  | [] => True
  | j :: rb => robC P L e j (R[j]?) (R[e]?) ∧ robL P L e R rb
theorem reC_guard {L : List (Ent P)} {t : Slots} {h : Chs} {o : AO} {v : C} : ∀ {q : Option Eff}, reC P L t h o v q → o.guard = none
  | some _, hr => hr.1
  | none, hr => by
    simp only [reC] at hr
    split at hr
    · exact hr.1
    · cases hr
theorem reC_step {L : List (Ent P)} {t : Slots} {h : Chs} {o : AO} {v : C} (hr : reC P L t h o v (cN (cU P t) h (o.dst.getD 0) o.op)) : ∃ ef2, StepE P o ⟨t, h⟩ ef2 ∧ ef2.v = v ∧ ef2.ch = h ∧ ef2.sub = [] := by
  cases hq : cN (cU P t) h (o.dst.getD 0) o.op with
  | some e2 =>
    rw [hq] at hr
    obtain ⟨h1, h2, h3, h4, h5⟩ := hr
    exact ⟨e2, .yes e2 (by rw [h1]; rfl) (.f hq h2), h3, h4, h5⟩
  | none =>
    rw [hq] at hr
    simp only [reC] at hr
    split at hr
    · rename_i e2 hm
      obtain ⟨h1, h2, h3, h4, h5⟩ := hr
      have hop : OpR P (cU P t) h (o.dst.getD 0) o.op ⟨True, e2.v, e2.ch, e2.sub⟩ := by
        unfold bE at hm
        split at hm
        · rename_i fo aS ho
          rw [ho]
          cases hm' : cb L h (o.dst.getD 0) (cq (cU P t fo)) (List.map (cU P t) aS) with
          | eff e =>
            rw [hm'] at hm
            cases hm
            exact calF_sound hm' h2
          | _ => rw [hm'] at hm; cases hm
        · cases hm
      exact ⟨⟨True, e2.v, e2.ch, e2.sub⟩, .yes _ (by rw [h1]; rfl) hop, h3, h4, h5⟩
    · cases hr
theorem robL_all {L : List (Ent P)} {e : Nat} {R : List (AO × ASt × Eff)} : ∀ {rb : List Nat}, robL P L e R rb → ∀ j ∈ rb, robC P L e j (R[j]?) (R[e]?)
  | [], _, j, hj => by cases hj
  | i :: rb, h, j, hj => by
    rcases List.mem_cons.1 hj with rfl | hj
    · exact h.1
    · exact robL_all h.2 j hj
theorem S_draw1 {e : Nat} {rb : List Nat} {os : List AO} {L : List (Ent P)} {R : List (AO × ASt × Eff)} {st' : ASt} (he9 : e ≠ 999) (hR : Recs P os st R st') (hrob : robL P L e R rb) (h2 : SG P cx Q k st') : SG P cx Q (.c (.draw e rb os) :: k) st := S_code fun code hc E U a w hh => by
  obtain ⟨id, ops, rfl⟩ : ∃ id ops, code = .region id ops true := by
    cases code with
    | region id ops draw =>
      cases draw with
      | false => simp [compC] at hc
      | true => exact ⟨id, ops, rfl⟩
    | _ => simp [compC] at hc
  · simp only [compC, Option.bind_eq_some_iff] at hc
    obtain ⟨r, h3, h4⟩ := hc
    split at h4
    · rename_i hok
      simp only [Option.some.injEq, AC.draw.injEq, true_and] at h4
      subst h4
      obtain ⟨g1, g2⟩ := compOs_match h3
      have g2' : ∀ (j : Nat) o ao, ops[j]? = some o → r[j]? = some ao → Matches P cx.n ops o ao := fun j o ao ho ha => g2 j o ao (by simpa using ho) ha
      simp only [Bool.and_eq_true] at hok
      obtain ⟨l1, l2, l3⟩ := recs_list _ _ _ _ hR
      have hget : ∀ (j : Nat) ao ef, r[j]? = some ao → (R.map (·.2.2))[j]? = some ef → ∃ q, R[j]? = some q ∧ q.1 = ao ∧ q.2.2 = ef := fun j ao ef ha he => by
        rw [List.getElem?_map, Option.map_eq_some_iff] at he
        obtain ⟨q, hq, rfl⟩ := he
        have := (l2 j q hq).1
        rw [ha] at this
        exact ⟨q, hq, by cases this; rfl, rfl⟩
      have hchain : ∀ (j : Nat) ao ef, r[j]? = some ao → (R.map (·.2.2))[j]? = some ef → StepE P ao (stS (r.zip (R.map (·.2.2))) (fun i => decide (i < j)) st) ef ∧ (ao.tot = true ∨ (ef.ch = (stS (r.zip (R.map (·.2.2))) (fun i => decide (i < j)) st).ch ∧ ef.sub = [])) := fun j ao ef ha he => by
        obtain ⟨q, hq, rfl, rfl⟩ := hget j ao ef ha he
        obtain ⟨_, q2, q3, q4⟩ := l2 j q hq
        rw [← q2]
        exact ⟨q3, q4⟩
      have hrb : ∀ j ∈ rb, RobAt P r (R.map (·.2.2)) st e j := fun j hj ao ef aoe efe ha he hae hee => by
        obtain ⟨q, hq, rfl, rfl⟩ := hget j ao ef ha he
        obtain ⟨qe, hqe, rfl, rfl⟩ := hget e aoe efe hae hee
        obtain ⟨_, q2, _, _⟩ := l2 j q hq
        obtain ⟨_, qe2, _, _⟩ := l2 e qe hqe
        have hC := robL_all hrob j hj
        rw [hq, hqe] at hC
        obtain ⟨o, s, ef⟩ := q
        obtain ⟨oe, se, efe⟩ := qe
        simp only at q2 qe2
        obtain ⟨c1, c2, c3⟩ := hC
        have hmin : ∀ x, gt (if j < e then s.t else se.t) x = gt (stS (r.zip (R.map (·.2.2))) (fun i => decide (i < min j e)) st).t x := fun x => by
          by_cases hje : j < e
          · rw [if_pos hje, Nat.min_eq_left (Nat.le_of_lt hje), q2]
          · rw [if_neg hje, Nat.min_eq_right (by omega), qe2]
        refine ⟨c1, fun x hx => ?_, ?_⟩
        · have hgd := reC_guard c3
          have hx2 : x ∈ opSlots o.op.reads := by
            simp only [AO.slots, hgd, List.append_nil] at hx
            exact mem_opSlots hx
          have := fixS_all c2 hx2
          rw [hmin] at this; exact this
        · rw [← q2, ← qe2]
          exact reC_step c3
      refine wpIn_region_any hok.2 (draw_one (by simpa using g1.symm) (by rw [List.length_map, l1]) g2' he9 hok.1 hchain hrb l3 (fun E' U' a' w' h => h2 E' U' a' w' h) ops.size _ E U a _ (by simp) ?_ (fun j o ho hs => ?_) ?_)
      · have : ((List.range ops.size).countP fun i => !((Array.replicate ops.size false).getD i false)) = (List.range ops.size).length := List.countP_eq_length.2 (fun i hi => by
          have := List.mem_range.1 hi
          simp [Array.getD_eq_getD_getElem?, this])
        simpa using this
      · exfalso
        by_cases h : j < ops.size <;> simp [Array.getD_eq_getD_getElem?, h] at hs
      · have e0 : stS (r.zip (R.map (·.2.2))) (fun i => (Array.replicate ops.size false).getD i false) st = st := foldF_id _ _ 0 st (fun k f _ hs => by
          exfalso
          by_cases h : k < ops.size <;> simp [Array.getD_eq_getD_getElem?, h] at hs)
        rw [e0]
        exact ⟨hh.sz, hh.df, hh.tok, hh.inv, hh.os, hh.tape, hh.output, hh.size, hh.fr, hh.keepA, hh.live, hh.base, hh.fix, hh.hid, hh.gok⟩
    · cases h4
def drS (P : Program) [Glob P] (L : List (Ent P)) (cx : Cx) (Q : ASt → Prop) (k : List It) (e : Nat) (rb : List Nat) : Nat → Md → List AO → ASt → List (AO × ASt × Eff) → Prop
  | _ + 1, .run, [], st, R => robL P L e R rb ∧ SG P cx Q k st
  | n + 1, .run, ⟨dst, none, op, tot⟩ :: os, st, R => drS P L cx Q k e rb n (.eff (cN (cU P st.t) st.ch (dst.getD 0) op)) (⟨dst, none, op, tot⟩ :: os) st R
  | n + 1, .eff (some ef), ⟨dst, none, op, tot⟩ :: os, st, R => ef.cond ∧ cT true ⟨dst, none, op, tot⟩ ef st ∧ drS P L cx Q k e rb n .run os (cr dst ef st) (R ++ [(⟨dst, none, op, tot⟩, st, ef)])
  | n + 1, .eff none, ⟨dst, none, op, tot⟩ :: os, st, R => drS P L cx Q k e rb n (bE L (cU P st.t) st.ch (dst.getD 0) op) (⟨dst, none, op, tot⟩ :: os) st R
  | n + 1, .cal (.eff ef), ⟨dst, none, op, tot⟩ :: os, st, R => ef.cond ∧ cT true ⟨dst, none, op, tot⟩ ef st ∧ drS P L cx Q k e rb n .run os (cr dst ef st) (R ++ [(⟨dst, none, op, tot⟩, st, ⟨True, ef.v, ef.ch, ef.sub⟩)])
  | _, _, _, _, _ => False
def okD (P : Program) [Glob P] (L : List (Ent P)) (m : Md) (os : List AO) (st : ASt) : Prop :=
  match m, os with
  | .eff o, ⟨dst, none, op, _⟩ :: _ => o = cN (cU P st.t) st.ch (dst.getD 0) op
  | .cal r, ⟨dst, none, op, _⟩ :: _ => bE L (cU P st.t) st.ch (dst.getD 0) op = .cal r
  | _, _ => True
theorem drS_sound {L : List (Ent P)} {e : Nat} {rb : List Nat} (n : Nat) (m : Md) (os : List AO) (st : ASt) (R : List (AO × ASt × Eff)) (h : drS P L cx Q k e rb n m os st R) (hm : okD P L m os st) :
    ∃ R' st', Recs P os st R' st' ∧ robL P L e (R ++ R') rb ∧ SG P cx Q k st' := by
  induction n generalizing m os st R with
  | zero => unfold drS at h; exact h.elim
  | succ n ih =>
    generalize hN : n + 1 = N at h
    unfold drS at h
    split at h
    all_goals (try cases hN)
    · exact ⟨[], _, rfl, by rw [List.append_nil]; exact h.1, h.2⟩
    · exact ih _ _ _ _ h rfl
    · rename_i ef dst op tot os
      obtain ⟨h1, h2, h3⟩ := h
      obtain ⟨R', st', g1, g2, g3⟩ := ih _ _ _ _ h3 (by unfold okD; trivial)
      refine ⟨(⟨dst, none, op, tot⟩, st, ef) :: R', st', ⟨rfl, .yes ef rfl (.f hm.symm h1), drC_spec h2 rfl, g1⟩, ?_, g3⟩
      rw [List.append_cons]; exact g2
    · rename_i dst op tot os
      have hmd : ∃ r, bE L (cU P st.t) st.ch (dst.getD 0) op = .cal r := by unfold bE; split <;> exact ⟨_, rfl⟩
      obtain ⟨r, hr⟩ := hmd
      rw [hr] at h
      exact ih _ _ _ _ h hr
    · rename_i ef dst op tot os
      obtain ⟨h1, h2, h3⟩ := h
      have hop : OpR P (cU P st.t) st.ch (dst.getD 0) op ⟨True, ef.v, ef.ch, ef.sub⟩ := by
        simp only [okD] at hm
        unfold bE at hm
        split at hm
        · rename_i fo aS
          cases hm' : cb L st.ch (dst.getD 0) (cq (cU P st.t fo)) (List.map (cU P st.t) aS) with
          | eff e =>
            rw [hm'] at hm
            cases hm
            exact calF_sound hm' h1
          | _ => rw [hm'] at hm; cases hm
        · cases hm
      obtain ⟨R', st', g1, g2, g3⟩ := ih _ _ _ _ h3 (by unfold okD; trivial)
      refine ⟨(⟨dst, none, op, tot⟩, st, ⟨True, ef.v, ef.ch, ef.sub⟩) :: R', st', ⟨rfl, .yes _ rfl hop, ?_, g1⟩, ?_, g3⟩
      · exact drC_spec (ef := ⟨True, ef.v, ef.ch, ef.sub⟩) (by unfold cT at h2 ⊢; exact h2) rfl
      · rw [List.append_cons]; exact g2
    · exact h.elim
theorem S_draw {e : Nat} {rb : List Nat} {os : List AO} (L : List (Ent P)) (n : Nat) (h : drS P L cx Q k e rb n .run os st []) (he9 : (e == 999) = false := by rfl) : SG P cx Q (.c (.draw e rb os) :: k) st := by
  obtain ⟨R', st', g1, g2, g3⟩ := drS_sound n .run os st [] h (by unfold okD; trivial)
  exact S_draw1 (by simpa using he9) g1 g2 g3
end Go.Am
end
section
open Go Go.Am
open Go.Am.Dat (cells)
namespace Go.Proofs.Ytfgpbmjmoobcnaa
set_option maxRecDepth 100000
instance : Glob Try.prog := ⟨[]⟩
def c14 : AC := .seq (.region false [⟨some 3, none, .box (.tmp 0), false⟩, ⟨some 6, none, .mv (.const (.bool false)), false⟩]) (.keep [1, 2, 3] (.seq (.seq (.region false [⟨some 24, none, .call (.func 15) [], false⟩, ⟨some 25, none, .un .not (.tmp 24), false⟩]) (.keep [1, 2, 3, 25] (.cond (.tmp 25) (.seq (.region false [⟨some 6, none, .mv (.const (.bool false)), false⟩]) (.keep [6] (.ret))) (.skip)))) (.keep [1, 2, 3] (.seq (.seq (.region false [⟨some 26, none, .load true 3 (.tmp 3), false⟩, ⟨some 27, none, .call (.func 41) [(.tmp 26)], false⟩, ⟨some 28, none, .un .not (.tmp 27), false⟩, ⟨some 29, none, .mv (.tmp 28), false⟩, ⟨some 30, some (29, false), .load true 3 (.tmp 3), false⟩, ⟨some 31, some (29, false), .call (.func 44) [(.tmp 30)], false⟩, ⟨some 32, some (29, false), .bin .neq 3 (.tmp 31) (.const (.int .i64 0)), false⟩, ⟨some 33, none, .pick (.tmp 29) (.const (.bool true)) (.tmp 32), false⟩, ⟨some 34, none, .mv (.tmp 33), false⟩, ⟨some 35, some (34, false), .mv (.tmp 1), false⟩, ⟨some 36, some (34, false), .call (.func 32) [(.tmp 35), (.const (.int .i64 0)), (.const (.int .i64 500000000))], false⟩, ⟨some 37, some (34, false), .un .not (.tmp 36), false⟩, ⟨some 38, none, .pick (.tmp 34) (.const (.bool true)) (.tmp 37), false⟩, ⟨some 39, none, .mv (.tmp 38), false⟩, ⟨some 40, some (39, false), .mv (.tmp 2), false⟩, ⟨some 41, some (39, false), .call (.func 32) [(.tmp 40), (.const (.int .i64 0)), (.const (.int .i64 500000000))], false⟩, ⟨some 42, some (39, false), .un .not (.tmp 41), false⟩, ⟨some 43, none, .pick (.tmp 39) (.const (.bool true)) (.tmp 42), false⟩]) (.keep [1, 2, 3, 43] (.cond (.tmp 43) (.seq (.region false [⟨some 6, none, .mv (.const (.bool true)), false⟩]) (.keep [6] (.ret))) (.skip)))) (.keep [1, 2, 3] (.seq (.region false [⟨some 45, none, .load true 3 (.tmp 3), false⟩, ⟨some 46, none, .call (.func 43) [(.tmp 45)], false⟩, ⟨some 47, none, .call (.func 78) [(.tmp 46)], false⟩, ⟨some 44, none, .mv (.tmp 47), false⟩, ⟨some 48, none, .extr (.tmp 44) 0, false⟩, ⟨some 49, none, .extr (.tmp 44) 1, false⟩, ⟨some 7, none, .mv (.tmp 48), false⟩, ⟨some 8, none, .mv (.tmp 49), false⟩]) (.keep [1, 2, 3, 7, 8] (.seq (.seq (.region false [⟨some 50, none, .mv (.tmp 8), false⟩, ⟨some 51, none, .bin .neq 25 (.tmp 50) (.const (.int .i64 0)), false⟩, ⟨some 52, none, .mv (.tmp 51), false⟩, ⟨some 53, some (52, false), .mv (.tmp 7), false⟩, ⟨some 54, some (52, false), .call (.func 32) [(.tmp 53), (.const (.int .i64 1)), (.const (.int .i64 1024))], false⟩, ⟨some 55, some (52, false), .un .not (.tmp 54), false⟩, ⟨some 56, none, .pick (.tmp 52) (.const (.bool true)) (.tmp 55), false⟩]) (.keep [1, 2, 3, 7, 56] (.cond (.tmp 56) (.seq (.region false [⟨some 6, none, .mv (.const (.bool false)), false⟩]) (.keep [6] (.ret))) (.skip)))) (.keep [1, 2, 3, 7] (.seq (.region false [⟨some 58, none, .load true 3 (.tmp 3), false⟩, ⟨some 59, none, .call (.func 43) [(.tmp 58)], false⟩, ⟨some 60, none, .mv (.tmp 7), false⟩, ⟨some 61, none, .call (.func 73) [(.tmp 59), (.tmp 60)], false⟩, ⟨some 57, none, .mv (.tmp 61), false⟩, ⟨some 62, none, .extr (.tmp 57) 0, false⟩, ⟨some 63, none, .extr (.tmp 57) 1, false⟩, ⟨some 9, none, .alloc [.int .i64 0, .slice none 0 0, .slice none 0 0], false⟩, ⟨none, none, .store false 3 (.tmp 9) (.tmp 62), false⟩, ⟨some 10, none, .mv (.tmp 63), false⟩]) (.keep [1, 2, 3, 7, 9, 10] (.seq (.region false [⟨some 65, none, .load true 3 (.tmp 3), false⟩, ⟨some 66, none, .call (.func 43) [(.tmp 65)], false⟩, ⟨some 67, none, .mv (.tmp 1), false⟩, ⟨some 68, none, .mv (.tmp 7), false⟩, ⟨some 69, none, .call (.func 31) [(.tmp 67), (.tmp 68)], false⟩, ⟨some 70, none, .call (.func 73) [(.tmp 66), (.tmp 69)], false⟩, ⟨some 64, none, .mv (.tmp 70), false⟩, ⟨some 71, none, .extr (.tmp 64) 0, false⟩, ⟨some 72, none, .extr (.tmp 64) 1, false⟩, ⟨some 11, none, .alloc [.int .i64 0, .slice none 0 0, .slice none 0 0], false⟩, ⟨none, none, .store false 3 (.tmp 11) (.tmp 71), false⟩, ⟨some 12, none, .mv (.tmp 72), false⟩]) (.keep [1, 2, 3, 7, 9, 10, 11, 12] (.seq (.region false [⟨some 74, none, .load true 3 (.tmp 3), false⟩, ⟨some 75, none, .call (.func 43) [(.tmp 74)], false⟩, ⟨some 76, none, .call (.func 71) [(.tmp 75)], false⟩, ⟨some 73, none, .mv (.tmp 76), false⟩, ⟨some 77, none, .extr (.tmp 73) 0, false⟩, ⟨some 78, none, .extr (.tmp 73) 1, false⟩, ⟨some 79, none, .extr (.tmp 73) 2, false⟩, ⟨some 14, none, .alloc [.int .i64 0, .slice none 0 0, .slice none 0 0], false⟩, ⟨some 13, none, .mv (.tmp 77), false⟩, ⟨none, none, .store false 3 (.tmp 14) (.tmp 78), false⟩, ⟨some 15, none, .mv (.tmp 79), false⟩]) (.keep [1, 2, 3, 7, 9, 10, 11, 12, 14, 15] (.seq (.region false [⟨some 81, none, .load true 3 (.tmp 3), false⟩, ⟨some 82, none, .call (.func 43) [(.tmp 81)], false⟩, ⟨some 83, none, .call (.func 73) [(.tmp 82), (.const (.int .i64 1))], false⟩, ⟨some 80, none, .mv (.tmp 83), false⟩, ⟨some 84, none, .extr (.tmp 80) 0, false⟩, ⟨some 85, none, .extr (.tmp 80) 1, false⟩, ⟨some 16, none, .alloc [.int .i64 0, .slice none 0 0, .slice none 0 0], false⟩, ⟨none, none, .store false 3 (.tmp 16) (.tmp 84), false⟩, ⟨some 17, none, .mv (.tmp 85), false⟩]) (.keep [1, 2, 3, 7, 9, 10, 11, 12, 14, 15, 16, 17] (.seq (.seq (.region false [⟨some 86, none, .mv (.tmp 10), false⟩, ⟨some 87, none, .bin .neq 25 (.tmp 86) (.const (.int .i64 0)), false⟩, ⟨some 88, none, .mv (.tmp 87), false⟩, ⟨some 89, some (88, false), .mv (.tmp 12), false⟩, ⟨some 90, some (88, false), .bin .neq 25 (.tmp 89) (.const (.int .i64 0)), false⟩, ⟨some 91, none, .pick (.tmp 88) (.const (.bool true)) (.tmp 90), false⟩, ⟨some 92, none, .mv (.tmp 91), false⟩, ⟨some 93, some (92, false), .mv (.tmp 15), false⟩, ⟨some 94, some (92, false), .bin .neq 25 (.tmp 93) (.const (.int .i64 0)), false⟩, ⟨some 95, none, .pick (.tmp 92) (.const (.bool true)) (.tmp 94), false⟩, ⟨some 96, none, .mv (.tmp 95), false⟩, ⟨some 97, some (96, false), .mv (.tmp 17), false⟩, ⟨some 98, some (96, false), .bin .neq 25 (.tmp 97) (.const (.int .i64 0)), false⟩, ⟨some 99, none, .pick (.tmp 96) (.const (.bool true)) (.tmp 98), false⟩, ⟨some 100, none, .mv (.tmp 99), false⟩, ⟨some 101, some (100, false), .load true 3 (.tmp 9), false⟩, ⟨some 102, some (100, false), .load true 3 (.tmp 3), false⟩, ⟨some 103, some (100, false), .call (.func 74) [(.tmp 101), (.tmp 102)], false⟩, ⟨some 104, some (100, false), .un .not (.tmp 103), false⟩, ⟨some 105, none, .pick (.tmp 100) (.const (.bool true)) (.tmp 104), false⟩, ⟨some 106, none, .mv (.tmp 105), false⟩, ⟨some 107, some (106, false), .load true 3 (.tmp 14), false⟩, ⟨some 108, some (106, false), .load true 3 (.tmp 16), false⟩, ⟨some 109, some (106, false), .call (.func 74) [(.tmp 107), (.tmp 108)], false⟩, ⟨some 110, some (106, false), .un .not (.tmp 109), false⟩, ⟨some 111, none, .pick (.tmp 106) (.const (.bool true)) (.tmp 110), false⟩]) (.keep [1, 2, 3, 7, 11, 111] (.cond (.tmp 111) (.seq (.region false [⟨some 6, none, .mv (.const (.bool false)), false⟩]) (.keep [6] (.ret))) (.skip)))) (.keep [1, 2, 3, 7, 11] (.seq (.seq (.region false [⟨some 112, none, .mv (.tmp 1), false⟩, ⟨some 113, none, .mv (.tmp 7), false⟩, ⟨some 114, none, .call (.func 31) [(.tmp 112), (.tmp 113)], false⟩, ⟨some 115, none, .bin .neq 3 (.tmp 114) (.const (.int .i64 0)), false⟩, ⟨some 116, none, .mv (.tmp 115), false⟩, ⟨some 117, some (116, true), .faddr 2 (.tmp 11), false⟩, ⟨some 118, some (116, true), .load false 1 (.tmp 117), false⟩, ⟨some 119, some (116, true), .faddr 2 (.tmp 3), false⟩, ⟨some 120, some (116, true), .load false 1 (.tmp 119), false⟩, ⟨some 121, some (116, true), .call (.func 37) [(.tmp 118), (.tmp 120)], false⟩, ⟨some 122, none, .pick (.tmp 116) (.tmp 121) (.const (.bool false)), false⟩]) (.keep [1, 2, 3, 122] (.cond (.tmp 122) (.seq (.region false [⟨some 6, none, .mv (.const (.bool false)), false⟩]) (.keep [6] (.ret))) (.skip)))) (.keep [1, 2, 3] (.seq (.region false [⟨some 124, none, .load true 3 (.tmp 3), false⟩, ⟨some 125, none, .call (.func 43) [(.tmp 124)], false⟩, ⟨some 126, none, .mv (.tmp 1), false⟩, ⟨some 127, none, .call (.func 73) [(.tmp 125), (.tmp 126)], false⟩, ⟨some 123, none, .mv (.tmp 127), false⟩, ⟨some 128, none, .extr (.tmp 123) 0, false⟩, ⟨some 129, none, .extr (.tmp 123) 1, false⟩, ⟨some 18, none, .alloc [.int .i64 0, .slice none 0 0, .slice none 0 0], false⟩, ⟨none, none, .store false 3 (.tmp 18) (.tmp 128), false⟩, ⟨some 19, none, .mv (.tmp 129), false⟩]) (.keep [1, 2, 3, 18, 19] (.seq (.seq (.region false [⟨some 130, none, .mv (.tmp 19), false⟩, ⟨some 131, none, .bin .neq 25 (.tmp 130) (.const (.int .i64 0)), false⟩, ⟨some 132, none, .mv (.tmp 131), false⟩, ⟨some 133, some (132, false), .load true 3 (.tmp 18), false⟩, ⟨some 134, some (132, false), .call (.func 44) [(.tmp 133)], false⟩, ⟨some 135, some (132, false), .bin .neq 3 (.tmp 134) (.const (.int .i64 0)), false⟩, ⟨some 136, none, .pick (.tmp 132) (.const (.bool true)) (.tmp 135), false⟩]) (.keep [1, 2, 3, 18, 136] (.cond (.tmp 136) (.seq (.region false [⟨some 6, none, .mv (.const (.bool false)), false⟩]) (.keep [6] (.ret))) (.skip)))) (.keep [1, 2, 3, 18] (.seq (.region false [⟨some 138, none, .load true 3 (.tmp 18), false⟩, ⟨some 139, none, .call (.func 43) [(.tmp 138)], false⟩, ⟨some 140, none, .mv (.tmp 2), false⟩, ⟨some 141, none, .call (.func 73) [(.tmp 139), (.tmp 140)], false⟩, ⟨some 137, none, .mv (.tmp 141), false⟩, ⟨some 142, none, .extr (.tmp 137) 0, false⟩, ⟨some 143, none, .extr (.tmp 137) 1, false⟩, ⟨some 20, none, .alloc [.int .i64 0, .slice none 0 0, .slice none 0 0], false⟩, ⟨none, none, .store false 3 (.tmp 20) (.tmp 142), false⟩, ⟨some 21, none, .mv (.tmp 143), false⟩]) (.keep [1, 2, 3, 20, 21] (.seq (.region false [⟨some 145, none, .load true 3 (.tmp 3), false⟩, ⟨some 146, none, .call (.func 43) [(.tmp 145)], false⟩, ⟨some 147, none, .mv (.tmp 1), false⟩, ⟨some 148, none, .mv (.tmp 2), false⟩, ⟨some 149, none, .bin .add 3 (.tmp 147) (.tmp 148), false⟩, ⟨some 150, none, .call (.func 73) [(.tmp 146), (.tmp 149)], false⟩, ⟨some 144, none, .mv (.tmp 150), false⟩, ⟨some 151, none, .extr (.tmp 144) 0, false⟩, ⟨some 152, none, .extr (.tmp 144) 1, false⟩, ⟨some 22, none, .alloc [.int .i64 0, .slice none 0 0, .slice none 0 0], false⟩, ⟨none, none, .store false 3 (.tmp 22) (.tmp 151), false⟩, ⟨some 23, none, .mv (.tmp 152), false⟩]) (.keep [20, 21, 22, 23] (.seq (.region false [⟨some 153, none, .mv (.tmp 21), false⟩, ⟨some 154, none, .bin .eql 25 (.tmp 153) (.const (.int .i64 0)), false⟩, ⟨some 155, none, .mv (.tmp 154), false⟩, ⟨some 156, some (155, true), .mv (.tmp 23), false⟩, ⟨some 157, some (155, true), .bin .eql 25 (.tmp 156) (.const (.int .i64 0)), false⟩, ⟨some 158, none, .pick (.tmp 155) (.tmp 157) (.const (.bool false)), false⟩, ⟨some 159, none, .mv (.tmp 158), false⟩, ⟨some 160, some (159, true), .load true 3 (.tmp 20), false⟩, ⟨some 161, some (159, true), .load true 3 (.tmp 22), false⟩, ⟨some 162, some (159, true), .call (.func 74) [(.tmp 160), (.tmp 161)], false⟩, ⟨some 163, none, .pick (.tmp 159) (.tmp 162) (.const (.bool false)), false⟩, ⟨some 6, none, .mv (.tmp 163), false⟩]) (.keep [6] (.ret))))))))))))))))))))))))))))))))
def rv14 : List RV := [.tmp 6]
theorem is14 : FnIs Try.prog 14 164 c14 rv14 := ⟨⟨Try.f14, _, Try.func14, by kernel_rfl, rfl, rfl, by kernel_rfl, by kernel_rfl⟩, by decide⟩
def c15 : AC := .seq (.region false [⟨some 0, none, .mv (.const (.bool false)), false⟩]) (.keep [] (.seq (.region false [⟨some 11, none, .call (.func 79) [], false⟩, ⟨some 12, none, .call (.func 72) [(.tmp 11), (.const (.int .i64 7))], false⟩, ⟨some 10, none, .mv (.tmp 12), false⟩, ⟨some 13, none, .extr (.tmp 10) 0, false⟩, ⟨some 14, none, .extr (.tmp 10) 1, false⟩, ⟨some 1, none, .mv (.tmp 13), false⟩, ⟨some 2, none, .mv (.tmp 14), false⟩]) (.keep [1, 2] (.seq (.region false [⟨some 16, none, .mkSl false 3 1 [.int .i64 0] 4 [(0, (.const (.int .i64 0))), (1, (.const (.int .i64 1))), (2, (.const (.int .i64 1))), (3, (.const (.int .i64 0)))], false⟩, ⟨some 17, none, .call (.func 24) [(.const (.int .i64 4)), (.tmp 16)], false⟩, ⟨some 15, none, .mv (.tmp 17), false⟩, ⟨some 18, none, .extr (.tmp 15) 0, false⟩, ⟨some 19, none, .extr (.tmp 15) 1, false⟩, ⟨some 3, none, .mv (.tmp 18), false⟩, ⟨some 4, none, .mv (.tmp 19), false⟩]) (.keep [1, 2, 3, 4] (.seq (.region false [⟨some 21, none, .build [.int .i64 0, .int .i64 0] [(0, 1, (.const (.int .i64 5))), (1, 1, (.const (.int .i64 1)))], false⟩, ⟨some 22, none, .mkSl false 48 2 [.int .i64 0, .int .i64 0] 1 [(0, (.tmp 21))], false⟩, ⟨some 23, none, .build [.int .i64 0, .int .i64 0, .slice none 0 0] [(0, 1, (.const (.int .i64 4))), (1, 1, (.const (.int .i64 2))), (2, 1, (.tmp 22))], false⟩, ⟨some 24, none, .call (.func 58) [(.tmp 23)], false⟩, ⟨some 20, none, .mv (.tmp 24), false⟩, ⟨some 25, none, .extr (.tmp 20) 0, false⟩, ⟨some 26, none, .extr (.tmp 20) 1, false⟩, ⟨some 5, none, .mv (.tmp 25), false⟩, ⟨some 6, none, .mv (.tmp 26), false⟩]) (.keep [1, 2, 3, 4, 5, 6] (.seq (.region false [⟨some 28, none, .build [.int .i64 0, .int .i64 0] [(0, 1, (.const (.int .i64 1)))], false⟩, ⟨some 29, none, .build [.int .i64 0, .int .i64 0] [(1, 1, (.const (.int .i64 1)))], false⟩, ⟨some 30, none, .mkSl false 48 2 [.int .i64 0, .int .i64 0] 2 [(0, (.tmp 28)), (1, (.tmp 29))], false⟩, ⟨some 31, none, .build [.int .i64 0, .int .i64 0] [], false⟩, ⟨some 32, none, .build [.int .i64 0, .int .i64 0] [(0, 1, (.const (.int .i64 2)))], false⟩, ⟨some 33, none, .mkSl false 48 2 [.int .i64 0, .int .i64 0] 2 [(0, (.tmp 31)), (1, (.tmp 32))], false⟩, ⟨some 34, none, .mkSl false 35 1 [.slice none 0 0] 2 [(0, (.tmp 30)), (1, (.tmp 33))], false⟩, ⟨some 35, none, .build [.int .i64 0, .int .i64 0] [(0, 1, (.const (.int .i64 2))), (1, 1, (.const (.int .i64 1)))], false⟩, ⟨some 36, none, .mkSl false 48 2 [.int .i64 0, .int .i64 0] 1 [(0, (.tmp 35))], false⟩, ⟨some 37, none, .build [.int .i64 0, .int .i64 0] [(0, 1, (.const (.int .i64 2))), (1, 1, (.const (.int .i64 2)))], false⟩, ⟨some 38, none, .mkSl false 48 2 [.int .i64 0, .int .i64 0] 1 [(0, (.tmp 37))], false⟩, ⟨some 39, none, .mkSl false 35 1 [.slice none 0 0] 2 [(0, (.tmp 36)), (1, (.tmp 38))], false⟩, ⟨some 40, none, .call (.func 17) [(.tmp 34), (.tmp 39)], false⟩, ⟨some 27, none, .mv (.tmp 40), false⟩, ⟨some 41, none, .extr (.tmp 27) 0, false⟩, ⟨some 42, none, .extr (.tmp 27) 1, false⟩, ⟨some 43, none, .extr (.tmp 27) 2, false⟩, ⟨some 7, none, .mv (.tmp 41), false⟩, ⟨some 8, none, .mv (.tmp 42), false⟩, ⟨some 9, none, .mv (.tmp 43), false⟩]) (.keep [1, 2, 3, 4, 5, 6, 7, 8, 9] (.seq (.region false [⟨some 44, none, .mv (.tmp 2), false⟩, ⟨some 45, none, .bin .eql 25 (.tmp 44) (.const (.int .i64 0)), false⟩, ⟨some 46, none, .mv (.tmp 45), false⟩, ⟨some 47, some (46, true), .mv (.tmp 1), false⟩, ⟨some 48, some (46, true), .mkSl false 3 1 [.int .i64 0] 7 [(0, (.const (.int .i64 1))), (1, (.const (.int .i64 0))), (2, (.const (.int .i64 0))), (3, (.const (.int .i64 1))), (4, (.const (.int .i64 0))), (5, (.const (.int .i64 1))), (6, (.const (.int .i64 1)))], false⟩, ⟨some 49, some (46, true), .call (.func 37) [(.tmp 47), (.tmp 48)], false⟩, ⟨some 50, none, .pick (.tmp 46) (.tmp 49) (.const (.bool false)), false⟩, ⟨some 51, none, .mv (.tmp 50), false⟩, ⟨some 52, some (51, true), .mv (.tmp 4), false⟩, ⟨some 53, some (51, true), .bin .eql 25 (.tmp 52) (.const (.int .i64 0)), false⟩, ⟨some 54, none, .pick (.tmp 51) (.tmp 53) (.const (.bool false)), false⟩, ⟨some 55, none, .mv (.tmp 54), false⟩, ⟨some 56, some (55, true), .mv (.tmp 3), false⟩, ⟨some 57, some (55, true), .build [.int .i64 0, .int .i64 0] [(0, 1, (.const (.int .i64 3))), (1, 1, (.const (.int .i64 (-1))))], false⟩, ⟨some 58, some (55, true), .mkSl false 48 2 [.int .i64 0, .int .i64 0] 1 [(0, (.tmp 57))], false⟩, ⟨some 59, some (55, true), .call (.func 27) [(.tmp 56), (.tmp 58)], false⟩, ⟨some 60, none, .pick (.tmp 55) (.tmp 59) (.const (.bool false)), false⟩, ⟨some 61, none, .mv (.tmp 60), false⟩, ⟨some 62, some (61, true), .mv (.tmp 6), false⟩, ⟨some 63, some (61, true), .bin .eql 25 (.tmp 62) (.const (.int .i64 0)), false⟩, ⟨some 64, none, .pick (.tmp 61) (.tmp 63) (.const (.bool false)), false⟩, ⟨some 65, none, .mv (.tmp 64), false⟩, ⟨some 66, some (65, true), .mv (.tmp 5), false⟩, ⟨some 67, some (65, true), .mkSl false 3 1 [.int .i64 0] 4 [(0, (.const (.int .i64 48))), (1, (.const (.int .i64 8))), (2, (.const (.int .i64 (-8)))), (3, (.const (.int .i64 24)))], false⟩, ⟨some 68, some (65, true), .call (.func 37) [(.tmp 66), (.tmp 67)], false⟩, ⟨some 69, none, .pick (.tmp 65) (.tmp 68) (.const (.bool false)), false⟩, ⟨some 70, none, .mv (.tmp 69), false⟩, ⟨some 71, some (70, true), .mv (.tmp 9), false⟩, ⟨some 72, some (70, true), .bin .eql 25 (.tmp 71) (.const (.int .i64 0)), false⟩, ⟨some 73, none, .pick (.tmp 70) (.tmp 72) (.const (.bool false)), false⟩, ⟨some 74, none, .mv (.tmp 73), false⟩, ⟨some 75, some (74, true), .mv (.tmp 8), false⟩, ⟨some 76, some (74, true), .bin .eql 3 (.tmp 75) (.const (.int .i64 4)), false⟩, ⟨some 77, none, .pick (.tmp 74) (.tmp 76) (.const (.bool false)), false⟩, ⟨some 78, none, .mv (.tmp 77), false⟩, ⟨some 79, some (78, true), .mv (.tmp 7), false⟩, ⟨some 80, some (78, true), .build [.int .i64 0, .int .i64 0] [(0, 1, (.const (.int .i64 12)))], false⟩, ⟨some 81, some (78, true), .mkSl false 48 2 [.int .i64 0, .int .i64 0] 1 [(0, (.tmp 80))], false⟩, ⟨some 82, some (78, true), .build [.int .i64 0, .int .i64 0] [(0, 1, (.const (.int .i64 4))), (1, 1, (.const (.int .i64 4)))], false⟩, ⟨some 83, some (78, true), .mkSl false 48 2 [.int .i64 0, .int .i64 0] 1 [(0, (.tmp 82))], false⟩, ⟨some 84, some (78, true), .mkSl false 35 1 [.slice none 0 0] 2 [(0, (.tmp 81)), (1, (.tmp 83))], false⟩, ⟨some 85, some (78, true), .call (.func 21) [(.tmp 79), (.tmp 84)], false⟩, ⟨some 86, none, .pick (.tmp 78) (.tmp 85) (.const (.bool false)), false⟩, ⟨some 0, none, .mv (.tmp 86), false⟩]) (.keep [0] (.ret))))))))))))
def rv15 : List RV := [.tmp 0]
theorem is15 : FnIs Try.prog 15 87 c15 rv15 := ⟨⟨Try.f15, _, Try.func15, by kernel_rfl, rfl, rfl, by kernel_rfl, by kernel_rfl⟩, by decide⟩
def c17l1 : AC := .seq (.region false [⟨some 67, none, .bin .lss 3 (.tmp 66) (.tmp 65), false⟩]) (.keep [9, 10, 11, 13, 58, 59, 60, 64, 65, 66, 67] (.seq (.cond (.tmp 67) (.skip) (.exit 2)) (.keep [9, 10, 11, 13, 58, 59, 60, 64, 65, 66] (.seq (.block 3 (.seq (.region false [⟨some 68, none, .mv (.tmp 66), false⟩, ⟨some 69, none, .iaddr 2 [.int .i64 0, .int .i64 0] (.tmp 64) (.tmp 66), false⟩, ⟨some 70, none, .load true 2 (.tmp 69), false⟩, ⟨some 15, none, .alloc [.int .i64 0, .int .i64 0], false⟩, ⟨some 14, none, .mv (.tmp 68), false⟩, ⟨none, none, .store false 2 (.tmp 15) (.tmp 70), false⟩]) (.keep [9, 10, 11, 13, 14, 15, 58, 59, 60, 64, 65, 66] (.seq (.region false [⟨some 71, none, .mv (.tmp 13), false⟩, ⟨some 72, none, .mv (.tmp 14), false⟩, ⟨some 73, none, .load true 2 (.tmp 9), false⟩, ⟨some 74, none, .load true 2 (.tmp 15), false⟩, ⟨some 75, none, .call (.func 83) [(.tmp 73), (.tmp 74)], false⟩, ⟨some 76, none, .iaddr 2 [.int .i64 0, .int .i64 0] (.tmp 71) (.tmp 72), false⟩, ⟨none, none, .store false 2 (.tmp 76) (.tmp 75), false⟩]) (.keep [9, 10, 11, 13, 14, 58, 59, 60, 64, 65, 66] (.seq (.region false [⟨some 77, none, .mv (.tmp 13), false⟩, ⟨some 78, none, .mv (.tmp 14), false⟩, ⟨some 79, none, .iaddr 2 [.int .i64 0, .int .i64 0] (.tmp 77) (.tmp 78), false⟩, ⟨some 80, none, .load true 2 (.tmp 79), false⟩, ⟨some 81, none, .call (.func 88) [(.tmp 80), (.const (.int .i64 100000000))], false⟩, ⟨some 82, none, .un .not (.tmp 81), false⟩]) (.keep [9, 10, 11, 13, 58, 59, 60, 64, 65, 66, 82] (.cond (.tmp 82) (.seq (.region false [⟨some 4, none, .mv (.const (.slice none 0 0)), false⟩, ⟨some 5, none, .mv (.const (.int .i64 0)), false⟩, ⟨some 6, none, .mv (.const (.int .i64 8)), false⟩]) (.keep [4, 5, 6] (.ret))) (.skip))))))))) (.keep [9, 10, 11, 13, 58, 59, 60, 64, 65, 66] (.region false [⟨some 83, none, .bin .add 3 (.tmp 66) (.const (.int .i64 1)), false⟩, ⟨some 66, none, .mv (.tmp 83), false⟩]))))))
def c17l2 : AC := .seq (.region false [⟨some 61, none, .bin .lss 3 (.tmp 60) (.tmp 59), false⟩]) (.keep [9, 10, 11, 58, 59, 60, 61] (.seq (.cond (.tmp 61) (.skip) (.exit 0)) (.keep [9, 10, 11, 58, 59, 60] (.seq (.block 1 (.seq (.region false [⟨some 62, none, .iaddr 1 [.slice none 0 0] (.tmp 58) (.tmp 60), false⟩, ⟨some 63, none, .load false 1 (.tmp 62), false⟩, ⟨some 13, none, .mv (.tmp 63), false⟩]) (.keep [9, 10, 11, 13, 58, 59, 60] (.seq (.region false [⟨some 64, none, .mv (.tmp 13), false⟩, ⟨some 65, none, .len false (.tmp 64), false⟩, ⟨some 66, none, .mv (.const (.int .i64 0)), false⟩]) (.keep [9, 10, 11, 13, 58, 59, 60, 64, 65, 66] (.block 2 (.loop c17l1))))))) (.keep [9, 10, 11, 58, 59, 60] (.region false [⟨some 84, none, .bin .add 3 (.tmp 60) (.const (.int .i64 1)), false⟩, ⟨some 60, none, .mv (.tmp 84), false⟩]))))))
def c17 : AC := .seq (.region false [⟨some 4, none, .mv (.const (.slice none 0 0)), false⟩, ⟨some 5, none, .mv (.const (.int .i64 0)), false⟩, ⟨some 6, none, .mv (.const (.int .i64 0)), false⟩]) (.keep [0, 1] (.seq (.region false [⟨some 17, none, .mv (.tmp 0), false⟩, ⟨some 18, none, .call (.func 49) [(.tmp 17)], false⟩, ⟨some 16, none, .mv (.tmp 18), false⟩, ⟨some 19, none, .extr (.tmp 16) 0, false⟩, ⟨some 20, none, .extr (.tmp 16) 1, false⟩, ⟨some 7, none, .alloc [.int .i64 0, .int .i64 0], false⟩, ⟨none, none, .store false 2 (.tmp 7) (.tmp 19), false⟩, ⟨some 8, none, .mv (.tmp 20), false⟩]) (.keep [0, 1, 7, 8] (.seq (.seq (.region true [⟨some 21, none, .mvs (.tmp 8), false⟩, ⟨some 22, none, .mv (.tmp 1), false⟩, ⟨some 23, none, .call (.func 81) [(.tmp 22)], false⟩, ⟨some 24, none, .mv (.tmp 1), false⟩, ⟨some 25, none, .len false (.tmp 24), false⟩, ⟨some 26, none, .mv (.tmp 0), false⟩, ⟨some 27, none, .len false (.tmp 26), false⟩, ⟨some 28, none, .bin .eql 3 (.tmp 25) (.tmp 27), false⟩, ⟨some 29, none, .call (.func 82) [(.tmp 28), (.const (.int .i64 13))], false⟩, ⟨some 30, none, .load true 2 (.tmp 7), false⟩, ⟨some 31, none, .build [.int .i64 0, .int .i64 0] [], false⟩, ⟨some 32, none, .ext (.eqs true [0, 0]) [(.tmp 30), (.tmp 31)], false⟩, ⟨some 33, none, .call (.func 82) [(.tmp 32), (.const (.int .i64 27))], true⟩, ⟨some 34, none, .mkSl false 25 1 [.int .i64 0] 4 [(0, (.tmp 21)), (1, (.tmp 23)), (2, (.tmp 29)), (3, (.tmp 33))], true⟩, ⟨some 35, none, .call (.func 80) [(.tmp 34)], true⟩, ⟨some 8, none, .mv (.tmp 35), true⟩]) (.keep [0, 1, 7, 8] (.seq (.region false [⟨some 36, none, .mv (.tmp 8), false⟩, ⟨some 37, none, .bin .neq 25 (.tmp 36) (.const (.int .i64 0)), false⟩]) (.keep [0, 1, 7, 8, 37] (.cond (.tmp 37) (.seq (.region false [⟨some 38, none, .mv (.tmp 8), false⟩, ⟨some 4, none, .mv (.const (.slice none 0 0)), false⟩, ⟨some 5, none, .mv (.const (.int .i64 0)), false⟩, ⟨some 6, none, .mv (.tmp 38), false⟩]) (.keep [4, 5, 6] (.ret))) (.skip)))))) (.keep [0, 1, 7] (.seq (.region false [⟨some 39, none, .faddr 0 (.tmp 7), false⟩, ⟨some 40, none, .load false 1 (.tmp 39), false⟩, ⟨some 41, none, .faddr 1 (.tmp 7), false⟩, ⟨some 42, none, .load false 1 (.tmp 41), false⟩, ⟨some 43, none, .un .neg (.tmp 42), false⟩, ⟨some 44, none, .build [.int .i64 0, .int .i64 0] [(0, 1, (.tmp 40)), (1, 1, (.tmp 43))], false⟩, ⟨some 9, none, .alloc [.int .i64 0, .int .i64 0], false⟩, ⟨none, none, .store false 2 (.tmp 9) (.tmp 44), false⟩]) (.keep [0, 1, 7, 9] (.seq (.region false [⟨some 45, none, .load true 2 (.tmp 7), false⟩, ⟨some 46, none, .load true 2 (.tmp 9), false⟩, ⟨some 47, none, .call (.func 83) [(.tmp 45), (.tmp 46)], false⟩, ⟨some 48, none, .field false 1 0 (.tmp 47), false⟩, ⟨some 10, none, .mv (.tmp 48), false⟩]) (.keep [0, 1, 9, 10] (.seq (.seq (.region false [⟨some 49, none, .mv (.tmp 10), false⟩, ⟨some 50, none, .bin .gtr 3 (.tmp 49) (.const (.int .i64 10000000)), false⟩]) (.keep [0, 1, 9, 10, 50] (.cond (.tmp 50) (.seq (.region false [⟨some 4, none, .mv (.const (.slice none 0 0)), false⟩, ⟨some 5, none, .mv (.const (.int .i64 0)), false⟩, ⟨some 6, none, .mv (.const (.int .i64 8)), false⟩]) (.keep [4, 5, 6] (.ret))) (.skip)))) (.keep [0, 1, 9, 10] (.seq (.region false [⟨some 51, none, .mv (.tmp 0), false⟩, ⟨some 52, none, .call (.func 85) [(.tmp 51)], false⟩, ⟨some 53, none, .call (.func 84) [(.tmp 52)], false⟩, ⟨some 54, none, .mv (.tmp 1), false⟩, ⟨some 55, none, .call (.func 84) [(.tmp 54)], false⟩, ⟨some 56, none, .call (.func 86) [(.tmp 53), (.tmp 55)], false⟩, ⟨some 57, none, .call (.func 87) [(.tmp 56)], false⟩, ⟨some 11, none, .mv (.tmp 57), false⟩]) (.keep [9, 10, 11] (.seq (.seq (.region false [⟨some 58, none, .mv (.tmp 11), false⟩, ⟨some 59, none, .len false (.tmp 58), false⟩, ⟨some 60, none, .mv (.const (.int .i64 0)), false⟩]) (.keep [9, 10, 11, 58, 59, 60] (.block 0 (.loop c17l2)))) (.keep [10, 11] (.seq (.region false [⟨some 85, none, .mv (.tmp 11), false⟩, ⟨some 86, none, .mv (.tmp 10), false⟩, ⟨some 4, none, .mv (.tmp 85), false⟩, ⟨some 5, none, .mv (.tmp 86), false⟩, ⟨some 6, none, .mv (.const (.int .i64 0)), false⟩]) (.keep [4, 5, 6] (.ret))))))))))))))))))
def rv17 : List RV := [.tmp 4, .tmp 5, .tmp 6]
theorem is17 : FnIs Try.prog 17 87 c17 rv17 := ⟨⟨Try.f17, _, Try.func17, by kernel_rfl, rfl, rfl, by kernel_rfl, by kernel_rfl⟩, by decide⟩
def c21l1 : AC := .seq (.seq (.region false [⟨some 11, none, .mv (.tmp 5), false⟩, ⟨some 12, none, .mv (.tmp 0), false⟩, ⟨some 13, none, .len false (.tmp 12), false⟩, ⟨some 14, none, .bin .lss 3 (.tmp 11) (.tmp 13), false⟩]) (.keep [0, 1, 5, 14] (.cond (.tmp 14) (.skip) (.exit 0)))) (.keep [0, 1, 5] (.seq (.block 1 (.seq (.region true [⟨some 17, none, .mv (.tmp 0), false⟩, ⟨some 18, none, .mvs (.tmp 5), false⟩, ⟨some 19, none, .iaddr 1 [.slice none 0 0] (.tmp 17) (.tmp 18), false⟩, ⟨some 20, none, .load false 1 (.tmp 19), false⟩, ⟨some 21, none, .mv (.tmp 1), false⟩, ⟨some 22, none, .mv (.tmp 5), false⟩, ⟨some 23, none, .iaddr 1 [.slice none 0 0] (.tmp 21) (.tmp 22), false⟩, ⟨some 24, none, .load false 1 (.tmp 23), false⟩, ⟨some 25, none, .call (.func 27) [(.tmp 20), (.tmp 24)], true⟩, ⟨some 26, none, .un .not (.tmp 25), true⟩]) (.keep [0, 1, 5, 26] (.cond (.tmp 26) (.seq (.region false [⟨some 4, none, .mv (.const (.bool false)), false⟩]) (.keep [4] (.ret))) (.skip))))) (.keep [0, 1, 5] (.region false [⟨some 15, none, .mv (.tmp 5), false⟩, ⟨some 16, none, .bin .add 3 (.tmp 15) (.const (.int .i64 1)), false⟩, ⟨some 5, none, .mv (.tmp 16), false⟩]))))
def c21 : AC := .seq (.region false [⟨some 4, none, .mv (.const (.bool false)), false⟩]) (.keep [0, 1] (.seq (.seq (.region false [⟨some 6, none, .mv (.tmp 0), false⟩, ⟨some 7, none, .len false (.tmp 6), false⟩, ⟨some 8, none, .mv (.tmp 1), false⟩, ⟨some 9, none, .len false (.tmp 8), false⟩, ⟨some 10, none, .bin .neq 3 (.tmp 7) (.tmp 9), false⟩]) (.keep [0, 1, 10] (.cond (.tmp 10) (.seq (.region false [⟨some 4, none, .mv (.const (.bool false)), false⟩]) (.keep [4] (.ret))) (.skip)))) (.keep [0, 1] (.seq (.seq (.region false [⟨some 5, none, .mv (.const (.int .i64 0)), false⟩]) (.keep [0, 1, 5] (.block 0 (.loop c21l1)))) (.keep [] (.seq (.region false [⟨some 4, none, .mv (.const (.bool true)), false⟩]) (.keep [4] (.ret))))))))
def rv21 : List RV := [.tmp 4]
theorem is21 : FnIs Try.prog 21 27 c21 rv21 := ⟨⟨Try.f21, _, Try.func21, by kernel_rfl, rfl, rfl, by kernel_rfl, by kernel_rfl⟩, by decide⟩
def c24r1 : AC := .block 1 (.region true [⟨some 27, none, .load false 1 (.tmp 7), false⟩, ⟨some 28, none, .mv (.tmp 8), false⟩, ⟨some 29, none, .call (.func 96) [(.tmp 28)], false⟩, ⟨some 30, none, .mkSl false 48 2 [.int .i64 0, .int .i64 0] 1 [(0, (.tmp 29))], false⟩, ⟨some 31, none, .app 35 48 2 16 [.int .i64 0, .int .i64 0] (.tmp 27) (.tmp 30), true⟩, ⟨none, none, .store true 1 (.tmp 7) (.tmp 31), true⟩])
def c24 : AC := .seq (.region false [⟨some 4, none, .mv (.const (.slice none 0 0)), false⟩, ⟨some 5, none, .mv (.const (.int .i64 0)), false⟩]) (.keep [0, 1] (.seq (.seq (.region false [⟨some 9, none, .mv (.tmp 0), false⟩, ⟨some 10, none, .call (.func 95) [(.tmp 9)], false⟩, ⟨some 11, none, .mv (.tmp 1), false⟩, ⟨some 12, none, .call (.func 98) [(.tmp 11)], false⟩, ⟨some 13, none, .mkSl false 25 1 [.int .i64 0] 2 [(0, (.tmp 10)), (1, (.tmp 12))], false⟩, ⟨some 14, none, .call (.func 80) [(.tmp 13)], false⟩, ⟨some 6, none, .mv (.tmp 14), false⟩]) (.keep [0, 1, 6] (.seq (.region false [⟨some 15, none, .mv (.tmp 6), false⟩, ⟨some 16, none, .bin .neq 25 (.tmp 15) (.const (.int .i64 0)), false⟩]) (.keep [0, 1, 6, 16] (.cond (.tmp 16) (.seq (.region false [⟨some 17, none, .mv (.tmp 6), false⟩, ⟨some 4, none, .mv (.const (.slice none 0 0)), false⟩, ⟨some 5, none, .mv (.tmp 17), false⟩]) (.keep [4, 5] (.ret))) (.skip)))))) (.keep [0, 1] (.seq (.seq (.region false [⟨some 18, none, .mv (.tmp 1), false⟩, ⟨some 19, none, .len false (.tmp 18), false⟩, ⟨some 20, none, .mv (.tmp 0), false⟩, ⟨some 21, none, .bin .rem 3 (.tmp 19) (.tmp 20), false⟩, ⟨some 22, none, .bin .neq 3 (.tmp 21) (.const (.int .i64 0)), false⟩]) (.keep [0, 1, 22] (.cond (.tmp 22) (.seq (.region false [⟨some 4, none, .mv (.const (.slice none 0 0)), false⟩, ⟨some 5, none, .mv (.const (.int .i64 10)), false⟩]) (.keep [4, 5] (.ret))) (.skip)))) (.keep [0, 1] (.seq (.region false [⟨some 7, none, .alloc [.slice none 0 0], false⟩]) (.keep [0, 1, 7] (.seq (.seq (.region false [⟨some 23, none, .mv (.tmp 1), false⟩, ⟨some 24, none, .mv (.tmp 0), false⟩, ⟨some 25, none, .call (.func 99) [(.tmp 23), (.tmp 24)], false⟩]) (.keep [7, 25] (.block 0 (.rangeFunc (.tmp 25) [26] (.region false [⟨some 8, none, .mv (.tmp 26), false⟩]) c24r1)))) (.keep [7] (.seq (.region false [⟨some 32, none, .load false 1 (.tmp 7), false⟩, ⟨some 4, none, .mv (.tmp 32), false⟩, ⟨some 5, none, .mv (.const (.int .i64 0)), false⟩]) (.keep [4, 5] (.ret))))))))))))
def rv24 : List RV := [.tmp 4, .tmp 5]
theorem is24 : FnIs Try.prog 24 33 c24 rv24 := ⟨⟨Try.f24, _, Try.func24, by kernel_rfl, rfl, rfl, by kernel_rfl, by kernel_rfl⟩, by decide⟩
def c25 : AC := .seq (.region false [⟨some 2, none, .mv (.const (.slice none 0 0)), false⟩]) (.keep [0] (.seq (.region false [⟨some 3, none, .mkSl true 3 1 [.int .i64 0] 0 [], false⟩, ⟨some 4, none, .mv (.tmp 0), false⟩, ⟨some 5, none, .app 33 3 1 8 [.int .i64 0] (.tmp 3) (.tmp 4), false⟩, ⟨some 2, none, .mv (.tmp 5), false⟩]) (.keep [2] (.ret))))
def rv25 : List RV := [.tmp 2]
theorem is25 : FnIs Try.prog 25 6 c25 rv25 := ⟨⟨Try.f25, _, Try.func25, by kernel_rfl, rfl, rfl, by kernel_rfl, by kernel_rfl⟩, by decide⟩
def c27l1 : AC := .seq (.seq (.region false [⟨some 11, none, .mv (.tmp 5), false⟩, ⟨some 12, none, .mv (.tmp 0), false⟩, ⟨some 13, none, .len false (.tmp 12), false⟩, ⟨some 14, none, .bin .lss 3 (.tmp 11) (.tmp 13), false⟩]) (.keep [0, 1, 5, 14] (.cond (.tmp 14) (.skip) (.exit 0)))) (.keep [0, 1, 5] (.seq (.block 1 (.seq (.region true [⟨some 17, none, .mv (.tmp 0), false⟩, ⟨some 18, none, .mvs (.tmp 5), false⟩, ⟨some 19, none, .iaddr 2 [.int .i64 0, .int .i64 0] (.tmp 17) (.tmp 18), false⟩, ⟨some 20, none, .load true 2 (.tmp 19), false⟩, ⟨some 21, none, .mv (.tmp 1), false⟩, ⟨some 22, none, .mv (.tmp 5), false⟩, ⟨some 23, none, .iaddr 2 [.int .i64 0, .int .i64 0] (.tmp 21) (.tmp 22), false⟩, ⟨some 24, none, .load true 2 (.tmp 23), false⟩, ⟨some 25, none, .ext (.eqs true [0, 0]) [(.tmp 20), (.tmp 24)], true⟩]) (.keep [0, 1, 5, 25] (.cond (.tmp 25) (.seq (.region false [⟨some 4, none, .mv (.const (.bool false)), false⟩]) (.keep [4] (.ret))) (.skip))))) (.keep [0, 1, 5] (.region false [⟨some 15, none, .mv (.tmp 5), false⟩, ⟨some 16, none, .bin .add 3 (.tmp 15) (.const (.int .i64 1)), false⟩, ⟨some 5, none, .mv (.tmp 16), false⟩]))))
def c27 : AC := .seq (.region false [⟨some 4, none, .mv (.const (.bool false)), false⟩]) (.keep [0, 1] (.seq (.seq (.region false [⟨some 6, none, .mv (.tmp 0), false⟩, ⟨some 7, none, .len false (.tmp 6), false⟩, ⟨some 8, none, .mv (.tmp 1), false⟩, ⟨some 9, none, .len false (.tmp 8), false⟩, ⟨some 10, none, .bin .neq 3 (.tmp 7) (.tmp 9), false⟩]) (.keep [0, 1, 10] (.cond (.tmp 10) (.seq (.region false [⟨some 4, none, .mv (.const (.bool false)), false⟩]) (.keep [4] (.ret))) (.skip)))) (.keep [0, 1] (.seq (.seq (.region false [⟨some 5, none, .mv (.const (.int .i64 0)), false⟩]) (.keep [0, 1, 5] (.block 0 (.loop c27l1)))) (.keep [] (.seq (.region false [⟨some 4, none, .mv (.const (.bool true)), false⟩]) (.keep [4] (.ret))))))))
def rv27 : List RV := [.tmp 4]
theorem is27 : FnIs Try.prog 27 26 c27 rv27 := ⟨⟨Try.f27, _, Try.func27, by kernel_rfl, rfl, rfl, by kernel_rfl, by kernel_rfl⟩, by decide⟩
def c31 : AC := .seq (.region false [⟨some 4, none, .mv (.const (.int .i64 0)), false⟩]) (.keep [0, 1] (.seq (.region false [⟨some 5, none, .mv (.tmp 0), false⟩, ⟨some 6, none, .mv (.tmp 1), false⟩, ⟨some 7, none, .bin .rem 3 (.tmp 5) (.tmp 6), false⟩, ⟨some 0, none, .mv (.tmp 7), false⟩]) (.keep [0, 1] (.seq (.seq (.region false [⟨some 8, none, .mv (.tmp 0), false⟩, ⟨some 9, none, .bin .lss 3 (.tmp 8) (.const (.int .i64 0)), false⟩]) (.keep [0, 1, 9] (.cond (.tmp 9) (.region false [⟨some 10, none, .mv (.tmp 0), false⟩, ⟨some 11, none, .mv (.tmp 1), false⟩, ⟨some 12, none, .bin .add 3 (.tmp 10) (.tmp 11), false⟩, ⟨some 0, none, .mv (.tmp 12), false⟩]) (.skip)))) (.keep [0] (.seq (.region false [⟨some 13, none, .mv (.tmp 0), false⟩, ⟨some 4, none, .mv (.tmp 13), false⟩]) (.keep [4] (.ret))))))))
def rv31 : List RV := [.tmp 4]
theorem is31 : FnIs Try.prog 31 14 c31 rv31 := ⟨⟨Try.f31, _, Try.func31, by kernel_rfl, rfl, rfl, by kernel_rfl, by kernel_rfl⟩, by decide⟩
def c32 : AC := .seq (.region false [⟨some 6, none, .mv (.const (.bool false)), false⟩]) (.keep [0, 1, 2] (.seq (.region false [⟨some 7, none, .mv (.tmp 1), false⟩, ⟨some 8, none, .mv (.tmp 0), false⟩, ⟨some 9, none, .bin .leq 3 (.tmp 7) (.tmp 8), false⟩, ⟨some 10, none, .mv (.tmp 9), false⟩, ⟨some 11, some (10, true), .mv (.tmp 0), false⟩, ⟨some 12, some (10, true), .mv (.tmp 2), false⟩, ⟨some 13, some (10, true), .bin .leq 3 (.tmp 11) (.tmp 12), false⟩, ⟨some 14, none, .pick (.tmp 10) (.tmp 13) (.const (.bool false)), false⟩, ⟨some 6, none, .mv (.tmp 14), false⟩]) (.keep [6] (.ret))))
def rv32 : List RV := [.tmp 6]
theorem is32 : FnIs Try.prog 32 15 c32 rv32 := ⟨⟨Try.f32, _, Try.func32, by kernel_rfl, rfl, rfl, by kernel_rfl, by kernel_rfl⟩, by decide⟩
def c37l1 : AC := .seq (.seq (.region false [⟨some 11, none, .mv (.tmp 5), false⟩, ⟨some 12, none, .mv (.tmp 0), false⟩, ⟨some 13, none, .len false (.tmp 12), false⟩, ⟨some 14, none, .bin .lss 3 (.tmp 11) (.tmp 13), false⟩]) (.keep [0, 1, 5, 14] (.cond (.tmp 14) (.skip) (.exit 0)))) (.keep [0, 1, 5] (.seq (.block 1 (.seq (.region true [⟨some 17, none, .mv (.tmp 0), false⟩, ⟨some 18, none, .mvs (.tmp 5), false⟩, ⟨some 19, none, .iaddr 1 [.int .i64 0] (.tmp 17) (.tmp 18), false⟩, ⟨some 20, none, .load false 1 (.tmp 19), false⟩, ⟨some 21, none, .mv (.tmp 1), false⟩, ⟨some 22, none, .mv (.tmp 5), false⟩, ⟨some 23, none, .iaddr 1 [.int .i64 0] (.tmp 21) (.tmp 22), false⟩, ⟨some 24, none, .load false 1 (.tmp 23), false⟩, ⟨some 25, none, .bin .neq 3 (.tmp 20) (.tmp 24), true⟩]) (.keep [0, 1, 5, 25] (.cond (.tmp 25) (.seq (.region false [⟨some 4, none, .mv (.const (.bool false)), false⟩]) (.keep [4] (.ret))) (.skip))))) (.keep [0, 1, 5] (.region false [⟨some 15, none, .mv (.tmp 5), false⟩, ⟨some 16, none, .bin .add 3 (.tmp 15) (.const (.int .i64 1)), false⟩, ⟨some 5, none, .mv (.tmp 16), false⟩]))))
def c37 : AC := .seq (.region false [⟨some 4, none, .mv (.const (.bool false)), false⟩]) (.keep [0, 1] (.seq (.seq (.region false [⟨some 6, none, .mv (.tmp 0), false⟩, ⟨some 7, none, .len false (.tmp 6), false⟩, ⟨some 8, none, .mv (.tmp 1), false⟩, ⟨some 9, none, .len false (.tmp 8), false⟩, ⟨some 10, none, .bin .neq 3 (.tmp 7) (.tmp 9), false⟩]) (.keep [0, 1, 10] (.cond (.tmp 10) (.seq (.region false [⟨some 4, none, .mv (.const (.bool false)), false⟩]) (.keep [4] (.ret))) (.skip)))) (.keep [0, 1] (.seq (.seq (.region false [⟨some 5, none, .mv (.const (.int .i64 0)), false⟩]) (.keep [0, 1, 5] (.block 0 (.loop c37l1)))) (.keep [] (.seq (.region false [⟨some 4, none, .mv (.const (.bool true)), false⟩]) (.keep [4] (.ret))))))))
def rv37 : List RV := [.tmp 4]
theorem is37 : FnIs Try.prog 37 26 c37 rv37 := ⟨⟨Try.f37, _, Try.func37, by kernel_rfl, rfl, rfl, by kernel_rfl, by kernel_rfl⟩, by decide⟩
def c41 : AC := .seq (.region false [⟨some 1, none, .box (.tmp 0), false⟩, ⟨some 2, none, .mv (.const (.bool false)), false⟩]) (.keep [1] (.seq (.region false [⟨some 3, none, .faddr 1 (.tmp 1), false⟩, ⟨some 4, none, .load false 1 (.tmp 3), false⟩, ⟨some 5, none, .len false (.tmp 4), false⟩, ⟨some 6, none, .bin .leq 3 (.tmp 5) (.const (.int .i64 12)), false⟩, ⟨some 7, none, .mv (.tmp 6), false⟩, ⟨some 8, some (7, true), .faddr 2 (.tmp 1), false⟩, ⟨some 9, some (7, true), .load false 1 (.tmp 8), false⟩, ⟨some 10, some (7, true), .len false (.tmp 9), false⟩, ⟨some 11, some (7, true), .bin .leq 3 (.tmp 10) (.const (.int .i64 12)), false⟩, ⟨some 12, none, .pick (.tmp 7) (.tmp 11) (.const (.bool false)), false⟩, ⟨some 2, none, .mv (.tmp 12), false⟩]) (.keep [2] (.ret))))
def rv41 : List RV := [.tmp 2]
theorem is41 : FnIs Try.prog 41 13 c41 rv41 := ⟨⟨Try.f41, _, Try.func41, by kernel_rfl, rfl, rfl, by kernel_rfl, by kernel_rfl⟩, by decide⟩
def c43 : AC := .seq (.region false [⟨some 1, none, .box (.tmp 0), false⟩, ⟨some 2, none, .alloc [.int .i64 0, .slice none 0 0, .slice none 0 0], false⟩]) (.keep [1, 2] (.seq (.region true [⟨some 3, none, .faddr 0 (.tmp 1), false⟩, ⟨some 4, none, .load false 1 (.tmp 3), false⟩, ⟨some 5, none, .faddr 1 (.tmp 1), false⟩, ⟨some 6, none, .load false 1 (.tmp 5), false⟩, ⟨some 7, none, .call (.func 25) [(.tmp 6)], false⟩, ⟨some 8, none, .faddr 2 (.tmp 1), false⟩, ⟨some 9, none, .load false 1 (.tmp 8), false⟩, ⟨some 10, none, .call (.func 25) [(.tmp 9)], false⟩, ⟨some 11, none, .build [.int .i64 0, .slice none 0 0, .slice none 0 0] [(0, 1, (.tmp 4)), (1, 1, (.tmp 7)), (2, 1, (.tmp 10))], true⟩, ⟨none, none, .store false 3 (.tmp 2) (.tmp 11), true⟩]) (.keep [2] (.ret))))
def rv43 : List RV := [.cell 2 true 3]
theorem is43 : FnIs Try.prog 43 12 c43 rv43 := ⟨⟨Try.f43, _, Try.func43, by kernel_rfl, rfl, rfl, by kernel_rfl, by kernel_rfl⟩, by decide⟩
def c44l1 : AC := .seq (.seq (.region false [⟨some 12, none, .mv (.tmp 3), false⟩, ⟨some 13, none, .faddr 1 (.tmp 1), false⟩, ⟨some 14, none, .load false 1 (.tmp 13), false⟩, ⟨some 15, none, .len false (.tmp 14), false⟩, ⟨some 16, none, .bin .lss 3 (.tmp 12) (.tmp 15), false⟩]) (.keep [1, 3, 16] (.cond (.tmp 16) (.skip) (.exit 0)))) (.keep [1, 3] (.seq (.block 1 (.seq (.seq (.region true [⟨some 19, none, .faddr 1 (.tmp 1), false⟩, ⟨some 20, none, .load false 1 (.tmp 19), false⟩, ⟨some 21, none, .mvs (.tmp 3), false⟩, ⟨some 22, none, .iaddr 1 [.int .i64 0] (.tmp 20) (.tmp 21), false⟩, ⟨some 23, none, .load false 1 (.tmp 22), false⟩, ⟨some 24, none, .faddr 0 (.tmp 1), false⟩, ⟨some 25, none, .load false 1 (.tmp 24), false⟩, ⟨some 26, none, .bin .sub 3 (.tmp 25) (.const (.int .i64 1)), false⟩, ⟨some 27, none, .call (.func 32) [(.tmp 23), (.const (.int .i64 0)), (.tmp 26)], true⟩, ⟨some 28, none, .un .not (.tmp 27), true⟩]) (.keep [1, 3, 28] (.cond (.tmp 28) (.seq (.region false [⟨some 2, none, .mv (.const (.int .i64 2)), false⟩]) (.keep [2] (.ret))) (.skip)))) (.keep [1, 3] (.seq (.region true [⟨some 29, none, .mv (.tmp 3), true⟩, ⟨some 30, none, .bin .gtr 3 (.tmp 29) (.const (.int .i64 0)), true⟩, ⟨some 31, none, .mv (.tmp 30), true⟩, ⟨some 32, some (31, true), .faddr 1 (.tmp 1), false⟩, ⟨some 33, some (31, true), .load false 1 (.tmp 32), false⟩, ⟨some 34, some (31, true), .mv (.tmp 3), false⟩, ⟨some 35, some (31, true), .iaddr 1 [.int .i64 0] (.tmp 33) (.tmp 34), false⟩, ⟨some 36, some (31, true), .load false 1 (.tmp 35), false⟩, ⟨some 37, some (31, true), .faddr 1 (.tmp 1), false⟩, ⟨some 38, some (31, true), .load false 1 (.tmp 37), false⟩, ⟨some 39, some (31, true), .mv (.tmp 3), false⟩, ⟨some 40, some (31, true), .bin .sub 3 (.tmp 39) (.const (.int .i64 1)), false⟩, ⟨some 41, some (31, true), .iaddr 1 [.int .i64 0] (.tmp 38) (.tmp 40), false⟩, ⟨some 42, some (31, true), .load false 1 (.tmp 41), false⟩, ⟨some 43, some (31, true), .bin .leq 3 (.tmp 36) (.tmp 42), true⟩, ⟨some 44, none, .pick (.tmp 31) (.tmp 43) (.const (.bool false)), true⟩]) (.keep [1, 3, 44] (.cond (.tmp 44) (.seq (.region false [⟨some 2, none, .mv (.const (.int .i64 9)), false⟩]) (.keep [2] (.ret))) (.skip))))))) (.keep [1, 3] (.region false [⟨some 17, none, .mv (.tmp 3), false⟩, ⟨some 18, none, .bin .add 3 (.tmp 17) (.const (.int .i64 1)), false⟩, ⟨some 3, none, .mv (.tmp 18), false⟩]))))
def c44 : AC := .seq (.region false [⟨some 1, none, .box (.tmp 0), false⟩, ⟨some 2, none, .mv (.const (.int .i64 0)), false⟩]) (.keep [1] (.seq (.seq (.region false [⟨some 4, none, .faddr 0 (.tmp 1), false⟩, ⟨some 5, none, .load false 1 (.tmp 4), false⟩, ⟨some 6, none, .call (.func 32) [(.tmp 5), (.const (.int .i64 2)), (.const (.int .i64 10))], false⟩, ⟨some 7, none, .un .not (.tmp 6), false⟩]) (.keep [1, 7] (.cond (.tmp 7) (.seq (.region false [⟨some 2, none, .mv (.const (.int .i64 2)), false⟩]) (.keep [2] (.ret))) (.skip)))) (.keep [1] (.seq (.seq (.region false [⟨some 8, none, .faddr 1 (.tmp 1), false⟩, ⟨some 9, none, .load false 1 (.tmp 8), false⟩, ⟨some 10, none, .len false (.tmp 9), false⟩, ⟨some 11, none, .bin .eql 3 (.tmp 10) (.const (.int .i64 0)), false⟩]) (.keep [1, 11] (.cond (.tmp 11) (.seq (.region false [⟨some 2, none, .mv (.const (.int .i64 10)), false⟩]) (.keep [2] (.ret))) (.skip)))) (.keep [1] (.seq (.seq (.region false [⟨some 3, none, .mv (.const (.int .i64 0)), false⟩]) (.keep [1, 3] (.block 0 (.loop c44l1)))) (.keep [1] (.seq (.seq (.region false [⟨some 45, none, .faddr 1 (.tmp 1), false⟩, ⟨some 46, none, .load false 1 (.tmp 45), false⟩, ⟨some 47, none, .iaddr 1 [.int .i64 0] (.tmp 46) (.const (.int .i64 0)), false⟩, ⟨some 48, none, .load false 1 (.tmp 47), false⟩, ⟨some 49, none, .bin .neq 3 (.tmp 48) (.const (.int .i64 0)), false⟩]) (.keep [1, 49] (.cond (.tmp 49) (.seq (.region false [⟨some 2, none, .mv (.const (.int .i64 3)), false⟩]) (.keep [2] (.ret))) (.skip)))) (.keep [1] (.seq (.seq (.region false [⟨some 50, none, .faddr 2 (.tmp 1), false⟩, ⟨some 51, none, .load false 1 (.tmp 50), false⟩, ⟨some 52, none, .len false (.tmp 51), false⟩, ⟨some 53, none, .faddr 0 (.tmp 1), false⟩, ⟨some 54, none, .load false 1 (.tmp 53), false⟩, ⟨some 55, none, .bin .neq 3 (.tmp 52) (.tmp 54), false⟩]) (.keep [1, 55] (.cond (.tmp 55) (.seq (.region false [⟨some 2, none, .mv (.const (.int .i64 10)), false⟩]) (.keep [2] (.ret))) (.skip)))) (.keep [1] (.seq (.seq (.region false [⟨some 56, none, .faddr 2 (.tmp 1), false⟩, ⟨some 57, none, .load false 1 (.tmp 56), false⟩, ⟨some 58, none, .call (.func 102) [(.tmp 57)], false⟩, ⟨some 59, none, .un .not (.tmp 58), false⟩]) (.keep [59] (.cond (.tmp 59) (.seq (.region false [⟨some 2, none, .mv (.const (.int .i64 15)), false⟩]) (.keep [2] (.ret))) (.skip)))) (.keep [] (.seq (.region false [⟨some 2, none, .mv (.const (.int .i64 0)), false⟩]) (.keep [2] (.ret))))))))))))))))
def rv44 : List RV := [.tmp 2]
theorem is44 : FnIs Try.prog 44 60 c44 rv44 := ⟨⟨Try.f44, _, Try.func44, by kernel_rfl, rfl, rfl, by kernel_rfl, by kernel_rfl⟩, by decide⟩
def c46l1 : AC := .seq (.region false [⟨some 24, none, .bin .lss 3 (.tmp 23) (.tmp 22), false⟩]) (.keep [0, 21, 22, 23, 24] (.seq (.cond (.tmp 24) (.skip) (.exit 0)) (.keep [0, 21, 22, 23] (.seq (.block 1 (.seq (.region false [⟨some 25, none, .iaddr 1 [.slice none 0 0] (.tmp 21) (.tmp 23), false⟩, ⟨some 26, none, .load false 1 (.tmp 25), false⟩, ⟨some 5, none, .mv (.tmp 26), false⟩]) (.keep [0, 5, 21, 22, 23] (.seq (.region false [⟨some 27, none, .mv (.tmp 5), false⟩, ⟨some 28, none, .call (.func 110) [(.tmp 27), (.func 111)], false⟩, ⟨some 6, none, .mv (.tmp 28), false⟩]) (.keep [0, 5, 6, 21, 22, 23] (.seq (.region false [⟨some 29, none, .mv (.tmp 5), false⟩, ⟨some 30, none, .len false (.tmp 29), false⟩, ⟨some 31, none, .bin .gtr 3 (.tmp 30) (.const (.int .i64 0)), false⟩, ⟨some 32, none, .mv (.tmp 31), false⟩, ⟨some 33, some (32, true), .mv (.tmp 5), false⟩, ⟨some 34, some (32, true), .len false (.tmp 33), false⟩, ⟨some 35, some (32, true), .mv (.tmp 0), false⟩, ⟨some 36, some (32, true), .iaddr 1 [.slice none 0 0] (.tmp 35) (.const (.int .i64 0)), false⟩, ⟨some 37, some (32, true), .load false 1 (.tmp 36), false⟩, ⟨some 38, some (32, true), .len false (.tmp 37), false⟩, ⟨some 39, some (32, true), .bin .eql 3 (.tmp 34) (.tmp 38), false⟩, ⟨some 40, none, .pick (.tmp 32) (.tmp 39) (.const (.bool false)), false⟩, ⟨some 41, none, .call (.func 82) [(.tmp 40), (.const (.int .i64 10))], false⟩, ⟨some 42, none, .mv (.tmp 5), false⟩, ⟨some 43, none, .len false (.tmp 42), false⟩, ⟨some 44, none, .bin .leq 3 (.tmp 43) (.const (.int .i64 4)), false⟩, ⟨some 45, none, .call (.func 82) [(.tmp 44), (.const (.int .i64 8))], false⟩, ⟨some 46, none, .mv (.tmp 6), false⟩, ⟨some 47, none, .un .not (.tmp 46), false⟩, ⟨some 48, none, .call (.func 82) [(.tmp 47), (.const (.int .i64 2))], false⟩, ⟨some 49, none, .mkSl false 25 1 [.int .i64 0] 3 [(0, (.tmp 41)), (1, (.tmp 45)), (2, (.tmp 48))], false⟩, ⟨some 50, none, .call (.func 80) [(.tmp 49)], false⟩, ⟨some 7, none, .mv (.tmp 50), false⟩]) (.keep [0, 7, 21, 22, 23] (.seq (.region false [⟨some 51, none, .mv (.tmp 7), false⟩, ⟨some 52, none, .bin .neq 25 (.tmp 51) (.const (.int .i64 0)), false⟩]) (.keep [0, 7, 21, 22, 23, 52] (.cond (.tmp 52) (.seq (.region false [⟨some 53, none, .mv (.tmp 7), false⟩, ⟨some 2, none, .mv (.tmp 53), false⟩]) (.keep [2] (.ret))) (.skip))))))))))) (.keep [0, 21, 22, 23] (.region false [⟨some 54, none, .bin .add 3 (.tmp 23) (.const (.int .i64 1)), false⟩, ⟨some 23, none, .mv (.tmp 54), false⟩]))))))
def c46 : AC := .seq (.region false [⟨some 2, none, .mv (.const (.int .i64 0)), false⟩]) (.keep [0] (.seq (.seq (.region false [⟨some 8, none, .mv (.tmp 0), false⟩, ⟨some 9, none, .len false (.tmp 8), false⟩, ⟨some 10, none, .bin .gtr 3 (.tmp 9) (.const (.int .i64 0)), false⟩, ⟨some 11, none, .call (.func 82) [(.tmp 10), (.const (.int .i64 10))], false⟩, ⟨some 12, none, .mv (.tmp 0), false⟩, ⟨some 13, none, .len false (.tmp 12), false⟩, ⟨some 14, none, .bin .leq 3 (.tmp 13) (.const (.int .i64 4)), false⟩, ⟨some 15, none, .call (.func 82) [(.tmp 14), (.const (.int .i64 8))], false⟩, ⟨some 16, none, .mkSl false 25 1 [.int .i64 0] 2 [(0, (.tmp 11)), (1, (.tmp 15))], false⟩, ⟨some 17, none, .call (.func 80) [(.tmp 16)], false⟩, ⟨some 3, none, .mv (.tmp 17), false⟩]) (.keep [0, 3] (.seq (.region false [⟨some 18, none, .mv (.tmp 3), false⟩, ⟨some 19, none, .bin .neq 25 (.tmp 18) (.const (.int .i64 0)), false⟩]) (.keep [0, 3, 19] (.cond (.tmp 19) (.seq (.region false [⟨some 20, none, .mv (.tmp 3), false⟩, ⟨some 2, none, .mv (.tmp 20), false⟩]) (.keep [2] (.ret))) (.skip)))))) (.keep [0] (.seq (.seq (.region false [⟨some 21, none, .mv (.tmp 0), false⟩, ⟨some 22, none, .len false (.tmp 21), false⟩, ⟨some 23, none, .mv (.const (.int .i64 0)), false⟩]) (.keep [0, 21, 22, 23] (.block 0 (.loop c46l1)))) (.keep [] (.seq (.region false [⟨some 2, none, .mv (.const (.int .i64 0)), false⟩]) (.keep [2] (.ret))))))))
def rv46 : List RV := [.tmp 2]
theorem is46 : FnIs Try.prog 46 55 c46 rv46 := ⟨⟨Try.f46, _, Try.func46, by kernel_rfl, rfl, rfl, by kernel_rfl, by kernel_rfl⟩, by decide⟩
def c49 : AC := .seq (.region false [⟨some 2, none, .alloc [.int .i64 0, .int .i64 0], false⟩, ⟨some 3, none, .mv (.const (.int .i64 0)), false⟩]) (.keep [0, 2] (.seq (.seq (.region false [⟨some 5, none, .mv (.tmp 0), false⟩, ⟨some 6, none, .call (.func 46) [(.tmp 5)], false⟩, ⟨some 4, none, .mv (.tmp 6), false⟩]) (.keep [0, 2, 4] (.seq (.region false [⟨some 7, none, .mv (.tmp 4), false⟩, ⟨some 8, none, .bin .neq 25 (.tmp 7) (.const (.int .i64 0)), false⟩]) (.keep [0, 2, 4, 8] (.cond (.tmp 8) (.seq (.region false [⟨some 9, none, .build [.int .i64 0, .int .i64 0] [], false⟩, ⟨some 10, none, .mv (.tmp 4), false⟩, ⟨none, none, .store false 2 (.tmp 2) (.tmp 9), false⟩, ⟨some 3, none, .mv (.tmp 10), false⟩]) (.keep [2, 3] (.ret))) (.skip)))))) (.keep [0, 2] (.seq (.block 0 (.seq (.region false [⟨some 12, none, .mv (.tmp 0), false⟩, ⟨some 13, none, .len false (.tmp 12), false⟩, ⟨some 14, none, .mv (.tmp 0), false⟩, ⟨some 15, none, .iaddr 1 [.slice none 0 0] (.tmp 14) (.const (.int .i64 0)), false⟩, ⟨some 16, none, .load false 1 (.tmp 15), false⟩, ⟨some 17, none, .len false (.tmp 16), false⟩, ⟨some 18, none, .bin .neq 3 (.tmp 13) (.tmp 17), false⟩, ⟨some 11, none, .mv (.tmp 18), false⟩]) (.keep [0, 2, 11] (.cond (.tmp 11) (.seq (.region false [⟨some 19, none, .build [.int .i64 0, .int .i64 0] [], false⟩, ⟨none, none, .store false 2 (.tmp 2) (.tmp 19), false⟩, ⟨some 3, none, .mv (.const (.int .i64 13)), false⟩]) (.keep [2, 3] (.ret))) (.seq (.region false [⟨some 21, none, .mv (.tmp 0), false⟩, ⟨some 22, none, .len false (.tmp 21), false⟩, ⟨some 23, none, .bin .eql 3 (.tmp 22) (.const (.int .i64 1)), false⟩, ⟨some 20, none, .mv (.tmp 23), false⟩]) (.keep [0, 2, 20] (.cond (.tmp 20) (.seq (.region false [⟨some 24, none, .mv (.tmp 0), false⟩, ⟨some 25, none, .iaddr 1 [.slice none 0 0] (.tmp 24) (.const (.int .i64 0)), false⟩, ⟨some 26, none, .load false 1 (.tmp 25), false⟩, ⟨some 27, none, .iaddr 2 [.int .i64 0, .int .i64 0] (.tmp 26) (.const (.int .i64 0)), false⟩, ⟨some 28, none, .load true 2 (.tmp 27), false⟩, ⟨none, none, .store false 2 (.tmp 2) (.tmp 28), false⟩, ⟨some 3, none, .mv (.const (.int .i64 0)), false⟩]) (.keep [2, 3] (.ret))) (.seq (.region false [⟨some 30, none, .mv (.tmp 0), false⟩, ⟨some 31, none, .len false (.tmp 30), false⟩, ⟨some 32, none, .bin .eql 3 (.tmp 31) (.const (.int .i64 2)), false⟩, ⟨some 29, none, .mv (.tmp 32), false⟩]) (.keep [0, 2, 29] (.cond (.tmp 29) (.seq (.region true [⟨some 33, none, .mv (.tmp 0), false⟩, ⟨some 34, none, .iaddr 1 [.slice none 0 0] (.tmp 33) (.const (.int .i64 0)), false⟩, ⟨some 35, none, .load false 1 (.tmp 34), false⟩, ⟨some 36, none, .iaddr 2 [.int .i64 0, .int .i64 0] (.tmp 35) (.const (.int .i64 0)), false⟩, ⟨some 37, none, .load true 2 (.tmp 36), false⟩, ⟨some 38, none, .mv (.tmp 0), false⟩, ⟨some 39, none, .iaddr 1 [.slice none 0 0] (.tmp 38) (.const (.int .i64 1)), false⟩, ⟨some 40, none, .load false 1 (.tmp 39), false⟩, ⟨some 41, none, .iaddr 2 [.int .i64 0, .int .i64 0] (.tmp 40) (.const (.int .i64 1)), false⟩, ⟨some 42, none, .load true 2 (.tmp 41), false⟩, ⟨some 43, none, .call (.func 83) [(.tmp 37), (.tmp 42)], false⟩, ⟨some 44, none, .mv (.tmp 0), false⟩, ⟨some 45, none, .iaddr 1 [.slice none 0 0] (.tmp 44) (.const (.int .i64 0)), false⟩, ⟨some 46, none, .load false 1 (.tmp 45), false⟩, ⟨some 47, none, .iaddr 2 [.int .i64 0, .int .i64 0] (.tmp 46) (.const (.int .i64 1)), false⟩, ⟨some 48, none, .load true 2 (.tmp 47), false⟩, ⟨some 49, none, .mv (.tmp 0), false⟩, ⟨some 50, none, .iaddr 1 [.slice none 0 0] (.tmp 49) (.const (.int .i64 1)), false⟩, ⟨some 51, none, .load false 1 (.tmp 50), false⟩, ⟨some 52, none, .iaddr 2 [.int .i64 0, .int .i64 0] (.tmp 51) (.const (.int .i64 0)), false⟩, ⟨some 53, none, .load true 2 (.tmp 52), false⟩, ⟨some 54, none, .call (.func 83) [(.tmp 48), (.tmp 53)], true⟩, ⟨some 55, none, .call (.func 113) [(.tmp 43), (.tmp 54)], true⟩, ⟨none, none, .store false 2 (.tmp 2) (.tmp 55), true⟩, ⟨some 3, none, .mv (.const (.int .i64 0)), true⟩]) (.keep [2, 3] (.ret))) (.skip))))))))))) (.keep [2] (.seq (.region false [⟨some 56, none, .build [.int .i64 0, .int .i64 0] [], false⟩, ⟨none, none, .store false 2 (.tmp 2) (.tmp 56), false⟩, ⟨some 3, none, .mv (.const (.int .i64 8)), false⟩]) (.keep [2, 3] (.ret))))))))
def rv49 : List RV := [.cell 2 true 2, .tmp 3]
theorem is49 : FnIs Try.prog 49 57 c49 rv49 := ⟨⟨Try.f49, _, Try.func49, by kernel_rfl, rfl, rfl, by kernel_rfl, by kernel_rfl⟩, by decide⟩
def c58 : AC := .seq (.region false [⟨some 1, none, .box (.tmp 0), false⟩, ⟨some 2, none, .mv (.const (.slice none 0 0)), false⟩, ⟨some 3, none, .mv (.const (.int .i64 0)), false⟩]) (.keep [1] (.seq (.seq (.region false [⟨some 5, none, .load true 3 (.tmp 1), false⟩, ⟨some 6, none, .call (.func 114) [(.tmp 5)], false⟩, ⟨some 4, none, .mv (.tmp 6), false⟩]) (.keep [1, 4] (.seq (.region false [⟨some 7, none, .mv (.tmp 4), false⟩, ⟨some 8, none, .bin .neq 25 (.tmp 7) (.const (.int .i64 0)), false⟩]) (.keep [1, 4, 8] (.cond (.tmp 8) (.seq (.region false [⟨some 9, none, .mv (.tmp 4), false⟩, ⟨some 2, none, .mv (.const (.slice none 0 0)), false⟩, ⟨some 3, none, .mv (.tmp 9), false⟩]) (.keep [2, 3] (.ret))) (.skip)))))) (.keep [1] (.seq (.region false [⟨some 10, none, .load true 3 (.tmp 1), false⟩, ⟨some 11, none, .call (.func 115) [(.tmp 10), (.func 117)], false⟩, ⟨some 2, none, .mv (.tmp 11), false⟩, ⟨some 3, none, .mv (.const (.int .i64 0)), false⟩]) (.keep [2, 3] (.ret))))))
def rv58 : List RV := [.tmp 2, .tmp 3]
theorem is58 : FnIs Try.prog 58 12 c58 rv58 := ⟨⟨Try.f58, _, Try.func58, by kernel_rfl, rfl, rfl, by kernel_rfl, by kernel_rfl⟩, by decide⟩
def c70l1 : AC := .seq (.region false [⟨some 26, none, .bin .lss 3 (.tmp 25) (.tmp 24), false⟩]) (.keep [1, 4, 23, 24, 25, 26] (.seq (.cond (.tmp 26) (.skip) (.exit 0)) (.keep [1, 4, 23, 24, 25] (.seq (.block 1 (.seq (.region false [⟨some 27, none, .iaddr 1 [.int .i64 0] (.tmp 23) (.tmp 25), false⟩, ⟨some 28, none, .load false 1 (.tmp 27), false⟩, ⟨some 6, none, .mv (.tmp 28), false⟩]) (.keep [1, 4, 6, 23, 24, 25] (.seq (.seq (.region false [⟨some 29, none, .mv (.tmp 6), false⟩, ⟨some 30, none, .faddr 0 (.tmp 1), false⟩, ⟨some 31, none, .load false 1 (.tmp 30), false⟩, ⟨some 32, none, .bin .sub 3 (.tmp 31) (.const (.int .i64 1)), false⟩, ⟨some 33, none, .call (.func 103) [(.tmp 29), (.const (.int .i64 0)), (.tmp 32)], false⟩, ⟨some 34, none, .call (.func 82) [(.tmp 33), (.const (.int .i64 2))], false⟩, ⟨some 35, none, .mv (.tmp 6), false⟩, ⟨some 36, none, .mv (.tmp 4), false⟩, ⟨some 37, none, .bin .gtr 3 (.tmp 35) (.tmp 36), false⟩, ⟨some 38, none, .call (.func 82) [(.tmp 37), (.const (.int .i64 9))], false⟩, ⟨some 39, none, .mkSl false 25 1 [.int .i64 0] 2 [(0, (.tmp 34)), (1, (.tmp 38))], false⟩, ⟨some 40, none, .call (.func 80) [(.tmp 39)], false⟩, ⟨some 7, none, .mv (.tmp 40), false⟩]) (.keep [1, 6, 7, 23, 24, 25] (.seq (.region false [⟨some 41, none, .mv (.tmp 7), false⟩, ⟨some 42, none, .bin .neq 25 (.tmp 41) (.const (.int .i64 0)), false⟩]) (.keep [1, 6, 7, 23, 24, 25, 42] (.cond (.tmp 42) (.seq (.region false [⟨some 43, none, .mv (.tmp 7), false⟩, ⟨some 2, none, .mv (.tmp 43), false⟩]) (.keep [2] (.ret))) (.skip)))))) (.keep [1, 6, 23, 24, 25] (.region false [⟨some 44, none, .mv (.tmp 6), false⟩, ⟨some 4, none, .mv (.tmp 44), false⟩])))))) (.keep [1, 4, 23, 24, 25] (.region false [⟨some 45, none, .bin .add 3 (.tmp 25) (.const (.int .i64 1)), false⟩, ⟨some 25, none, .mv (.tmp 45), false⟩]))))))
def c70 : AC := .seq (.region false [⟨some 1, none, .box (.tmp 0), false⟩, ⟨some 2, none, .mv (.const (.int .i64 0)), false⟩]) (.keep [1] (.seq (.seq (.region true [⟨some 8, none, .faddr 0 (.tmp 1), false⟩, ⟨some 9, none, .load false 1 (.tmp 8), false⟩, ⟨some 10, none, .call (.func 103) [(.tmp 9), (.const (.int .i64 2)), (.const (.int .i64 10))], false⟩, ⟨some 11, none, .call (.func 82) [(.tmp 10), (.const (.int .i64 2))], false⟩, ⟨some 12, none, .faddr 1 (.tmp 1), false⟩, ⟨some 13, none, .load false 1 (.tmp 12), false⟩, ⟨some 14, none, .len false (.tmp 13), false⟩, ⟨some 15, none, .bin .gtr 3 (.tmp 14) (.const (.int .i64 0)), false⟩, ⟨some 16, none, .call (.func 82) [(.tmp 15), (.const (.int .i64 10))], true⟩, ⟨some 17, none, .mkSl false 25 1 [.int .i64 0] 2 [(0, (.tmp 11)), (1, (.tmp 16))], true⟩, ⟨some 18, none, .call (.func 80) [(.tmp 17)], true⟩, ⟨some 3, none, .mv (.tmp 18), true⟩]) (.keep [1, 3] (.seq (.region false [⟨some 19, none, .mv (.tmp 3), false⟩, ⟨some 20, none, .bin .neq 25 (.tmp 19) (.const (.int .i64 0)), false⟩]) (.keep [1, 3, 20] (.cond (.tmp 20) (.seq (.region false [⟨some 21, none, .mv (.tmp 3), false⟩, ⟨some 2, none, .mv (.tmp 21), false⟩]) (.keep [2] (.ret))) (.skip)))))) (.keep [1] (.seq (.region false [⟨some 4, none, .mv (.const (.int .i64 (-1))), false⟩]) (.keep [1, 4] (.seq (.seq (.region false [⟨some 22, none, .faddr 1 (.tmp 1), false⟩, ⟨some 23, none, .load false 1 (.tmp 22), false⟩, ⟨some 24, none, .len false (.tmp 23), false⟩, ⟨some 25, none, .mv (.const (.int .i64 0)), false⟩]) (.keep [1, 4, 23, 24, 25] (.block 0 (.loop c70l1)))) (.keep [1] (.seq (.region true [⟨some 46, none, .faddr 1 (.tmp 1), false⟩, ⟨some 47, none, .load false 1 (.tmp 46), false⟩, ⟨some 48, none, .iaddr 1 [.int .i64 0] (.tmp 47) (.const (.int .i64 0)), false⟩, ⟨some 49, none, .load false 1 (.tmp 48), false⟩, ⟨some 50, none, .bin .eql 3 (.tmp 49) (.const (.int .i64 0)), false⟩, ⟨some 51, none, .call (.func 82) [(.tmp 50), (.const (.int .i64 3))], false⟩, ⟨some 52, none, .faddr 2 (.tmp 1), false⟩, ⟨some 53, none, .load false 1 (.tmp 52), false⟩, ⟨some 54, none, .len false (.tmp 53), false⟩, ⟨some 55, none, .faddr 0 (.tmp 1), false⟩, ⟨some 56, none, .load false 1 (.tmp 55), false⟩, ⟨some 57, none, .bin .eql 3 (.tmp 54) (.tmp 56), false⟩, ⟨some 58, none, .call (.func 82) [(.tmp 57), (.const (.int .i64 10))], false⟩, ⟨some 59, none, .faddr 2 (.tmp 1), false⟩, ⟨some 60, none, .load false 1 (.tmp 59), false⟩, ⟨some 61, none, .call (.func 105) [(.tmp 60)], true⟩, ⟨some 62, none, .call (.func 82) [(.tmp 61), (.const (.int .i64 15))], true⟩, ⟨some 63, none, .mkSl false 25 1 [.int .i64 0] 3 [(0, (.tmp 51)), (1, (.tmp 58)), (2, (.tmp 62))], true⟩, ⟨some 64, none, .call (.func 80) [(.tmp 63)], true⟩, ⟨some 2, none, .mv (.tmp 64), true⟩]) (.keep [2] (.ret))))))))))
def rv70 : List RV := [.tmp 2]
theorem is70 : FnIs Try.prog 70 65 c70 rv70 := ⟨⟨Try.f70, _, Try.func70, by kernel_rfl, rfl, rfl, by kernel_rfl, by kernel_rfl⟩, by decide⟩
def c71 : AC := .seq (.region false [⟨some 1, none, .box (.tmp 0), false⟩, ⟨some 2, none, .mv (.const (.int .i64 0)), false⟩, ⟨some 3, none, .alloc [.int .i64 0, .slice none 0 0, .slice none 0 0], false⟩, ⟨some 4, none, .mv (.const (.int .i64 0)), false⟩]) (.keep [1, 3] (.seq (.seq (.region false [⟨some 8, none, .load true 3 (.tmp 1), false⟩, ⟨some 9, none, .call (.func 70) [(.tmp 8)], false⟩, ⟨some 5, none, .mv (.tmp 9), false⟩]) (.keep [1, 3, 5] (.seq (.region false [⟨some 10, none, .mv (.tmp 5), false⟩, ⟨some 11, none, .bin .neq 25 (.tmp 10) (.const (.int .i64 0)), false⟩]) (.keep [1, 3, 5, 11] (.cond (.tmp 11) (.seq (.region false [⟨some 12, none, .build [.int .i64 0, .slice none 0 0, .slice none 0 0] [], false⟩, ⟨some 13, none, .mv (.tmp 5), false⟩, ⟨some 2, none, .mv (.const (.int .i64 0)), false⟩, ⟨none, none, .store false 3 (.tmp 3) (.tmp 12), false⟩, ⟨some 4, none, .mv (.tmp 13), false⟩]) (.keep [2, 3, 4] (.ret))) (.skip)))))) (.keep [1, 3] (.seq (.region false [⟨some 14, none, .load true 3 (.tmp 1), false⟩, ⟨some 15, none, .call (.func 108) [(.tmp 14)], false⟩, ⟨some 6, none, .alloc [.int .u16 0, .int .u16 0, .int .i64 0], false⟩, ⟨none, none, .store false 3 (.tmp 6) (.tmp 15), false⟩]) (.keep [1, 3, 6] (.seq (.region false [⟨some 16, none, .call (.func 109) [(.tmp 6)], false⟩, ⟨some 7, none, .mv (.tmp 16), false⟩]) (.keep [1, 3, 6, 7] (.seq (.region false [⟨some 17, none, .mv (.tmp 7), false⟩, ⟨some 18, none, .load true 3 (.tmp 1), false⟩, ⟨some 19, none, .load true 3 (.tmp 6), false⟩, ⟨some 20, none, .call (.func 124) [(.tmp 18), (.tmp 19)], false⟩, ⟨some 2, none, .mv (.tmp 17), false⟩, ⟨none, none, .store false 3 (.tmp 3) (.tmp 20), false⟩, ⟨some 4, none, .mv (.const (.int .i64 0)), false⟩]) (.keep [2, 3, 4] (.ret))))))))))
def rv71 : List RV := [.tmp 2, .cell 3 true 3, .tmp 4]
theorem is71 : FnIs Try.prog 71 21 c71 rv71 := ⟨⟨Try.f71, _, Try.func71, by kernel_rfl, rfl, rfl, by kernel_rfl, by kernel_rfl⟩, by decide⟩
def c72r1 : AC := .block 1 (.seq (.region false [⟨some 23, none, .load false 1 (.tmp 7), false⟩, ⟨some 24, none, .mv (.tmp 8), false⟩, ⟨some 25, none, .mkSl false 3 1 [.int .i64 0] 1 [(0, (.tmp 24))], false⟩, ⟨some 26, none, .app 33 3 1 8 [.int .i64 0] (.tmp 23) (.tmp 25), false⟩, ⟨none, none, .store true 1 (.tmp 7) (.tmp 26), false⟩]) (.keep [3, 7, 21] (.seq (.region false [⟨some 27, none, .load false 1 (.tmp 7), false⟩, ⟨some 28, none, .len false (.tmp 27), false⟩, ⟨some 29, none, .load false 1 (.tmp 3), false⟩, ⟨some 30, none, .bin .eql 3 (.tmp 28) (.tmp 29), false⟩]) (.keep [3, 7, 21, 30] (.cond (.tmp 30) (.exit 0) (.skip))))))
def c72 : AC := .seq (.region false [⟨some 2, none, .box (.tmp 0), false⟩, ⟨some 3, none, .box (.tmp 1), false⟩, ⟨some 4, none, .mv (.const (.slice none 0 0)), false⟩, ⟨some 5, none, .mv (.const (.int .i64 0)), false⟩]) (.keep [2, 3] (.seq (.seq (.region true [⟨some 9, none, .load true 3 (.tmp 2), false⟩, ⟨some 10, none, .call (.func 70) [(.tmp 9)], false⟩, ⟨some 11, none, .load false 1 (.tmp 3), false⟩, ⟨some 12, none, .call (.func 103) [(.tmp 11), (.const (.int .i64 1)), (.const (.int .i64 400))], true⟩, ⟨some 13, none, .call (.func 82) [(.tmp 12), (.const (.int .i64 2))], true⟩, ⟨some 14, none, .mkSl false 25 1 [.int .i64 0] 2 [(0, (.tmp 10)), (1, (.tmp 13))], true⟩, ⟨some 15, none, .call (.func 80) [(.tmp 14)], true⟩, ⟨some 6, none, .mv (.tmp 15), true⟩]) (.keep [2, 3, 6] (.seq (.region false [⟨some 16, none, .mv (.tmp 6), false⟩, ⟨some 17, none, .bin .neq 25 (.tmp 16) (.const (.int .i64 0)), false⟩]) (.keep [2, 3, 6, 17] (.cond (.tmp 17) (.seq (.region false [⟨some 18, none, .mv (.tmp 6), false⟩, ⟨some 4, none, .mv (.const (.slice none 0 0)), false⟩, ⟨some 5, none, .mv (.tmp 18), false⟩]) (.keep [4, 5] (.ret))) (.skip)))))) (.keep [2, 3] (.seq (.region false [⟨some 7, none, .alloc [.slice none 0 0], false⟩]) (.keep [2, 3, 7] (.seq (.seq (.region false [⟨some 19, none, .load true 3 (.tmp 2), false⟩, ⟨some 20, none, .call (.func 108) [(.tmp 19)], false⟩, ⟨some 21, none, .mkFn (.func 125) [(.tmp 20)] [], false⟩]) (.keep [3, 7, 21] (.block 0 (.rangeFunc (.tmp 21) [22] (.region false [⟨some 8, none, .mv (.tmp 22), false⟩]) c72r1)))) (.keep [7] (.seq (.region false [⟨some 31, none, .load false 1 (.tmp 7), false⟩, ⟨some 4, none, .mv (.tmp 31), false⟩, ⟨some 5, none, .mv (.const (.int .i64 0)), false⟩]) (.keep [4, 5] (.ret))))))))))
def rv72 : List RV := [.tmp 4, .tmp 5]
theorem is72 : FnIs Try.prog 72 32 c72 rv72 := ⟨⟨Try.f72, _, Try.func72, by kernel_rfl, rfl, rfl, by kernel_rfl, by kernel_rfl⟩, by decide⟩
def c73l1 : AC := .seq (.region false [⟨some 26, none, .bin .lss 3 (.tmp 25) (.tmp 24), false⟩]) (.keep [2, 4, 7, 24, 25, 26] (.seq (.cond (.tmp 26) (.skip) (.exit 0)) (.keep [2, 4, 7, 24, 25] (.seq (.block 1 (.region false [⟨some 27, none, .call (.func 109) [(.tmp 7)], false⟩])) (.keep [2, 4, 7, 24, 25] (.region false [⟨some 28, none, .bin .add 3 (.tmp 25) (.const (.int .i64 1)), false⟩, ⟨some 25, none, .mv (.tmp 28), false⟩]))))))
def c73 : AC := .seq (.region false [⟨some 2, none, .box (.tmp 0), false⟩, ⟨some 4, none, .alloc [.int .i64 0, .slice none 0 0, .slice none 0 0], false⟩, ⟨some 5, none, .mv (.const (.int .i64 0)), false⟩]) (.keep [1, 2, 4] (.seq (.seq (.region false [⟨some 8, none, .load true 3 (.tmp 2), false⟩, ⟨some 9, none, .call (.func 70) [(.tmp 8)], false⟩, ⟨some 10, none, .mv (.tmp 1), false⟩, ⟨some 11, none, .call (.func 103) [(.tmp 10), (.const (.int .i64 0)), (.const (.int .i64 1000000000))], false⟩, ⟨some 12, none, .call (.func 82) [(.tmp 11), (.const (.int .i64 2))], false⟩, ⟨some 13, none, .mkSl false 25 1 [.int .i64 0] 2 [(0, (.tmp 9)), (1, (.tmp 12))], false⟩, ⟨some 14, none, .call (.func 80) [(.tmp 13)], false⟩, ⟨some 6, none, .mv (.tmp 14), false⟩]) (.keep [1, 2, 4, 6] (.seq (.region false [⟨some 15, none, .mv (.tmp 6), false⟩, ⟨some 16, none, .bin .neq 25 (.tmp 15) (.const (.int .i64 0)), false⟩]) (.keep [1, 2, 4, 6, 16] (.cond (.tmp 16) (.seq (.region false [⟨some 17, none, .build [.int .i64 0, .slice none 0 0, .slice none 0 0] [], false⟩, ⟨some 18, none, .mv (.tmp 6), false⟩, ⟨none, none, .store false 3 (.tmp 4) (.tmp 17), false⟩, ⟨some 5, none, .mv (.tmp 18), false⟩]) (.keep [4, 5] (.ret))) (.skip)))))) (.keep [1, 2, 4] (.seq (.region false [⟨some 19, none, .load true 3 (.tmp 2), false⟩, ⟨some 20, none, .call (.func 108) [(.tmp 19)], false⟩, ⟨some 7, none, .alloc [.int .u16 0, .int .u16 0, .int .i64 0], false⟩, ⟨none, none, .store false 3 (.tmp 7) (.tmp 20), false⟩]) (.keep [1, 2, 4, 7] (.seq (.seq (.region false [⟨some 21, none, .mv (.tmp 1), false⟩, ⟨some 22, none, .load true 3 (.tmp 7), false⟩, ⟨some 23, none, .call (.func 126) [(.tmp 22)], false⟩, ⟨some 24, none, .bin .rem 3 (.tmp 21) (.tmp 23), false⟩, ⟨some 25, none, .mv (.const (.int .i64 0)), false⟩]) (.keep [2, 4, 7, 24, 25] (.block 0 (.loop c73l1)))) (.keep [2, 4, 7] (.seq (.region false [⟨some 29, none, .load true 3 (.tmp 2), false⟩, ⟨some 30, none, .load true 3 (.tmp 7), false⟩, ⟨some 31, none, .call (.func 124) [(.tmp 29), (.tmp 30)], false⟩, ⟨none, none, .store false 3 (.tmp 4) (.tmp 31), false⟩, ⟨some 5, none, .mv (.const (.int .i64 0)), false⟩]) (.keep [4, 5] (.ret))))))))))
def rv73 : List RV := [.cell 4 true 3, .tmp 5]
theorem is73 : FnIs Try.prog 73 32 c73 rv73 := ⟨⟨Try.f73, _, Try.func73, by kernel_rfl, rfl, rfl, by kernel_rfl, by kernel_rfl⟩, by decide⟩
def c74 : AC := .seq (.region false [⟨some 2, none, .box (.tmp 0), false⟩, ⟨some 3, none, .box (.tmp 1), false⟩, ⟨some 4, none, .mv (.const (.bool false)), false⟩]) (.keep [2, 3] (.seq (.region false [⟨some 5, none, .faddr 0 (.tmp 2), false⟩, ⟨some 6, none, .load false 1 (.tmp 5), false⟩, ⟨some 7, none, .faddr 0 (.tmp 3), false⟩, ⟨some 8, none, .load false 1 (.tmp 7), false⟩, ⟨some 9, none, .bin .eql 3 (.tmp 6) (.tmp 8), false⟩, ⟨some 10, none, .mv (.tmp 9), false⟩, ⟨some 11, some (10, true), .faddr 1 (.tmp 2), false⟩, ⟨some 12, some (10, true), .load false 1 (.tmp 11), false⟩, ⟨some 13, some (10, true), .faddr 1 (.tmp 3), false⟩, ⟨some 14, some (10, true), .load false 1 (.tmp 13), false⟩, ⟨some 15, some (10, true), .call (.func 37) [(.tmp 12), (.tmp 14)], false⟩, ⟨some 16, none, .pick (.tmp 10) (.tmp 15) (.const (.bool false)), false⟩, ⟨some 17, none, .mv (.tmp 16), false⟩, ⟨some 18, some (17, true), .faddr 2 (.tmp 2), false⟩, ⟨some 19, some (17, true), .load false 1 (.tmp 18), false⟩, ⟨some 20, some (17, true), .faddr 2 (.tmp 3), false⟩, ⟨some 21, some (17, true), .load false 1 (.tmp 20), false⟩, ⟨some 22, some (17, true), .call (.func 37) [(.tmp 19), (.tmp 21)], false⟩, ⟨some 23, none, .pick (.tmp 17) (.tmp 22) (.const (.bool false)), false⟩, ⟨some 4, none, .mv (.tmp 23), false⟩]) (.keep [4] (.ret))))
def rv74 : List RV := [.tmp 4]
theorem is74 : FnIs Try.prog 74 24 c74 rv74 := ⟨⟨Try.f74, _, Try.func74, by kernel_rfl, rfl, rfl, by kernel_rfl, by kernel_rfl⟩, by decide⟩
def c78 : AC := .seq (.region false [⟨some 1, none, .box (.tmp 0), false⟩, ⟨some 2, none, .mv (.const (.int .i64 0)), false⟩, ⟨some 3, none, .mv (.const (.int .i64 0)), false⟩]) (.keep [1] (.seq (.seq (.region false [⟨some 5, none, .load true 3 (.tmp 1), false⟩, ⟨some 6, none, .call (.func 70) [(.tmp 5)], false⟩, ⟨some 4, none, .mv (.tmp 6), false⟩]) (.keep [1, 4] (.seq (.region false [⟨some 7, none, .mv (.tmp 4), false⟩, ⟨some 8, none, .bin .neq 25 (.tmp 7) (.const (.int .i64 0)), false⟩]) (.keep [1, 4, 8] (.cond (.tmp 8) (.seq (.region false [⟨some 9, none, .mv (.tmp 4), false⟩, ⟨some 2, none, .mv (.const (.int .i64 0)), false⟩, ⟨some 3, none, .mv (.tmp 9), false⟩]) (.keep [2, 3] (.ret))) (.skip)))))) (.keep [1] (.seq (.region false [⟨some 10, none, .load true 3 (.tmp 1), false⟩, ⟨some 11, none, .call (.func 108) [(.tmp 10)], false⟩, ⟨some 12, none, .call (.func 126) [(.tmp 11)], false⟩, ⟨some 2, none, .mv (.tmp 12), false⟩, ⟨some 3, none, .mv (.const (.int .i64 0)), false⟩]) (.keep [2, 3] (.ret))))))
def rv78 : List RV := [.tmp 2, .tmp 3]
theorem is78 : FnIs Try.prog 78 13 c78 rv78 := ⟨⟨Try.f78, _, Try.func78, by kernel_rfl, rfl, rfl, by kernel_rfl, by kernel_rfl⟩, by decide⟩
def c79 : AC := .seq (.region false [⟨some 0, none, .alloc [.int .i64 0, .slice none 0 0, .slice none 0 0], false⟩]) (.keep [0] (.seq (.region false [⟨some 1, none, .mkSl false 3 1 [.int .i64 0] 2 [(0, (.const (.int .i64 0))), (1, (.const (.int .i64 1)))], false⟩, ⟨some 2, none, .mkSl false 3 1 [.int .i64 0] 3 [(0, (.const (.int .i64 1))), (1, (.const (.int .i64 0))), (2, (.const (.int .i64 0)))], false⟩, ⟨some 3, none, .build [.int .i64 0, .slice none 0 0, .slice none 0 0] [(0, 1, (.const (.int .i64 3))), (1, 1, (.tmp 1)), (2, 1, (.tmp 2))], false⟩, ⟨none, none, .store false 3 (.tmp 0) (.tmp 3), false⟩]) (.keep [0] (.ret))))
def rv79 : List RV := [.cell 0 true 3]
theorem is79 : FnIs Try.prog 79 4 c79 rv79 := ⟨⟨Try.f79, _, Try.func79, by kernel_rfl, rfl, rfl, by kernel_rfl, by kernel_rfl⟩, by decide⟩
def c80l1 : AC := .seq (.region false [⟨some 8, none, .bin .lss 3 (.tmp 7) (.tmp 6), false⟩]) (.keep [5, 6, 7, 8] (.seq (.cond (.tmp 8) (.skip) (.exit 0)) (.keep [5, 6, 7] (.seq (.block 1 (.seq (.region false [⟨some 9, none, .iaddr 1 [.int .i64 0] (.tmp 5) (.tmp 7), false⟩, ⟨some 10, none, .load false 1 (.tmp 9), false⟩, ⟨some 4, none, .mv (.tmp 10), false⟩]) (.keep [4, 5, 6, 7] (.seq (.region false [⟨some 11, none, .mv (.tmp 4), false⟩, ⟨some 12, none, .bin .neq 25 (.tmp 11) (.const (.int .i64 0)), false⟩]) (.keep [4, 5, 6, 7, 12] (.cond (.tmp 12) (.seq (.region false [⟨some 13, none, .mv (.tmp 4), false⟩, ⟨some 2, none, .mv (.tmp 13), false⟩]) (.keep [2] (.ret))) (.skip))))))) (.keep [5, 6, 7] (.region false [⟨some 14, none, .bin .add 3 (.tmp 7) (.const (.int .i64 1)), false⟩, ⟨some 7, none, .mv (.tmp 14), false⟩]))))))
def c80 : AC := .seq (.region false [⟨some 2, none, .mv (.const (.int .i64 0)), false⟩]) (.keep [0] (.seq (.seq (.region false [⟨some 5, none, .mv (.tmp 0), false⟩, ⟨some 6, none, .len false (.tmp 5), false⟩, ⟨some 7, none, .mv (.const (.int .i64 0)), false⟩]) (.keep [5, 6, 7] (.block 0 (.loop c80l1)))) (.keep [] (.seq (.region false [⟨some 2, none, .mv (.const (.int .i64 0)), false⟩]) (.keep [2] (.ret))))))
def rv80 : List RV := [.tmp 2]
theorem is80 : FnIs Try.prog 80 15 c80 rv80 := ⟨⟨Try.f80, _, Try.func80, by kernel_rfl, rfl, rfl, by kernel_rfl, by kernel_rfl⟩, by decide⟩
def c81l1 : AC := .seq (.region false [⟨some 23, none, .bin .lss 3 (.tmp 22) (.tmp 21), false⟩]) (.keep [0, 20, 21, 22, 23] (.seq (.cond (.tmp 23) (.skip) (.exit 0)) (.keep [0, 20, 21, 22] (.seq (.block 1 (.seq (.region false [⟨some 24, none, .iaddr 1 [.slice none 0 0] (.tmp 20) (.tmp 22), false⟩, ⟨some 25, none, .load false 1 (.tmp 24), false⟩, ⟨some 5, none, .mv (.tmp 25), false⟩]) (.keep [0, 5, 20, 21, 22] (.seq (.region true [⟨some 26, none, .mv (.tmp 5), false⟩, ⟨some 27, none, .call (.func 118) [(.tmp 26)], false⟩, ⟨some 28, none, .mv (.tmp 5), false⟩, ⟨some 29, none, .len false (.tmp 28), false⟩, ⟨some 30, none, .mv (.tmp 0), false⟩, ⟨some 31, none, .iaddr 1 [.slice none 0 0] (.tmp 30) (.const (.int .i64 0)), false⟩, ⟨some 32, none, .load false 1 (.tmp 31), false⟩, ⟨some 33, none, .len false (.tmp 32), false⟩, ⟨some 34, none, .bin .eql 3 (.tmp 29) (.tmp 33), false⟩, ⟨some 35, none, .call (.func 82) [(.tmp 34), (.const (.int .i64 13))], true⟩, ⟨some 36, none, .mkSl false 25 1 [.int .i64 0] 2 [(0, (.tmp 27)), (1, (.tmp 35))], true⟩, ⟨some 37, none, .call (.func 80) [(.tmp 36)], true⟩, ⟨some 6, none, .mv (.tmp 37), true⟩]) (.keep [0, 6, 20, 21, 22] (.seq (.region false [⟨some 38, none, .mv (.tmp 6), false⟩, ⟨some 39, none, .bin .neq 25 (.tmp 38) (.const (.int .i64 0)), false⟩]) (.keep [0, 6, 20, 21, 22, 39] (.cond (.tmp 39) (.seq (.region false [⟨some 40, none, .mv (.tmp 6), false⟩, ⟨some 2, none, .mv (.tmp 40), false⟩]) (.keep [2] (.ret))) (.skip))))))))) (.keep [0, 20, 21, 22] (.region false [⟨some 41, none, .bin .add 3 (.tmp 22) (.const (.int .i64 1)), false⟩, ⟨some 22, none, .mv (.tmp 41), false⟩]))))))
def c81 : AC := .seq (.region false [⟨some 2, none, .mv (.const (.int .i64 0)), false⟩]) (.keep [0] (.seq (.seq (.region false [⟨some 7, none, .mv (.tmp 0), false⟩, ⟨some 8, none, .len false (.tmp 7), false⟩, ⟨some 9, none, .bin .gtr 3 (.tmp 8) (.const (.int .i64 0)), false⟩, ⟨some 10, none, .call (.func 82) [(.tmp 9), (.const (.int .i64 10))], false⟩, ⟨some 11, none, .mv (.tmp 0), false⟩, ⟨some 12, none, .len false (.tmp 11), false⟩, ⟨some 13, none, .bin .leq 3 (.tmp 12) (.const (.int .i64 4)), false⟩, ⟨some 14, none, .call (.func 82) [(.tmp 13), (.const (.int .i64 8))], false⟩, ⟨some 15, none, .mkSl false 25 1 [.int .i64 0] 2 [(0, (.tmp 10)), (1, (.tmp 14))], false⟩, ⟨some 16, none, .call (.func 80) [(.tmp 15)], false⟩, ⟨some 3, none, .mv (.tmp 16), false⟩]) (.keep [0, 3] (.seq (.region false [⟨some 17, none, .mv (.tmp 3), false⟩, ⟨some 18, none, .bin .neq 25 (.tmp 17) (.const (.int .i64 0)), false⟩]) (.keep [0, 3, 18] (.cond (.tmp 18) (.seq (.region false [⟨some 19, none, .mv (.tmp 3), false⟩, ⟨some 2, none, .mv (.tmp 19), false⟩]) (.keep [2] (.ret))) (.skip)))))) (.keep [0] (.seq (.seq (.region false [⟨some 20, none, .mv (.tmp 0), false⟩, ⟨some 21, none, .len false (.tmp 20), false⟩, ⟨some 22, none, .mv (.const (.int .i64 0)), false⟩]) (.keep [0, 20, 21, 22] (.block 0 (.loop c81l1)))) (.keep [] (.seq (.region false [⟨some 2, none, .mv (.const (.int .i64 0)), false⟩]) (.keep [2] (.ret))))))))
def rv81 : List RV := [.tmp 2]
theorem is81 : FnIs Try.prog 81 42 c81 rv81 := ⟨⟨Try.f81, _, Try.func81, by kernel_rfl, rfl, rfl, by kernel_rfl, by kernel_rfl⟩, by decide⟩
def c82 : AC := .seq (.region false [⟨some 4, none, .mv (.const (.int .i64 0)), false⟩]) (.keep [0, 1] (.seq (.seq (.region false [⟨some 5, none, .mv (.tmp 0), false⟩]) (.keep [1, 5] (.cond (.tmp 5) (.seq (.region false [⟨some 4, none, .mv (.const (.int .i64 0)), false⟩]) (.keep [4] (.ret))) (.skip)))) (.keep [1] (.seq (.region false [⟨some 6, none, .mv (.tmp 1), false⟩, ⟨some 4, none, .mv (.tmp 6), false⟩]) (.keep [4] (.ret))))))
def rv82 : List RV := [.tmp 4]
theorem is82 : FnIs Try.prog 82 7 c82 rv82 := ⟨⟨Try.f82, _, Try.func82, by kernel_rfl, rfl, rfl, by kernel_rfl, by kernel_rfl⟩, by decide⟩
def c83 : AC := .seq (.region false [⟨some 2, none, .box (.tmp 0), false⟩, ⟨some 3, none, .box (.tmp 1), false⟩, ⟨some 4, none, .alloc [.int .i64 0, .int .i64 0], false⟩]) (.keep [2, 3, 4] (.seq (.region false [⟨some 5, none, .faddr 0 (.tmp 2), false⟩, ⟨some 6, none, .load false 1 (.tmp 5), false⟩, ⟨some 7, none, .faddr 0 (.tmp 3), false⟩, ⟨some 8, none, .load false 1 (.tmp 7), false⟩, ⟨some 9, none, .bin .mul 3 (.tmp 6) (.tmp 8), false⟩, ⟨some 10, none, .faddr 1 (.tmp 2), false⟩, ⟨some 11, none, .load false 1 (.tmp 10), false⟩, ⟨some 12, none, .faddr 1 (.tmp 3), false⟩, ⟨some 13, none, .load false 1 (.tmp 12), false⟩, ⟨some 14, none, .bin .mul 3 (.tmp 11) (.tmp 13), false⟩, ⟨some 15, none, .bin .sub 3 (.tmp 9) (.tmp 14), false⟩, ⟨some 16, none, .faddr 0 (.tmp 2), false⟩, ⟨some 17, none, .load false 1 (.tmp 16), false⟩, ⟨some 18, none, .faddr 1 (.tmp 3), false⟩, ⟨some 19, none, .load false 1 (.tmp 18), false⟩, ⟨some 20, none, .bin .mul 3 (.tmp 17) (.tmp 19), false⟩, ⟨some 21, none, .faddr 1 (.tmp 2), false⟩, ⟨some 22, none, .load false 1 (.tmp 21), false⟩, ⟨some 23, none, .faddr 0 (.tmp 3), false⟩, ⟨some 24, none, .load false 1 (.tmp 23), false⟩, ⟨some 25, none, .bin .mul 3 (.tmp 22) (.tmp 24), false⟩, ⟨some 26, none, .bin .add 3 (.tmp 20) (.tmp 25), false⟩, ⟨some 27, none, .build [.int .i64 0, .int .i64 0] [(0, 1, (.tmp 15)), (1, 1, (.tmp 26))], false⟩, ⟨none, none, .store false 2 (.tmp 4) (.tmp 27), false⟩]) (.keep [4] (.ret))))
def rv83 : List RV := [.cell 4 true 2]
theorem is83 : FnIs Try.prog 83 28 c83 rv83 := ⟨⟨Try.f83, _, Try.func83, by kernel_rfl, rfl, rfl, by kernel_rfl, by kernel_rfl⟩, by decide⟩
def c84l1 : AC := .seq (.region false [⟨some 18, none, .bin .lss 3 (.tmp 17) (.tmp 16), false⟩]) (.keep [3, 6, 9, 10, 11, 15, 16, 17, 18] (.seq (.cond (.tmp 18) (.skip) (.exit 2)) (.keep [3, 6, 9, 10, 11, 15, 16, 17] (.seq (.block 3 (.seq (.region false [⟨some 19, none, .iaddr 2 [.int .i64 0, .int .i64 0] (.tmp 15) (.tmp 17), false⟩, ⟨some 20, none, .load true 2 (.tmp 19), false⟩, ⟨some 8, none, .alloc [.int .i64 0, .int .i64 0], false⟩, ⟨none, none, .store false 2 (.tmp 8) (.tmp 20), false⟩]) (.keep [3, 6, 8, 9, 10, 11, 15, 16, 17] (.region false [⟨some 21, none, .mv (.tmp 6), false⟩, ⟨some 22, none, .faddr 0 (.tmp 8), false⟩, ⟨some 23, none, .load false 1 (.tmp 22), false⟩, ⟨some 24, none, .ext .i2f [(.tmp 23)], false⟩, ⟨some 25, none, .faddr 1 (.tmp 8), false⟩, ⟨some 26, none, .load false 1 (.tmp 25), false⟩, ⟨some 27, none, .ext .i2f [(.tmp 26)], false⟩, ⟨some 28, none, .ext .cplx [(.tmp 24), (.tmp 27)], false⟩, ⟨some 29, none, .mkSl false 153 1 [.complex .f64 0 0] 1 [(0, (.tmp 28))], false⟩, ⟨some 30, none, .app 152 153 1 16 [.complex .f64 0 0] (.tmp 21) (.tmp 29), false⟩, ⟨some 6, none, .mv (.tmp 30), false⟩])))) (.keep [3, 6, 9, 10, 11, 15, 16, 17] (.region false [⟨some 31, none, .bin .add 3 (.tmp 17) (.const (.int .i64 1)), false⟩, ⟨some 17, none, .mv (.tmp 31), false⟩]))))))
def c84l2 : AC := .seq (.region false [⟨some 12, none, .bin .lss 3 (.tmp 11) (.tmp 10), false⟩]) (.keep [3, 9, 10, 11, 12] (.seq (.cond (.tmp 12) (.skip) (.exit 0)) (.keep [3, 9, 10, 11] (.seq (.block 1 (.seq (.region false [⟨some 13, none, .iaddr 1 [.slice none 0 0] (.tmp 9) (.tmp 11), false⟩, ⟨some 14, none, .load false 1 (.tmp 13), false⟩, ⟨some 5, none, .mv (.tmp 14), false⟩]) (.keep [3, 5, 9, 10, 11] (.seq (.region false [⟨some 6, none, .mv (.const (.slice none 0 0)), false⟩]) (.keep [3, 5, 6, 9, 10, 11] (.nilrow 6 1 153 (.seq (.seq (.region false [⟨some 15, none, .mv (.tmp 5), false⟩, ⟨some 16, none, .len false (.tmp 15), false⟩, ⟨some 17, none, .mv (.const (.int .i64 0)), false⟩]) (.keep [3, 6, 9, 10, 11, 15, 16, 17] (.block 2 (.loop c84l1)))) (.keep [3, 6, 9, 10, 11] (.fz [6] (.region false [⟨some 32, none, .mv (.tmp 3), false⟩, ⟨some 33, none, .mv (.tmp 6), false⟩, ⟨some 34, none, .mkSl false 152 1 [.slice none 0 0] 1 [(0, (.tmp 33))], false⟩, ⟨some 35, none, .app 116 152 1 24 [.slice none 0 0] (.tmp 32) (.tmp 34), false⟩, ⟨some 3, none, .mv (.tmp 35), false⟩])))))))))) (.keep [3, 9, 10, 11] (.region false [⟨some 36, none, .bin .add 3 (.tmp 11) (.const (.int .i64 1)), false⟩, ⟨some 11, none, .mv (.tmp 36), false⟩]))))))
def c84 : AC := .seq (.region false [⟨some 2, none, .mv (.const (.slice none 0 0)), false⟩]) (.keep [0] (.seq (.region false [⟨some 3, none, .mv (.const (.slice none 0 0)), false⟩]) (.keep [0, 3] (.nilrow 3 1 152 (.seq (.seq (.region false [⟨some 9, none, .mv (.tmp 0), false⟩, ⟨some 10, none, .len false (.tmp 9), false⟩, ⟨some 11, none, .mv (.const (.int .i64 0)), false⟩]) (.keep [3, 9, 10, 11] (.block 0 (.loop c84l2)))) (.keep [3] (.fz [3] (.seq (.region false [⟨some 37, none, .mv (.tmp 3), false⟩, ⟨some 2, none, .mv (.tmp 37), false⟩]) (.keep [2] (.ret))))))))))
def rv84 : List RV := [.tmp 2]
theorem is84 : FnIs Try.prog 84 38 c84 rv84 := ⟨⟨Try.f84, _, Try.func84, by kernel_rfl, rfl, rfl, by kernel_rfl, by kernel_rfl⟩, by decide⟩
def c85 : AC := .seq (.region false [⟨some 2, none, .mv (.const (.slice none 0 0)), false⟩]) (.keep [0] (.seq (.seq (.region false [⟨some 4, none, .mv (.tmp 0), false⟩, ⟨some 5, none, .len false (.tmp 4), false⟩, ⟨some 6, none, .bin .eql 3 (.tmp 5) (.const (.int .i64 1)), false⟩]) (.keep [0, 6] (.cond (.tmp 6) (.seq (.region false [⟨some 7, none, .build [.int .i64 0, .int .i64 0] [(0, 1, (.const (.int .i64 1)))], false⟩, ⟨some 8, none, .mkSl false 48 2 [.int .i64 0, .int .i64 0] 1 [(0, (.tmp 7))], false⟩, ⟨some 9, none, .mkSl false 35 1 [.slice none 0 0] 1 [(0, (.tmp 8))], false⟩, ⟨some 2, none, .mv (.tmp 9), false⟩]) (.keep [2] (.ret))) (.skip)))) (.keep [0] (.seq (.region false [⟨some 10, none, .build [.int .i64 0, .int .i64 0] [], false⟩, ⟨some 3, none, .alloc [.int .i64 0, .int .i64 0], false⟩, ⟨none, none, .store false 2 (.tmp 3) (.tmp 10), false⟩]) (.keep [0, 3] (.seq (.region true [⟨some 11, none, .mv (.tmp 0), false⟩, ⟨some 12, none, .iaddr 1 [.slice none 0 0] (.tmp 11) (.const (.int .i64 1)), false⟩, ⟨some 13, none, .load false 1 (.tmp 12), false⟩, ⟨some 14, none, .iaddr 2 [.int .i64 0, .int .i64 0] (.tmp 13) (.const (.int .i64 1)), false⟩, ⟨some 15, none, .load true 2 (.tmp 14), false⟩, ⟨some 16, none, .load true 2 (.tmp 3), false⟩, ⟨some 17, none, .mv (.tmp 0), false⟩, ⟨some 18, none, .iaddr 1 [.slice none 0 0] (.tmp 17) (.const (.int .i64 0)), false⟩, ⟨some 19, none, .load false 1 (.tmp 18), false⟩, ⟨some 20, none, .iaddr 2 [.int .i64 0, .int .i64 0] (.tmp 19) (.const (.int .i64 1)), false⟩, ⟨some 21, none, .load true 2 (.tmp 20), false⟩, ⟨some 22, none, .call (.func 113) [(.tmp 16), (.tmp 21)], false⟩, ⟨some 23, none, .mkSl false 48 2 [.int .i64 0, .int .i64 0] 2 [(0, (.tmp 15)), (1, (.tmp 22))], false⟩, ⟨some 24, none, .load true 2 (.tmp 3), false⟩, ⟨some 25, none, .mv (.tmp 0), false⟩, ⟨some 26, none, .iaddr 1 [.slice none 0 0] (.tmp 25) (.const (.int .i64 1)), false⟩, ⟨some 27, none, .load false 1 (.tmp 26), false⟩, ⟨some 28, none, .iaddr 2 [.int .i64 0, .int .i64 0] (.tmp 27) (.const (.int .i64 0)), false⟩, ⟨some 29, none, .load true 2 (.tmp 28), false⟩, ⟨some 30, none, .call (.func 113) [(.tmp 24), (.tmp 29)], false⟩, ⟨some 31, none, .mv (.tmp 0), false⟩, ⟨some 32, none, .iaddr 1 [.slice none 0 0] (.tmp 31) (.const (.int .i64 0)), false⟩, ⟨some 33, none, .load false 1 (.tmp 32), false⟩, ⟨some 34, none, .iaddr 2 [.int .i64 0, .int .i64 0] (.tmp 33) (.const (.int .i64 0)), false⟩, ⟨some 35, none, .load true 2 (.tmp 34), false⟩, ⟨some 36, none, .mkSl false 48 2 [.int .i64 0, .int .i64 0] 2 [(0, (.tmp 30)), (1, (.tmp 35))], false⟩, ⟨some 37, none, .mkSl false 35 1 [.slice none 0 0] 2 [(0, (.tmp 23)), (1, (.tmp 36))], true⟩, ⟨some 2, none, .mv (.tmp 37), true⟩]) (.keep [2] (.ret))))))))
def rv85 : List RV := [.tmp 2]
theorem is85 : FnIs Try.prog 85 38 c85 rv85 := ⟨⟨Try.f85, _, Try.func85, by kernel_rfl, rfl, rfl, by kernel_rfl, by kernel_rfl⟩, by decide⟩
def c86l1 : AC := .seq (.region false [⟨some 37, none, .bin .lss 3 (.tmp 36) (.tmp 35), false⟩]) (.keep [1, 5, 8, 10, 13, 14, 15, 24, 25, 26, 34, 35, 36, 37] (.seq (.cond (.tmp 37) (.skip) (.exit 4)) (.keep [1, 5, 8, 10, 13, 14, 15, 24, 25, 26, 34, 35, 36] (.seq (.block 5 (.seq (.region false [⟨some 38, none, .mv (.tmp 36), false⟩, ⟨some 39, none, .iaddr 1 [.complex .f64 0 0] (.tmp 34) (.tmp 36), false⟩, ⟨some 40, none, .load false 1 (.tmp 39), false⟩, ⟨some 11, none, .mv (.tmp 38), false⟩, ⟨some 12, none, .mv (.tmp 40), false⟩]) (.keep [1, 5, 8, 10, 11, 12, 13, 14, 15, 24, 25, 26, 34, 35, 36] (.region false [⟨some 41, none, .mv (.tmp 8), false⟩, ⟨some 42, none, .mv (.tmp 11), false⟩, ⟨some 43, none, .iaddr 1 [.complex .f64 0 0] (.tmp 41) (.tmp 42), false⟩, ⟨some 44, none, .load false 1 (.tmp 43), false⟩, ⟨some 45, none, .mv (.tmp 10), false⟩, ⟨some 46, none, .mv (.tmp 12), false⟩, ⟨some 47, none, .ext (.cbin .mul) [(.tmp 45), (.tmp 46)], false⟩, ⟨some 48, none, .ext (.cbin .add) [(.tmp 44), (.tmp 47)], false⟩, ⟨some 49, none, .iaddr 1 [.complex .f64 0 0] (.tmp 41) (.tmp 42), false⟩, ⟨none, none, .store false 1 (.tmp 49) (.tmp 48), false⟩])))) (.keep [1, 5, 8, 10, 13, 14, 15, 24, 25, 26, 34, 35, 36] (.region false [⟨some 50, none, .bin .add 3 (.tmp 36) (.const (.int .i64 1)), false⟩, ⟨some 36, none, .mv (.tmp 50), false⟩]))))))
def c86l2 : AC := .seq (.region false [⟨some 27, none, .bin .lss 3 (.tmp 26) (.tmp 25), false⟩]) (.keep [1, 5, 8, 13, 14, 15, 24, 25, 26, 27] (.seq (.cond (.tmp 27) (.skip) (.exit 2)) (.keep [1, 5, 8, 13, 14, 15, 24, 25, 26] (.seq (.block 3 (.seq (.region false [⟨some 28, none, .mv (.tmp 26), false⟩, ⟨some 29, none, .iaddr 1 [.complex .f64 0 0] (.tmp 24) (.tmp 26), false⟩, ⟨some 30, none, .load false 1 (.tmp 29), false⟩, ⟨some 9, none, .mv (.tmp 28), false⟩, ⟨some 10, none, .mv (.tmp 30), false⟩]) (.keep [1, 5, 8, 9, 10, 13, 14, 15, 24, 25, 26] (.seq (.region false [⟨some 31, none, .mv (.tmp 1), false⟩, ⟨some 32, none, .mv (.tmp 9), false⟩, ⟨some 33, none, .iaddr 1 [.slice none 0 0] (.tmp 31) (.tmp 32), false⟩, ⟨some 34, none, .load false 1 (.tmp 33), false⟩, ⟨some 35, none, .len false (.tmp 34), false⟩, ⟨some 36, none, .mv (.const (.int .i64 0)), false⟩]) (.keep [1, 5, 8, 10, 13, 14, 15, 24, 25, 26, 34, 35, 36] (.block 4 (.loop c86l1))))))) (.keep [1, 5, 8, 13, 14, 15, 24, 25, 26] (.region false [⟨some 51, none, .bin .add 3 (.tmp 26) (.const (.int .i64 1)), false⟩, ⟨some 26, none, .mv (.tmp 51), false⟩]))))))
def c86l3 : AC := .seq (.region false [⟨some 16, none, .bin .lss 3 (.tmp 15) (.tmp 14), false⟩]) (.keep [1, 5, 13, 14, 15, 16] (.seq (.cond (.tmp 16) (.skip) (.exit 0)) (.keep [1, 5, 13, 14, 15] (.seq (.block 1 (.seq (.region false [⟨some 17, none, .iaddr 1 [.slice none 0 0] (.tmp 13) (.tmp 15), false⟩, ⟨some 18, none, .load false 1 (.tmp 17), false⟩, ⟨some 7, none, .mv (.tmp 18), false⟩]) (.keep [1, 5, 7, 13, 14, 15] (.seq (.region false [⟨some 19, none, .mv (.tmp 1), false⟩, ⟨some 20, none, .iaddr 1 [.slice none 0 0] (.tmp 19) (.const (.int .i64 0)), false⟩, ⟨some 21, none, .load false 1 (.tmp 20), false⟩, ⟨some 22, none, .len false (.tmp 21), false⟩, ⟨some 23, none, .makeSl 153 1 16 [.complex .f64 0 0] (.tmp 22) (.tmp 22), false⟩, ⟨some 8, none, .mv (.tmp 23), false⟩]) (.keep [1, 5, 7, 8, 13, 14, 15] (.seq (.seq (.region false [⟨some 24, none, .mv (.tmp 7), false⟩, ⟨some 25, none, .len false (.tmp 24), false⟩, ⟨some 26, none, .mv (.const (.int .i64 0)), false⟩]) (.keep [1, 5, 8, 13, 14, 15, 24, 25, 26] (.block 2 (.loop c86l2)))) (.keep [1, 5, 8, 13, 14, 15] (.fz [8] (.region false [⟨some 52, none, .mv (.tmp 5), false⟩, ⟨some 53, none, .mv (.tmp 8), false⟩, ⟨some 54, none, .mkSl false 152 1 [.slice none 0 0] 1 [(0, (.tmp 53))], false⟩, ⟨some 55, none, .app 116 152 1 24 [.slice none 0 0] (.tmp 52) (.tmp 54), false⟩, ⟨some 5, none, .mv (.tmp 55), false⟩]))))))))) (.keep [1, 5, 13, 14, 15] (.region false [⟨some 56, none, .bin .add 3 (.tmp 15) (.const (.int .i64 1)), false⟩, ⟨some 15, none, .mv (.tmp 56), false⟩]))))))
def c86 : AC := .seq (.region false [⟨some 4, none, .mv (.const (.slice none 0 0)), false⟩]) (.keep [0, 1] (.seq (.region false [⟨some 5, none, .mv (.const (.slice none 0 0)), false⟩]) (.keep [0, 1, 5] (.nilrow 5 1 152 (.seq (.seq (.region false [⟨some 13, none, .mv (.tmp 0), false⟩, ⟨some 14, none, .len false (.tmp 13), false⟩, ⟨some 15, none, .mv (.const (.int .i64 0)), false⟩]) (.keep [1, 5, 13, 14, 15] (.block 0 (.loop c86l3)))) (.keep [5] (.fz [5] (.seq (.region false [⟨some 57, none, .mv (.tmp 5), false⟩, ⟨some 4, none, .mv (.tmp 57), false⟩]) (.keep [4] (.ret))))))))))
def rv86 : List RV := [.tmp 4]
theorem is86 : FnIs Try.prog 86 58 c86 rv86 := ⟨⟨Try.f86, _, Try.func86, by kernel_rfl, rfl, rfl, by kernel_rfl, by kernel_rfl⟩, by decide⟩
def c87l1 : AC := .seq (.region false [⟨some 18, none, .bin .lss 3 (.tmp 17) (.tmp 16), false⟩]) (.keep [3, 6, 9, 10, 11, 15, 16, 17, 18] (.seq (.cond (.tmp 18) (.skip) (.exit 2)) (.keep [3, 6, 9, 10, 11, 15, 16, 17] (.seq (.block 3 (.seq (.region false [⟨some 19, none, .iaddr 1 [.complex .f64 0 0] (.tmp 15) (.tmp 17), false⟩, ⟨some 20, none, .load false 1 (.tmp 19), false⟩, ⟨some 8, none, .mv (.tmp 20), false⟩]) (.keep [3, 6, 8, 9, 10, 11, 15, 16, 17] (.region false [⟨some 21, none, .mv (.tmp 6), false⟩, ⟨some 22, none, .mv (.tmp 8), false⟩, ⟨some 23, none, .ext .re [(.tmp 22)], false⟩, ⟨some 24, none, .ext (.f2i .i64) [(.tmp 23)], false⟩, ⟨some 25, none, .mv (.tmp 8), false⟩, ⟨some 26, none, .ext .im [(.tmp 25)], false⟩, ⟨some 27, none, .ext (.f2i .i64) [(.tmp 26)], false⟩, ⟨some 28, none, .build [.int .i64 0, .int .i64 0] [(0, 1, (.tmp 24)), (1, 1, (.tmp 27))], false⟩, ⟨some 29, none, .mkSl false 48 2 [.int .i64 0, .int .i64 0] 1 [(0, (.tmp 28))], false⟩, ⟨some 30, none, .app 35 48 2 16 [.int .i64 0, .int .i64 0] (.tmp 21) (.tmp 29), false⟩, ⟨some 6, none, .mv (.tmp 30), false⟩])))) (.keep [3, 6, 9, 10, 11, 15, 16, 17] (.region false [⟨some 31, none, .bin .add 3 (.tmp 17) (.const (.int .i64 1)), false⟩, ⟨some 17, none, .mv (.tmp 31), false⟩]))))))
def c87l2 : AC := .seq (.region false [⟨some 12, none, .bin .lss 3 (.tmp 11) (.tmp 10), false⟩]) (.keep [3, 9, 10, 11, 12] (.seq (.cond (.tmp 12) (.skip) (.exit 0)) (.keep [3, 9, 10, 11] (.seq (.block 1 (.seq (.region false [⟨some 13, none, .iaddr 1 [.slice none 0 0] (.tmp 9) (.tmp 11), false⟩, ⟨some 14, none, .load false 1 (.tmp 13), false⟩, ⟨some 5, none, .mv (.tmp 14), false⟩]) (.keep [3, 5, 9, 10, 11] (.seq (.region false [⟨some 6, none, .mv (.const (.slice none 0 0)), false⟩]) (.keep [3, 5, 6, 9, 10, 11] (.nilrow 6 2 48 (.seq (.seq (.region false [⟨some 15, none, .mv (.tmp 5), false⟩, ⟨some 16, none, .len false (.tmp 15), false⟩, ⟨some 17, none, .mv (.const (.int .i64 0)), false⟩]) (.keep [3, 6, 9, 10, 11, 15, 16, 17] (.block 2 (.loop c87l1)))) (.keep [3, 6, 9, 10, 11] (.fz [6] (.region false [⟨some 32, none, .mv (.tmp 3), false⟩, ⟨some 33, none, .mv (.tmp 6), false⟩, ⟨some 34, none, .mkSl false 35 1 [.slice none 0 0] 1 [(0, (.tmp 33))], false⟩, ⟨some 35, none, .app 22 35 1 24 [.slice none 0 0] (.tmp 32) (.tmp 34), false⟩, ⟨some 3, none, .mv (.tmp 35), false⟩])))))))))) (.keep [3, 9, 10, 11] (.region false [⟨some 36, none, .bin .add 3 (.tmp 11) (.const (.int .i64 1)), false⟩, ⟨some 11, none, .mv (.tmp 36), false⟩]))))))
def c87 : AC := .seq (.region false [⟨some 2, none, .mv (.const (.slice none 0 0)), false⟩]) (.keep [0] (.seq (.region false [⟨some 3, none, .mv (.const (.slice none 0 0)), false⟩]) (.keep [0, 3] (.nilrow 3 1 35 (.seq (.seq (.region false [⟨some 9, none, .mv (.tmp 0), false⟩, ⟨some 10, none, .len false (.tmp 9), false⟩, ⟨some 11, none, .mv (.const (.int .i64 0)), false⟩]) (.keep [3, 9, 10, 11] (.block 0 (.loop c87l2)))) (.keep [3] (.fz [3] (.seq (.region false [⟨some 37, none, .mv (.tmp 3), false⟩, ⟨some 2, none, .mv (.tmp 37), false⟩]) (.keep [2] (.ret))))))))))
def rv87 : List RV := [.tmp 2]
theorem is87 : FnIs Try.prog 87 38 c87 rv87 := ⟨⟨Try.f87, _, Try.func87, by kernel_rfl, rfl, rfl, by kernel_rfl, by kernel_rfl⟩, by decide⟩
def c88 : AC := .seq (.region false [⟨some 2, none, .box (.tmp 0), false⟩, ⟨some 4, none, .mv (.const (.bool false)), false⟩]) (.keep [1, 2] (.seq (.region false [⟨some 5, none, .faddr 0 (.tmp 2), false⟩, ⟨some 6, none, .load false 1 (.tmp 5), false⟩, ⟨some 7, none, .mv (.tmp 1), false⟩, ⟨some 8, none, .call (.func 119) [(.tmp 6), (.tmp 7)], false⟩, ⟨some 9, none, .mv (.tmp 8), false⟩, ⟨some 10, some (9, true), .faddr 1 (.tmp 2), false⟩, ⟨some 11, some (9, true), .load false 1 (.tmp 10), false⟩, ⟨some 12, some (9, true), .mv (.tmp 1), false⟩, ⟨some 13, some (9, true), .call (.func 119) [(.tmp 11), (.tmp 12)], false⟩, ⟨some 14, none, .pick (.tmp 9) (.tmp 13) (.const (.bool false)), false⟩, ⟨some 4, none, .mv (.tmp 14), false⟩]) (.keep [4] (.ret))))
def rv88 : List RV := [.tmp 4]
theorem is88 : FnIs Try.prog 88 15 c88 rv88 := ⟨⟨Try.f88, _, Try.func88, by kernel_rfl, rfl, rfl, by kernel_rfl, by kernel_rfl⟩, by decide⟩
def c95 : AC := .seq (.region false [⟨some 2, none, .mv (.const (.int .i64 0)), false⟩]) (.keep [0] (.seq (.region false [⟨some 3, none, .mkSl false 3 1 [.int .i64 0] 3 [(0, (.const (.int .i64 2))), (1, (.const (.int .i64 4))), (2, (.const (.int .i64 6)))], false⟩, ⟨some 4, none, .mv (.tmp 0), false⟩, ⟨some 5, none, .call (.func 129) [(.tmp 3), (.tmp 4)], false⟩, ⟨some 6, none, .call (.func 82) [(.tmp 5), (.const (.int .i64 15))], false⟩, ⟨some 2, none, .mv (.tmp 6), false⟩]) (.keep [2] (.ret))))
def rv95 : List RV := [.tmp 2]
theorem is95 : FnIs Try.prog 95 7 c95 rv95 := ⟨⟨Try.f95, _, Try.func95, by kernel_rfl, rfl, rfl, by kernel_rfl, by kernel_rfl⟩, by decide⟩
def c96l1 : AC := .seq (.region false [⟨some 9, none, .bin .lss 3 (.tmp 8) (.tmp 7), false⟩]) (.keep [2, 3, 6, 7, 8, 9] (.seq (.cond (.tmp 9) (.skip) (.exit 0)) (.keep [2, 3, 6, 7, 8] (.seq (.block 1 (.seq (.region false [⟨some 10, none, .mv (.tmp 8), false⟩, ⟨some 11, none, .iaddr 1 [.int .i64 0] (.tmp 6) (.tmp 8), false⟩, ⟨some 12, none, .load false 1 (.tmp 11), false⟩, ⟨some 4, none, .mv (.tmp 10), false⟩, ⟨some 5, none, .mv (.tmp 12), false⟩]) (.keep [2, 3, 4, 5, 6, 7, 8] (.region false [⟨some 13, none, .mv (.tmp 4), false⟩, ⟨some 14, none, .bin .rem 3 (.tmp 13) (.const (.int .i64 2)), false⟩, ⟨some 15, none, .mv (.tmp 4), false⟩, ⟨some 16, none, .bin .rem 3 (.tmp 15) (.const (.int .i64 2)), false⟩, ⟨some 17, none, .iarr 2 1 (.tmp 3) (.tmp 16), false⟩, ⟨some 18, none, .load false 1 (.tmp 17), false⟩, ⟨some 19, none, .mv (.tmp 5), false⟩, ⟨some 20, none, .mkSl false 3 1 [.int .i64 0] 1 [(0, (.tmp 19))], false⟩, ⟨some 21, none, .app 33 3 1 8 [.int .i64 0] (.tmp 18) (.tmp 20), false⟩, ⟨some 22, none, .iarr 2 1 (.tmp 3) (.tmp 14), false⟩, ⟨none, none, .store true 1 (.tmp 22) (.tmp 21), false⟩])))) (.keep [2, 3, 6, 7, 8] (.region false [⟨some 23, none, .bin .add 3 (.tmp 8) (.const (.int .i64 1)), false⟩, ⟨some 8, none, .mv (.tmp 23), false⟩]))))))
def c96 : AC := .seq (.region false [⟨some 2, none, .alloc [.int .i64 0, .int .i64 0], false⟩]) (.keep [0, 2] (.seq (.region false [⟨some 3, none, .alloc [.slice none 0 0, .slice none 0 0], false⟩]) (.keep [0, 2, 3] (.seq (.seq (.region false [⟨some 6, none, .mv (.tmp 0), false⟩, ⟨some 7, none, .len false (.tmp 6), false⟩, ⟨some 8, none, .mv (.const (.int .i64 0)), false⟩]) (.keep [2, 3, 6, 7, 8] (.block 0 (.loop c96l1)))) (.keep [2, 3] (.seq (.region true [⟨some 24, none, .iarr 2 1 (.tmp 3) (.const (.int .i64 0)), false⟩, ⟨some 25, none, .load false 1 (.tmp 24), false⟩, ⟨some 26, none, .call (.func 106) [(.tmp 25)], false⟩, ⟨some 27, none, .iarr 2 1 (.tmp 3) (.const (.int .i64 1)), false⟩, ⟨some 28, none, .load false 1 (.tmp 27), false⟩, ⟨some 29, none, .call (.func 106) [(.tmp 28)], true⟩, ⟨some 30, none, .build [.int .i64 0, .int .i64 0] [(0, 1, (.tmp 26)), (1, 1, (.tmp 29))], true⟩, ⟨none, none, .store false 2 (.tmp 2) (.tmp 30), true⟩]) (.keep [2] (.ret))))))))
def rv96 : List RV := [.cell 2 true 2]
theorem is96 : FnIs Try.prog 96 31 c96 rv96 := ⟨⟨Try.f96, _, Try.func96, by kernel_rfl, rfl, rfl, by kernel_rfl, by kernel_rfl⟩, by decide⟩
def c97l1 : AC := .seq (.seq (.region false [⟨some 9, none, .mv (.tmp 6), false⟩, ⟨some 10, none, .bin .geq 3 (.tmp 9) (.const (.int .i64 0)), false⟩]) (.keep [0, 5, 6, 10] (.cond (.tmp 10) (.skip) (.exit 0)))) (.keep [0, 5, 6] (.seq (.block 1 (.region false [⟨some 13, none, .mv (.tmp 5), false⟩, ⟨some 14, none, .mv (.tmp 0), false⟩, ⟨some 15, none, .mv (.tmp 6), false⟩, ⟨some 16, none, .bin .shr 3 (.tmp 14) (.tmp 15), false⟩, ⟨some 17, none, .bin .and 3 (.tmp 16) (.const (.int .i64 1)), false⟩, ⟨some 18, none, .mkSl false 3 1 [.int .i64 0] 1 [(0, (.tmp 17))], false⟩, ⟨some 19, none, .app 33 3 1 8 [.int .i64 0] (.tmp 13) (.tmp 18), false⟩, ⟨some 5, none, .mv (.tmp 19), false⟩])) (.keep [0, 5, 6] (.region false [⟨some 11, none, .mv (.tmp 6), false⟩, ⟨some 12, none, .bin .sub 3 (.tmp 11) (.const (.int .i64 1)), false⟩, ⟨some 6, none, .mv (.tmp 12), false⟩]))))
def c97 : AC := .seq (.region false [⟨some 4, none, .mv (.const (.slice none 0 0)), false⟩]) (.keep [0, 1] (.seq (.region false [⟨some 5, none, .mv (.const (.slice none 0 0)), false⟩]) (.keep [0, 1, 5] (.nilrow 5 1 3 (.seq (.seq (.region false [⟨some 7, none, .mv (.tmp 1), false⟩, ⟨some 8, none, .bin .sub 3 (.tmp 7) (.const (.int .i64 1)), false⟩, ⟨some 6, none, .mv (.tmp 8), false⟩]) (.keep [0, 5, 6] (.block 0 (.loop c97l1)))) (.keep [5] (.fz [5] (.seq (.region false [⟨some 20, none, .mv (.tmp 5), false⟩, ⟨some 4, none, .mv (.tmp 20), false⟩]) (.keep [4] (.ret))))))))))
def rv97 : List RV := [.tmp 4]
theorem is97 : FnIs Try.prog 97 21 c97 rv97 := ⟨⟨Try.f97, _, Try.func97, by kernel_rfl, rfl, rfl, by kernel_rfl, by kernel_rfl⟩, by decide⟩
def c98 : AC := .seq (.region false [⟨some 2, none, .mv (.const (.int .i64 0)), false⟩]) (.keep [0] (.seq (.region false [⟨some 3, none, .mv (.tmp 0), false⟩, ⟨some 4, none, .len false (.tmp 3), false⟩, ⟨some 5, none, .bin .gtr 3 (.tmp 4) (.const (.int .i64 0)), false⟩, ⟨some 6, none, .call (.func 82) [(.tmp 5), (.const (.int .i64 10))], false⟩, ⟨some 7, none, .mv (.tmp 0), false⟩, ⟨some 8, none, .len false (.tmp 7), false⟩, ⟨some 9, none, .bin .leq 3 (.tmp 8) (.const (.int .i64 400)), false⟩, ⟨some 10, none, .call (.func 82) [(.tmp 9), (.const (.int .i64 8))], false⟩, ⟨some 11, none, .mv (.tmp 0), false⟩, ⟨some 12, none, .call (.func 105) [(.tmp 11)], false⟩, ⟨some 13, none, .call (.func 82) [(.tmp 12), (.const (.int .i64 15))], false⟩, ⟨some 14, none, .mkSl false 25 1 [.int .i64 0] 3 [(0, (.tmp 6)), (1, (.tmp 10)), (2, (.tmp 13))], false⟩, ⟨some 15, none, .call (.func 80) [(.tmp 14)], false⟩, ⟨some 2, none, .mv (.tmp 15), false⟩]) (.keep [2] (.ret))))
def rv98 : List RV := [.tmp 2]
theorem is98 : FnIs Try.prog 98 16 c98 rv98 := ⟨⟨Try.f98, _, Try.func98, by kernel_rfl, rfl, rfl, by kernel_rfl, by kernel_rfl⟩, by decide⟩
def c99 : AC := .seq (.region false [⟨some 2, none, .box (.tmp 0), false⟩, ⟨some 3, none, .box (.tmp 1), false⟩, ⟨some 4, none, .mv (.const (.nilFunc)), false⟩]) (.keep [2, 3] (.seq (.seq (.region false [⟨some 5, none, .load false 1 (.tmp 3), false⟩, ⟨some 6, none, .bin .lss 3 (.tmp 5) (.const (.int .i64 1)), false⟩]) (.keep [2, 3, 6] (.cond (.tmp 6) (.region false [⟨some 7, none, .opq (.makeInterface 9 (.const (.string ⟨#[99, 97, 110, 110, 111, 116, 32, 98, 101, 32, 108, 101, 115, 115, 32, 116, 104, 97, 110, 32, 49]⟩))) 20, false⟩, ⟨none, none, .opq (.panic (.tmp 7)) 0, false⟩]) (.skip)))) (.keep [2, 3] (.seq (.region false [⟨some 8, none, .mkFn (.func 130) [] [(.tmp 2), (.tmp 3)], false⟩, ⟨some 4, none, .mv (.tmp 8), false⟩]) (.keep [4] (.ret))))))
def rv99 : List RV := [.tmp 4]
theorem is99 : FnIs Try.prog 99 9 c99 rv99 := ⟨⟨Try.f99, _, Try.func99, by kernel_rfl, rfl, rfl, by kernel_rfl, by kernel_rfl⟩, by decide⟩
def c102l1 : AC := .seq (.seq (.region false [⟨some 4, none, .mv (.tmp 3), false⟩, ⟨some 5, none, .mv (.tmp 0), false⟩, ⟨some 6, none, .len false (.tmp 5), false⟩, ⟨some 7, none, .bin .lss 3 (.tmp 4) (.tmp 6), false⟩]) (.keep [0, 3, 7] (.cond (.tmp 7) (.skip) (.exit 0)))) (.keep [0, 3] (.seq (.block 1 (.seq (.region false [⟨some 10, none, .mv (.tmp 0), false⟩, ⟨some 11, none, .mv (.tmp 3), false⟩, ⟨some 12, none, .iaddr 1 [.int .i64 0] (.tmp 10) (.tmp 11), false⟩, ⟨some 13, none, .load false 1 (.tmp 12), false⟩, ⟨some 14, none, .bin .neq 3 (.tmp 13) (.const (.int .i64 0)), false⟩, ⟨some 15, none, .mv (.tmp 14), false⟩, ⟨some 16, some (15, true), .mv (.tmp 0), false⟩, ⟨some 17, some (15, true), .mv (.tmp 3), false⟩, ⟨some 18, some (15, true), .iaddr 1 [.int .i64 0] (.tmp 16) (.tmp 17), false⟩, ⟨some 19, some (15, true), .load false 1 (.tmp 18), false⟩, ⟨some 20, some (15, true), .bin .neq 3 (.tmp 19) (.const (.int .i64 1)), false⟩, ⟨some 21, none, .pick (.tmp 15) (.tmp 20) (.const (.bool false)), false⟩]) (.keep [0, 3, 21] (.cond (.tmp 21) (.seq (.region false [⟨some 2, none, .mv (.const (.bool false)), false⟩]) (.keep [2] (.ret))) (.skip))))) (.keep [0, 3] (.region false [⟨some 8, none, .mv (.tmp 3), false⟩, ⟨some 9, none, .bin .add 3 (.tmp 8) (.const (.int .i64 1)), false⟩, ⟨some 3, none, .mv (.tmp 9), false⟩]))))
def c102 : AC := .seq (.region false [⟨some 2, none, .mv (.const (.bool false)), false⟩]) (.keep [0] (.seq (.seq (.region false [⟨some 3, none, .mv (.const (.int .i64 0)), false⟩]) (.keep [0, 3] (.block 0 (.loop c102l1)))) (.keep [] (.seq (.region false [⟨some 2, none, .mv (.const (.bool true)), false⟩]) (.keep [2] (.ret))))))
def rv102 : List RV := [.tmp 2]
theorem is102 : FnIs Try.prog 102 22 c102 rv102 := ⟨⟨Try.f102, _, Try.func102, by kernel_rfl, rfl, rfl, by kernel_rfl, by kernel_rfl⟩, by decide⟩
def c103 : AC := .seq (.region false [⟨some 6, none, .mv (.const (.bool false)), false⟩]) (.keep [0, 1, 2] (.seq (.region false [⟨some 7, none, .mv (.tmp 1), false⟩, ⟨some 8, none, .mv (.tmp 0), false⟩, ⟨some 9, none, .bin .leq 3 (.tmp 7) (.tmp 8), false⟩, ⟨some 10, none, .mv (.tmp 9), false⟩, ⟨some 11, some (10, true), .mv (.tmp 0), false⟩, ⟨some 12, some (10, true), .mv (.tmp 2), false⟩, ⟨some 13, some (10, true), .bin .leq 3 (.tmp 11) (.tmp 12), false⟩, ⟨some 14, none, .pick (.tmp 10) (.tmp 13) (.const (.bool false)), false⟩, ⟨some 6, none, .mv (.tmp 14), false⟩]) (.keep [6] (.ret))))
def rv103 : List RV := [.tmp 6]
theorem is103 : FnIs Try.prog 103 15 c103 rv103 := ⟨⟨Try.f103, _, Try.func103, by kernel_rfl, rfl, rfl, by kernel_rfl, by kernel_rfl⟩, by decide⟩
def c104l1 : AC := .seq (.region false [⟨some 10, none, .bin .lss 3 (.tmp 9) (.tmp 8), false⟩]) (.keep [0, 1, 8, 9, 10] (.seq (.cond (.tmp 10) (.skip) (.exit 0)) (.keep [0, 1, 8, 9] (.seq (.block 1 (.seq (.region false [⟨some 11, none, .mv (.tmp 9), false⟩, ⟨some 5, none, .mv (.tmp 11), false⟩]) (.keep [0, 1, 5, 8, 9] (.seq (.region false [⟨some 12, none, .mv (.tmp 5), false⟩, ⟨some 13, none, .mv (.tmp 0), false⟩, ⟨some 14, none, .call (.func 97) [(.tmp 12), (.tmp 13)], false⟩, ⟨some 6, none, .mv (.tmp 14), false⟩]) (.keep [0, 1, 6, 8, 9] (.seq (.region false [⟨some 15, none, .mv (.tmp 6), false⟩, ⟨some 16, none, .call (.func 106) [(.tmp 15)], false⟩, ⟨some 17, none, .mv (.tmp 1), false⟩, ⟨some 18, none, .bin .eql 3 (.tmp 16) (.tmp 17), false⟩]) (.keep [0, 1, 6, 8, 9, 18] (.cond (.tmp 18) (.seq (.region false [⟨some 19, none, .mv (.tmp 6), false⟩, ⟨some 4, none, .mv (.tmp 19), false⟩]) (.keep [4] (.ret))) (.skip))))))))) (.keep [0, 1, 8, 9] (.region false [⟨some 20, none, .bin .add 3 (.tmp 9) (.const (.int .i64 1)), false⟩, ⟨some 9, none, .mv (.tmp 20), false⟩]))))))
def c104 : AC := .seq (.region false [⟨some 4, none, .mv (.const (.slice none 0 0)), false⟩]) (.keep [0, 1] (.seq (.seq (.region false [⟨some 7, none, .mv (.tmp 0), false⟩, ⟨some 8, none, .bin .shl 3 (.const (.int .i64 1)) (.tmp 7), false⟩, ⟨some 9, none, .mv (.const (.int .i64 0)), false⟩]) (.keep [0, 1, 8, 9] (.block 0 (.loop c104l1)))) (.keep [] (.seq (.region false [⟨some 4, none, .mv (.const (.slice none 0 0)), false⟩]) (.keep [4] (.ret))))))
def rv104 : List RV := [.tmp 4]
theorem is104 : FnIs Try.prog 104 21 c104 rv104 := ⟨⟨Try.f104, _, Try.func104, by kernel_rfl, rfl, rfl, by kernel_rfl, by kernel_rfl⟩, by decide⟩
def c105 : AC := .seq (.region false [⟨some 2, none, .mv (.const (.bool false)), false⟩]) (.keep [0] (.seq (.region false [⟨some 3, none, .mv (.tmp 0), false⟩, ⟨some 4, none, .call (.func 132) [(.tmp 3), (.func 133)], false⟩, ⟨some 5, none, .un .not (.tmp 4), false⟩, ⟨some 2, none, .mv (.tmp 5), false⟩]) (.keep [2] (.ret))))
def rv105 : List RV := [.tmp 2]
theorem is105 : FnIs Try.prog 105 6 c105 rv105 := ⟨⟨Try.f105, _, Try.func105, by kernel_rfl, rfl, rfl, by kernel_rfl, by kernel_rfl⟩, by decide⟩
def c106 : AC := .seq (.region false [⟨some 2, none, .mv (.const (.int .i64 0)), false⟩]) (.keep [0] (.seq (.region false [⟨some 5, none, .mv (.tmp 0), false⟩, ⟨some 6, none, .iaddr 1 [.int .i64 0] (.tmp 5) (.const (.int .i64 0)), false⟩, ⟨some 7, none, .load false 1 (.tmp 6), false⟩, ⟨some 8, none, .bin .mul 3 (.const (.int .i64 2)) (.tmp 7), false⟩, ⟨some 9, none, .bin .sub 3 (.const (.int .i64 1)) (.tmp 8), false⟩, ⟨some 3, none, .mv (.tmp 9), false⟩]) (.keep [0, 3] (.seq (.seq (.region false [⟨some 10, none, .mv (.tmp 0), false⟩, ⟨some 11, none, .len false (.tmp 10), false⟩, ⟨some 12, none, .bin .eql 3 (.tmp 11) (.const (.int .i64 1)), false⟩]) (.keep [0, 3, 12] (.cond (.tmp 12) (.seq (.region false [⟨some 13, none, .mv (.tmp 3), false⟩, ⟨some 2, none, .mv (.tmp 13), false⟩]) (.keep [2] (.ret))) (.skip)))) (.keep [0, 3] (.seq (.region false [⟨some 14, none, .mv (.tmp 0), false⟩, ⟨some 15, none, .ssl 1 (.tmp 14) (some (.const (.int .i64 1))) none none, false⟩, ⟨some 4, none, .mv (.tmp 15), false⟩]) (.keep [3, 4] (.seq (.region true [⟨some 16, none, .mvs (.tmp 3), false⟩, ⟨some 17, none, .mv (.tmp 4), false⟩, ⟨some 18, none, .len false (.tmp 17), false⟩, ⟨some 19, none, .bin .shl 3 (.const (.int .i64 1)) (.tmp 18), false⟩, ⟨some 20, none, .mv (.tmp 4), false⟩, ⟨some 21, none, .call (.func 106) [(.tmp 20)], false⟩, ⟨some 22, none, .bin .sub 3 (.tmp 19) (.tmp 21), true⟩, ⟨some 23, none, .bin .mul 3 (.tmp 16) (.tmp 22), true⟩, ⟨some 2, none, .mv (.tmp 23), true⟩]) (.keep [2] (.ret))))))))))
def rv106 : List RV := [.tmp 2]
theorem is106 : FnIs Try.prog 106 24 c106 rv106 := ⟨⟨Try.f106, _, Try.func106, by kernel_rfl, rfl, rfl, by kernel_rfl, by kernel_rfl⟩, by decide⟩
def c107 : AC := .seq (.region false [⟨some 2, none, .mv (.const (.slice none 0 0)), false⟩]) (.keep [0] (.seq (.seq (.region false [⟨some 3, none, .mv (.tmp 0), false⟩, ⟨some 4, none, .ext (.isnil false) [(.tmp 3)], false⟩]) (.keep [0, 4] (.cond (.tmp 4) (.seq (.region false [⟨some 2, none, .mv (.const (.slice none 0 0)), false⟩]) (.keep [2] (.ret))) (.skip)))) (.keep [0] (.seq (.region false [⟨some 5, none, .mkSl true 3 1 [.int .i64 0] 0 [], false⟩, ⟨some 6, none, .mv (.tmp 0), false⟩, ⟨some 7, none, .app 33 3 1 8 [.int .i64 0] (.tmp 5) (.tmp 6), false⟩, ⟨some 2, none, .mv (.tmp 7), false⟩]) (.keep [2] (.ret))))))
def rv107 : List RV := [.tmp 2]
theorem is107 : FnIs Try.prog 107 8 c107 rv107 := ⟨⟨Try.f107, _, Try.func107, by kernel_rfl, rfl, rfl, by kernel_rfl, by kernel_rfl⟩, by decide⟩
def c108l1 : AC := .seq (.region false [⟨some 16, none, .bin .lss 3 (.tmp 15) (.tmp 14), false⟩]) (.keep [1, 2, 3, 13, 14, 15, 16] (.seq (.cond (.tmp 16) (.skip) (.exit 0)) (.keep [1, 2, 3, 13, 14, 15] (.seq (.block 1 (.seq (.region false [⟨some 17, none, .mv (.tmp 15), false⟩, ⟨some 18, none, .iaddr 1 [.int .i64 0] (.tmp 13) (.tmp 15), false⟩, ⟨some 19, none, .load false 1 (.tmp 18), false⟩, ⟨some 4, none, .mv (.tmp 17), false⟩, ⟨some 5, none, .mv (.tmp 19), false⟩]) (.keep [1, 2, 3, 4, 5, 13, 14, 15] (.region true [⟨some 20, none, .faddr 0 (.tmp 3), false⟩, ⟨some 21, none, .load false 1 (.tmp 20), false⟩, ⟨some 22, none, .mvs (.tmp 5), false⟩, ⟨some 23, none, .cvi .u16 (.tmp 22), false⟩, ⟨some 24, none, .mv (.tmp 4), false⟩, ⟨some 25, none, .bin .shl 132 (.tmp 23) (.tmp 24), false⟩, ⟨some 26, none, .bin .or 132 (.tmp 21) (.tmp 25), true⟩, ⟨some 27, none, .faddr 0 (.tmp 3), true⟩, ⟨none, none, .store false 1 (.tmp 27) (.tmp 26), true⟩])))) (.keep [1, 2, 3, 13, 14, 15] (.region false [⟨some 28, none, .bin .add 3 (.tmp 15) (.const (.int .i64 1)), false⟩, ⟨some 15, none, .mv (.tmp 28), false⟩]))))))
def c108l2 : AC := .seq (.region false [⟨some 33, none, .bin .lss 3 (.tmp 32) (.tmp 31), false⟩]) (.keep [2, 3, 30, 31, 32, 33] (.seq (.cond (.tmp 33) (.skip) (.exit 2)) (.keep [2, 3, 30, 31, 32] (.seq (.block 3 (.seq (.region false [⟨some 34, none, .iaddr 1 [.int .i64 0] (.tmp 30) (.tmp 32), false⟩, ⟨some 35, none, .load false 1 (.tmp 34), false⟩, ⟨some 7, none, .mv (.tmp 35), false⟩]) (.keep [2, 3, 7, 30, 31, 32] (.region true [⟨some 36, none, .faddr 1 (.tmp 3), false⟩, ⟨some 37, none, .load false 1 (.tmp 36), false⟩, ⟨some 38, none, .mv (.tmp 7), false⟩, ⟨some 39, none, .bin .shl 132 (.const (.int .u16 1)) (.tmp 38), false⟩, ⟨some 40, none, .bin .or 132 (.tmp 37) (.tmp 39), true⟩, ⟨some 41, none, .faddr 1 (.tmp 3), true⟩, ⟨none, none, .store false 1 (.tmp 41) (.tmp 40), true⟩])))) (.keep [2, 3, 30, 31, 32] (.region false [⟨some 42, none, .bin .add 3 (.tmp 32) (.const (.int .i64 1)), false⟩, ⟨some 32, none, .mv (.tmp 42), false⟩]))))))
def c108 : AC := .seq (.region false [⟨some 1, none, .box (.tmp 0), false⟩, ⟨some 2, none, .alloc [.int .u16 0, .int .u16 0, .int .i64 0], false⟩]) (.keep [1, 2] (.seq (.region false [⟨some 8, none, .faddr 0 (.tmp 1), false⟩, ⟨some 9, none, .load false 1 (.tmp 8), false⟩, ⟨some 10, none, .bin .sub 3 (.tmp 9) (.const (.int .i64 1)), false⟩, ⟨some 11, none, .build [.int .u16 0, .int .u16 0, .int .i64 0] [(2, 1, (.tmp 10))], false⟩, ⟨some 3, none, .alloc [.int .u16 0, .int .u16 0, .int .i64 0], false⟩, ⟨none, none, .store false 3 (.tmp 3) (.tmp 11), false⟩]) (.keep [1, 2, 3] (.seq (.seq (.region false [⟨some 12, none, .faddr 2 (.tmp 1), false⟩, ⟨some 13, none, .load false 1 (.tmp 12), false⟩, ⟨some 14, none, .len false (.tmp 13), false⟩, ⟨some 15, none, .mv (.const (.int .i64 0)), false⟩]) (.keep [1, 2, 3, 13, 14, 15] (.block 0 (.loop c108l1)))) (.keep [1, 2, 3] (.seq (.seq (.region false [⟨some 29, none, .faddr 1 (.tmp 1), false⟩, ⟨some 30, none, .load false 1 (.tmp 29), false⟩, ⟨some 31, none, .len false (.tmp 30), false⟩, ⟨some 32, none, .mv (.const (.int .i64 0)), false⟩]) (.keep [2, 3, 30, 31, 32] (.block 2 (.loop c108l2)))) (.keep [2, 3] (.seq (.region false [⟨some 43, none, .load true 3 (.tmp 3), false⟩, ⟨none, none, .store false 3 (.tmp 2) (.tmp 43), false⟩]) (.keep [2] (.ret))))))))))
def rv108 : List RV := [.cell 2 true 3]
theorem is108 : FnIs Try.prog 108 44 c108 rv108 := ⟨⟨Try.f108, _, Try.func108, by kernel_rfl, rfl, rfl, by kernel_rfl, by kernel_rfl⟩, by decide⟩
def c109l1 : AC := .seq (.seq (.region false [⟨some 21, none, .mv (.tmp 5), false⟩, ⟨some 22, none, .bin .neq 132 (.tmp 21) (.const (.int .u16 0)), false⟩]) (.keep [0, 3, 4, 5, 22] (.cond (.tmp 22) (.skip) (.exit 0)))) (.keep [0, 3, 4, 5] (.seq (.block 1 (.region false [⟨some 27, none, .mv (.tmp 4), false⟩, ⟨some 28, none, .bin .xor 132 (.tmp 27) (.const (.int .u16 1)), false⟩, ⟨some 4, none, .mv (.tmp 28), false⟩])) (.keep [0, 3, 4, 5] (.region false [⟨some 23, none, .mv (.tmp 5), false⟩, ⟨some 24, none, .mv (.tmp 5), false⟩, ⟨some 25, none, .bin .sub 132 (.tmp 24) (.const (.int .u16 1)), false⟩, ⟨some 26, none, .bin .and 132 (.tmp 23) (.tmp 25), false⟩, ⟨some 5, none, .mv (.tmp 26), false⟩]))))
def c109 : AC := .seq (.region false [⟨some 2, none, .mv (.const (.int .i64 0)), false⟩]) (.keep [0] (.seq (.region false [⟨some 6, none, .mv (.tmp 0), false⟩, ⟨some 7, none, .nilc (.tmp 6), false⟩, ⟨some 8, none, .faddr 0 (.tmp 7), false⟩, ⟨some 9, none, .load false 1 (.tmp 8), false⟩, ⟨some 10, none, .bin .and 132 (.tmp 9) (.const (.int .u16 1)), false⟩, ⟨some 11, none, .cvi .i64 (.tmp 10), false⟩, ⟨some 3, none, .mv (.tmp 11), false⟩]) (.keep [0, 3] (.seq (.region false [⟨some 4, none, .mv (.const (.int .u16 0)), false⟩]) (.keep [0, 3, 4] (.seq (.seq (.region true [⟨some 12, none, .mv (.tmp 0), false⟩, ⟨some 13, none, .nilc (.tmp 12), false⟩, ⟨some 14, none, .faddr 0 (.tmp 13), false⟩, ⟨some 15, none, .load false 1 (.tmp 14), false⟩, ⟨some 16, none, .mv (.tmp 0), false⟩, ⟨some 17, none, .nilc (.tmp 16), false⟩, ⟨some 18, none, .faddr 1 (.tmp 17), false⟩, ⟨some 19, none, .load false 1 (.tmp 18), false⟩, ⟨some 20, none, .bin .and 132 (.tmp 15) (.tmp 19), true⟩, ⟨some 5, none, .mv (.tmp 20), true⟩]) (.keep [0, 3, 4, 5] (.block 0 (.loop c109l1)))) (.keep [0, 3, 4] (.seq (.region true [⟨some 29, none, .mv (.tmp 0), false⟩, ⟨some 30, none, .mv (.tmp 0), false⟩, ⟨some 31, none, .nilc (.tmp 30), false⟩, ⟨some 32, none, .faddr 0 (.tmp 31), false⟩, ⟨some 33, none, .load false 1 (.tmp 32), false⟩, ⟨some 34, none, .bin .shr 132 (.tmp 33) (.const (.int .u64 1)), false⟩, ⟨some 35, none, .mvs (.tmp 4), false⟩, ⟨some 36, none, .mv (.tmp 0), false⟩, ⟨some 37, none, .nilc (.tmp 36), false⟩, ⟨some 38, none, .faddr 2 (.tmp 37), false⟩, ⟨some 39, none, .load false 1 (.tmp 38), false⟩, ⟨some 40, none, .bin .shl 132 (.tmp 35) (.tmp 39), false⟩, ⟨some 41, none, .bin .or 132 (.tmp 34) (.tmp 40), false⟩, ⟨some 42, none, .nilc (.tmp 29), true⟩, ⟨some 43, none, .faddr 0 (.tmp 42), true⟩, ⟨none, none, .store false 1 (.tmp 43) (.tmp 41), true⟩]) (.keep [3] (.seq (.region false [⟨some 44, none, .mv (.tmp 3), false⟩, ⟨some 2, none, .mv (.tmp 44), false⟩]) (.keep [2] (.ret))))))))))))
def rv109 : List RV := [.tmp 2]
theorem is109 : FnIs Try.prog 109 45 c109 rv109 := ⟨⟨Try.f109, _, Try.func109, by kernel_rfl, rfl, rfl, by kernel_rfl, by kernel_rfl⟩, by decide⟩
def c110 : AC := .seq (.region false [⟨some 4, none, .mv (.const (.bool false)), false⟩]) (.keep [0, 1] (.seq (.region false [⟨some 5, none, .mv (.tmp 0), false⟩, ⟨some 6, none, .mv (.tmp 1), false⟩, ⟨some 7, none, .call (.func 134) [(.tmp 5), (.tmp 6)], false⟩, ⟨some 8, none, .bin .geq 3 (.tmp 7) (.const (.int .i64 0)), false⟩, ⟨some 4, none, .mv (.tmp 8), false⟩]) (.keep [4] (.ret))))
def rv110 : List RV := [.tmp 4]
theorem is110 : FnIs Try.prog 110 9 c110 rv110 := ⟨⟨Try.f110, _, Try.func110, by kernel_rfl, rfl, rfl, by kernel_rfl, by kernel_rfl⟩, by decide⟩
def c111 : AC := .seq (.region false [⟨some 1, none, .box (.tmp 0), false⟩, ⟨some 2, none, .mv (.const (.bool false)), false⟩]) (.keep [1] (.seq (.region false [⟨some 3, none, .load true 2 (.tmp 1), false⟩, ⟨some 4, none, .call (.func 88) [(.tmp 3), (.const (.int .i64 1000))], false⟩, ⟨some 5, none, .un .not (.tmp 4), false⟩, ⟨some 2, none, .mv (.tmp 5), false⟩]) (.keep [2] (.ret))))
def rv111 : List RV := [.tmp 2]
theorem is111 : FnIs Try.prog 111 6 c111 rv111 := ⟨⟨Try.f111, _, Try.func111, by kernel_rfl, rfl, rfl, by kernel_rfl, by kernel_rfl⟩, by decide⟩
def c113 : AC := .seq (.region false [⟨some 2, none, .box (.tmp 0), false⟩, ⟨some 3, none, .box (.tmp 1), false⟩, ⟨some 4, none, .alloc [.int .i64 0, .int .i64 0], false⟩]) (.keep [2, 3, 4] (.seq (.region false [⟨some 5, none, .faddr 0 (.tmp 2), false⟩, ⟨some 6, none, .load false 1 (.tmp 5), false⟩, ⟨some 7, none, .faddr 0 (.tmp 3), false⟩, ⟨some 8, none, .load false 1 (.tmp 7), false⟩, ⟨some 9, none, .bin .sub 3 (.tmp 6) (.tmp 8), false⟩, ⟨some 10, none, .faddr 1 (.tmp 2), false⟩, ⟨some 11, none, .load false 1 (.tmp 10), false⟩, ⟨some 12, none, .faddr 1 (.tmp 3), false⟩, ⟨some 13, none, .load false 1 (.tmp 12), false⟩, ⟨some 14, none, .bin .sub 3 (.tmp 11) (.tmp 13), false⟩, ⟨some 15, none, .build [.int .i64 0, .int .i64 0] [(0, 1, (.tmp 9)), (1, 1, (.tmp 14))], false⟩, ⟨none, none, .store false 2 (.tmp 4) (.tmp 15), false⟩]) (.keep [4] (.ret))))
def rv113 : List RV := [.cell 4 true 2]
theorem is113 : FnIs Try.prog 113 16 c113 rv113 := ⟨⟨Try.f113, _, Try.func113, by kernel_rfl, rfl, rfl, by kernel_rfl, by kernel_rfl⟩, by decide⟩
def c114 : AC := .seq (.region false [⟨some 1, none, .box (.tmp 0), false⟩, ⟨some 2, none, .mv (.const (.int .i64 0)), false⟩]) (.keep [1] (.seq (.region true [⟨some 3, none, .faddr 0 (.tmp 1), false⟩, ⟨some 4, none, .load false 1 (.tmp 3), false⟩, ⟨some 5, none, .call (.func 95) [(.tmp 4)], false⟩, ⟨some 6, none, .faddr 1 (.tmp 1), false⟩, ⟨some 7, none, .load false 1 (.tmp 6), false⟩, ⟨some 8, none, .call (.func 103) [(.tmp 7), (.const (.int .i64 1)), (.const (.int .i64 10000000))], false⟩, ⟨some 9, none, .call (.func 82) [(.tmp 8), (.const (.int .i64 2))], false⟩, ⟨some 10, none, .faddr 2 (.tmp 1), false⟩, ⟨some 11, none, .load false 1 (.tmp 10), false⟩, ⟨some 12, none, .call (.func 118) [(.tmp 11)], true⟩, ⟨some 13, none, .mkSl false 25 1 [.int .i64 0] 3 [(0, (.tmp 5)), (1, (.tmp 9)), (2, (.tmp 12))], true⟩, ⟨some 14, none, .call (.func 80) [(.tmp 13)], true⟩, ⟨some 2, none, .mv (.tmp 14), true⟩]) (.keep [2] (.ret))))
def rv114 : List RV := [.tmp 2]
theorem is114 : FnIs Try.prog 114 15 c114 rv114 := ⟨⟨Try.f114, _, Try.func114, by kernel_rfl, rfl, rfl, by kernel_rfl, by kernel_rfl⟩, by decide⟩
def c115l1 : AC := .seq (.seq (.region false [⟨some 21, none, .mv (.tmp 7), false⟩, ⟨some 22, none, .mv (.tmp 5), false⟩, ⟨some 23, none, .bin .shl 3 (.const (.int .i64 1)) (.tmp 22), false⟩, ⟨some 24, none, .bin .lss 3 (.tmp 21) (.tmp 23), false⟩]) (.keep [2, 3, 5, 6, 7, 24] (.cond (.tmp 24) (.skip) (.exit 0)))) (.keep [2, 3, 5, 6, 7] (.seq (.block 1 (.region false [⟨some 27, none, .load false 1 (.tmp 6), false⟩, ⟨some 28, none, .mv (.tmp 7), false⟩, ⟨some 29, none, .mkSl false 3 1 [.int .i64 0] 1 [(0, (.tmp 28))], false⟩, ⟨some 30, none, .app 33 3 1 8 [.int .i64 0] (.tmp 27) (.tmp 29), false⟩, ⟨none, none, .store true 1 (.tmp 6) (.tmp 30), false⟩])) (.keep [2, 3, 5, 6, 7] (.region false [⟨some 25, none, .mv (.tmp 7), false⟩, ⟨some 26, none, .bin .add 3 (.tmp 25) (.const (.int .i64 2)), false⟩, ⟨some 7, none, .mv (.tmp 26), false⟩]))))
def c115l2 : AC := .seq (.region false [⟨some 50, none, .bin .lss 3 (.tmp 49) (.tmp 48), false⟩]) (.keep [8, 9, 12, 13, 33, 34, 35, 48, 49, 50] (.seq (.cond (.tmp 50) (.skip) (.exit 4)) (.keep [8, 9, 12, 13, 33, 34, 35, 48, 49] (.seq (.block 5 (.seq (.region false [⟨some 51, none, .mv (.tmp 49), false⟩, ⟨some 14, none, .mv (.tmp 51), false⟩]) (.keep [8, 9, 12, 13, 14, 33, 34, 35, 48, 49] (.region true [⟨some 52, none, .mv (.tmp 9), false⟩, ⟨some 53, none, .mv (.tmp 12), false⟩, ⟨some 54, none, .mvs (.tmp 14), false⟩, ⟨some 55, none, .iaddr 1 [.int .i64 0] (.tmp 53) (.tmp 54), false⟩, ⟨some 56, none, .load false 1 (.tmp 55), false⟩, ⟨some 57, none, .mv (.tmp 13), false⟩, ⟨some 58, none, .mv (.tmp 14), false⟩, ⟨some 59, none, .iaddr 1 [.int .i64 0] (.tmp 57) (.tmp 58), false⟩, ⟨some 60, none, .load false 1 (.tmp 59), false⟩, ⟨some 61, none, .mkSl false 3 1 [.int .i64 0] 2 [(0, (.tmp 56)), (1, (.tmp 60))], false⟩, ⟨some 62, none, .app 33 3 1 8 [.int .i64 0] (.tmp 52) (.tmp 61), true⟩, ⟨some 9, none, .mv (.tmp 62), true⟩])))) (.keep [8, 9, 12, 13, 33, 34, 35, 48, 49] (.region false [⟨some 63, none, .bin .add 3 (.tmp 49) (.const (.int .i64 1)), false⟩, ⟨some 49, none, .mv (.tmp 63), false⟩]))))))
def c115l3 : AC := .seq (.region false [⟨some 36, none, .bin .lss 3 (.tmp 35) (.tmp 34), false⟩]) (.keep [8, 9, 33, 34, 35, 36] (.seq (.cond (.tmp 36) (.skip) (.exit 2)) (.keep [8, 9, 33, 34, 35] (.seq (.block 3 (.seq (.region false [⟨some 37, none, .iaddr 2 [.int .i64 0, .int .i64 0] (.tmp 33) (.tmp 35), false⟩, ⟨some 38, none, .load true 2 (.tmp 37), false⟩, ⟨some 11, none, .alloc [.int .i64 0, .int .i64 0], false⟩, ⟨none, none, .store false 2 (.tmp 11) (.tmp 38), false⟩]) (.keep [8, 9, 11, 33, 34, 35] (.seq (.region true [⟨some 39, none, .mv (.tmp 8), false⟩, ⟨some 40, none, .faddr 0 (.tmp 11), false⟩, ⟨some 41, none, .load false 1 (.tmp 40), false⟩, ⟨some 42, none, .call (.tmp 39) [(.tmp 41)], false⟩, ⟨some 43, none, .mv (.tmp 8), false⟩, ⟨some 44, none, .faddr 1 (.tmp 11), false⟩, ⟨some 45, none, .load false 1 (.tmp 44), false⟩, ⟨some 46, none, .call (.tmp 43) [(.tmp 45)], true⟩, ⟨some 12, none, .mv (.tmp 42), true⟩, ⟨some 13, none, .mv (.tmp 46), true⟩]) (.keep [8, 9, 12, 13, 33, 34, 35] (.seq (.region false [⟨some 47, none, .mv (.tmp 12), false⟩, ⟨some 48, none, .len false (.tmp 47), false⟩, ⟨some 49, none, .mv (.const (.int .i64 0)), false⟩]) (.keep [8, 9, 12, 13, 33, 34, 35, 48, 49] (.block 4 (.loop c115l2))))))))) (.keep [8, 9, 33, 34, 35] (.region false [⟨some 64, none, .bin .add 3 (.tmp 35) (.const (.int .i64 1)), false⟩, ⟨some 35, none, .mv (.tmp 64), false⟩]))))))
def c115 : AC := .seq (.region false [⟨some 2, none, .box (.tmp 0), false⟩, ⟨some 3, none, .box (.tmp 1), false⟩, ⟨some 4, none, .mv (.const (.slice none 0 0)), false⟩]) (.keep [2, 3] (.seq (.region false [⟨some 15, none, .faddr 0 (.tmp 2), false⟩, ⟨some 16, none, .load false 1 (.tmp 15), false⟩, ⟨some 17, none, .bin .quo 3 (.tmp 16) (.const (.int .i64 2)), false⟩, ⟨some 5, none, .mv (.tmp 17), false⟩]) (.keep [2, 3, 5] (.seq (.region false [⟨some 6, none, .alloc [.slice none 0 0], false⟩]) (.keep [2, 3, 5, 6] (.seq (.seq (.region false [⟨some 18, none, .mv (.tmp 5), false⟩, ⟨some 19, none, .bin .shl 3 (.const (.int .i64 1)) (.tmp 18), false⟩, ⟨some 20, none, .bin .sub 3 (.const (.int .i64 1)) (.tmp 19), false⟩, ⟨some 7, none, .mv (.tmp 20), false⟩]) (.keep [2, 3, 5, 6, 7] (.block 0 (.loop c115l1)))) (.keep [2, 3, 6] (.seq (.region false [⟨some 31, none, .mkFn (.func 136) [] [(.tmp 6), (.tmp 2), (.tmp 3)], false⟩, ⟨some 8, none, .mv (.tmp 31), false⟩]) (.keep [2, 8] (.seq (.region false [⟨some 9, none, .mv (.const (.slice none 0 0)), false⟩]) (.keep [2, 8, 9] (.nilrow 9 1 3 (.seq (.seq (.region false [⟨some 32, none, .faddr 2 (.tmp 2), false⟩, ⟨some 33, none, .load false 1 (.tmp 32), false⟩, ⟨some 34, none, .len false (.tmp 33), false⟩, ⟨some 35, none, .mv (.const (.int .i64 0)), false⟩]) (.keep [8, 9, 33, 34, 35] (.block 2 (.loop c115l3)))) (.keep [9] (.fz [9] (.seq (.region false [⟨some 65, none, .mv (.tmp 9), false⟩, ⟨some 4, none, .mv (.tmp 65), false⟩]) (.keep [4] (.ret))))))))))))))))))
def rv115 : List RV := [.tmp 4]
theorem is115 : FnIs Try.prog 115 66 c115 rv115 := ⟨⟨Try.f115, _, Try.func115, by kernel_rfl, rfl, rfl, by kernel_rfl, by kernel_rfl⟩, by decide⟩
def c117l1 : AC := .seq (.region false [⟨some 21, none, .bin .lss 3 (.tmp 20) (.tmp 19), false⟩]) (.keep [0, 1, 5, 6, 7, 8, 14, 15, 18, 19, 20, 21] (.seq (.cond (.tmp 21) (.skip) (.exit 2)) (.keep [0, 1, 5, 6, 7, 8, 14, 15, 18, 19, 20] (.seq (.block 3 (.seq (.region false [⟨some 22, none, .mv (.tmp 20), false⟩, ⟨some 23, none, .iaddr 1 [.int .i64 0] (.tmp 18) (.tmp 20), false⟩, ⟨some 24, none, .load false 1 (.tmp 23), false⟩, ⟨some 9, none, .mv (.tmp 22), false⟩, ⟨some 10, none, .mv (.tmp 24), false⟩]) (.keep [0, 1, 5, 6, 7, 8, 9, 10, 14, 15, 18, 19, 20] (.seq (.region false [⟨some 25, none, .mv (.tmp 5), false⟩, ⟨some 26, none, .mv (.tmp 10), false⟩, ⟨some 27, none, .call (.func 104) [(.tmp 25), (.tmp 26)], false⟩, ⟨some 28, none, .mv (.tmp 7), false⟩, ⟨some 29, none, .iaddr 1 [.int .i64 0] (.tmp 27) (.tmp 28), false⟩, ⟨some 30, none, .load false 1 (.tmp 29), false⟩, ⟨some 11, none, .mv (.tmp 30), false⟩]) (.keep [0, 1, 5, 6, 7, 8, 9, 11, 14, 15, 18, 19, 20] (.region true [⟨some 31, none, .mvs (.tmp 11), false⟩, ⟨some 32, none, .mvs (.tmp 11), false⟩, ⟨some 33, none, .iarr 2 1 (.tmp 8) (.tmp 32), false⟩, ⟨some 34, none, .load false 1 (.tmp 33), false⟩, ⟨some 35, none, .mv (.tmp 1), false⟩, ⟨some 36, none, .mv (.tmp 9), false⟩, ⟨some 37, none, .iaddr 1 [.int .i64 0] (.tmp 35) (.tmp 36), false⟩, ⟨some 38, none, .load false 1 (.tmp 37), false⟩, ⟨some 39, none, .mkSl false 3 1 [.int .i64 0] 1 [(0, (.tmp 38))], false⟩, ⟨some 40, none, .app 33 3 1 8 [.int .i64 0] (.tmp 34) (.tmp 39), true⟩, ⟨some 41, none, .iarr 2 1 (.tmp 8) (.tmp 31), true⟩, ⟨none, none, .store true 1 (.tmp 41) (.tmp 40), true⟩])))))) (.keep [0, 1, 5, 6, 7, 8, 14, 15, 18, 19, 20] (.region false [⟨some 42, none, .bin .add 3 (.tmp 20) (.const (.int .i64 1)), false⟩, ⟨some 20, none, .mv (.tmp 42), false⟩]))))))
def c117l2 : AC := .seq (.region false [⟨some 16, none, .bin .lss 3 (.tmp 15) (.tmp 14), false⟩]) (.keep [0, 1, 5, 6, 14, 15, 16] (.seq (.cond (.tmp 16) (.skip) (.exit 0)) (.keep [0, 1, 5, 6, 14, 15] (.seq (.block 1 (.seq (.region false [⟨some 17, none, .mv (.tmp 15), false⟩, ⟨some 7, none, .mv (.tmp 17), false⟩]) (.keep [0, 1, 5, 6, 7, 14, 15] (.seq (.region false [⟨some 8, none, .alloc [.slice none 0 0, .slice none 0 0], false⟩]) (.keep [0, 1, 5, 6, 7, 8, 14, 15] (.seq (.seq (.region false [⟨some 18, none, .mv (.tmp 0), false⟩, ⟨some 19, none, .len false (.tmp 18), false⟩, ⟨some 20, none, .mv (.const (.int .i64 0)), false⟩]) (.keep [0, 1, 5, 6, 7, 8, 14, 15, 18, 19, 20] (.block 2 (.loop c117l1)))) (.keep [0, 1, 5, 6, 8, 14, 15] (.region true [⟨some 43, none, .mv (.tmp 6), false⟩, ⟨some 44, none, .iarr 2 1 (.tmp 8) (.const (.int .i64 1)), false⟩, ⟨some 45, none, .load false 1 (.tmp 44), false⟩, ⟨some 46, none, .call (.func 139) [(.tmp 45)], false⟩, ⟨some 47, none, .iarr 2 1 (.tmp 8) (.const (.int .i64 0)), false⟩, ⟨some 48, none, .load false 1 (.tmp 47), false⟩, ⟨some 49, none, .call (.func 139) [(.tmp 48)], false⟩, ⟨some 50, none, .bin .sub 3 (.tmp 46) (.tmp 49), false⟩, ⟨some 51, none, .mkSl false 3 1 [.int .i64 0] 1 [(0, (.tmp 50))], false⟩, ⟨some 52, none, .app 33 3 1 8 [.int .i64 0] (.tmp 43) (.tmp 51), true⟩, ⟨some 6, none, .mv (.tmp 52), true⟩])))))))) (.keep [0, 1, 5, 6, 14, 15] (.region false [⟨some 53, none, .bin .add 3 (.tmp 15) (.const (.int .i64 1)), false⟩, ⟨some 15, none, .mv (.tmp 53), false⟩]))))))
def c117 : AC := .seq (.region false [⟨some 4, none, .mv (.const (.slice none 0 0)), false⟩]) (.keep [0, 1] (.seq (.region false [⟨some 12, none, .mv (.tmp 0), false⟩, ⟨some 13, none, .call (.func 137) [(.tmp 12)], false⟩, ⟨some 5, none, .mv (.tmp 13), false⟩]) (.keep [0, 1, 5] (.seq (.region false [⟨some 6, none, .mv (.const (.slice none 0 0)), false⟩]) (.keep [0, 1, 5, 6] (.nilrow 6 1 3 (.seq (.seq (.region false [⟨some 14, none, .mv (.tmp 5), false⟩, ⟨some 15, none, .mv (.const (.int .i64 0)), false⟩]) (.keep [0, 1, 5, 6, 14, 15] (.block 0 (.loop c117l2)))) (.keep [6] (.fz [6] (.seq (.region false [⟨some 54, none, .mv (.tmp 6), false⟩, ⟨some 4, none, .mv (.tmp 54), false⟩]) (.keep [4] (.ret))))))))))))
def rv117 : List RV := [.tmp 4]
theorem is117 : FnIs Try.prog 117 55 c117 rv117 := ⟨⟨Try.f117, _, Try.func117, by kernel_rfl, rfl, rfl, by kernel_rfl, by kernel_rfl⟩, by decide⟩
def c118 : AC := .seq (.region false [⟨some 2, none, .mv (.const (.int .i64 0)), false⟩]) (.keep [0] (.seq (.region false [⟨some 4, none, .mv (.tmp 0), false⟩, ⟨some 5, none, .call (.func 110) [(.tmp 4), (.func 140)], false⟩, ⟨some 3, none, .mv (.tmp 5), false⟩]) (.keep [0, 3] (.seq (.region false [⟨some 6, none, .mv (.tmp 0), false⟩, ⟨some 7, none, .len false (.tmp 6), false⟩, ⟨some 8, none, .bin .gtr 3 (.tmp 7) (.const (.int .i64 0)), false⟩, ⟨some 9, none, .call (.func 82) [(.tmp 8), (.const (.int .i64 10))], false⟩, ⟨some 10, none, .mv (.tmp 0), false⟩, ⟨some 11, none, .len false (.tmp 10), false⟩, ⟨some 12, none, .bin .leq 3 (.tmp 11) (.const (.int .i64 200)), false⟩, ⟨some 13, none, .call (.func 82) [(.tmp 12), (.const (.int .i64 8))], false⟩, ⟨some 14, none, .mv (.tmp 3), false⟩, ⟨some 15, none, .un .not (.tmp 14), false⟩, ⟨some 16, none, .call (.func 82) [(.tmp 15), (.const (.int .i64 2))], false⟩, ⟨some 17, none, .mkSl false 25 1 [.int .i64 0] 3 [(0, (.tmp 9)), (1, (.tmp 13)), (2, (.tmp 16))], false⟩, ⟨some 18, none, .call (.func 80) [(.tmp 17)], false⟩, ⟨some 2, none, .mv (.tmp 18), false⟩]) (.keep [2] (.ret))))))
def rv118 : List RV := [.tmp 2]
theorem is118 : FnIs Try.prog 118 19 c118 rv118 := ⟨⟨Try.f118, _, Try.func118, by kernel_rfl, rfl, rfl, by kernel_rfl, by kernel_rfl⟩, by decide⟩
def c119 : AC := .seq (.region false [⟨some 4, none, .mv (.const (.bool false)), false⟩]) (.keep [0, 1] (.seq (.region false [⟨some 5, none, .mv (.tmp 0), false⟩, ⟨some 6, none, .mv (.tmp 1), false⟩, ⟨some 7, none, .un .neg (.tmp 6), false⟩, ⟨some 8, none, .mv (.tmp 1), false⟩, ⟨some 9, none, .call (.func 103) [(.tmp 5), (.tmp 7), (.tmp 8)], false⟩, ⟨some 4, none, .mv (.tmp 9), false⟩]) (.keep [4] (.ret))))
def rv119 : List RV := [.tmp 4]
theorem is119 : FnIs Try.prog 119 10 c119 rv119 := ⟨⟨Try.f119, _, Try.func119, by kernel_rfl, rfl, rfl, by kernel_rfl, by kernel_rfl⟩, by decide⟩
def c124 : AC := .seq (.region false [⟨some 2, none, .box (.tmp 0), false⟩, ⟨some 3, none, .box (.tmp 1), false⟩, ⟨some 4, none, .alloc [.int .i64 0, .slice none 0 0, .slice none 0 0], false⟩]) (.keep [2, 3, 4] (.seq (.region true [⟨some 5, none, .faddr 0 (.tmp 2), false⟩, ⟨some 6, none, .load false 1 (.tmp 5), false⟩, ⟨some 7, none, .faddr 1 (.tmp 2), false⟩, ⟨some 8, none, .load false 1 (.tmp 7), false⟩, ⟨some 9, none, .call (.func 107) [(.tmp 8)], false⟩, ⟨some 10, none, .load true 3 (.tmp 3), false⟩, ⟨some 11, none, .call (.func 142) [(.tmp 10)], false⟩, ⟨some 12, none, .build [.int .i64 0, .slice none 0 0, .slice none 0 0] [(0, 1, (.tmp 6)), (1, 1, (.tmp 9)), (2, 1, (.tmp 11))], true⟩, ⟨none, none, .store false 3 (.tmp 4) (.tmp 12), true⟩]) (.keep [4] (.ret))))
def rv124 : List RV := [.cell 4 true 3]
theorem is124 : FnIs Try.prog 124 13 c124 rv124 := ⟨⟨Try.f124, _, Try.func124, by kernel_rfl, rfl, rfl, by kernel_rfl, by kernel_rfl⟩, by decide⟩
def c125l1 : AC := .seq (.seq (.region false [⟨some 4, none, .mv (.tmp 1), false⟩, ⟨some 5, none, .call (.func 109) [(.tmp 2)], false⟩, ⟨some 6, none, .call (.tmp 4) [(.tmp 5)], false⟩]) (.keep [1, 2, 6] (.cond (.tmp 6) (.skip) (.exit 0)))) (.keep [1, 2] (.block 1 (.skip)))
def c125 : AC := .seq (.region false [⟨some 2, none, .box (.tmp 0), false⟩]) (.keep [1, 2] (.block 0 (.loop c125l1)))
def rv125 : List RV := []
theorem is125 : FnIs Try.prog 125 7 c125 rv125 := ⟨⟨Try.f125, _, Try.func125, by kernel_rfl, rfl, rfl, by kernel_rfl, by kernel_rfl⟩, by decide⟩
def c126l1 : AC := .seq (.seq (.region false [⟨some 7, none, .faddr 0 (.tmp 4), false⟩, ⟨some 8, none, .load false 1 (.tmp 7), false⟩, ⟨some 9, none, .faddr 0 (.tmp 1), false⟩, ⟨some 10, none, .load false 1 (.tmp 9), false⟩, ⟨some 11, none, .bin .neq 132 (.tmp 8) (.tmp 10), false⟩]) (.keep [1, 3, 4, 11] (.cond (.tmp 11) (.skip) (.exit 0)))) (.keep [1, 3, 4] (.seq (.block 1 (.region false [⟨some 13, none, .mv (.tmp 3), false⟩, ⟨some 14, none, .bin .add 3 (.tmp 13) (.const (.int .i64 1)), false⟩, ⟨some 3, none, .mv (.tmp 14), false⟩])) (.keep [1, 3, 4] (.region false [⟨some 12, none, .call (.func 109) [(.tmp 4)], false⟩]))))
def c126 : AC := .seq (.region false [⟨some 1, none, .box (.tmp 0), false⟩, ⟨some 2, none, .mv (.const (.int .i64 0)), false⟩]) (.keep [1] (.seq (.region true [⟨some 5, none, .load true 3 (.tmp 1), false⟩, ⟨some 4, none, .alloc [.int .u16 0, .int .u16 0, .int .i64 0], false⟩, ⟨some 3, none, .mv (.const (.int .i64 1)), false⟩, ⟨none, none, .store false 3 (.tmp 4) (.tmp 5), true⟩]) (.keep [1, 3, 4] (.seq (.seq (.region false [⟨some 6, none, .call (.func 109) [(.tmp 4)], false⟩]) (.keep [1, 3, 4] (.block 0 (.loop c126l1)))) (.keep [3] (.seq (.region false [⟨some 15, none, .mv (.tmp 3), false⟩, ⟨some 2, none, .mv (.tmp 15), false⟩]) (.keep [2] (.ret))))))))
def rv126 : List RV := [.tmp 2]
theorem is126 : FnIs Try.prog 126 16 c126 rv126 := ⟨⟨Try.f126, _, Try.func126, by kernel_rfl, rfl, rfl, by kernel_rfl, by kernel_rfl⟩, by decide⟩
def c129 : AC := .seq (.region false [⟨some 4, none, .mv (.const (.bool false)), false⟩]) (.keep [0, 1] (.seq (.region false [⟨some 5, none, .mv (.tmp 0), false⟩, ⟨some 6, none, .mv (.tmp 1), false⟩, ⟨some 7, none, .call (.func 138) [(.tmp 5), (.tmp 6)], false⟩, ⟨some 8, none, .bin .geq 3 (.tmp 7) (.const (.int .i64 0)), false⟩, ⟨some 4, none, .mv (.tmp 8), false⟩]) (.keep [4] (.ret))))
def rv129 : List RV := [.tmp 4]
theorem is129 : FnIs Try.prog 129 9 c129 rv129 := ⟨⟨Try.f129, _, Try.func129, by kernel_rfl, rfl, rfl, by kernel_rfl, by kernel_rfl⟩, by decide⟩
def c130l1 : AC := .seq (.seq (.region false [⟨some 6, none, .mv (.tmp 4), false⟩, ⟨some 7, none, .load false 1 (.tmp 1), false⟩, ⟨some 8, none, .len false (.tmp 7), false⟩, ⟨some 9, none, .bin .lss 3 (.tmp 6) (.tmp 8), false⟩]) (.keep [0, 1, 2, 4, 9] (.cond (.tmp 9) (.skip) (.exit 0)))) (.keep [0, 1, 2, 4] (.seq (.block 1 (.seq (.region true [⟨some 13, none, .load false 1 (.tmp 2), false⟩, ⟨some 14, none, .load false 1 (.tmp 1), false⟩, ⟨some 15, none, .mv (.tmp 4), false⟩, ⟨some 16, none, .ssl 1 (.tmp 14) (some (.tmp 15)) none none, false⟩, ⟨some 17, none, .len false (.tmp 16), false⟩, ⟨some 18, none, .ext (.mx false) [(.tmp 13), (.tmp 17)], true⟩, ⟨some 5, none, .mv (.tmp 18), true⟩]) (.keep [0, 1, 2, 4, 5] (.seq (.region false [⟨some 19, none, .mv (.tmp 0), false⟩, ⟨some 20, none, .load false 1 (.tmp 1), false⟩, ⟨some 21, none, .mv (.tmp 4), false⟩, ⟨some 22, none, .mv (.tmp 4), false⟩, ⟨some 23, none, .mv (.tmp 5), false⟩, ⟨some 24, none, .bin .add 3 (.tmp 22) (.tmp 23), false⟩, ⟨some 25, none, .mv (.tmp 4), false⟩, ⟨some 26, none, .mv (.tmp 5), false⟩, ⟨some 27, none, .bin .add 3 (.tmp 25) (.tmp 26), false⟩, ⟨some 28, none, .ssl 1 (.tmp 20) (some (.tmp 21)) (some (.tmp 24)) (some (.tmp 27)), false⟩, ⟨some 29, none, .call (.tmp 19) [(.tmp 28)], false⟩, ⟨some 30, none, .un .not (.tmp 29), false⟩]) (.keep [0, 1, 2, 4, 30] (.cond (.tmp 30) (.ret) (.skip))))))) (.keep [0, 1, 2, 4] (.region false [⟨some 10, none, .mv (.tmp 4), false⟩, ⟨some 11, none, .load false 1 (.tmp 2), false⟩, ⟨some 12, none, .bin .add 3 (.tmp 10) (.tmp 11), false⟩, ⟨some 4, none, .mv (.tmp 12), false⟩]))))
def c130 : AC := .seq (.region false [⟨some 4, none, .mv (.const (.int .i64 0)), false⟩]) (.keep [0, 1, 2, 4] (.block 0 (.loop c130l1)))
def rv130 : List RV := []
theorem is130 : FnIs Try.prog 130 31 c130 rv130 := ⟨⟨Try.f130, _, Try.func130, by kernel_rfl, rfl, rfl, by kernel_rfl, by kernel_rfl⟩, by decide⟩
def c132 : AC := .seq (.region false [⟨some 4, none, .mv (.const (.bool false)), false⟩]) (.keep [0, 1] (.seq (.region false [⟨some 5, none, .mv (.tmp 0), false⟩, ⟨some 6, none, .mv (.tmp 1), false⟩, ⟨some 7, none, .call (.func 143) [(.tmp 5), (.tmp 6)], false⟩, ⟨some 8, none, .bin .geq 3 (.tmp 7) (.const (.int .i64 0)), false⟩, ⟨some 4, none, .mv (.tmp 8), false⟩]) (.keep [4] (.ret))))
def rv132 : List RV := [.tmp 4]
theorem is132 : FnIs Try.prog 132 9 c132 rv132 := ⟨⟨Try.f132, _, Try.func132, by kernel_rfl, rfl, rfl, by kernel_rfl, by kernel_rfl⟩, by decide⟩
def c133 : AC := .seq (.region false [⟨some 2, none, .mv (.const (.bool false)), false⟩]) (.keep [0] (.seq (.region false [⟨some 3, none, .mv (.tmp 0), false⟩, ⟨some 4, none, .call (.func 103) [(.tmp 3), (.const (.int .i64 0)), (.const (.int .i64 1))], false⟩, ⟨some 5, none, .un .not (.tmp 4), false⟩, ⟨some 2, none, .mv (.tmp 5), false⟩]) (.keep [2] (.ret))))
def rv133 : List RV := [.tmp 2]
theorem is133 : FnIs Try.prog 133 6 c133 rv133 := ⟨⟨Try.f133, _, Try.func133, by kernel_rfl, rfl, rfl, by kernel_rfl, by kernel_rfl⟩, by decide⟩
def c134l1 : AC := .seq (.region false [⟨some 9, none, .bin .lss 3 (.tmp 8) (.tmp 7), false⟩]) (.keep [0, 1, 7, 8, 9] (.seq (.cond (.tmp 9) (.skip) (.exit 0)) (.keep [0, 1, 7, 8] (.seq (.block 1 (.seq (.region false [⟨some 10, none, .mv (.tmp 8), false⟩, ⟨some 5, none, .mv (.tmp 10), false⟩]) (.keep [0, 1, 5, 7, 8] (.seq (.region false [⟨some 11, none, .mv (.tmp 1), false⟩, ⟨some 12, none, .mv (.tmp 0), false⟩, ⟨some 13, none, .mv (.tmp 5), false⟩, ⟨some 14, none, .iaddr 2 [.int .i64 0, .int .i64 0] (.tmp 12) (.tmp 13), false⟩, ⟨some 15, none, .load true 2 (.tmp 14), false⟩, ⟨some 16, none, .call (.tmp 11) [(.tmp 15)], false⟩]) (.keep [0, 1, 5, 7, 8, 16] (.cond (.tmp 16) (.seq (.region false [⟨some 17, none, .mv (.tmp 5), false⟩, ⟨some 4, none, .mv (.tmp 17), false⟩]) (.keep [4] (.ret))) (.skip))))))) (.keep [0, 1, 7, 8] (.region false [⟨some 18, none, .bin .add 3 (.tmp 8) (.const (.int .i64 1)), false⟩, ⟨some 8, none, .mv (.tmp 18), false⟩]))))))
def c134 : AC := .seq (.region false [⟨some 4, none, .mv (.const (.int .i64 0)), false⟩]) (.keep [0, 1] (.seq (.seq (.region false [⟨some 6, none, .mv (.tmp 0), false⟩, ⟨some 7, none, .len false (.tmp 6), false⟩, ⟨some 8, none, .mv (.const (.int .i64 0)), false⟩]) (.keep [0, 1, 7, 8] (.block 0 (.loop c134l1)))) (.keep [] (.seq (.region false [⟨some 4, none, .mv (.const (.int .i64 (-1))), false⟩]) (.keep [4] (.ret))))))
def rv134 : List RV := [.tmp 4]
theorem is134 : FnIs Try.prog 134 19 c134 rv134 := ⟨⟨Try.f134, _, Try.func134, by kernel_rfl, rfl, rfl, by kernel_rfl, by kernel_rfl⟩, by decide⟩
def c136l1 : AC := .seq (.region false [⟨some 12, none, .bin .lss 3 (.tmp 11) (.tmp 10), false⟩]) (.keep [0, 1, 2, 3, 6, 9, 10, 11, 12] (.seq (.cond (.tmp 12) (.skip) (.exit 0)) (.keep [0, 1, 2, 3, 6, 9, 10, 11] (.seq (.block 1 (.seq (.region false [⟨some 13, none, .iaddr 1 [.int .i64 0] (.tmp 9) (.tmp 11), false⟩, ⟨some 14, none, .load false 1 (.tmp 13), false⟩, ⟨some 8, none, .mv (.tmp 14), false⟩]) (.keep [0, 1, 2, 3, 6, 8, 9, 10, 11] (.region false [⟨some 15, none, .mv (.tmp 6), false⟩, ⟨some 16, none, .mv (.tmp 0), false⟩, ⟨some 17, none, .mv (.tmp 8), false⟩, ⟨some 18, none, .faddr 1 (.tmp 2), false⟩, ⟨some 19, none, .load false 1 (.tmp 18), false⟩, ⟨some 20, none, .bin .mul 3 (.tmp 17) (.tmp 19), false⟩, ⟨some 21, none, .bin .sub 3 (.tmp 16) (.tmp 20), false⟩, ⟨some 22, none, .mv (.tmp 0), false⟩, ⟨some 23, none, .mv (.tmp 8), false⟩, ⟨some 24, none, .faddr 1 (.tmp 2), false⟩, ⟨some 25, none, .load false 1 (.tmp 24), false⟩, ⟨some 26, none, .bin .mul 3 (.tmp 23) (.tmp 25), false⟩, ⟨some 27, none, .bin .sub 3 (.tmp 22) (.tmp 26), false⟩, ⟨some 28, none, .bin .mul 3 (.tmp 21) (.tmp 27), false⟩, ⟨some 29, none, .mkSl false 3 1 [.int .i64 0] 1 [(0, (.tmp 28))], false⟩, ⟨some 30, none, .app 33 3 1 8 [.int .i64 0] (.tmp 15) (.tmp 29), false⟩, ⟨some 6, none, .mv (.tmp 30), false⟩])))) (.keep [0, 1, 2, 3, 6, 9, 10, 11] (.region false [⟨some 31, none, .bin .add 3 (.tmp 11) (.const (.int .i64 1)), false⟩, ⟨some 11, none, .mv (.tmp 31), false⟩]))))))
def c136 : AC := .seq (.region false [⟨some 5, none, .mv (.const (.slice none 0 0)), false⟩]) (.keep [0, 1, 2, 3] (.seq (.region false [⟨some 6, none, .mv (.const (.slice none 0 0)), false⟩]) (.keep [0, 1, 2, 3, 6] (.nilrow 6 1 3 (.seq (.seq (.region false [⟨some 9, none, .load false 1 (.tmp 1), false⟩, ⟨some 10, none, .len false (.tmp 9), false⟩, ⟨some 11, none, .mv (.const (.int .i64 0)), false⟩]) (.keep [0, 1, 2, 3, 6, 9, 10, 11] (.block 0 (.loop c136l1)))) (.keep [1, 3, 6] (.fz [6] (.seq (.region false [⟨some 32, none, .load false 1 (.tmp 3), false⟩, ⟨some 33, none, .load false 1 (.tmp 1), false⟩, ⟨some 34, none, .mv (.tmp 6), false⟩, ⟨some 35, none, .call (.tmp 32) [(.tmp 33), (.tmp 34)], false⟩, ⟨some 5, none, .mv (.tmp 35), false⟩]) (.keep [5] (.ret))))))))))
def rv136 : List RV := [.tmp 5]
theorem is136 : FnIs Try.prog 136 36 c136 rv136 := ⟨⟨Try.f136, _, Try.func136, by kernel_rfl, rfl, rfl, by kernel_rfl, by kernel_rfl⟩, by decide⟩
def c137l1 : AC := .seq (.seq (.region false [⟨some 4, none, .mv (.tmp 3), false⟩, ⟨some 5, none, .bin .shl 3 (.const (.int .i64 1)) (.tmp 4), false⟩, ⟨some 6, none, .mv (.tmp 0), false⟩, ⟨some 7, none, .len false (.tmp 6), false⟩, ⟨some 8, none, .bin .lss 3 (.tmp 5) (.tmp 7), false⟩]) (.keep [0, 3, 8] (.cond (.tmp 8) (.skip) (.exit 0)))) (.keep [0, 3] (.block 1 (.region false [⟨some 9, none, .mv (.tmp 3), false⟩, ⟨some 10, none, .bin .add 3 (.tmp 9) (.const (.int .i64 1)), false⟩, ⟨some 3, none, .mv (.tmp 10), false⟩])))
def c137 : AC := .seq (.region false [⟨some 2, none, .mv (.const (.int .i64 0)), false⟩]) (.keep [0] (.seq (.region false [⟨some 3, none, .mv (.const (.int .i64 0)), false⟩]) (.keep [0, 3] (.seq (.block 0 (.loop c137l1)) (.keep [3] (.seq (.region false [⟨some 11, none, .mv (.tmp 3), false⟩, ⟨some 2, none, .mv (.tmp 11), false⟩]) (.keep [2] (.ret))))))))
def rv137 : List RV := [.tmp 2]
theorem is137 : FnIs Try.prog 137 12 c137 rv137 := ⟨⟨Try.f137, _, Try.func137, by kernel_rfl, rfl, rfl, by kernel_rfl, by kernel_rfl⟩, by decide⟩
def c138l1 : AC := .seq (.region false [⟨some 9, none, .bin .lss 3 (.tmp 8) (.tmp 7), false⟩]) (.keep [0, 1, 7, 8, 9] (.seq (.cond (.tmp 9) (.skip) (.exit 0)) (.keep [0, 1, 7, 8] (.seq (.block 1 (.seq (.region false [⟨some 10, none, .mv (.tmp 8), false⟩, ⟨some 5, none, .mv (.tmp 10), false⟩]) (.keep [0, 1, 5, 7, 8] (.seq (.region false [⟨some 11, none, .mv (.tmp 1), false⟩, ⟨some 12, none, .mv (.tmp 0), false⟩, ⟨some 13, none, .mv (.tmp 5), false⟩, ⟨some 14, none, .iaddr 1 [.int .i64 0] (.tmp 12) (.tmp 13), false⟩, ⟨some 15, none, .load false 1 (.tmp 14), false⟩, ⟨some 16, none, .bin .eql 3 (.tmp 11) (.tmp 15), false⟩]) (.keep [0, 1, 5, 7, 8, 16] (.cond (.tmp 16) (.seq (.region false [⟨some 17, none, .mv (.tmp 5), false⟩, ⟨some 4, none, .mv (.tmp 17), false⟩]) (.keep [4] (.ret))) (.skip))))))) (.keep [0, 1, 7, 8] (.region false [⟨some 18, none, .bin .add 3 (.tmp 8) (.const (.int .i64 1)), false⟩, ⟨some 8, none, .mv (.tmp 18), false⟩]))))))
def c138 : AC := .seq (.region false [⟨some 4, none, .mv (.const (.int .i64 0)), false⟩]) (.keep [0, 1] (.seq (.seq (.region false [⟨some 6, none, .mv (.tmp 0), false⟩, ⟨some 7, none, .len false (.tmp 6), false⟩, ⟨some 8, none, .mv (.const (.int .i64 0)), false⟩]) (.keep [0, 1, 7, 8] (.block 0 (.loop c138l1)))) (.keep [] (.seq (.region false [⟨some 4, none, .mv (.const (.int .i64 (-1))), false⟩]) (.keep [4] (.ret))))))
def rv138 : List RV := [.tmp 4]
theorem is138 : FnIs Try.prog 138 19 c138 rv138 := ⟨⟨Try.f138, _, Try.func138, by kernel_rfl, rfl, rfl, by kernel_rfl, by kernel_rfl⟩, by decide⟩
def c139l1 : AC := .seq (.seq (.region false [⟨some 12, none, .mv (.tmp 4), false⟩, ⟨some 13, none, .mv (.tmp 0), false⟩, ⟨some 14, none, .len false (.tmp 13), false⟩, ⟨some 15, none, .bin .lss 3 (.tmp 12) (.tmp 14), false⟩]) (.keep [0, 3, 4, 15] (.cond (.tmp 15) (.skip) (.exit 0)))) (.keep [0, 3, 4] (.seq (.block 1 (.region false [⟨some 18, none, .mv (.tmp 3), false⟩, ⟨some 19, none, .mv (.tmp 0), false⟩, ⟨some 20, none, .mv (.tmp 4), false⟩, ⟨some 21, none, .iaddr 1 [.int .i64 0] (.tmp 19) (.tmp 20), false⟩, ⟨some 22, none, .load false 1 (.tmp 21), false⟩, ⟨some 23, none, .ext (.mx false) [(.tmp 18), (.tmp 22)], false⟩, ⟨some 3, none, .mv (.tmp 23), false⟩])) (.keep [0, 3, 4] (.region false [⟨some 16, none, .mv (.tmp 4), false⟩, ⟨some 17, none, .bin .add 3 (.tmp 16) (.const (.int .i64 1)), false⟩, ⟨some 4, none, .mv (.tmp 17), false⟩]))))
def c139 : AC := .seq (.region false [⟨some 2, none, .mv (.const (.int .i64 0)), false⟩]) (.keep [0] (.seq (.seq (.region false [⟨some 5, none, .mv (.tmp 0), false⟩, ⟨some 6, none, .len false (.tmp 5), false⟩, ⟨some 7, none, .bin .lss 3 (.tmp 6) (.const (.int .i64 1)), false⟩]) (.keep [0, 7] (.cond (.tmp 7) (.region false [⟨some 8, none, .opq (.makeInterface 9 (.const (.string ⟨#[115, 108, 105, 99, 101, 115, 46, 77, 105, 110, 58, 32, 101, 109, 112, 116, 121, 32, 108, 105, 115, 116]⟩))) 20, false⟩, ⟨none, none, .opq (.panic (.tmp 8)) 0, false⟩]) (.skip)))) (.keep [0] (.seq (.region false [⟨some 9, none, .mv (.tmp 0), false⟩, ⟨some 10, none, .iaddr 1 [.int .i64 0] (.tmp 9) (.const (.int .i64 0)), false⟩, ⟨some 11, none, .load false 1 (.tmp 10), false⟩, ⟨some 3, none, .mv (.tmp 11), false⟩]) (.keep [0, 3] (.seq (.seq (.region false [⟨some 4, none, .mv (.const (.int .i64 1)), false⟩]) (.keep [0, 3, 4] (.block 0 (.loop c139l1)))) (.keep [3] (.seq (.region false [⟨some 24, none, .mv (.tmp 3), false⟩, ⟨some 2, none, .mv (.tmp 24), false⟩]) (.keep [2] (.ret))))))))))
def rv139 : List RV := [.tmp 2]
theorem is139 : FnIs Try.prog 139 25 c139 rv139 := ⟨⟨Try.f139, _, Try.func139, by kernel_rfl, rfl, rfl, by kernel_rfl, by kernel_rfl⟩, by decide⟩
def c140 : AC := .seq (.region false [⟨some 1, none, .box (.tmp 0), false⟩, ⟨some 2, none, .mv (.const (.bool false)), false⟩]) (.keep [1] (.seq (.region false [⟨some 3, none, .load true 2 (.tmp 1), false⟩, ⟨some 4, none, .call (.func 88) [(.tmp 3), (.const (.int .i64 100000000))], false⟩, ⟨some 5, none, .un .not (.tmp 4), false⟩, ⟨some 2, none, .mv (.tmp 5), false⟩]) (.keep [2] (.ret))))
def rv140 : List RV := [.tmp 2]
theorem is140 : FnIs Try.prog 140 6 c140 rv140 := ⟨⟨Try.f140, _, Try.func140, by kernel_rfl, rfl, rfl, by kernel_rfl, by kernel_rfl⟩, by decide⟩
def c142l1 : AC := .seq (.region false [⟨some 9, none, .bin .lss 3 (.tmp 8) (.tmp 7), false⟩]) (.keep [1, 3, 7, 8, 9] (.seq (.cond (.tmp 9) (.skip) (.exit 0)) (.keep [1, 3, 7, 8] (.seq (.block 1 (.seq (.region false [⟨some 10, none, .mv (.tmp 8), false⟩, ⟨some 4, none, .mv (.tmp 10), false⟩]) (.keep [1, 3, 4, 7, 8] (.region false [⟨some 11, none, .mv (.tmp 3), false⟩, ⟨some 12, none, .faddr 0 (.tmp 1), false⟩, ⟨some 13, none, .load false 1 (.tmp 12), false⟩, ⟨some 14, none, .mv (.tmp 4), false⟩, ⟨some 15, none, .bin .shr 132 (.tmp 13) (.tmp 14), false⟩, ⟨some 16, none, .bin .and 132 (.tmp 15) (.const (.int .u16 1)), false⟩, ⟨some 17, none, .cvi .i64 (.tmp 16), false⟩, ⟨some 18, none, .mkSl false 3 1 [.int .i64 0] 1 [(0, (.tmp 17))], false⟩, ⟨some 19, none, .app 33 3 1 8 [.int .i64 0] (.tmp 11) (.tmp 18), false⟩, ⟨some 3, none, .mv (.tmp 19), false⟩])))) (.keep [1, 3, 7, 8] (.region false [⟨some 20, none, .bin .add 3 (.tmp 8) (.const (.int .i64 1)), false⟩, ⟨some 8, none, .mv (.tmp 20), false⟩]))))))
def c142 : AC := .seq (.region false [⟨some 1, none, .box (.tmp 0), false⟩, ⟨some 2, none, .mv (.const (.slice none 0 0)), false⟩]) (.keep [1] (.seq (.region false [⟨some 3, none, .mv (.const (.slice none 0 0)), false⟩]) (.keep [1, 3] (.nilrow 3 1 3 (.seq (.seq (.region false [⟨some 5, none, .faddr 2 (.tmp 1), false⟩, ⟨some 6, none, .load false 1 (.tmp 5), false⟩, ⟨some 7, none, .bin .add 3 (.tmp 6) (.const (.int .i64 1)), false⟩, ⟨some 8, none, .mv (.const (.int .i64 0)), false⟩]) (.keep [1, 3, 7, 8] (.block 0 (.loop c142l1)))) (.keep [3] (.fz [3] (.seq (.region false [⟨some 21, none, .mv (.tmp 3), false⟩, ⟨some 2, none, .mv (.tmp 21), false⟩]) (.keep [2] (.ret))))))))))
def rv142 : List RV := [.tmp 2]
theorem is142 : FnIs Try.prog 142 22 c142 rv142 := ⟨⟨Try.f142, _, Try.func142, by kernel_rfl, rfl, rfl, by kernel_rfl, by kernel_rfl⟩, by decide⟩
def c143l1 : AC := .seq (.region false [⟨some 9, none, .bin .lss 3 (.tmp 8) (.tmp 7), false⟩]) (.keep [0, 1, 7, 8, 9] (.seq (.cond (.tmp 9) (.skip) (.exit 0)) (.keep [0, 1, 7, 8] (.seq (.block 1 (.seq (.region false [⟨some 10, none, .mv (.tmp 8), false⟩, ⟨some 5, none, .mv (.tmp 10), false⟩]) (.keep [0, 1, 5, 7, 8] (.seq (.region false [⟨some 11, none, .mv (.tmp 1), false⟩, ⟨some 12, none, .mv (.tmp 0), false⟩, ⟨some 13, none, .mv (.tmp 5), false⟩, ⟨some 14, none, .iaddr 1 [.int .i64 0] (.tmp 12) (.tmp 13), false⟩, ⟨some 15, none, .load false 1 (.tmp 14), false⟩, ⟨some 16, none, .call (.tmp 11) [(.tmp 15)], false⟩]) (.keep [0, 1, 5, 7, 8, 16] (.cond (.tmp 16) (.seq (.region false [⟨some 17, none, .mv (.tmp 5), false⟩, ⟨some 4, none, .mv (.tmp 17), false⟩]) (.keep [4] (.ret))) (.skip))))))) (.keep [0, 1, 7, 8] (.region false [⟨some 18, none, .bin .add 3 (.tmp 8) (.const (.int .i64 1)), false⟩, ⟨some 8, none, .mv (.tmp 18), false⟩]))))))
def c143 : AC := .seq (.region false [⟨some 4, none, .mv (.const (.int .i64 0)), false⟩]) (.keep [0, 1] (.seq (.seq (.region false [⟨some 6, none, .mv (.tmp 0), false⟩, ⟨some 7, none, .len false (.tmp 6), false⟩, ⟨some 8, none, .mv (.const (.int .i64 0)), false⟩]) (.keep [0, 1, 7, 8] (.block 0 (.loop c143l1)))) (.keep [] (.seq (.region false [⟨some 4, none, .mv (.const (.int .i64 (-1))), false⟩]) (.keep [4] (.ret))))))
def rv143 : List RV := [.tmp 4]
theorem is143 : FnIs Try.prog 143 19 c143 rv143 := ⟨⟨Try.f143, _, Try.func143, by kernel_rfl, rfl, rfl, by kernel_rfl, by kernel_rfl⟩, by decide⟩
end Go.Proofs.Ytfgpbmjmoobcnaa
end
section
open Go Go.Am
open Go.Am.Dat (cells)
namespace Go.Proofs.Ytfgpbmjmoobcnaa.D
set_option maxRecDepth 100000
def c87l1 : AC := .seq (.region false [⟨some 18, none, .bin .lss 3 (.tmp 17) (.tmp 16), false⟩]) (.keep [3, 6, 9, 10, 11, 15, 16, 17, 18] (.seq (.cond (.tmp 18) (.skip) (.exit 2)) (.keep [3, 6, 9, 10, 11, 15, 16, 17] (.seq (.block 3 (.seq (.region false [⟨some 19, none, .iaddr 1 [.complex .f64 0 0] (.tmp 15) (.tmp 17), false⟩, ⟨some 20, none, .load false 1 (.tmp 19), false⟩, ⟨some 8, none, .mv (.tmp 20), false⟩]) (.keep [3, 6, 8, 9, 10, 11, 15, 16, 17] (.region false [⟨some 21, none, .mv (.tmp 6), false⟩, ⟨some 22, none, .mv (.tmp 8), false⟩, ⟨some 23, none, .ext .re [(.tmp 22)], false⟩, ⟨some 24, none, .ext (.f2i .i64) [(.tmp 23)], false⟩, ⟨some 25, none, .mv (.tmp 8), false⟩, ⟨some 26, none, .ext .im [(.tmp 25)], false⟩, ⟨some 27, none, .ext (.f2i .i64) [(.tmp 26)], false⟩, ⟨some 28, none, .build [.int .i64 0, .int .i64 0] [(0, 1, (.tmp 24)), (1, 1, (.tmp 27))], false⟩, ⟨some 29, none, .mkSl false 48 2 [.int .i64 0, .int .i64 0] 1 [(0, (.tmp 28))], false⟩, ⟨some 30, none, .app 35 48 2 16 [.int .i64 0, .int .i64 0] (.tmp 21) (.tmp 29), false⟩, ⟨some 6, none, .mv (.tmp 30), false⟩])))) (.keep [3, 6, 9, 10, 11, 15, 16, 17] (.region false [⟨some 31, none, .bin .add 3 (.tmp 17) (.const (.int .i64 1)), false⟩, ⟨some 17, none, .mv (.tmp 31), false⟩]))))))
def c87l2 : AC := .seq (.region false [⟨some 12, none, .bin .lss 3 (.tmp 11) (.tmp 10), false⟩]) (.keep [3, 9, 10, 11, 12] (.seq (.cond (.tmp 12) (.skip) (.exit 0)) (.keep [3, 9, 10, 11] (.seq (.block 1 (.seq (.region false [⟨some 13, none, .iaddr 1 [.slice none 0 0] (.tmp 9) (.tmp 11), false⟩, ⟨some 14, none, .load false 1 (.tmp 13), false⟩, ⟨some 5, none, .mv (.tmp 14), false⟩]) (.keep [3, 5, 9, 10, 11] (.seq (.region false [⟨some 6, none, .mv (.const (.slice none 0 0)), false⟩]) (.keep [3, 5, 6, 9, 10, 11] (.nilrow 6 2 48 (.seq (.seq (.region false [⟨some 15, none, .mv (.tmp 5), false⟩, ⟨some 16, none, .len false (.tmp 15), false⟩, ⟨some 17, none, .mv (.const (.int .i64 0)), false⟩]) (.keep [3, 6, 9, 10, 11, 15, 16, 17] (.block 2 (.loop c87l1)))) (.keep [3, 6, 9, 10, 11] (.region false [⟨some 32, none, .mv (.tmp 3), false⟩, ⟨some 33, none, .mv (.tmp 6), false⟩, ⟨some 34, none, .mkSl true 35 1 [.slice none 0 0] 1 [(0, (.tmp 33))], false⟩, ⟨some 35, none, .app 22 35 1 24 [.slice none 0 0] (.tmp 32) (.tmp 34), false⟩, ⟨some 3, none, .mv (.tmp 35), false⟩]))))))))) (.keep [3, 9, 10, 11] (.region false [⟨some 36, none, .bin .add 3 (.tmp 11) (.const (.int .i64 1)), false⟩, ⟨some 11, none, .mv (.tmp 36), false⟩]))))))
def c87 : AC := .seq (.region false [⟨some 2, none, .mv (.const (.slice none 0 0)), false⟩]) (.keep [0] (.seq (.region false [⟨some 3, none, .mv (.const (.slice none 0 0)), false⟩]) (.keep [0, 3] (.nilrow 3 1 35 (.deepen 3 2 48 (.seq (.seq (.region false [⟨some 9, none, .mv (.tmp 0), false⟩, ⟨some 10, none, .len false (.tmp 9), false⟩, ⟨some 11, none, .mv (.const (.int .i64 0)), false⟩]) (.keep [3, 9, 10, 11] (.block 0 (.loop c87l2)))) (.keep [3] (.seq (.region false [⟨some 37, none, .mv (.tmp 3), false⟩, ⟨some 2, none, .mv (.tmp 37), false⟩]) (.keep [2] (.ret))))))))))
def rv87 : List RV := [.tmp 2]
theorem is87 : FnIs Try.prog 87 38 c87 rv87 := ⟨⟨Try.f87, _, Try.func87, by kernel_rfl, rfl, rfl, by kernel_rfl, by kernel_rfl⟩, by decide⟩
def c17l1 : AC := .seq (.region false [⟨some 67, none, .bin .lss 3 (.tmp 66) (.tmp 65), false⟩]) (.keep [9, 10, 11, 13, 58, 59, 60, 64, 65, 66, 67] (.seq (.cond (.tmp 67) (.skip) (.exit 2)) (.keep [9, 10, 11, 13, 58, 59, 60, 64, 65, 66] (.seq (.block 3 (.seq (.region false [⟨some 68, none, .mv (.tmp 66), false⟩, ⟨some 69, none, .iaddr 2 [.int .i64 0, .int .i64 0] (.tmp 64) (.tmp 66), false⟩, ⟨some 70, none, .load true 2 (.tmp 69), false⟩, ⟨some 15, none, .alloc [.int .i64 0, .int .i64 0], false⟩, ⟨some 14, none, .mv (.tmp 68), false⟩, ⟨none, none, .store false 2 (.tmp 15) (.tmp 70), false⟩]) (.keep [9, 10, 11, 13, 14, 15, 58, 59, 60, 64, 65, 66] (.seq (.region false [⟨some 71, none, .mv (.tmp 13), false⟩, ⟨some 72, none, .mv (.tmp 14), false⟩, ⟨some 73, none, .load true 2 (.tmp 9), false⟩, ⟨some 74, none, .load true 2 (.tmp 15), false⟩, ⟨some 75, none, .call (.func 83) [(.tmp 73), (.tmp 74)], false⟩, ⟨some 76, none, .iaddr 2 [.int .i64 0, .int .i64 0] (.tmp 71) (.tmp 72), false⟩, ⟨none, none, .store false 2 (.tmp 76) (.tmp 75), false⟩]) (.keep [9, 10, 11, 13, 14, 58, 59, 60, 64, 65, 66] (.seq (.region false [⟨some 77, none, .mv (.tmp 13), false⟩, ⟨some 78, none, .mv (.tmp 14), false⟩, ⟨some 79, none, .iaddr 2 [.int .i64 0, .int .i64 0] (.tmp 77) (.tmp 78), false⟩, ⟨some 80, none, .load true 2 (.tmp 79), false⟩, ⟨some 81, none, .call (.func 88) [(.tmp 80), (.const (.int .i64 100000000))], false⟩, ⟨some 82, none, .un .not (.tmp 81), false⟩]) (.keep [9, 10, 11, 13, 58, 59, 60, 64, 65, 66, 82] (.cond (.tmp 82) (.seq (.region false [⟨some 4, none, .mv (.const (.slice none 0 0)), false⟩, ⟨some 5, none, .mv (.const (.int .i64 0)), false⟩, ⟨some 6, none, .mv (.const (.int .i64 8)), false⟩]) (.keep [4, 5, 6] (.ret))) (.skip))))))))) (.keep [9, 10, 11, 13, 58, 59, 60, 64, 65, 66] (.region false [⟨some 83, none, .bin .add 3 (.tmp 66) (.const (.int .i64 1)), false⟩, ⟨some 66, none, .mv (.tmp 83), false⟩]))))))
def c17l2 : AC := .seq (.region false [⟨some 61, none, .bin .lss 3 (.tmp 60) (.tmp 59), false⟩]) (.keep [9, 10, 11, 58, 59, 60, 61] (.seq (.cond (.tmp 61) (.skip) (.exit 0)) (.keep [9, 10, 11, 58, 59, 60] (.seq (.block 1 (.seq (.region false [⟨some 62, none, .iaddr 1 [.slice none 0 0] (.tmp 58) (.tmp 60), false⟩, ⟨some 63, none, .load false 1 (.tmp 62), false⟩, ⟨some 13, none, .mv (.tmp 63), false⟩]) (.keep [9, 10, 11, 13, 58, 59, 60] (.seq (.region false [⟨some 64, none, .mv (.tmp 13), false⟩, ⟨some 65, none, .len false (.tmp 64), false⟩, ⟨some 66, none, .mv (.const (.int .i64 0)), false⟩]) (.keep [9, 10, 11, 13, 58, 59, 60, 64, 65, 66] (.block 2 (.loop c17l1))))))) (.keep [9, 10, 11, 58, 59, 60] (.region false [⟨some 84, none, .bin .add 3 (.tmp 60) (.const (.int .i64 1)), false⟩, ⟨some 60, none, .mv (.tmp 84), false⟩]))))))
end Go.Proofs.Ytfgpbmjmoobcnaa.D
end
