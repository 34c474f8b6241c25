/- Part 2 of the proof of: SymbolTexts returns true for every input and never panics: the text of symbols, and the symbols with any text, or the errors, are as the reference says; right symbols are read back; conditions: those of the given statement, that the library variables it lists hold what their initialisers lay. -/
import Derived.Laws.StructEq
import Derived.Laws.Cover3
import Derived.RangeFuncLeaves
import Derived.TacticsIn
import Derived.OrdersIn
import Derived.RangeFuncRecord
import Derived.Test.YtfgpbmjmoobcnaaGreatDoorAm1
set_option linter.all false
section
namespace Go.Am
variable {P : Program} {E : Env} {U : Nat → Prop} {w : World} {ch : Chs} {d : Nat}
theorem opF_sound0 {own : Bool} {a : Act} {o : Oper} {aop : AOp} {ρ : Operand → C} {ef : Eff} (hi : Inv E U w.heap ch) (hρ : ∀ x, Rep E U w.heap (ρ x) (a.eval x)) (hc : compOp0 P own o.op o.type = some aop) (he : cV ρ ch d aop = some ef) (hcond : ef.cond) :
    Good P E U w ch d (execOp a.eval o) ef := by
  cases ho : o.op <;> rw [ho] at hc <;> simp only [compOp0] at hc
  case move x =>
    cases own with
    | false =>
      cases hc; simp only [cV] at he; cases he
      exact good_pure hi (by simp [execOp, ho]) (hρ x)
    | true =>
      cases hc; simp only [cV] at he
      split at he
      · rename_i v hv
        cases he
        exact good_pure hi (by simp [execOp, ho]) (hv ▸ hρ x)
      · cases he
  case assign x =>
    cases own with
    | false =>
      cases hc; simp only [cV] at he; cases he
      exact good_pure hi (by simp [execOp, ho]) (hρ x)
    | true =>
      cases hc; simp only [cV] at he
      split at he
      · rename_i v hv
        cases he
        exact good_pure hi (by simp [execOp, ho]) (hv ▸ hρ x)
      · cases he
  case pick c x y =>
    cases hc; simp only [cV] at he
    split at he
    · rename_i h; cases he
      exact good_pure hi (by simp [execOp, ho, rep_s (h ▸ hρ c), asBool]) (hρ x)
    · rename_i h; cases he
      exact good_pure hi (by simp [execOp, ho, rep_s (h ▸ hρ c), asBool]) (hρ y)
    · cases he
  case alloc t =>
    simp only [Option.map_eq_some_iff] at hc
    obtain ⟨z, hz, rfl⟩ := hc
    simp only [cV] at he; cases he
    exact op_alloc hi ho hz hcond
  case box t x =>
    cases hc; simp only [cV] at he; cases he
    exact op_box hi ho (hρ x) hcond
  case build t parts =>
    simp only [Option.bind_eq_some_iff, Option.map_eq_some_iff] at hc
    obtain ⟨z, hz, ps, hp, rfl⟩ := hc
    simp only [cV, Option.map_eq_some_iff] at he
    obtain ⟨cs, hf, rfl⟩ := he
    exact op_build hi ho hz hp hρ hf hcond
  case buildSlice t len parts =>
    split at hc
    · rename_i e hu
      simp only [Option.bind_eq_some_iff] at hc
      obtain ⟨z, hz, n, hn, hc⟩ := hc
      split at hc
      · rename_i hlen
        cases hc
        simp only [cV] at he
        have hmax : len ≤ maxLen := Nat.le_trans hlen.2.2 (by decide)
        cases own with
        | true =>
          simp only [if_true] at he
          split at he
          · rename_i hp
            cases he
            exact op_mkSlOwn hi ho hu hz hn hlen.1 hmax hlen.2.1 (by simpa using hp) hcond
          · split at he
            · rename_i k hps
              split at he
              · rename_i m ty es hlk
                cases he
                obtain ⟨rfl, rfl, c1, c2⟩ := hcond
                obtain ⟨x, hx, hk⟩ : ∃ x, parts.toList = [(0, x)] ∧ ρ x = .own k := by
                  cases hpl : parts.toList with
                  | nil => rw [hpl] at hps; cases hps
                  | cons q r =>
                    rw [hpl] at hps
                    cases r with
                    | nil => obtain ⟨i, x⟩ := q; simp at hps; exact ⟨x, by rw [hps.1], hps.2⟩
                    | cons _ _ => simp at hps
                exact op_mkDeep hi ho hu hz hn hlen.2.1 c2 hx (hk ▸ hρ x) hlk c1
              · cases he
            · cases he
        | false =>
          simp only [Bool.false_eq_true, if_false, Option.map_eq_some_iff] at he
          obtain ⟨es, hf, rfl⟩ := he
          have hg := op_mkSlData (d := d) (p := z.all (·.oneCell') = true) hi ho hu hz hn hlen.1 hlen.2.1 hmax hρ hcond hf
          have e : (if (aH ch (List.map (fun (x : Nat × Operand) => (x.1, ρ x.2)) parts.toList)).2.isEmpty = true then ch else a7 (aH ch (List.map (fun (x : Nat × Operand) => (x.1, ρ x.2)) parts.toList)).2 (aX ch (aH ch (List.map (fun (x : Nat × Operand) => (x.1, ρ x.2)) parts.toList)).2)) =
              a7 (aH ch (List.map (fun (x : Nat × Operand) => (x.1, ρ x.2)) parts.toList)).2 (aX ch (aH ch (List.map (fun (x : Nat × Operand) => (x.1, ρ x.2)) parts.toList)).2) := by
            split
            · rename_i h
              rw [List.isEmpty_iff.1 h, subCh_nil]; rfl
            · rfl
          rw [e]
          exact hg
      · cases hc
    · cases hc
  case load t x =>
    simp only [Option.bind_eq_some_iff, Option.map_eq_some_iff] at hc
    obtain ⟨b, hb, n, hn, rfl⟩ := hc
    simp only [cV] at he
    have hr := hρ x
    split at he
    · rename_i k off hx
      split at he
      · rename_i cs hlk
        cases he
        obtain ⟨c1, c2, c3⟩ := hcond
        rw [hx] at hr
        have hck := hi.ok k _ (lk_mem hlk)
        by_cases hisl : ∃ n' t' es', aP b n cs off = .isl n' t' es'
        · obtain ⟨n', t', es', hisl⟩ := hisl
          have hbf : b = false := by
            cases b with
            | false => rfl
            | true => simp [aP] at hisl
          subst hbf
          have hn1 := c2 rfl
          subst hn1
          obtain ⟨⟨hnil, arr, ty, b1, b2, b3⟩, _⟩ := hck
          have hlt : off < cs.length := by omega
          have hcell : cs[off]? = some (.isl n' t' es') := by
            simp only [aP, Bool.false_eq_true, if_false] at hisl
            rw [List.drop_eq_getElem_cons hlt] at hisl
            simp only [List.headD_cons] at hisl
            rw [List.getElem?_eq_getElem hlt, hisl]
          have hld : db k false 1 cs off = .inn k off := by simp [db, hisl]
          rw [hld]
          rcases b3 off _ hcell with ⟨r1, _⟩ | ⟨_, r2⟩
          · exact absurd r1 not_isl_rep
          · have hm : MemR E U w.heap (E k).blk off [.s (slV ((E k).inn off))] := fun j c hj => by
              cases j with
              | zero =>
                simp at hj; subst hj
                have hlt2 : off < arr.size := by omega
                refine ⟨arr, ty, (0, 0), slV ((E k).inn off), b1, ?_, .d (.s _), slV_one _⟩
                rw [Nat.add_zero, ← r2]
                simp [Array.getD_eq_getD_getElem?, Array.getElem?_eq_getElem hlt2]
              | succ j => simp at hj
            obtain ⟨v, g1, g2⟩ := run_load_mem hb hn hm 0 (by simp) (fun _ => rfl)
            have hv := rep_s (v0 := slV ((E k).inn off)) (by simpa [aP] using g2)
            subst hv
            refine good_pure hi ?_ (.inn k off)
            have hx' := rep_ptr hr
            simp only [Nat.add_zero] at g1
            simp only [execOp, ho, hx', Sem.run_bind, g1, Result.andThen_ok, Sem.run_pure]
        · have hld : db k b n cs off = aP b n cs off := by
            unfold db
            split
            · rename_i h; exact absurd ⟨_, _, _, h⟩ hisl
            · rfl
          rw [hld]
          have hcells : aP b n cs off = aP b n ((cs.drop off).take n) 0 := by
            cases b with
            | true => simp [aP, List.take_take]
            | false =>
              have hn1 := c2 rfl
              subst hn1
              have hlt : off < cs.length := by omega
              simp only [aP, Bool.false_eq_true, if_false]
              rw [List.drop_eq_getElem_cons hlt]; rfl
          rw [hcells]
          refine op_load (off := off) (j := 0) hi ho hb hn (by rw [rep_ptr hr]; rfl) (box_mem hck off n (fun j c hj => ?_)) (by simp; omega) c2
          cases hbb : b with
          | true => exact all_get (c3 hbb) hj
          | false =>
            have hn1 := c2 hbb
            subst hn1
            have hlt : off < cs.length := by omega
            obtain ⟨hj1, hj2⟩ := getD_take hj
            have hj0 : j = 0 := by omega
            subst hj0
            rw [List.drop_eq_getElem_cons hlt] at hj1
            simp only [List.getElem?_cons_zero, Option.some.injEq] at hj1
            subst hj1
            subst hbb
            simp only [aP, Bool.false_eq_true, if_false] at hisl
            rw [List.drop_eq_getElem_cons hlt] at hisl
            simp only [List.headD_cons] at hisl
            generalize cs[off] = c at hisl
            cases c <;> first | rfl | exact absurd ⟨_, _, _, rfl⟩ hisl
      · cases he
    · rename_i cs hx
      cases he
      rw [hx] at hr
      obtain ⟨bb, off, arr, ty, fz, vf, hv, hU, hbk, h1, h2⟩ := rep_ref hr
      exact op_load (off := off) (j := 0) hi ho hb hn (by rw [hv]; rfl) (fun j c hj => ⟨arr, ty, fz, vf j, hbk, (h1 j c hj).1, .d (h2 j c hj), (h1 j c hj).2⟩) (by simpa using hcond.1) hcond.2
    · rename_i k i j hx
      split at he
      · rename_i m ty es hlk
        cases he
        rw [hx] at hr
        have hck := (hi.ok k _ (lk_mem hlk)).1
        have hel := getD_of_lt hcond.1 []
        have hlen := hck.2.2.1 i _ hel
        have hv := rep_eptr hr
        rw [hck.2.1] at hv
        exact op_load hi ho hb hn hv (rowOk_mem hck hel) (by rw [hlen]; exact hcond.2.1) hcond.2.2
      · rename_i hole rows hlk
        cases he
        obtain ⟨c1, c2, rfl, rfl, rfl⟩ := hcond
        rw [hx] at hr
        have hv := rep_eptr hr
        obtain ⟨⟨d1, d2, d3⟩, _⟩ := hi.ok k _ (lk_mem hlk)
        rw [d2, Nat.mul_one] at hv
        rcases d3 with ⟨_, rfl⟩ | ⟨_, _, _, arr, b1, b2, b3⟩
        · simp at c1
        · have hlt2 : (E k).off + i < arr.size := by omega
          have r2 := (b3 i c1).2 c2
          have hm : MemR E U w.heap (E k).blk ((E k).off + i) [.s (slV ((E k).inn i))] := fun j c hj => by
            cases j with
            | zero =>
              simp at hj; subst hj
              refine ⟨arr, _, (0, 0), slV ((E k).inn i), b1, ?_, .d (.s _), slV_one _⟩
              rw [Nat.add_zero, ← r2]
              simp [Array.getD_eq_getD_getElem?, Array.getElem?_eq_getElem hlt2]
            | succ j => simp at hj
          obtain ⟨v, g1, g2⟩ := run_load_mem hb hn hm 0 (by simp) (fun _ => rfl)
          have hv' := rep_s (v0 := slV ((E k).inn i)) (by simpa [aP] using g2)
          subst hv'
          refine good_pure hi ?_ (.inn k i)
          simp only [execOp, ho, hv, Sem.run_bind, g1, Result.andThen_ok, Sem.run_pure]
      · cases he
    · rename_i k i m j hx
      split at he
      · rename_i q n' ty es hlk
        cases he
        obtain ⟨hq, c1, c2, c3⟩ := hcond
        rw [hx] at hr
        obtain ⟨c0, hl0, hI, _, hres⟩ := innOf_spec hlk hq
        have hrow := ((hi.ok k _ (lk_mem hl0)).inns hres).2 i _ _ _ hI
        have hel := getD_of_lt c1 []
        have hlen := hrow.2.2.1 m _ hel
        have hv := rep_iptr hr
        rw [hrow.2.1] at hv
        exact op_load hi ho hb hn hv (rowOk_mem hrow hel) (by rw [hlen]; exact c2) c3
      · cases he
    · cases he
  case store t x y =>
    simp only [Option.map_eq_some_iff] at hc
    obtain ⟨n, hn, rfl⟩ := hc
    simp only [cV] at he
    have hr := hρ x
    split at he
    · split at he
      · rename_i k off t' hx hy
        split at he
        · rename_i m ty es cs h1 h2
          cases he
          obtain ⟨rfl, c1, c2⟩ := hcond
          exact op_absBox hi ho hn (rep_ptr (hx ▸ hr)) h2 h1 (hy ▸ hρ y) c1 c2
        · cases he
      · rename_i k i j t' hx hy
        split at he
        · rename_i m ty es n' ty' ty0 hole rows h1 h2
          cases he
          obtain ⟨rfl, rfl, c1, c2, rfl, rfl, c3⟩ := hcond
          exact op_absDeep hi ho hn (rep_eptr (hx ▸ hr)) h2 h1 (hy ▸ hρ y) c1 c2 c3
        · cases he
      · cases he
    · split at he
      · rename_i k off hx
        split at he
        · rename_i cs hlk
          cases he
          rw [hx] at hr
          exact op_storeBox hi ho hn (rep_ptr hr) hlk (hρ y) hcond.1 hcond.2.1 hcond.2.2.1 hcond.2.2.2
        · cases he
      · rename_i k i j hx
        split at he
        · rename_i m ty es hlk
          cases he
          rw [hx] at hr
          exact op_storeRow hi ho hn (rep_eptr hr) hlk (hρ y) hcond.1 hcond.2.1 hcond.2.2.1 hcond.2.2.2
        · cases he
      · rename_i k i m j hx
        split at he
        · rename_i q n' ty es hlk
          cases he
          obtain ⟨hq, c1, c2, c3, c4⟩ := hcond
          rw [hx] at hr
          exact op_storeInn hi ho hn (rep_iptr hr) hlk hq (hρ y) c1 c2 c3 c4
        · cases he
      · cases he
  case nilCheck x =>
    cases hc; simp only [cV] at he
    have hr := hρ x
    split at he
    · rename_i k off hx
      cases he; rw [hx] at hr
      exact good_pure hi (by simp [execOp, ho, rep_ptr hr]) (rep_ptr hr ▸ hr)
    · rename_i k i j hx
      cases he; rw [hx] at hr
      exact good_pure hi (by simp [execOp, ho, rep_eptr hr]) (rep_eptr hr ▸ hr)
    · rename_i k i m j hx
      cases he; rw [hx] at hr
      exact good_pure hi (by simp [execOp, ho, rep_iptr hr]) (rep_iptr hr ▸ hr)
    · rename_i cs hx
      cases he; rw [hx] at hr
      obtain ⟨bb, off, arr, ty, fz, vf, hv, _⟩ := rep_ref hr
      exact good_pure hi (by simp [execOp, ho, hv]) (hv ▸ hr)
    · rename_i aa hx
      cases he; rw [hx] at hr
      exact good_pure hi (by simp [execOp, ho, rep_s hr]) (rep_s hr ▸ hr)
    · rename_i f xs ys hx
      cases he; rw [hx] at hr
      obtain ⟨vs, ws, hv, _⟩ := rep_fn hr
      exact good_pure hi (by simp [execOp, ho, hv]) (hv ▸ hr)
    · cases he
  case binOp op t x y yt =>
    have gen : cV ρ ch d (.bin op t x y) = some ef → Good P E U w ch d (execOp a.eval o) ef := fun he => by
      simp only [cV, Option.map_eq_some_iff] at he
      obtain ⟨⟨q, c⟩, hb, rfl⟩ := he
      exact op_bin hi ho (hρ x) (hρ y) hb hcond
    split at hc
    · rename_i ht
      cases hc
      simp only [cV] at he
      split at he
      · rename_i b1 b2 h1 h2
        cases he
        exact op_beq (neg := false) hi ho ht (rep_s (h1 ▸ hρ x)) (rep_s (h2 ▸ hρ y))
      · cases he
    · rename_i ht
      cases hc
      simp only [cV] at he
      split at he
      · rename_i b1 b2 h1 h2
        cases he
        exact op_beq (neg := true) hi ho ht (rep_s (h1 ▸ hρ x)) (rep_s (h2 ▸ hρ y))
      · cases he
    · cases hc; exact gen he
  case unOp op t x =>
    cases hc; simp only [cV] at he
    split at he
    · rename_i k n hx
      cases he
      exact op_neg hi ho (rep_s (hx ▸ hρ x)) hcond
    · rename_i b hx
      cases he
      exact op_not hi ho (rep_s (hx ▸ hρ x))
    · cases he
  case convert src dst x =>
    split at hc
    · rename_i k0 k h1 h2
      cases hc; simp only [cV] at he
      split at he
      · rename_i k' n hx
        cases he
        exact op_cvi hi ho h1 h2 (rep_s (hx ▸ hρ x)) hcond
      · cases he
    · rename_i h1 h2
      cases hc; simp only [cV] at he
      split at he
      · rename_i s hx
        cases he
        have hv := rep_s (hx ▸ hρ x)
        exact good_pure hi (by simp [execOp, ho, hv, convert, run_underlying h1, run_underlying h2]) (.d (.s _))
      · cases he
    · cases hc; simp only [cV] at he; cases he
  case makeFunc f first caps =>
    cases hc; simp only [cV] at he; cases he
    have hm : ∀ l : Array Operand, (l.map a.eval).size = (l.toList.map ρ).length ∧ ∀ (j : Nat) c, (l.toList.map ρ)[j]? = some c → Rep E U w.heap c ((l.map a.eval).getD j undef) := fun l => by
      refine ⟨by simp, fun j c hj => ?_⟩
      simp only [List.getElem?_map, Option.map_eq_some_iff] at hj
      obtain ⟨y, hy, rfl⟩ := hj
      have : (l.map a.eval).getD j undef = a.eval y := by
        apply getD_of_some
        simp only [Array.getElem?_toList] at hy
        simp [hy]
      rw [this]; exact hρ y
    exact good_pure hi (by simp [execOp, ho, Instr.makeFunc]) (.fn f _ _ _ _ (hm first).1 (hm first).2 (hm caps).1 (hm caps).2)
  case makeSlice t l c =>
    split at hc
    · rename_i e hu
      simp only [Option.bind_eq_some_iff] at hc
      obtain ⟨i, hie, z, hz, hc⟩ := hc
      split at hc
      · rename_i hzs
        cases hc
        simp only [cV] at he
        split at he
        · rename_i k1 n k2 m h1 h2
          cases he
          obtain ⟨c1, c2, c3, c4, c5⟩ := hcond
          exact op_makeSl hi ho hu hie hz hzs (rep_s (h1 ▸ hρ l)) (rep_s (h2 ▸ hρ c)) ⟨c1, c2, c3, c4⟩ c5
        · cases he
      · cases hc
    · cases hc
  case slice t x lo hi' mx =>
    split at hc
    · rename_i e hu
      simp only [Option.map_eq_some_iff] at hc
      obtain ⟨n, hn, rfl⟩ := hc
      simp only [cV] at he
      split at he
      · rename_i m es hx
        split at he
        · rename_i hm
          subst hm
          split at he
          · rename_i l h m' hl hh hm'
            cases he
            exact op_sslData hi ho hu hn (hx ▸ hρ x) (bnd_ok hρ hl) (bnd_ok hρ hh) (bnd_ok hρ hm') hcond
          · cases he
        · cases he
      · rename_i k hx
        split at he
        · rename_i m ty es hlk
          split at he
          · rename_i hm
            subst hm
            split at he
            · rename_i l h hl hh
              cases he
              exact op_sslOwn hi ho hu hn (hx ▸ hρ x) hlk (bnd_ok hρ hl) (bnd_ok hρ hh) hcond
            · cases he
          · cases he
        · cases he
      · rename_i hx
        split at he
        · rename_i l h hl hh
          cases he
          have hv := rep_s (hx ▸ hρ x)
          have hrun := run_sliceAt (P := P) (w := w) (ad := none) (len := 0) (cap := 0) hu hn (bnd_ok hρ hl) (bnd_ok hρ hh) hcond (Nat.le_refl _)
          have h0 : l.toNat = 0 ∧ h.toNat = 0 := by have := hcond.1; have := hcond.2.1; have := hcond.2.2; simp at *; omega
          rw [h0.1, h0.2] at hrun
          simp only [if_true, Nat.sub_self] at hrun
          exact good_pure hi (by simp only [execOp, ho, hv, Sem.run_bind, Option.map_none, hrun, Result.andThen_ok, Sem.run_pure]) (.d (.s _))
        · cases he
      · cases he
    · rename_i hu
      cases hc
      simp only [cV] at he
      split at he
      · rename_i s hx
        split at he
        · rename_i l h hl hh
          cases he
          exact op_sstr hi ho hu (rep_s (hx ▸ hρ x)) (bnd_ok hρ hl) (bnd_ok hρ hh) hcond
        · cases he
      · cases he
    · cases hc; simp only [cV] at he; cases he
  case fieldAddr t x f =>
    split at hc
    · rename_i fields hu
      simp only [Option.bind_eq_some_iff] at hc
      obtain ⟨g, hg, n, hn, hc⟩ := hc
      split at hc
      · cases hc
      · rename_i h0
        cases hc
        simp only [cV] at he
        have hr := hρ x
        split at he
        · rename_i k off hx
          cases he; rw [hx] at hr
          exact op_faddr hi ho hu hg hn h0 (rep_ptr hr) (.ptr k (off + g.offset))
        · rename_i k i j hx
          cases he; rw [hx] at hr
          have := Rep.eptr (E := E) (U := U) (h := w.heap) k i (j + g.offset)
          rw [← Nat.add_assoc] at this
          exact op_faddr hi ho hu hg hn h0 (rep_eptr hr) this
        · rename_i k i m j hx
          cases he; rw [hx] at hr
          have := Rep.iptr (E := E) (U := U) (h := w.heap) k i m (j + g.offset)
          rw [← Nat.add_assoc] at this
          exact op_faddr hi ho hu hg hn h0 (rep_iptr hr) this
        · rename_i cs hx
          cases he; rw [hx] at hr
          obtain ⟨bb, off, hv, hd⟩ := drop_rep (off := g.offset) hr
          exact op_faddr hi ho hu hg hn h0 hv hd
        · cases he
    · cases hc
  case field t x f =>
    split at hc
    · rename_i fields hu
      simp only [Option.bind_eq_some_iff, Option.map_eq_some_iff] at hc
      obtain ⟨g, hg, b, hb, n, hn, rfl⟩ := hc
      simp only [cV] at he
      split at he
      · rename_i cs hx
        cases he
        exact op_field hi ho hu hg hb hn (hx ▸ hρ x) hcond.1 hcond.2
      · cases he
    · cases hc
  case indexAddr t x i =>
    split at hc
    · rename_i e hu
      simp only [Option.bind_eq_some_iff, Option.map_eq_some_iff] at hc
      obtain ⟨n, hn, z, hz, rfl⟩ := hc
      simp only [cV] at he
      split at he
      · rename_i m es q hx hq
        split at he
        · rename_i hm
          subst hm
          cases he
          obtain ⟨k, hk⟩ := idx_ok hρ hq
          exact op_iaddrData hi ho hu hn (hx ▸ hρ x) hk hcond
        · cases he
      · rename_i kk q hx hq
        split at he
        · rename_i m ty es hlk
          split at he
          · rename_i hm
            subst hm
            cases he
            obtain ⟨k, hk⟩ := idx_ok hρ hq
            exact op_iaddrOwn hi ho hu hn (hx ▸ hρ x) hlk hk hcond
          · cases he
        · rename_i rows hlk
          split at he
          · rename_i hm
            subst hm
            cases he
            obtain ⟨k, hk⟩ := idx_ok hρ hq
            exact op_iaddrDeep hi ho hu hn (hx ▸ hρ x) hlk hk hcond
          · cases he
        · cases he
      · rename_i kk j q hx hq
        split at he
        · rename_i pp m ty es hlk
          split at he
          · rename_i hm
            subst hm
            cases he
            obtain ⟨k, hk⟩ := idx_ok hρ hq
            exact op_iaddrInn hi ho hu hn (hx ▸ hρ x) hlk hcond.1 hk hcond.2
          · cases he
        · cases he
      · cases he
    · rename_i len e hu
      simp only [Option.map_eq_some_iff] at hc
      obtain ⟨n, hn, rfl⟩ := hc
      simp only [cV] at he
      split at he
      · rename_i k off q hx hq
        cases he
        obtain ⟨kk, hk⟩ := idx_ok hρ hq
        have hv := rep_ptr (hx ▸ hρ x)
        have hc' : 0 ≤ q ∧ q < (len : Int) := hcond
        refine good_pure hi ?_ (.ptr k (off + q.toNat * n))
        simp [execOp, ho, hv, hk, Instr.indexAt, Instr.sureAddr, asIntOf, run_underlying hu, hc', run_sizeOf hn, Addr.add_lit]
      · cases he
    · cases hc
  case index t x i =>
    split at hc
    · rename_i hu
      cases hc
      simp only [cV] at he
      split at he
      · rename_i s q hx hq
        cases he
        obtain ⟨kk, hk⟩ := idx_ok hρ hq
        have hv := rep_s (hx ▸ hρ x)
        have hlt : q.toNat < s.size := by have := hcond.1; have := hcond.2; omega
        refine good_pure hi ?_ (.d (.s _))
        have hget : (if 0 ≤ q then s[q.toNat]? else none) = some (s.data.toList.getD q.toNat 0) := by
          rw [if_pos hcond.1]
          have hlt2 : q.toNat < s.data.size := hlt
          have e1 : s[q.toNat]? = some s[q.toNat] := by simp [hlt]
          rw [e1]
          have e2 : s.data.toList.getD q.toNat 0 = s.data[q.toNat] := by rw [List.getD_eq_getElem?_getD, Array.getElem?_toList, Array.getElem?_eq_getElem hlt2]; rfl
          rw [e2]; rfl
        simp only [execOp, ho, hv, hk, Instr.index, asIntOf, run_underlying hu, Sem.run_bind, Sem.run_pure, Result.andThen_ok]
        rw [hget]
        rfl
      · cases he
    · cases hc; simp only [cV] at he; cases he
  case extract x i =>
    cases hc; simp only [cV] at he
    split at he
    · rename_i cs hx
      cases he
      obtain ⟨vs, hv, hl, hr⟩ := rep_tup (hx ▸ hρ x)
      have hlt : i < vs.size := by rw [hl]; exact hcond
      obtain ⟨u, hu⟩ : ∃ u, vs[i]? = some u := ⟨_, Array.getElem?_eq_getElem hlt⟩
      have hcl : cs[i]? = some (cs.getD i .any) := by
        have : i < cs.length := hcond
        simp [List.getD_eq_getElem?_getD, List.getElem?_eq_getElem this]
      refine good_pure (v := u) hi (by simp [execOp, ho, hv, Instr.extract, hu]) ?_
      rw [← getD_of_some hu]
      exact hr i _ hcl
    · cases he
  case call c =>
    obtain ⟨callee, args, argTypes⟩ := c
    cases callee with
    | value f => simp only at hc; cases hc; simp only [cV] at he; cases he
    | invoke r m => simp only at hc; cases hc; simp only [cV] at he; cases he
    | builtin b =>
      have other : ∀ b' ts ty aS, aop = .bi b' ts ty aS → Good P E U w ch d (execOp a.eval o) ef := fun b' ts ty aS h => by
        subst h; simp only [cV] at he; cases he
      cases b <;> simp only at hc
      case append =>
        split at hc
        · rename_i s x t u h1 h2
          have ha : args = #[s, x] := by cases args; simp at h1; simp [h1]
          have ht : argTypes = #[t, u] := by cases argTypes; simp at h2; simp [h2]
          subst ha ht
          split at hc
          · rename_i e e2 g1 g2
            simp only [Option.bind_eq_some_iff] at hc
            obtain ⟨i, hie, z, hz, hc⟩ := hc
            split at hc
            · rename_i hsz
              cases hc
              exact app_ok hi hρ ho g1 g2 hie hz hsz.1 hsz.2 he hcond
            · cases hc
          · cases hc; exact other _ _ _ _ rfl
        · cases hc
      case len =>
        split at hc
        · rename_i x t h1 h2
          have ha : args = #[x] := by cases args; simp at h1; simp [h1]
          have ht : argTypes = #[t] := by cases argTypes; simp at h2; simp [h2]
          subst ha ht
          split at hc
          · rename_i g1
            cases hc
            simp only [cV, Option.map_eq_some_iff] at he
            split at he
            · rename_i heq; cases heq
            · simp only [Option.map_eq_some_iff] at he
              obtain ⟨n, hl, rfl⟩ := he
              exact len_ok (str := true) hi ho (by simpa using g1) (hρ x) hl
          · rename_i e g1
            cases hc
            simp only [cV] at he
            split at he
            · rename_i k i hx _
              split at he
              · rename_i q m ty es hlk
                cases he
                exact lenInn_ok hi ho g1 (hx ▸ hρ x) hlk hcond
              · cases he
            · simp only [Option.map_eq_some_iff] at he
              obtain ⟨n, hl, rfl⟩ := he
              exact len_ok (str := false) hi ho (by simpa using ⟨e, g1⟩) (hρ x) hl
          · cases hc; exact other _ _ _ _ rfl
        · cases hc
      all_goals (cases hc; exact other _ _ _ _ rfl)
  all_goals (cases hc; simp only [cV] at he; cases he)
end Go.Am
end
section
namespace Go.Am
variable {P : Program} {E : Env} {U : Nat → Prop} {w : World} {ch : Chs} {d : Nat}
theorem run_part1 {t : TypeId} {xs : Array Value} {off k : Nat} (hu : kindOf P t = some k) {v : Value} (hx : xs[off]? = some v) : (part t xs off).run P w = .ok v w := by
  unfold kindOf at hu
  cases h : P.underlying t with
  | none => rw [h] at hu; cases hu
  | some u => rw [h] at hu; cases u <;> simp at hu <;> simp [part, isAgg, run_underlying h, hx]
theorem get_of_getD {xs : Array Value} {j : Nat} (h : j < xs.size) : xs[j]? = some (xs.getD j undef) := by simp [Array.getD_eq_getD_getElem?, h]
theorem run_eqFields {h : Array Obj} (D : Nat) (xs ys : Array Value) : ∀ (fs : List Field) (off : Nat) (ks : List Nat) (cs ds : List C) (b : Bool), plainFields P off fs = some ks → aq ks cs ds = some b → off + cs.length = xs.size → off + ds.length = ys.size →
    (∀ (j : Nat) c, cs[j]? = some c → Rep E U h c (xs.getD (off + j) undef)) → (∀ (j : Nat) c, ds[j]? = some c → Rep E U h c (ys.getD (off + j) undef)) → (Op.eqFields (D + 1) xs ys fs).run P w = .ok b w
  | [], off, ks, cs, ds, b, hp, he, _, _, _, _ => by
    simp only [plainFields, Option.some.injEq] at hp
    subst hp
    unfold aq at he
    split at he <;> simp_all [Op.eqFields]
  | f :: fs, off, ks, cs, ds, b, hp, he, hx, hy, h1, h2 => by
    simp only [plainFields] at hp
    split at hp
    · rename_i hno
      obtain ⟨hn, ho⟩ := hno
      simp only [Option.bind_eq_some_iff, Option.map_eq_some_iff] at hp
      obtain ⟨k, hu, ks', hp, rfl⟩ := hp
      have fin : ∀ (c d : C) (cs' ds' : List C) (q : Bool), cs = c :: cs' → ds = d :: ds' → (Rep E U h c (xs.getD off undef) → Rep E U h d (ys.getD off undef) → (Op.equalIn (D + 1) f.type (xs.getD off undef) (ys.getD off undef)).run P w = .ok q w) → (aq ks' cs' ds').map (q && ·) = some b →
          (Op.eqFields (D + 1) xs ys (f :: fs)).run P w = .ok b w := by
        intro c d cs' ds' q hcs hds hq hb
        subst hcs hds
        simp only [List.length_cons] at hx hy
        have e1 := run_part1 (P := P) (w := w) hu (get_of_getD (xs := xs) (j := off) (by omega))
        have e2 := run_part1 (P := P) (w := w) hu (get_of_getD (xs := ys) (j := off) (by omega))
        simp only [Option.map_eq_some_iff] at hb
        obtain ⟨b', hb', rfl⟩ := hb
        have hq' := hq (h1 0 c rfl) (h2 0 d rfl)
        simp only [Op.eqFields, ho]
        rw [if_pos hn]
        simp only [Sem.run_bind, e1, e2, hq', Result.andThen_ok]
        cases q with
        | false => simp
        | true =>
          simpa using run_eqFields D xs ys fs (off + 1) ks' cs' ds' b' hp hb' (by omega) (by omega)
            (fun j c hj => by have := h1 (j + 1) c (by simpa using hj); rwa [show off + 1 + j = off + (j + 1) by omega])
            (fun j c hj => by have := h2 (j + 1) c (by simpa using hj); rwa [show off + 1 + j = off + (j + 1) by omega])
      unfold aq at he
      split at he
      · rename_i hk; cases hk
      · rename_i hk
        cases hk
        split at he
        · rename_i hkk; subst hkk
          refine fin _ _ _ _ _ rfl rfl (fun r1 r2 => ?_) he
          rw [rep_s r1, rep_s r2]
          unfold kindOf at hu
          split at hu <;> simp at hu
          rename_i kk hh
          simp [Op.equalIn, run_underlying hh]
          rfl
        · cases he
      · rename_i a _ a' _ hk
        cases hk
        refine fin _ _ _ _ _ rfl rfl (fun r1 r2 => ?_) he
        rw [rep_s r1, rep_s r2]
        unfold kindOf at hu
        split at hu <;> simp at hu
        rename_i hh
        have hb : (a == a') = decide (a = a') := by cases a <;> cases a' <;> rfl
        simp [Op.equalIn, run_underlying hh, hb]
      · rename_i a _ a' _ hk
        cases hk
        refine fin _ _ _ _ _ rfl rfl (fun r1 r2 => ?_) he
        rw [rep_s r1, rep_s r2]
        unfold kindOf at hu
        split at hu <;> simp at hu
        rename_i hh
        simp [Op.equalIn, run_underlying hh, beq_toListBytes, beq_toList]
      · cases he
    · cases hp
theorem run_mxL {m : Bool} {k : IntKind} : ∀ (l : List C) (vs : List Value) (a r : Int) {h : Array Obj}, dd m k a l = some r → vs.length = l.length → (∀ (j : Nat) c v, l[j]? = some c → vs[j]? = some v → Rep E U h c v) →
    (vs.foldlM (if m then Builtin.max2 else Builtin.min2) (.int k a)).run P w = .ok (.int k r) w
  | [], vs, a, r, h, hm, hl, _ => by
    have : vs = [] := by simpa using hl
    subst this
    simp [dd] at hm; subst hm; simp
  | c :: l, [], a, r, h, hm, hl, _ => by simp at hl
  | c :: l, v :: vs, a, r, h, hm, hl, hv => by
    unfold dd at hm
    split at hm
    · rename_i hc; cases hc
    · rename_i k' b l' hc
      cases hc
      split at hm
      · rename_i hk; subst hk
        have e := rep_s (hv 0 _ v rfl rfl)
        subst e
        have ih := run_mxL l vs (cY m a b) r (h := h) hm (by simpa using hl) (fun j c v h1 h2 => hv (j + 1) c v (by simpa using h1) (by simpa using h2))
        simp only [List.foldlM_cons, Sem.run_bind]
        cases m with
        | true => simp only [if_true, Builtin.max2, Sem.run_pure, Result.andThen_ok] at ih ⊢; exact ih
        | false => simp only [Bool.false_eq_true, if_false, Builtin.min2, Sem.run_pure, Result.andThen_ok] at ih ⊢; exact ih
      · cases hm
    · cases hm
end Go.Am
namespace Go.Am
variable {P : Program} {E : Env} {U : Nat → Prop} {w : World} {ch : Chs} {d : Nat}
theorem run_fArith {op : BinOp} {a b x : Nat} (h : fArith op a b = some x) : (Op.floatArith op .f64 a b).run P w = .ok (.float .f64 x) w := by
  unfold fArith at h
  split at h
  all_goals first | (cases h; done) | simp [Op.floatArith, h]
theorem run_cA {op : BinOp} {a b x : Nat} (h : fArith op a b = some x) : (Op.Complex.arith op .f64 a b).run P w = .ok x w := by
  simp [Op.Complex.arith, run_fArith h]
theorem run_cArith {op : BinOp} {a b c d x y : Nat} (h : aw op a b c d = some (x, y)) : (Op.complexOp op .f64 a b c d).run P w = .ok (.complex .f64 x y) w := by
  unfold aw at h
  split at h
  · simp only [Option.bind_eq_some_iff, Option.map_eq_some_iff, Prod.mk.injEq] at h
    obtain ⟨x', h1, y', h2, rfl, rfl⟩ := h
    simp [Op.complexOp, run_cA h1, run_cA h2]
  · simp only [Option.bind_eq_some_iff, Option.map_eq_some_iff, Prod.mk.injEq] at h
    obtain ⟨x', h1, y', h2, rfl, rfl⟩ := h
    simp [Op.complexOp, run_cA h1, run_cA h2]
  · simp only [Option.bind_eq_some_iff, Option.map_eq_some_iff, Prod.mk.injEq] at h
    obtain ⟨ac, h1, bd, h2, ad, h3, bc, h4, x', h5, y', h6, rfl, rfl⟩ := h
    simp [Op.complexOp, Op.Complex.conv, Op.Complex.product, Op.Complex.mul, Op.Complex.sub, Op.Complex.add, run_cA h1, run_cA h2, run_cA h3, run_cA h4, run_cA h5, run_cA h6]
  · cases h
theorem fieldsOf_eq {t : TypeId} {fs : Array Field} (h : P.underlying t = some (.struct fs)) : P.fieldsOf t = fs := by simp [Program.fieldsOf, h]
theorem bytesL_get : ∀ {es : List (List C)} {xs : List Int}, bytesL es = some xs → xs.length = es.length ∧ ∀ i, i < es.length → es[i]? = some [.s (.int .u8 (xs.getD i 0))]
  | [], xs, h => by cases h; exact ⟨rfl, fun i hi => (by simp at hi)⟩
  | e :: es, xs, h => by
    unfold bytesL at h
    split at h
    · rename_i hq; cases hq
    · rename_i n es' hq
      cases hq
      simp only [Option.map_eq_some_iff] at h
      obtain ⟨ys, h1, rfl⟩ := h
      obtain ⟨g1, g2⟩ := bytesL_get h1
      refine ⟨by simp [g1], fun i hi => ?_⟩
      cases i with
      | zero => rfl
      | succ i => simpa using g2 i (by simpa using hi)
    · cases h
theorem ext_ok {a : Act} {o : Oper} {e : Ext} {aS : List Operand} {ρ : Operand → C} {q p : Prop} {c : C} (hi : Inv E U w.heap ch) (hρ : ∀ x, Rep E U w.heap (ρ x) (a.eval x)) (hc : compExt P o.op = some (e, aS)) (he : cr ch e (aS.map ρ) = some (q, c)) (hq : q) :
    Good P E U w ch d (execOp a.eval o) ⟨p, c, ch, []⟩ := by
  cases ho : o.op <;> rw [ho] at hc <;> simp only [compExt, reduceCtorEq] at hc
  case binOp op t x y yt =>
    split at hc
    · rename_i fields hu
      split at hc
      · rename_i hg
        simp only [Bool.and_eq_true, Bool.not_eq_true'] at hg
        have main : ∀ (neg : Bool) ks, plainFields P 0 fields.toList = some ks → cr ch (.eqs neg ks) [ρ x, ρ y] = some (q, c) → op = (if neg then .neq else .eql) → Good P E U w ch d (execOp a.eval o) ⟨p, c, ch, []⟩ := by
          intro neg ks hks hx hop
          simp only [cr] at hx
          split at hx
          rotate_left
          · cases hx
          rename_i cs ds h2
          have h2 := List.cons.inj h2
          have h3 := (List.cons.inj h2.2).1
          simp only [Option.map_eq_some_iff, Prod.mk.injEq] at hx
          obtain ⟨b, hb, rfl, rfl⟩ := hx
          obtain ⟨xs, e1, e2, e3, _⟩ := rep_agg (h2.1 ▸ hρ x)
          obtain ⟨ys, g1, g2, g3, _⟩ := rep_agg (h3 ▸ hρ y)
          have hf := run_eqFields (P := P) (w := w) (E := E) (U := U) (h := w.heap) 9998 xs ys fields.toList 0 ks cs ds b hks hb (by rw [e2]; simp) (by rw [g2]; simp) (fun j c hj => by simpa using e3 j c hj) (fun j c hj => by simpa using g3 j c hj)
          have hs := run_equalIn_struct (P := P) w 9999 t xs ys (by rw [fieldsOf_eq hu]; exact hu) hg.1
          rw [fieldsOf_eq hu, hf] at hs
          have hgd : ∀ op, (eqGuard op t x y (.agg xs) (.agg ys)).run P w = .ok () w := fun op => run_eqGuard_agg w op t x y xs ys hg.2
          refine good_pure hi ?_ (.d (.s _))
          subst hop
          cases neg with
          | false => simp [execOp, ho, e1, g1, hgd, run_eql_struct, hs]
          | true => simp [execOp, ho, e1, g1, hgd, run_neq_struct, hs]
        split at hc
        · rename_i ks hk; cases hc; exact main false ks hk he rfl
        · rename_i ks hk; cases hc; exact main true ks hk he rfl
        · cases hc
      · cases hc
    · rename_i el hu
      have main : ∀ (neg : Bool), y = .const (.slice none 0 0) → cr ch (.isnil neg) [ρ x] = some (q, c) → op = (if neg then .neq else .eql) → Good P E U w ch d (execOp a.eval o) ⟨p, c, ch, []⟩ := by
        intro neg hy hx hop
        have fin : ∀ (ad : Option Addr) (l cap : Nat), a.eval x = .slice ad l cap → c = .s (.bool (if neg then !ad.isNone else ad.isNone)) → Good P E U w ch d (execOp a.eval o) ⟨p, c, ch, []⟩ := by
          intro ad l cap h1 h2
          subst h2 hy
          have hey : a.eval (.const (.slice none 0 0)) = .slice none 0 0 := rfl
          have hgd : ∀ op, eqGuard op t x (.const (.slice none 0 0)) (.slice ad l cap) (.slice none 0 0) = pure () := fun op => by cases op <;> rfl
          refine good_pure hi ?_ (.d (.s _))
          subst hop
          cases neg with
          | false => simp [execOp, ho, h1, hey, hgd, binOp, run_equal_slice_nil w t el ad l cap hu]
          | true => simp [execOp, ho, h1, hey, hgd, run_neq_slice_nil w t el ad l cap hu]
        simp only [cr] at hx
        split at hx
        · rename_i h2
          have h2 := (List.cons.inj h2).1
          cases hx
          refine fin none 0 0 (rep_s (h2 ▸ hρ x)) ?_
          cases neg <;> rfl
        · rename_i n e0 es h2
          have h2 := (List.cons.inj h2).1
          cases hx
          have hr := rep_sl (h2 ▸ hρ x)
          generalize hv : a.eval x = v at hr
          cases hr with
          | sl _ b off cap sz arr ty fz vf hU hb hcap hmax hsz hv hr =>
            refine fin _ _ _ hv ?_
            cases neg <;> rfl
        · rename_i k h2
          have h2 := (List.cons.inj h2).1
          split at hx
          · rename_i n ty e0 es hl
            cases hx
            have hck := hi.ok k _ (lk_mem hl)
            obtain ⟨⟨_, _, _, hn | hn⟩, _⟩ := hck
            · exact absurd hn.2 (by simp)
            · rcases rep_own (h2 ▸ hρ x) with ⟨hn2, hv⟩ | ⟨hn2, hv⟩
              · rw [hn.1] at hn2; cases hn2
              · refine fin _ _ _ hv ?_
                cases neg <;> rfl
          · cases hx
        · cases hx
      split at hc
      · cases hc; exact main false rfl he rfl
      · cases hc; exact main true rfl he rfl
      · cases hc
    · cases hc
      simp only [cr, List.map_cons, List.map_nil] at he
      split at he
      rotate_left
      · cases he
      rename_i a1 b1 c1 d1 h2
      have h2 := List.cons.inj h2
      have h3 := (List.cons.inj h2.2).1
      simp only [Option.map_eq_some_iff, Prod.mk.injEq, Prod.exists] at he
      obtain ⟨x', y', hb, rfl, rfl⟩ := he
      have r1 := rep_s (h2.1 ▸ hρ x)
      have r2 := rep_s (h3 ▸ hρ y)
      have hgd : eqGuard op t x y (.complex .f64 a1 b1) (.complex .f64 c1 d1) = pure () := by cases op <;> rfl
      have hbin : binOp op t (.complex .f64 a1 b1) (.complex .f64 c1 d1) = Op.complexOp op .f64 a1 b1 c1 d1 := by cases op <;> simp [binOp]
      exact good_pure hi (by simp [execOp, ho, r1, r2, hgd, hbin, run_cArith hb]) (.d (.s _))
    · cases hc
      simp only [cr, List.map_cons, List.map_nil] at he
      split at he
      rotate_left
      · cases he
      rename_i a1 b1 h2
      have h2 := List.cons.inj h2
      have h3 := (List.cons.inj h2.2).1
      simp only [Option.map_eq_some_iff, Prod.mk.injEq] at he
      obtain ⟨x', hb, rfl, rfl⟩ := he
      have r1 := rep_s (h2.1 ▸ hρ x)
      have r2 := rep_s (h3 ▸ hρ y)
      have hgd : eqGuard op t x y (.float .f64 a1) (.float .f64 b1) = pure () := by cases op <;> rfl
      have hbin : binOp op t (.float .f64 a1) (.float .f64 b1) = Op.floatArith op .f64 a1 b1 := by
        unfold fArith at hb
        split at hb <;> simp [binOp] at hb ⊢
      exact good_pure hi (by simp [execOp, ho, r1, r2, hgd, hbin, run_fArith hb]) (.d (.s _))
    · cases hc
  case convert src dst x =>
    split at hc
    · rename_i k0 h1 h2
      cases hc
      simp only [cr, List.map_cons, List.map_nil] at he
      split at he
      rotate_left
      · cases he
      rename_i k n g2
      have g2 := (List.cons.inj g2).1
      cases he
      have r1 := rep_s (g2 ▸ hρ x)
      exact good_pure hi (by simp [execOp, ho, r1, convert, run_underlying h1, run_underlying h2, Conv.intToFloat]) (.d (.s _))
    · rename_i k0 h1 h2
      cases hc
      simp only [cr, List.map_cons, List.map_nil] at he
      split at he
      rotate_left
      · cases he
      rename_i b g2
      have g2 := (List.cons.inj g2).1
      simp only [Option.map_eq_some_iff, Prod.mk.injEq] at he
      obtain ⟨n, hn, rfl, rfl⟩ := he
      have r1 := rep_s (g2 ▸ hρ x)
      exact good_pure hi (by simp [execOp, ho, r1, convert, run_underlying h1, run_underlying h2, Conv.floatToInt, hn, hq]) (.d (.s _))
    · rename_i e0 h1 h2
      split at hc
      rotate_left
      · cases hc
      rename_i h3
      cases hc
      simp only [cr, List.map_cons, List.map_nil] at he
      split at he
      rotate_left
      · cases he
      rename_i e1 es1 g2
      have g2 := (List.cons.inj g2).1
      simp only [Option.map_eq_some_iff, Prod.mk.injEq] at he
      obtain ⟨xs, hn, rfl, rfl⟩ := he
      obtain ⟨b1, b2⟩ := bytesL_get hn
      have r1 : Rep E U w.heap (.sl 1 (e1 :: es1)) (a.eval x) := g2 ▸ hρ x
      generalize he : e1 :: es1 = es at *
      generalize hv : a.eval x = v at *
      have hlen : 0 < es.length := by rw [← he]; simp
      cases r1 with
      | d hd =>
        cases hd with
        | sl0 => simp at hlen
        | sl _ b off cap _ arr ty fz vf hUb hb hcap hmax hsz hv' hr =>
          refine good_pure hi ?_ (.d (.s _))
          have hcell : ∀ i, i < es.length → w.cell? ⟨b, off + i, none⟩ = some (.int .u8 (xs.getD i 0)) := fun i hi' => by
            have q1 := b2 i hi'
            obtain ⟨q2, _⟩ := hv' i _ 0 _ q1 rfl
            have q3 := hr i _ 0 _ q1 rfl
            have q4 : vf i 0 = .int .u8 (xs.getD i 0) := by generalize vf i 0 = qq at q3; cases q3; rfl
            rw [q4] at q2
            have e : off + i * 1 + 0 = off + i := by omega
            rw [e] at q2
            simp only [World.cell?, hb]
            simpa using q2
          have := run_convert_bytes_arg (P := P) w _ e0 h1 h3 b off es.length cap xs b1 hcell _ h2
          simp [execOp, ho, hv, this]
    · cases hc
  case call cl =>
    obtain ⟨callee, args, argTypes⟩ := cl
    have rv : ∀ (j : Nat) c v, (args.toList.map ρ)[j]? = some c → (args.toList.map a.eval)[j]? = some v → Rep E U w.heap c v := fun j c v h1 h2 => by
      simp only [List.getElem?_map, Option.map_eq_some_iff] at h1 h2
      obtain ⟨x, g1, rfl⟩ := h1
      obtain ⟨x', g1', rfl⟩ := h2
      rw [g1] at g1'; cases g1'; exact hρ x
    have arg1 : ∀ c0, args.toList.map ρ = [c0] → ∃ x, args = #[x] ∧ c0 = ρ x := fun c0 h => by
      cases args; rename_i l; simp at h
      match l, h with
      | [x], h => simp at h; exact ⟨x, rfl, h.symm⟩
    have mx : ∀ m, cr ch (.mx m) (args.toList.map ρ) = some (q, c) → callee = .builtin (if m then .max else .min) → Good P E U w ch d (execOp a.eval o) ⟨p, c, ch, []⟩ := fun m hx hcal => by
      simp only [cr] at hx
      split at hx
      rotate_left
      · cases hx
      rename_i k n l g
      simp only [Option.map_eq_some_iff, Prod.mk.injEq] at hx
      obtain ⟨r, hr, rfl, rfl⟩ := hx
      cases args; rename_i al
      simp only at g rv
      match al, g, rv with
      | x :: al, g, rv =>
        simp only [List.map_cons, List.cons.injEq] at g
        have r1 := rep_s (g.1 ▸ hρ x)
        have hm := run_mxL (P := P) (w := w) (E := E) (U := U) (h := w.heap) (m := m) (k := k) l (al.map a.eval) n r hr (by rw [← g.2]; simp) (fun j c v h1 h2 => rv (j + 1) c v (by rw [← g.2] at h1; simpa using h1) (by simpa using h2))
        refine good_pure hi ?_ (.d (.s _))
        refine execOp_bi (w' := w) (by rw [ho, hcal]) (fun consts => ?_)
        cases m with
        | true =>
          simp only [if_true] at hm
          simp [builtin, Builtin.max_, r1, hm]
        | false =>
          simp only [Bool.false_eq_true, if_false] at hm
          simp [builtin, Builtin.min_, r1, hm]
    split at hc
    · rename_i hcal; simp only at hcal; cases hc; exact mx true he hcal
    · rename_i hcal; simp only at hcal; cases hc; exact mx false he hcal
    · rename_i hcal; simp only at hcal; cases hc
      simp only [cr] at he
      split at he
      rotate_left
      · cases he
      rename_i n m g
      cases he
      cases args; rename_i al
      simp only at g
      have hlen : al.length = 2 := by have := congrArg List.length g; simpa using this
      obtain ⟨x, y, rfl⟩ : ∃ x y, al = [x, y] := by
        match al, hlen with
        | [x, y], _ => exact ⟨x, y, rfl⟩
      simp only [List.map_cons, List.map_nil, List.cons.injEq, and_true] at g
      have r1 := rep_s (g.1 ▸ hρ x)
      have r2 := rep_s (g.2 ▸ hρ y)
      refine good_pure hi ?_ (.d (.s _))
      refine execOp_bi (w' := w) (by rw [ho, hcal]) (fun consts => ?_)
      simp [builtin, r1, r2, run_complex]
    · rename_i hcal; simp only at hcal; cases hc
      simp only [cr] at he
      split at he
      rotate_left
      · cases he
      rename_i n m g
      cases he
      obtain ⟨x, rfl, g'⟩ := arg1 _ g
      have r1 := rep_s (g' ▸ hρ x)
      refine good_pure hi ?_ (.d (.s _))
      refine execOp_bi (w' := w) (by rw [ho, hcal]) (fun consts => ?_)
      simp [builtin, run_real, r1]
    · rename_i hcal; simp only at hcal; cases hc
      simp only [cr] at he
      split at he
      rotate_left
      · cases he
      rename_i n m g
      cases he
      obtain ⟨x, rfl, g'⟩ := arg1 _ g
      have r1 := rep_s (g' ▸ hρ x)
      refine good_pure hi ?_ (.d (.s _))
      refine execOp_bi (w' := w) (by rw [ho, hcal]) (fun consts => ?_)
      simp [builtin, run_imag, r1]
    · cases hc
theorem opF_sound {own : Bool} {a : Act} {o : Oper} {aop : AOp} {ρ : Operand → C} {ef : Eff} (hi : Inv E U w.heap ch) (hρ : ∀ x, Rep E U w.heap (ρ x) (a.eval x)) (hc : compOp P own o.op o.type = some aop) (he : cV ρ ch d aop = some ef) (hcond : ef.cond) :
    Good P E U w ch d (execOp a.eval o) ef := by
  unfold compOp at hc
  split at hc
  · rename_i e aS hx
    cases hc
    simp only [cV, Option.map_eq_some_iff, Prod.exists] at he
    obtain ⟨q, c, h1, rfl⟩ := he
    exact ext_ok hi hρ hx h1 hcond
  · exact opF_sound0 hi hρ hc he hcond
end Go.Am
end
section
namespace Go.Am
variable {P : Program} {E : Env} {U : Nat → Prop} {w : World} {ch : Chs} {d : Nat}
class Glob (P : Program) where
  gl : List (Nat × List C)
  inv : (Nat → Prop) → Array Obj → Prop := fun _ _ => True
  mono : ∀ (U U' : Nat → Prop) (h h' : Array Obj), inv U h → (∀ b, U b → U' b ∧ h'[b]? = h[b]?) → inv U' h' := by intros; trivial
def GlobOk (P : Program) [Glob P] (U : Nat → Prop) (h : Array Obj) : Prop :=
  (∀ g cs, lk (Glob.gl P) g = some cs → ∀ E, Rep E U h (.ref cs) (.pointer (some ⟨g, 0, none⟩))) ∧ Glob.inv P U h
theorem GlobOk.mono [Glob P] {U U' : Nat → Prop} {h h' : Array Obj} (hg : GlobOk P U h) (hk : ∀ b, U b → U' b ∧ h'[b]? = h[b]?) : GlobOk P U' h' :=
  ⟨fun g cs hm E => (hg.1 g cs hm E).same hk, Glob.mono U U' h h' hg.2 hk⟩
def ArgsR (E : Env) (U : Nat → Prop) (h : Array Obj) (cs : List C) (vs : Array Value) : Prop :=
  vs.size = cs.length ∧ ∀ (j : Nat) (c : C), cs[j]? = some c → Rep E U h c (vs.getD j undef)
structure CEv (E : Env) (U : Nat → Prop) (w : World) (ch : Chs) (E' : Env) (U' : Nat → Prop) (w' : World) (ch' : Chs) : Prop where
  os : w'.os = w.os
  tape : w'.tape = w.tape
  output : w'.output = w.output
  size : w.heap.size ≤ w'.heap.size
  keep : ∀ b, U b → U' b ∧ w'.heap[b]? = w.heap[b]?
  rest : ∀ b, b < w.heap.size → (∀ k c, (k, c) ∈ ch → ¬ (E k).fp b) → w'.heap[b]? = w.heap[b]?
  live : ∀ k c, (k, c) ∈ ch' → ∀ b, (E' k).fp b → w.heap.size ≤ b ∨ ∃ k0 c0, (k0, c0) ∈ ch ∧ (E k0).fp b
  newU : ∀ b, U' b → U b ∨ w.heap.size ≤ b ∨ ∃ k0 c0, (k0, c0) ∈ ch ∧ (E k0).fp b
  boxes : ∀ k cs, (k, .box cs) ∈ ch' → (∃ c, (k, c) ∈ ch) → (∃ cs0, (k, .box cs0) ∈ ch) ∧ (E' k).toKE0 = (E k).toKE0
  inv : Inv E' U' w'.heap ch'
def FnOk (P : Program) (f : FuncId) : Prop := ∃ fn, P.funcs[f]? = some fn ∧ (fn.name == "runtime.NumGoroutine") = false ∧ fn.body.isNone = false
def FC (P : Program) [Glob P] (f : FuncId) (args : List C) (chs : Chs) (r : C) (chs' : Chs) : Prop :=
  FnOk P f ∧ ∀ (E : Env) (U : Nat → Prop) (vs : Array Value) (w : World), GlobOk P U w.heap → ArgsR E U w.heap args vs → Inv E U w.heap chs →
    Calls P f vs w fun e w' => ∃ v E' U', e = .returned v ∧ Rep E' U' w'.heap r v ∧ CEv E U w chs E' U' w' chs'
def rn (m : List (Nat × Nat)) (k : Nat) : Nat := (lk m k).getD k
def bS (m : List (Nat × Nat)) : C → C
  | .own k => .own (rn m k)
  | .ptr k off => .ptr (rn m k) off
  | .eptr k i j => .eptr (rn m k) i j
  | .inn k i => .inn (rn m k) i
  | .iptr k i n j => .iptr (rn m k) i n j
  | .agg cs => .agg (renCs m cs)
  | .tup cs => .tup (renCs m cs)
  | .fn f xs ys => .fn f (renCs m xs) (renCs m ys)
  | c => c
where renCs (m : List (Nat × Nat)) : List C → List C
  | [] => []
  | c :: cs => bS m c :: renCs m cs
theorem renCs_eq (m : List (Nat × Nat)) : ∀ cs, bS.renCs m cs = cs.map (bS m)
  | [] => by simp [bS.renCs]
  | c :: cs => by simp [bS.renCs, renCs_eq m cs]
def aI (m : List (Nat × Nat)) : Ch → Ch
  | .box cs => .box (cs.map (bS m))
  | x => x
def aN (m : List (Nat × Nat)) : Chs → Chs
  | [] => []
  | (k, c) :: r => (rn m k, aI m c) :: aN m r
theorem renChs_eq (m : List (Nat × Nat)) : ∀ ch, aN m ch = ch.map fun p => (rn m p.1, aI m p.2)
  | [] => rfl
  | (k, c) :: r => by simp [aN, renChs_eq m r]
theorem mem_renChs {m : List (Nat × Nat)} {ch : Chs} {k : Nat} {c : Ch} (h : (k, c) ∈ aN m ch) : ∃ k0 c0, (k0, c0) ∈ ch ∧ k = rn m k0 ∧ c = aI m c0 := by
  rw [renChs_eq] at h
  obtain ⟨⟨k0, c0⟩, h1, h2⟩ := List.mem_map.1 h
  cases h2
  exact ⟨k0, c0, h1, rfl, rfl⟩
theorem renChs_mem {m : List (Nat × Nat)} {ch : Chs} {k : Nat} {c : Ch} (h : (k, c) ∈ ch) : (rn m k, aI m c) ∈ aN m ch := by
  rw [renChs_eq]; exact List.mem_map.2 ⟨_, h, rfl⟩
def keysIn (ks : List Nat) : C → Prop
  | .own k => k ∈ ks
  | .ptr k _ => k ∈ ks
  | .eptr k _ _ => k ∈ ks
  | .inn k _ => k ∈ ks
  | .iptr k _ _ _ => k ∈ ks
  | .agg cs => keysIns ks cs
  | .tup cs => keysIns ks cs
  | .fn _ xs ys => keysIns ks xs ∧ keysIns ks ys
  | _ => True
where keysIns (ks : List Nat) : List C → Prop
  | [] => True
  | c :: cs => keysIn ks c ∧ keysIns ks cs
theorem keysIns_all {ks : List Nat} : ∀ {cs : List C}, keysIn.keysIns ks cs → ∀ c ∈ cs, keysIn ks c
  | [], _, c, h => by simp at h
  | x :: xs, hf, c, h => by
    simp only [keysIn.keysIns] at hf
    rcases List.mem_cons.1 h with h | h
    · rw [h]; exact hf.1
    · exact keysIns_all hf.2 c h
theorem keysIns_of {ks : List Nat} : ∀ {cs : List C}, (∀ c ∈ cs, keysIn ks c) → keysIn.keysIns ks cs
  | [], _ => trivial
  | x :: xs, hf => ⟨hf x List.mem_cons_self, keysIns_of fun c h => hf c (List.mem_cons_of_mem _ h)⟩
def keysCh (ks : List Nat) : Ch → Prop
  | .box cs => keysIn.keysIns ks cs
  | _ => True
theorem Rep.env {E E' : Env} {U : Nat → Prop} {h : Array Obj} {c : C} {v : Value} {ks : List Nat} (hr : Rep E U h c v) (hk : keysIn ks c) (he : ∀ k ∈ ks, E' k = E k) : Rep E' U h c v := by
  induction hr with
  | d hd => exact .d hd
  | ref cs b off arr ty fz vf hU hb hv hr => exact .ref cs b off arr ty fz vf hU hb hv hr
  | agg cs vs hl hr h1 ih => exact .agg cs vs hl (fun j c hj => ih j c hj (keysIns_all (by simpa only [keysIn] using hk) c (List.mem_of_getElem? hj))) h1
  | tup cs vs hl hr ih => exact .tup cs vs hl (fun j c hj => ih j c hj (keysIns_all (by simpa only [keysIn] using hk) c (List.mem_of_getElem? hj)))
  | fn f xs ys vs ws hl hr hl' hr' ih ih' =>
    simp only [keysIn] at hk
    exact .fn f xs ys vs ws hl (fun j c hj => ih j c hj (keysIns_all hk.1 c (List.mem_of_getElem? hj))) hl' (fun j c hj => ih' j c hj (keysIns_all hk.2 c (List.mem_of_getElem? hj)))
  | own k => simp only [keysIn] at hk; rw [← he k hk]; exact .own k
  | ptr k off => simp only [keysIn] at hk; rw [← he k hk]; exact .ptr k off
  | eptr k i j => simp only [keysIn] at hk; rw [← he k hk]; exact .eptr k i j
  | inn k i => simp only [keysIn] at hk; rw [← he k hk]; exact .inn k i
  | iptr k i n j => simp only [keysIn] at hk; rw [← he k hk]; exact .iptr k i n j
theorem Rep.unren {m : List (Nat × Nat)} {h : Array Obj} {c0 : C} {v : Value} (hr : Rep E U h c0 v) : ∀ c, bS m c = c0 → Rep (fun k => E (rn m k)) U h c v := by
  induction hr with
  | @d c0 v hd =>
    intro c hc
    have : c = c0 := by
      cases hd <;> cases c <;> simp only [bS] at hc <;> first | exact hc | rfl | cases hc
    subst this; exact .d hd
  | ref cs b off arr ty fz vf hU hb hv hr =>
    intro c hc
    cases c <;> simp only [bS] at hc <;> cases hc
    exact .ref _ b off arr ty fz vf hU hb hv hr
  | agg cs vs hl hr h1 ih =>
    intro c hc
    cases c <;> simp only [bS, renCs_eq] at hc <;> cases hc
    refine .agg _ vs (by simpa using hl) (fun j c hj => ih j (bS m c) (by simp [hj]) c rfl) h1
  | tup cs vs hl hr ih =>
    intro c hc
    cases c <;> simp only [bS, renCs_eq] at hc <;> cases hc
    exact .tup _ vs (by simpa using hl) (fun j c hj => ih j (bS m c) (by simp [hj]) c rfl)
  | fn f xs ys vs ws hl hr hl' hr' ih ih' =>
    intro c hc
    cases c <;> simp only [bS, renCs_eq] at hc <;> cases hc
    exact .fn f _ _ vs ws (by simpa using hl) (fun j c hj => ih j (bS m c) (by simp [hj]) c rfl) (by simpa using hl') (fun j c hj => ih' j (bS m c) (by simp [hj]) c rfl)
  | own k =>
    intro c hc
    cases c <;> simp only [bS] at hc <;> cases hc
    exact Rep.own (E := fun k => E (rn m k)) _
  | ptr k off =>
    intro c hc
    cases c <;> simp only [bS] at hc <;> cases hc
    exact Rep.ptr (E := fun k => E (rn m k)) _ _
  | eptr k i j =>
    intro c hc
    cases c <;> simp only [bS] at hc <;> cases hc
    exact Rep.eptr (E := fun k => E (rn m k)) _ _ _
  | inn k i =>
    intro c hc
    cases c <;> simp only [bS] at hc <;> cases hc
    exact Rep.inn (E := fun k => E (rn m k)) _ _
  | iptr k i n j =>
    intro c hc
    cases c <;> simp only [bS] at hc <;> cases hc
    exact Rep.iptr (E := fun k => E (rn m k)) _ _ _ _
theorem Rep.ren {m : List (Nat × Nat)} {E1 E' : Env} {ks : List Nat} {h : Array Obj} {c : C} {v : Value} (hr : Rep E1 U h c v) (hk : keysIn ks c) (he : ∀ k ∈ ks, E' (rn m k) = E1 k) : Rep E' U h (bS m c) v := by
  induction hr with
  | d hd =>
    cases hd with
    | any v => exact .d (.any _)
    | s v => exact .d (.s _)
    | sl0 sz a cap hc => exact .d (.sl0 _ _ _ hc)
    | sl es b off cap sz arr ty fz vf hU hb hcap hmax hsz hv hr => exact .d (.sl es b off cap sz arr ty fz vf hU hb hcap hmax hsz hv hr)
  | ref cs b off arr ty fz vf hU hb hv hr => exact .ref cs b off arr ty fz vf hU hb hv hr
  | agg cs vs hl hr h1 ih =>
    simp only [bS, renCs_eq]
    refine .agg _ vs (by simpa using hl) (fun j c hj => ?_) h1
    simp only [List.getElem?_map, Option.map_eq_some_iff] at hj
    obtain ⟨c0, h0, rfl⟩ := hj
    exact ih j c0 h0 (keysIns_all (by simpa only [keysIn] using hk) c0 (List.mem_of_getElem? h0))
  | tup cs vs hl hr ih =>
    simp only [bS, renCs_eq]
    refine .tup _ vs (by simpa using hl) (fun j c hj => ?_)
    simp only [List.getElem?_map, Option.map_eq_some_iff] at hj
    obtain ⟨c0, h0, rfl⟩ := hj
    exact ih j c0 h0 (keysIns_all (by simpa only [keysIn] using hk) c0 (List.mem_of_getElem? h0))
  | fn f xs ys vs ws hl hr hl' hr' ih ih' =>
    simp only [keysIn] at hk
    simp only [bS, renCs_eq]
    refine .fn f _ _ vs ws (by simpa using hl) (fun j c hj => ?_) (by simpa using hl') (fun j c hj => ?_)
    · simp only [List.getElem?_map, Option.map_eq_some_iff] at hj
      obtain ⟨c0, h0, rfl⟩ := hj
      exact ih j c0 h0 (keysIns_all hk.1 c0 (List.mem_of_getElem? h0))
    · simp only [List.getElem?_map, Option.map_eq_some_iff] at hj
      obtain ⟨c0, h0, rfl⟩ := hj
      exact ih' j c0 h0 (keysIns_all hk.2 c0 (List.mem_of_getElem? h0))
  | own k => simp only [keysIn] at hk; rw [← he k hk]; exact .own _
  | ptr k off => simp only [keysIn] at hk; rw [← he k hk]; exact .ptr _ off
  | eptr k i j => simp only [keysIn] at hk; rw [← he k hk]; exact .eptr _ i j
  | inn k i => simp only [keysIn] at hk; rw [← he k hk]; exact .inn _ i
  | iptr k i n j => simp only [keysIn] at hk; rw [← he k hk]; exact .iptr _ i n j
theorem renC_isl {m : List (Nat × Nat)} {c : C} {n : Nat} {t : TypeId} {es : List (List C)} : bS m c = .isl n t es ↔ c = .isl n t es := by
  constructor
  · intro h; cases c <;> simp only [bS] at h <;> first | exact h | cases h
  · rintro rfl; rfl
theorem boxI_ren {m : List (Nat × Nat)} (cs : List C) : boxI (cs.map (bS m)) = boxI cs := by
  funext j
  simp only [boxI, List.getElem?_map]
  cases hc : cs[j]? with
  | none => rfl
  | some c =>
    simp only [Option.map_some]
    cases c <;> rfl
theorem ChOk.unren {m : List (Nat × Nat)} {h : Array Obj} {k : Nat} {c : Ch} (hc : ChOk E U h (rn m k) (aI m c)) : ChOk (fun k => E (rn m k)) U h k c := by
  cases c with
  | box cs =>
    simp only [aI, ChOk, boxI_ren] at hc
    obtain ⟨⟨hn, arr, ty, b1, b2, b3⟩, hf, hin⟩ := hc
    refine ⟨⟨hn, arr, ty, b1, by simpa using b2, fun j c hj => ?_⟩, hf, hin⟩
    rcases b3 j (bS m c) (by simp [hj]) with ⟨r1, r2⟩ | ⟨⟨n, t, es, he⟩, r2⟩
    · exact .inl ⟨r1.unren c rfl, r2⟩
    · exact .inr ⟨⟨n, t, es, renC_isl.1 he⟩, r2⟩
  | row sz ty es => exact hc
  | deep isz ity ty hole rows => exact hc
  | res R => exact hc
theorem ChOk.ren {m : List (Nat × Nat)} {E1 E' : Env} {ks : List Nat} {h : Array Obj} {k : Nat} {c : Ch} (hc : ChOk E1 U h k c) (hk : k ∈ ks) (hkc : keysCh ks c) (he : ∀ k ∈ ks, E' (rn m k) = E1 k) : ChOk E' U h (rn m k) (aI m c) := by
  cases c with
  | box cs =>
    obtain ⟨⟨hn, arr, ty, b1, b2, b3⟩, hf, hin⟩ := hc
    simp only [aI, ChOk, boxI_ren]
    rw [he k hk]
    refine ⟨⟨hn, arr, ty, b1, by simpa using b2, fun j c hj => ?_⟩, hf, hin⟩
    simp only [List.getElem?_map, Option.map_eq_some_iff] at hj
    obtain ⟨c0, h0, rfl⟩ := hj
    rcases b3 j c0 h0 with ⟨r1, r2⟩ | ⟨⟨n, t, es, rfl⟩, r2⟩
    · exact .inl ⟨r1.ren (keysIns_all hkc c0 (List.mem_of_getElem? h0)) he, r2⟩
    · exact .inr ⟨⟨n, t, es, rfl⟩, r2⟩
  | row sz ty es => simp only [aI, ChOk] at hc ⊢; rw [he k hk]; exact hc
  | deep isz ity ty hole rows => simp only [aI, ChOk] at hc ⊢; rw [he k hk]; exact hc
  | res R => simp only [aI, ChOk] at hc ⊢; rw [he k hk]; exact hc
theorem ChOk.env {E E' : Env} {U : Nat → Prop} {h : Array Obj} {k : Nat} {c : Ch} {ks : List Nat} (hc : ChOk E U h k c) (hk : k ∈ ks) (hb : keysCh ks c) (he : ∀ k ∈ ks, E' k = E k) : ChOk E' U h k c := by
  cases c with
  | box cs =>
    obtain ⟨⟨hn, arr, ty, b1, b2, b3⟩, hf, hin⟩ := hc
    simp only [ChOk]
    rw [he k hk]
    refine ⟨⟨hn, arr, ty, b1, b2, fun j c hj => ?_⟩, hf, hin⟩
    rcases b3 j c hj with ⟨r1, r2⟩ | r
    · exact .inl ⟨r1.env (keysIns_all hb c (List.mem_of_getElem? hj)) he, r2⟩
    · exact .inr r
  | _ => simp only [ChOk] at hc ⊢; rw [he k hk]; exact hc
theorem nodup_inj {α β : Type} {f : α → β} : ∀ {l : List α}, (l.map f).Nodup → ∀ a ∈ l, ∀ b ∈ l, f a = f b → a = b
  | [], _, a, h, _, _, _ => by simp at h
  | x :: l, hn, a, ha, b, hb, e => by
    simp only [List.map_cons, List.nodup_cons] at hn
    rcases List.mem_cons.1 ha with h1 | h1 <;> rcases List.mem_cons.1 hb with h2 | h2
    · rw [h1, h2]
    · exact absurd (List.mem_map.2 ⟨b, h2, by rw [← e, h1]⟩) hn.1
    · exact absurd (List.mem_map.2 ⟨a, h1, by rw [e, h2]⟩) hn.1
    · exact nodup_inj hn.2 a h1 b h2 e
theorem nodup_map_of {α β : Type} {f : α → β} : ∀ {l : List α}, l.Nodup → (∀ a ∈ l, ∀ b ∈ l, f a = f b → a = b) → (l.map f).Nodup
  | [], _, _ => by simp
  | x :: l, hn, hi => by
    simp only [List.nodup_cons] at hn
    simp only [List.map_cons, List.nodup_cons]
    refine ⟨fun h => ?_, nodup_map_of hn.2 (fun a ha b hb => hi a (List.mem_cons_of_mem _ ha) b (List.mem_cons_of_mem _ hb))⟩
    obtain ⟨y, hy, e⟩ := List.mem_map.1 h
    have := hi y (List.mem_cons_of_mem _ hy) x List.mem_cons_self e
    exact hn.1 (this ▸ hy)
theorem nodup_of_map {α β : Type} {f : α → β} : ∀ {l : List α}, (l.map f).Nodup → l.Nodup
  | [], _ => by simp
  | x :: l, hn => by
    simp only [List.map_cons, List.nodup_cons] at hn
    exact List.nodup_cons.2 ⟨fun h => hn.1 (List.mem_map.2 ⟨x, h, rfl⟩), nodup_of_map hn.2⟩
theorem FC.ren [Glob P] {f : FuncId} {args : List C} {chs : Chs} {r : C} {chs' : Chs} (hf : FC P f args chs r chs') (m : List (Nat × Nat)) (ks : List Nat) (hm : (ks.map (rn m)).Nodup)
    (hks : ∀ k c, (k, c) ∈ chs → k ∈ ks) (hks' : ∀ k c, (k, c) ∈ chs' → k ∈ ks ∧ keysCh ks c) (hr : keysIn ks r) : FC P f (args.map (bS m)) (aN m chs) (bS m r) (aN m chs') := by
  refine ⟨hf.1, fun E U vs w hg ha hi => ?_⟩
  have inj := nodup_inj hm
  have hargs : ArgsR (fun k => E (rn m k)) U w.heap args vs := ⟨by simpa using ha.1, fun j c hj => (ha.2 j (bS m c) (by simp [hj])).unren c rfl⟩
  have hinv : Inv (fun k => E (rn m k)) U w.heap chs := by
    refine ⟨?_, fun k c hc => (hi.ok _ _ (renChs_mem hc)).unren, fun k c k' c' hc hc' hne b hb => ?_, fun k c hc => hi.out _ _ (renChs_mem hc), fun k c hc => hi.fpl _ _ (renChs_mem hc), hi.lt⟩
    · have := hi.nd
      rw [renChs_eq, List.map_map] at this
      have e : ((fun x : Nat × Ch => x.1) ∘ fun p : Nat × Ch => (rn m p.1, aI m p.2)) = (fun k => rn m k) ∘ (fun x : Nat × Ch => x.1) := rfl
      rw [e, ← List.map_map] at this
      exact nodup_of_map this
    · exact hi.sep _ _ _ _ (renChs_mem hc) (renChs_mem hc') (fun e => hne (inj k (hks k c hc) k' (hks k' c' hc') e)) b hb
  refine (hf.2 _ U vs w hg hargs hinv).mono fun e w' h => ?_
  obtain ⟨v, E1', U', rfl, hrep, hce⟩ := h
  let E' : Env := fun j => match ks.find? (fun k => rn m k == j) with | some k => E1' k | none => E j
  have hE : ∀ k ∈ ks, E' (rn m k) = E1' k := fun k hk => by
    simp only [E']
    cases hfnd : ks.find? (fun k' => rn m k' == rn m k) with
    | none =>
      have := List.find?_eq_none.1 hfnd k hk
      simp at this
    | some k' =>
      have h1 := List.find?_some hfnd
      have h2 := List.mem_of_find?_eq_some hfnd
      have := inj k' h2 k hk (by simpa using h1)
      rw [this]
  refine ⟨v, E', U', rfl, hrep.ren hr hE, hce.os, hce.tape, hce.output, hce.size, hce.keep, fun b hb h => hce.rest b hb (fun k c hc => h _ _ (renChs_mem hc)), fun k c hc b hb => ?_, fun b hb => ?_, fun k cs hc hex => ?_, ?_⟩
  · obtain ⟨k0, c0, h0, rfl, rfl⟩ := mem_renChs hc
    rw [hE k0 (hks' k0 c0 h0).1] at hb
    rcases hce.live k0 c0 h0 b hb with g | ⟨k1, c1, g1, g2⟩
    · exact .inl g
    · exact .inr ⟨_, _, renChs_mem g1, g2⟩
  · rcases hce.newU b hb with g | g | ⟨k1, c1, g1, g2⟩
    · exact .inl g
    · exact .inr (.inl g)
    · exact .inr (.inr ⟨_, _, renChs_mem g1, g2⟩)
  · obtain ⟨k0, c0, h0, rfl, hcs⟩ := mem_renChs hc
    obtain ⟨c, hc2⟩ := hex
    obtain ⟨k1, c1, h1, e1, _⟩ := mem_renChs hc2
    have := inj k0 (hks' k0 c0 h0).1 k1 (hks k1 c1 h1) e1
    subst this
    cases c0 with
    | box cs0 =>
      obtain ⟨⟨cs1, g1⟩, g2⟩ := hce.boxes k0 cs0 h0 ⟨c1, h1⟩
      exact ⟨⟨_, renChs_mem g1⟩, by rw [hE k0 (hks' k0 _ h0).1]; exact g2⟩
    | _ => cases hcs
  · refine ⟨?_, fun k c hc => ?_, fun k c k' c' hc hc' hne b hb => ?_, fun k c hc b hb => ?_, fun k c hc b hb => ?_, hce.inv.lt⟩
    · rw [renChs_eq, List.map_map]
      have e : ((fun x : Nat × Ch => x.1) ∘ fun p : Nat × Ch => (rn m p.1, aI m p.2)) = (fun k => rn m k) ∘ (fun x : Nat × Ch => x.1) := rfl
      rw [e, ← List.map_map]
      exact nodup_map_of hce.inv.nd (fun a ha b hb => inj a (by obtain ⟨⟨k, c⟩, h1, rfl⟩ := List.mem_map.1 ha; exact (hks' k c h1).1) b (by obtain ⟨⟨k, c⟩, h1, rfl⟩ := List.mem_map.1 hb; exact (hks' k c h1).1))
    · obtain ⟨k0, c0, h0, rfl, rfl⟩ := mem_renChs hc
      exact (hce.inv.ok k0 c0 h0).ren (hks' k0 c0 h0).1 (hks' k0 c0 h0).2 hE
    · obtain ⟨k0, c0, h0, rfl, rfl⟩ := mem_renChs hc
      obtain ⟨k1, c1, h1, rfl, rfl⟩ := mem_renChs hc'
      rw [hE k0 (hks' k0 c0 h0).1] at hb
      rw [hE k1 (hks' k1 c1 h1).1]
      exact hce.inv.sep k0 c0 k1 c1 h0 h1 (fun e => hne (by rw [e])) b hb
    · obtain ⟨k0, c0, h0, rfl, rfl⟩ := mem_renChs hc
      rw [hE k0 (hks' k0 c0 h0).1] at hb
      exact hce.inv.out k0 c0 h0 b hb
    · obtain ⟨k0, c0, h0, rfl, rfl⟩ := mem_renChs hc
      rw [hE k0 (hks' k0 c0 h0).1] at hb
      exact hce.inv.fpl k0 c0 h0 b hb
end Go.Am
end
section
namespace Go.Am
variable {P : Program} {E : Env} {U : Nat → Prop} {w : World} {ch : Chs} {d : Nat}
def FW (ro : Option Nat) : Fence := { Fence.wide with round := ro }
theorem room_FW (ro : Option Nat) (n : Nat) : (FW ro).room n := fun _ h => by simp [FW, Fence.wide] at h
theorem callsIn_FW {ro : Option Nat} {n : Nat} {f : FuncId} {args : Array Value} {w : World} {R : Ending → World → Prop} (h : Calls P f args w R) : CallsIn (FW ro) n P f args w R :=
  (callsIn_wide (n := n)).2 h
theorem calls_FW {ro : Option Nat} {n : Nat} {f : FuncId} {args : Array Value} {w : World} {R : Ending → World → Prop} (h : CallsIn (FW ro) n P f args w R) : Calls P f args w R :=
  h.calls (fun k => room_FW ro k)
theorem op_value {ro : Option Nat} {a : Act} {o : Oper} {v : Value} {w' : World} {K : Act → World → Prop} {Q : Exit → Act → World → Prop} (hnd : ∀ c, o.op ≠ .defer c) (hr : (execOp a.eval o).run P w = .ok (.value v) w') (hK : K (a.put o.dst v) w') : o.wpIn (FW ro) 0 P a w K Q :=
  ⟨fun _ _ => trivial, by rw [Oper.semAt_eq _ _ _ hnd, hr]; exact hK⟩
theorem op_skip {ro : Option Nat} {a : Act} {o : Oper} {w' : World} {K : Act → World → Prop} {Q : Exit → Act → World → Prop} (hnd : ∀ c, o.op ≠ .defer c) (hr : (execOp a.eval o).run P w = .ok .skip w') (hK : K (a.put o.dst undef) w') : o.wpIn (FW ro) 0 P a w K Q :=
  ⟨fun _ _ => trivial, by rw [Oper.semAt_eq _ _ _ hnd, hr]; exact hK⟩
def cq : C → Option (FuncId × List C × List C)
  | .fn (.func f) xs ys => some (f, xs, ys)
  | .s (.func (.func f) xs ys) => some (f, xs.toList.map .s, ys.toList.map .s)
  | .s (.func (.via _ _ f _) _ _) => (fun _ => none) f
  | _ => none
theorem fnOf_rep {c : C} {f : FuncId} {xs ys : List C} {v : Value} {h : Array Obj} (hc : cq c = some (f, xs, ys)) (hr : Rep E U h c v) :
    ∃ vs ws : Array Value, v = .func (.func f) vs ws ∧ vs.size = xs.length ∧ (∀ (j : Nat) c, xs[j]? = some c → Rep E U h c (vs.getD j undef)) ∧ ws.size = ys.length ∧ (∀ (j : Nat) c, ys[j]? = some c → Rep E U h c (ws.getD j undef)) := by
  unfold cq at hc
  split at hc
  · cases hc; exact rep_fn hr
  · rename_i f' vs ws
    cases hc
    have g : ∀ a : Array Value, ∀ (j : Nat) c, (a.toList.map C.s)[j]? = some c → Rep E U h c (a.getD j undef) := fun a j c hj => by
      simp only [List.getElem?_map, Option.map_eq_some_iff, Array.getElem?_toList] at hj
      obtain ⟨v, h1, rfl⟩ := hj
      rw [getD_of_some h1]; exact .d (.s v)
    exact ⟨vs, ws, rep_s hr, by simp, g vs, by simp, g ws⟩
  · cases hc
  · cases hc
def cz (ch : Chs) (k i : Nat) : Option (Prop × C) := (bG ch k i).map fun (p, n, _, es) => (p, .sl n es)
def bf (ch : Chs) (bs : List Nat) : C → C
  | .own k =>
    if bs.contains k then
      match (lk ch k).bind cN with
      | some x => x
      | none => .own k
    else .own k
  | .inn k i =>
    if bs.contains k then
      match cz ch k i with
      | some (_, x) => x
      | none => .inn k i
    else .inn k i
  | .agg cs => .agg (viewCs ch bs cs)
  | c => c
where viewCs (ch : Chs) (bs : List Nat) : List C → List C
  | [] => []
  | c :: cs => bf ch bs c :: viewCs ch bs cs
def aY (ch : Chs) (bs : List Nat) : C → Prop
  | .inn k i =>
    if bs.contains k then
      match cz ch k i with
      | some (p, _) => p
      | none => True
    else True
  | .agg cs => viewOks ch bs cs
  | _ => True
where viewOks (ch : Chs) (bs : List Nat) : List C → Prop
  | [] => True
  | c :: cs => aY ch bs c ∧ viewOks ch bs cs
theorem viewCs_eq (bs : List Nat) : ∀ cs, bf.viewCs ch bs cs = cs.map (bf ch bs)
  | [] => by simp [bf.viewCs]
  | c :: cs => by simp [bf.viewCs, viewCs_eq bs cs]
theorem viewOks_all {bs : List Nat} : ∀ {cs : List C}, aY.viewOks ch bs cs → ∀ c ∈ cs, aY ch bs c
  | [], _, c, h => by simp at h
  | x :: xs, hf, c, h => by
    simp only [aY.viewOks] at hf
    rcases List.mem_cons.1 h with h | h
    · rw [h]; exact hf.1
    · exact viewOks_all hf.2 c h
def bA : C → Prop
  | .s _ => True
  | .sl _ es => es = []
  | .agg cs => flatCs cs
  | .tup cs => flatCs cs
  | .own _ => True
  | .ptr _ _ => True
  | _ => False
where flatCs : List C → Prop
  | [] => True
  | c :: cs => bA c ∧ flatCs cs
theorem flatCs_all : ∀ {cs : List C}, bA.flatCs cs → ∀ c ∈ cs, bA c
  | [], _, c, h => by simp at h
  | x :: xs, hf, c, h => by
    simp only [bA.flatCs] at hf
    rcases List.mem_cons.1 h with h | h
    · rw [h]; exact hf.1
    · exact flatCs_all hf.2 c h
def aG : Ch → Prop
  | .box cs => bA.flatCs cs
  | .row _ _ es => ∀ e ∈ es, ∀ c ∈ e, ∃ v, c = .s v
  | _ => False
theorem RepD.flat {U U' : Nat → Prop} {h : Array Obj} {c : C} {v : Value} (hr : RepD U h c v) (hf : bA c) : RepD U' h c v := by
  cases hr with
  | any => simp [bA] at hf
  | s v => exact .s v
  | sl0 sz a cap hc => exact .sl0 sz a cap hc
  | sl es b off cap sz arr ty fz vf hU hb hcap hmax hsz hv hr =>
    simp only [bA] at hf
    subst hf
    exact .sl0 sz _ cap hmax
theorem Rep.flat {U U' : Nat → Prop} {h : Array Obj} {c : C} {v : Value} (hr : Rep E U h c v) (hf : bA c) : Rep E U' h c v := by
  induction hr with
  | d hd => exact .d (hd.flat hf)
  | ref => simp [bA] at hf
  | agg cs vs hl hr h1 ih => exact .agg cs vs hl (fun j c hj => ih j c hj (flatCs_all (by simpa only [bA] using hf) c (List.mem_of_getElem? hj))) h1
  | tup cs vs hl hr ih => exact .tup cs vs hl (fun j c hj => ih j c hj (flatCs_all (by simpa only [bA] using hf) c (List.mem_of_getElem? hj)))
  | fn => simp [bA] at hf
  | own k => exact .own k
  | ptr k off => exact .ptr k off
  | eptr k i j => exact .eptr k i j
  | inn k i => exact .inn k i
  | iptr k i n j => exact .iptr k i n j
theorem ChOk.flat {U U' : Nat → Prop} {h : Array Obj} {k : Nat} {c : Ch} (hc : ChOk E U h k c) (hf : aG c) : ChOk E U' h k c := by
  cases c with
  | box cs =>
    obtain ⟨⟨hn, arr, ty, h1, h2, h3⟩, hfp, hin⟩ := hc
    have hno : ∀ (j : Nat) c, cs[j]? = some c → ay c = true := fun j c hj => by
      have := flatCs_all hf c (List.mem_of_getElem? hj)
      cases c <;> first | rfl | simp [bA] at this
    refine ⟨⟨hn, arr, ty, h1, h2, fun j c hj => ?_⟩, hfp, fun i n t es hi => by rw [boxI_none hno] at hi; cases hi⟩
    rcases h3 j c hj with ⟨r1, r2⟩ | r
    · exact .inl ⟨r1.flat (flatCs_all hf c (List.mem_of_getElem? hj)), r2⟩
    · exact .inr r
  | row sz ty es =>
    obtain ⟨⟨h1, h2, h3, h4⟩, hfp⟩ := hc
    refine ⟨⟨h1, h2, h3, ?_⟩, hfp⟩
    rcases h4 with h4 | ⟨h4, h5, h6, arr, h7, h8, h9⟩
    · exact .inl h4
    · refine .inr ⟨h4, h5, h6, arr, h7, h8, fun i e j c he hj => ?_⟩
      obtain ⟨v, rfl⟩ := hf e (List.mem_of_getElem? he) c (List.mem_of_getElem? hj)
      exact ⟨(h9 i e j _ he hj).1.flat trivial, (h9 i e j _ he hj).2⟩
  | _ => exact hf.elim
def aC (nk : List Nat) : Chs → List (Nat × Sb)
  | [] => nk.map fun k => (k, .c .any)
  | (k, .box _) :: r => (k, .inner) :: aC nk r
  | (k, _) :: r => (k, .c .any) :: aC nk r
theorem fallen_spec {nk : List Nat} : ∀ {chs : Chs} {k : Nat} {s : Sb}, (aC nk chs).lookup k = some s → s = .c .any ∨ (s = .inner ∧ ∃ cs, (k, Ch.box cs) ∈ chs)
  | [], k, s, h => by
    simp only [aC] at h
    left
    induction nk with
    | nil => simp at h
    | cons x l ih =>
      simp only [List.map_cons, List.lookup_cons] at h
      split at h
      · cases h; rfl
      · exact ih h
  | (j, .box cs) :: r, k, s, h => by
    simp only [aC, List.lookup_cons] at h
    split at h
    · rename_i hb
      have : k = j := by simpa using hb
      subst this; cases h
      exact .inr ⟨rfl, cs, List.mem_cons_self⟩
    · rcases fallen_spec h with g | ⟨g, cs', g'⟩
      · exact .inl g
      · exact .inr ⟨g, cs', List.mem_cons_of_mem _ g'⟩
  | (j, .row sz ty es) :: r, k, s, h | (j, .deep _ _ _ _ _) :: r, k, s, h | (j, .res _) :: r, k, s, h => by
    simp only [aC, List.lookup_cons] at h
    split at h
    · cases h; exact .inl rfl
    · rcases fallen_spec h with g | ⟨g, cs', g'⟩
      · exact .inl g
      · exact .inr ⟨g, cs', List.mem_cons_of_mem _ g'⟩
theorem fallen_none {nk : List Nat} : ∀ {chs : Chs} {k : Nat}, (aC nk chs).lookup k = none → k ∉ nk ∧ ∀ c, (k, c) ∉ chs
  | [], k, h => by
    simp only [aC] at h
    refine ⟨fun hm => ?_, fun c h => by simp at h⟩
    rw [List.lookup_eq_none_iff] at h
    have := h (k, .c .any) (List.mem_map.2 ⟨k, hm, rfl⟩)
    simp at this
  | (j, c0) :: r, k, h => by
    have g : (aC nk r).lookup k = none ∧ k ≠ j := by
      cases c0 <;> simp only [aC, List.lookup_cons] at h <;> split at h <;> first | cases h | (rename_i hb; exact ⟨h, fun e => by subst e; simp at hb⟩)
    obtain ⟨h1, h2⟩ := fallen_none g.1
    exact ⟨h1, fun c hm => by
      rcases List.mem_cons.1 hm with hm | hm
      · cases hm; exact g.2 rfl
      · exact h2 c hm⟩
def cj {α : Type} (t : List (Nat × α)) : List Nat → List (Nat × α)
  | [] => t
  | k :: ks => cj (cC t k) ks
theorem delN_sub {α : Type} : ∀ (ks : List Nat) (t : List (Nat × α)), (cj t ks).Sublist t
  | [], t => List.Sublist.refl _
  | k :: ks, t => (delN_sub ks _).trans (delA_sub t k)
theorem mem_delN {α : Type} : ∀ {ks : List Nat} {t : List (Nat × α)} {k : Nat} {c : α}, (t.map (·.1)).Nodup → (k, c) ∈ cj t ks → (k, c) ∈ t ∧ k ∉ ks
  | [], t, k, c, _, h => ⟨h, by simp⟩
  | x :: ks, t, k, c, hn, h => by
    obtain ⟨h1, h2⟩ := mem_delN (nd_delA hn) h
    refine ⟨mem_delA h1, fun hm => ?_⟩
    rcases List.mem_cons.1 hm with hm | hm
    · exact not_mem_delA hn (hm ▸ h1)
    · exact h2 hm
def aU (ch chs chs' : Chs) (nk : List Nat) : Chs :=
  match chs, chs', nk with
  | [], [], [] => ch
  | _, _, _ => chs' ++ a7 (aC nk chs) (cj (aX ch chs) nk)
structure CallR (P : Program) [Glob P] (ρ : Operand → C) (ch : Chs) (d : Nat) (fo : Operand) (aS : List Operand) (r : C) (chs chs' : Chs) (nk : List Nat) : Prop where
  ex : ∃ f first caps bs, cq (ρ fo) = some (f, first, caps) ∧ FC P f ((first ++ aS.map ρ ++ caps).map (bf ch bs)) chs r chs' ∧ (∀ c ∈ first ++ aS.map ρ ++ caps, aY ch bs c) ∧
    (∀ k c, (k, c) ∈ chs → lk ch k = some c ∧ k ∉ bs ∧ k ∉ nk) ∧ (bs = [] ∨ (bA r ∧ ∀ k c, (k, c) ∈ chs' → aG c))
  nd : (chs.map (·.1)).Nodup
  hnk : ∀ k cs, (k, .box cs) ∈ chs' → k ∈ nk → k < 100000
  new : ∀ k c, (k, c) ∈ chs' → k ∈ nk ∨ ∃ c0, (k, c0) ∈ chs
  old : ∀ k cs, (k, .box cs) ∈ chs → ∃ cs', (k, .box cs') ∈ chs'
  kr : keysIn (chs'.map (·.1)) r
  kc : ∀ k c, (k, c) ∈ chs' → keysCh (chs'.map (·.1)) c
def lentU (E : Env) (U : Nat → Prop) (ch : Chs) (bs : List Nat) : Nat → Prop := fun b => U b ∨ ∃ k c, k ∈ bs ∧ lk ch k = some c ∧ (E k).fp b
theorem view_rep {bs : List Nat} {c : C} {v : Value} (hi : Inv E U w.heap ch) (hr : Rep E U w.heap c v) : aY ch bs c → Rep E (lentU E U ch bs) w.heap (bf ch bs c) v := by
  have hk : ∀ b, U b → lentU E U ch bs b ∧ w.heap[b]? = w.heap[b]? := fun b hb => ⟨.inl hb, rfl⟩
  have up : ∀ c v, Rep E U w.heap c v → Rep E (lentU E U ch bs) w.heap c v := fun c v h => h.same hk
  induction hr with
  | d hd => intro _; cases hd <;> simp only [bf] <;> exact up _ _ (.d (by first | exact .any _ | exact .s _ | exact .sl0 _ _ _ ‹_› | exact .sl _ _ _ _ _ _ _ _ _ ‹_› ‹_› ‹_› ‹_› ‹_› ‹_› ‹_›))
  | ref cs b off arr ty fz vf hU hb hv hr => intro _; exact up _ _ (.ref cs b off arr ty fz vf hU hb hv hr)
  | agg cs vs hl hr h1 ih =>
    intro ho
    simp only [bf, viewCs_eq]
    simp only [aY] at ho
    refine .agg _ vs (by simpa using hl) (fun j c hj => ?_) h1
    simp only [List.getElem?_map, Option.map_eq_some_iff] at hj
    obtain ⟨c0, h0, rfl⟩ := hj
    exact ih j c0 h0 (viewOks_all ho c0 (List.mem_of_getElem? h0))
  | tup cs vs hl hr ih => intro _; exact up _ _ (.tup cs vs hl hr)
  | fn f xs ys vs ws hl hr hl' hr' => intro _; exact up _ _ (.fn f xs ys vs ws hl hr hl' hr')
  | own k =>
    intro _
    simp only [bf]
    by_cases hb : bs.contains k = true
    · rw [if_pos hb]
      cases hl : (lk ch k).bind cN with
      | none => exact up _ _ (.own k)
      | some x =>
        simp only [Option.bind_eq_some_iff] at hl
        obtain ⟨c0, hl, hx⟩ := hl
        exact .d (own_data (hi.ok k _ (lk_mem hl)) hx (Rep.own (E := E) (U := U) (h := w.heap) k) hk (fun b hf => ⟨.inr ⟨k, c0, by simpa using hb, hl, hf⟩, rfl⟩))
    · rw [if_neg hb]; exact up _ _ (.own k)
  | ptr k off => intro _; exact up _ _ (.ptr k off)
  | eptr k i j => intro _; exact up _ _ (.eptr k i j)
  | iptr k i n j => intro _; exact up _ _ (.iptr k i n j)
  | inn k i =>
    intro ho
    simp only [bf]
    simp only [aY] at ho
    by_cases hb : bs.contains k = true
    · rw [if_pos hb] at ho ⊢
      cases hl : cz ch k i with
      | none => exact up _ _ (.inn k i)
      | some q =>
        rw [hl] at ho
        obtain ⟨p, x⟩ := q
        simp only at ho
        simp only [cz, Option.map_eq_some_iff] at hl
        obtain ⟨⟨p', n, t, es⟩, hl, hq⟩ := hl
        simp only [Prod.mk.injEq] at hq
        obtain ⟨rfl, rfl⟩ := hq
        obtain ⟨c0, hl0, hI, _, hres⟩ := innOf_spec hl ho
        have hck := hi.ok k _ (lk_mem hl0)
        obtain ⟨hf, hin⟩ := hck.inns hres
        exact .d (row_data (hin i _ _ _ hI) hk (fun hn => ⟨.inr ⟨k, c0, by simpa using hb, hl0, (hf.fp _).2 (.inr ⟨i, _, hI, hn, rfl⟩)⟩, rfl⟩))
    · rw [if_neg hb]; exact up _ _ (.inn k i)
theorem run_callFunc {f : FuncId} {args : Array Value} (hf : FnOk P f) : (callFunc f args).run P w = .ok (.enter f args) w := by
  obtain ⟨fn, h1, h2, h3⟩ := hf
  have h2' : ¬ ((fn.name == "runtime.NumGoroutine") = true) := by rw [h2]; simp
  have h3' : ¬ (fn.body.isNone = true) := by rw [h3]; simp
  simp only [callFunc, Sem.run_bind, run_program, Result.andThen_ok, h1]
  rw [if_neg h2', if_neg h3']
  rfl
variable [Glob P] in
theorem call_sound0 {ro : Option Nat} {a : Act} {o : Oper} {fo : Operand} {aS : Array Operand} {ts : Array TypeId} {ρ : Operand → C} {r : C} {chs chs' : Chs} (hi : Inv E U w.heap ch) (hg : GlobOk P U w.heap) (hρ : ∀ x, Rep E U w.heap (ρ x) (a.eval x))
    (ho : o.op = .call { callee := .value fo, args := aS, argTypes := ts }) {nk : List Nat} (hc : CallR P ρ ch d fo aS.toList r chs chs' nk) {K : Act → World → Prop} {Q : Exit → Act → World → Prop}
    (hK : ∀ v E' U' w', Rep E' U' w'.heap r v → Ev E U w ch (aC nk chs) d E' U' w' (aU ch chs chs' nk) → (∀ k c, (k, c) ∈ ch → (∀ c0, (k, c0) ∉ chs) → ∀ b, (E k).fp b → w'.heap[b]? = w.heap[b]?) → K (a.put o.dst v) w') : o.wpIn (FW ro) 0 P a w K Q := by
  obtain ⟨⟨f, first, caps, bs, hfo, hFC, hvo, hchs, hflat⟩, hnd, hnkd, hnew, hold, hkr, hkc⟩ := hc
  obtain ⟨hfn, hFC⟩ := hFC
  obtain ⟨fv, cv, hev, hl1, hr1, hl2, hr2⟩ := fnOf_rep hfo (hρ fo)
  have hargs : ArgsR E (lentU E U ch bs) w.heap ((first ++ aS.toList.map ρ ++ caps).map (bf ch bs)) (fv ++ aS.map a.eval ++ cv) := by
    refine ⟨by simp [hl1, hl2], fun j c hj => ?_⟩
    simp only [List.getElem?_map, Option.map_eq_some_iff] at hj
    obtain ⟨c0, h0, rfl⟩ := hj
    refine view_rep hi ?_ (hvo c0 (List.mem_of_getElem? h0))
    simp only [Array.getD_eq_getD_getElem?]
    rw [List.append_assoc, List.getElem?_append] at h0
    rw [Array.append_assoc, Array.getElem?_append, hl1]
    split at h0
    · rename_i hlt
      rw [if_pos hlt]
      have := hr1 j c0 h0
      simpa [Array.getD_eq_getD_getElem?] using this
    · rename_i hlt
      rw [if_neg hlt, Array.getElem?_append]
      rw [List.getElem?_append] at h0
      simp only [Array.size_map]
      simp only [List.length_map, Array.length_toList] at h0
      split at h0
      · rename_i hlt2
        rw [if_pos hlt2]
        simp only [List.getElem?_map, Option.map_eq_some_iff, Array.getElem?_toList] at h0
        obtain ⟨x, hx, rfl⟩ := h0
        simp [hx, hρ x]
      · rename_i hlt2
        rw [if_neg hlt2]
        have := hr2 _ c0 h0
        simpa [Array.getD_eq_getD_getElem?] using this
  have hmem : ∀ k c, (k, c) ∈ chs → (k, c) ∈ ch := fun k c h => lk_mem (hchs k c h).1
  have hi1 := hi.sub hmem hnd
  have hlent : ∀ b, lentU E U ch bs b → b < w.heap.size := fun b hb => by
    rcases hb with hb | ⟨k, c, h1, h2, h3⟩
    · exact hi.lt b hb
    · exact hi.fpl k c (lk_mem h2) b h3
  have hup : ∀ b, U b → lentU E U ch bs b ∧ w.heap[b]? = w.heap[b]? := fun b hb => ⟨.inl hb, rfl⟩
  have hi2 : Inv E (lentU E U ch bs) w.heap chs := by
    refine ⟨hi1.nd, fun k c hc => (hi1.ok k c hc).same hup (fun _ _ => rfl), hi1.sep, fun k c hc b hb hu => ?_, hi1.fpl, hlent⟩
    rcases hu with hu | ⟨k', c', g1, g2, g3⟩
    · exact hi1.out k c hc b hb hu
    · have hne : k ≠ k' := fun e => (hchs k c hc).2.1 (e ▸ g1)
      exact hi.sep k c k' _ (hmem k c hc) (lk_mem g2) hne b hb g3
  have hcall := hFC E (lentU E U ch bs) _ w (hg.mono hup) hargs hi2
  have hrun : (execOp a.eval o).run P w = .ok (.enter f (fv ++ aS.map a.eval ++ cv)) w := by
    simp only [execOp, ho, resolve, hev, Deferred.ofValue, Sem.run_bind, Sem.run_pure, Result.andThen_ok, invoke, run_callFunc hfn]
  refine ⟨fun _ _ => trivial, ?_⟩
  rw [Oper.semAt_eq _ _ _ (by rw [ho]; simp), hrun, Oper.uponIn_enter]
  refine ⟨fun h => by simp [FW, Fence.wide] at h, callsIn_FW (hcall.mono fun e w' h => ?_)⟩
  obtain ⟨v, E', U', rfl, hrep, hce⟩ := h
  show K (a.put o.dst v) w'
  let ks := chs'.map (·.1)
  let E2 : Env := fun k => if k ∈ ks then E' k else E k
  have hE2in : ∀ k ∈ ks, E2 k = E' k := fun k hk => by simp only [E2, if_pos hk]
  have hE2out : ∀ k, k ∉ ks → E2 k = E k := fun k hk => by simp only [E2, if_neg hk]
  let U2 : Nat → Prop := fun b => U' b ∧ ¬ ∃ k c, k ∈ bs ∧ lk ch k = some c ∧ (E k).fp b
  have hnotlent : ∀ b, U b → ¬ ∃ k c, k ∈ bs ∧ lk ch k = some c ∧ (E k).fp b := fun b hb => by
    rintro ⟨k, c, h1, h2, h3⟩
    exact hi.out k _ (lk_mem h2) b h3 hb
  have hkeep : ∀ b, U b → U2 b ∧ w'.heap[b]? = w.heap[b]? := fun b hb => ⟨⟨(hce.keep b (.inl hb)).1, hnotlent b hb⟩, (hce.keep b (.inl hb)).2⟩
  have hr2 : Rep E2 U2 w'.heap r v := by
    have h1 := hrep.env hkr hE2in
    rcases hflat with hb | hf
    · exact h1.same fun b hb' => ⟨⟨hb', by rintro ⟨k, c, h1, _⟩; rw [hb] at h1; cases h1⟩, rfl⟩
    · exact h1.flat hf.1
  have hok2 : ∀ k c', (k, c') ∈ chs' → ChOk E2 U2 w'.heap k c' := fun k c' hm => by
    have h1 := (hce.inv.ok k c' hm).env (List.mem_map.2 ⟨_, hm, rfl⟩) (hkc k c' hm) hE2in
    rcases hflat with hb | hf
    · exact h1.same (fun b hb' => ⟨⟨hb', by rintro ⟨k, c, h1, _⟩; rw [hb] at h1; cases h1⟩, rfl⟩) (fun _ _ => rfl)
    · exact h1.flat (hf.2 k c' hm)
  have hkeyOld : ∀ k ∈ ks, k ∉ nk → ∃ c0, (k, c0) ∈ chs := fun k hk hd => by
    obtain ⟨⟨k', c'⟩, h1, h2⟩ := List.mem_map.1 hk
    simp only at h2
    subst h2
    rcases hnew k' c' h1 with h | h
    · exact absurd h hd
    · exact h
  have henv : ∀ k, (aC nk chs).lookup k = none → E2 k = E k := fun k hk => by
    obtain ⟨h1, h2⟩ := fallen_none hk
    refine hE2out k fun hm => ?_
    obtain ⟨c0, hc0⟩ := hkeyOld k hm h1
    exact h2 c0 hc0
  have henvI : ∀ k, (aC nk chs).lookup k = some .inner → (E2 k).toKE0 = (E k).toKE0 := fun k hk => by
    rcases fallen_spec hk with h | ⟨_, cs, h⟩
    · cases h
    · obtain ⟨cs', hc'⟩ := hold k cs h
      rw [hE2in k (List.mem_map.2 ⟨_, hc', rfl⟩)]
      exact (hce.boxes k cs' hc' ⟨_, h⟩).2
  have hsubv : ∀ k c', (aC nk chs).lookup k = some (.c c') → ∀ v, Rep E U w.heap (.own k) v → Rep E2 U2 w'.heap c' v := fun k c' h v _ => by
    rcases fallen_spec h with h | ⟨h, _⟩
    · cases h; exact .d (.any v)
    · cases h
  have hnd2 : ((aX ch chs).map (·.1)).Nodup := hi.nd.sublist ((delAll_sub chs ch).map _)
  have hdos : (cj (aX ch chs) nk).Sublist ch := (delN_sub nk _).trans (delAll_sub chs ch)
  have hrestm : ∀ k c, (k, c) ∈ cj (aX ch chs) nk → (k, c) ∈ ch ∧ k ∉ nk ∧ ∀ c0, (k, c0) ∉ chs := fun k c hm => by
    obtain ⟨h1, h1'⟩ := mem_delN hnd2 hm
    obtain ⟨h2, h3⟩ := mem_delAll hi.nd h1
    refine ⟨h2, h1', fun c0 hc0 => ?_⟩
    have := List.lookup_eq_none_iff.1 h3 (k, c0) hc0
    simp at this
  have hE2rest : ∀ k c, (k, c) ∈ cj (aX ch chs) nk → E2 k = E k := fun k c hm => by
    obtain ⟨h1, h2, h3⟩ := hrestm k c hm
    refine hE2out k fun hk => ?_
    obtain ⟨c0, hc0⟩ := hkeyOld k hk h2
    exact h3 c0 hc0
  have hks : ∀ k c, (k, c) ∈ chs' → k ∈ ks := fun k c h => List.mem_map.2 ⟨_, h, rfl⟩
  have hnotin : ∀ k c, (k, c) ∈ chs → ∀ c', (k, c') ∉ cj (aX ch chs) nk := fun k c h c' h' => (hrestm k c' h').2.2 c h
  have hcc : ∀ k c, (k, c) ∈ aU ch chs chs' nk ↔ (k, c) ∈ chs' ++ a7 (aC nk chs) (cj (aX ch chs) nk) := fun k c => by
    unfold aU
    split
    · simp only [List.nil_append, aC, aX, cj, List.map_nil]
      rw [subCh_nil]
    · exact Iff.rfl
  have hccn : ((aU ch chs chs' nk).map (·.1)).Nodup ∨ True := .inr trivial
  have hgen := Ev.gen (news := chs') (old := cj (aX ch chs) nk) (m := aC nk chs) (d := d) (E' := E2) (U' := U2) (w1 := w') hi hce.os hce.tape hce.output hce.size hdos hkeep henv henvI hsubv hE2rest
    (fun k c hm b hb => by
      obtain ⟨h1, h2, h3⟩ := hrestm k c hm
      exact hce.rest b (hi.fpl k c h1 b hb) (fun k' c' h' hb' => hi.sep k' c' k c (hmem k' c' h') h1 (fun e2 => h3 c' (e2 ▸ h')) b hb' hb))
    (fun b hb1 hb2 => hce.rest b hb1 (fun k c h => hb2 k c (hmem k c h))) hce.inv.nd
    (fun k c h c' h' => by
      obtain ⟨h1, h2, h3⟩ := hrestm k c' h'
      obtain ⟨c0, hc0⟩ := hkeyOld k (hks k c h) h2
      exact h3 c0 hc0) hok2
    (fun k c h b hb => by
      rw [hE2in k (hks k c h)] at hb
      rcases hce.live k c h b hb with g | ⟨k0, c0, g1, g2⟩
      · exact .inl g
      · exact .inr ⟨k0, c0, hmem k0 c0 g1, hnotin k0 c0 g1, g2⟩)
    (fun k c h b hb => by rw [hE2in k (hks k c h)] at hb; exact hce.inv.fpl k c h b hb)
    (fun k c k' c' h h' hne b hb => by
      rw [hE2in k (hks k c h)] at hb
      rw [hE2in k' (hks k' c' h')]
      exact hce.inv.sep k c k' c' h h' hne b hb)
    (fun b hb => by
      rcases hce.newU b hb.1 with h | h | ⟨k0, c0, g1, g2⟩
      · rcases h with h | ⟨k', c', g1, g2, g3⟩
        · exact .inl h
        · exact absurd ⟨k', c', g1, g2, g3⟩ hb.2
      · exact .inr (.inl h)
      · exact .inr (.inr ⟨k0, c0, hmem k0 c0 g1, hnotin k0 c0 g1, g2⟩))
    (fun k c h b hb hu => by
      rw [hE2in k (hks k c h)] at hb
      exact hce.inv.out k c h b hb hu.1) (fun b hb => hce.inv.lt b hb.1)
    (fun k cs h => by
      by_cases hk : k ∈ nk
      · exact .inl (.inr (hnkd k cs h hk))
      · right
        obtain ⟨c0, hc0⟩ := hkeyOld k (hks k _ h) hk
        obtain ⟨⟨cs0, h1⟩, h2⟩ := hce.boxes k cs h ⟨c0, hc0⟩
        exact ⟨⟨cs0, hmem k _ h1⟩, by rw [hE2in k (hks k _ h)]; exact h2⟩)
  refine hK v E2 U2 w' hr2 (hgen.chs (fun k c h => (hcc k c).1 h) ?_) (fun k c h1 h3 b hb => hce.rest b (hi.fpl k c h1 b hb) (fun k' c' h' hb' => hi.sep k' c' k c (hmem k' c' h') h1 (fun e2 => h3 c' (e2 ▸ h')) b hb' hb))
  have hn := hgen.inv.nd
  unfold aU
  split
  · exact hi.nd
  · exact hn
variable [Glob P] in
theorem call_sound {ro : Option Nat} {a : Act} {o : Oper} {fo : Operand} {aS : Array Operand} {ts : Array TypeId} {ρ : Operand → C} {r : C} {chs chs' : Chs} (hi : Inv E U w.heap ch) (hg : GlobOk P U w.heap) (hρ : ∀ x, Rep E U w.heap (ρ x) (a.eval x))
    (ho : o.op = .call { callee := .value fo, args := aS, argTypes := ts }) {nk : List Nat} (hc : CallR P ρ ch d fo aS.toList r chs chs' nk) {K : Act → World → Prop} {Q : Exit → Act → World → Prop}
    (hK : ∀ v E' U' w', Rep E' U' w'.heap r v → Ev E U w ch (aC nk chs) d E' U' w' (aU ch chs chs' nk) → K (a.put o.dst v) w') : o.wpIn (FW ro) 0 P a w K Q :=
  call_sound0 hi hg hρ ho hc fun v E' U' w' h1 h2 _ => hK v E' U' w' h1 h2
def plainC : C → Bool
  | .s _ => true
  | .sl _ _ => true
  | .ref _ => true
  | .fn _ [] [] => true
  | _ => false
def plainChs : Chs → Bool
  | [] => true
  | (_, .box cs) :: r => cs.all plainC && plainChs r
  | _ :: _ => false
theorem plainC_keys {c : C} (h : plainC c = true) : keysIn [] c ∧ ay c = true := by
  cases c with
  | fn f xs ys =>
    cases xs with
    | nil => cases ys with
      | nil => exact ⟨⟨trivial, trivial⟩, rfl⟩
      | cons => cases h
    | cons => cases h
  | _ => first | exact ⟨trivial, rfl⟩ | cases h
theorem plainChs_mem : ∀ {chs : Chs} {k : Nat} {c : Ch}, plainChs chs = true → (k, c) ∈ chs → ∃ cs, c = .box cs ∧ ∀ x ∈ cs, plainC x = true
  | [], _, _, _, h => by simp at h
  | (j, c0) :: r, k, c, h, hm => by
    cases c0 with
    | box cs =>
      simp only [plainChs, Bool.and_eq_true] at h
      rcases List.mem_cons.1 hm with hm | hm
      · cases hm; exact ⟨cs, rfl, List.all_eq_true.1 h.1⟩
      · exact plainChs_mem h.2 hm
    | _ => cases h
theorem boxI_plain {cs : List C} (h : ∀ x ∈ cs, plainC x = true) : boxI cs = noI := boxI_none fun j c hj => (plainC_keys (h c (List.mem_of_getElem? hj))).2
variable [Glob P] in
theorem call_soundK {ro : Option Nat} {a : Act} {o : Oper} {fo : Operand} {aS : Array Operand} {ts : Array TypeId} {ρ : Operand → C} {r : C} {chs : Chs} (hi : Inv E U w.heap ch) (hg : GlobOk P U w.heap) (hρ : ∀ x, Rep E U w.heap (ρ x) (a.eval x))
    (ho : o.op = .call { callee := .value fo, args := aS, argTypes := ts }) (hc : CallR P ρ ch d fo aS.toList r chs chs []) (hp : plainChs chs = true) (hr : keysIn [] r) {K : Act → World → Prop} {Q : Exit → Act → World → Prop}
    (hK : ∀ v E' U' w', Rep E' U' w'.heap r v → Ev E U w ch [] d E' U' w' ch → K (a.put o.dst v) w') : o.wpIn (FW ro) 0 P a w K Q :=
  call_sound0 hi hg hρ ho hc fun v E' U' w' hrep he hsame => by
    have hmem : ∀ k c, (k, c) ∈ chs → (k, c) ∈ ch := by
      obtain ⟨⟨f, first, caps, bs, hfo, hFC, hvo, hchs, hflat⟩, _⟩ := hc
      exact fun k c h => lk_mem (hchs k c h).1
    have hcc : ∀ k c, (k, c) ∈ chs → (k, c) ∈ aU ch chs chs [] := fun k c h => by
      unfold aU
      split
      · simp at h
      · exact List.mem_append.2 (.inl h)
    have hsub : ∀ k c, (k, c) ∈ chs → ∃ cs, c = .box cs ∧ (∀ x ∈ cs, plainC x = true) ∧ (E' k).toKE0 = (E k).toKE0 := fun k c h => by
      obtain ⟨cs, rfl, h2⟩ := plainChs_mem hp h
      refine ⟨cs, rfl, h2, ?_⟩
      rcases he.boxes k cs (hcc k _ h) with _ | ⟨_, h3⟩
      · refine he.envI k ?_
        have : ∀ {l : Chs}, plainChs l = true → (k, .box cs) ∈ l → (aC [] l).lookup k = some .inner := by
          intro l
          induction l with
          | nil => intro _ h; simp at h
          | cons q l ih =>
            intro hl hm
            obtain ⟨j, c0⟩ := q
            cases c0 with
            | box cs0 =>
              simp only [plainChs, Bool.and_eq_true] at hl
              simp only [aC, List.lookup_cons]
              split
              · rfl
              · rename_i hb
                rcases List.mem_cons.1 hm with hm | hm
                · cases hm; simp at hb
                · exact ih hl.2 hm
            | _ => cases hl
        exact this hp h
      · exact h3
    refine hK v E U' w' (hrep.env hr (fun k hk => by simp at hk)) ⟨he.os, he.tape, he.output, he.size, he.keep, fun _ _ => rfl, fun _ _ => rfl, fun k c' h => by simp at h, he.rest, fun k c h b hb => .inr ⟨k, c, h, hb⟩, he.newU, fun k cs h => .inr ⟨⟨cs, h⟩, rfl⟩, hi.nd, fun k c h => ?_, hi.sep, fun k c h b hb hu => ?_, fun k c h b hb => Nat.lt_of_lt_of_le (hi.fpl k c h b hb) he.size, he.inv.lt⟩
    · by_cases hk : ∃ c0, (k, c0) ∈ chs
      · obtain ⟨c0, hc0⟩ := hk
        have e0 : c0 = c := by
          have h1 := lk_of_mem hi.nd (hmem k c0 hc0)
          have h2 := lk_of_mem hi.nd h
          rw [h1] at h2; exact Option.some.inj h2
        subst e0
        obtain ⟨cs, rfl, hpl, hke⟩ := hsub k c0 hc0
        obtain ⟨⟨b1, arr, ty, b2, b3, b4⟩, _, _⟩ := he.inv.ok k _ (hcc k _ hc0)
        obtain ⟨_, f1, _⟩ := hi.ok k _ h
        have hbI := boxI_plain hpl
        simp only [ChOk]
        refine ⟨⟨by rw [← hke]; exact b1, arr, ty, by rw [← hke]; exact b2, b3, fun j c hj => ?_⟩, f1, fun i n t es h => by rw [hbI] at h; cases h⟩
        have hx := plainC_keys (hpl c (List.mem_of_getElem? hj))
        rcases b4 j c hj with b4 | ⟨⟨n, t, es, rfl⟩, _⟩
        · exact .inl ⟨b4.1.env hx.1 (fun k hk => by simp at hk), b4.2⟩
        · cases hx.2
      · exact (hi.ok k c h).same he.keep (hsame k c h (fun c0 h0 => hk ⟨c0, h0⟩))
    · by_cases hk : ∃ c0, (k, c0) ∈ chs
      · obtain ⟨c0, hc0⟩ := hk
        obtain ⟨cs, rfl, hpl, hke⟩ := hsub k c0 hc0
        have hbI := boxI_plain hpl
        have g1 := (hi.ok k _ (hmem k _ hc0)).2.1
        have g2 := (he.inv.ok k _ (hcc k _ hc0)).2.1
        rw [hbI] at g1 g2
        refine he.inv.out k _ (hcc k _ hc0) b ((g2.fp b).2 ?_) hu
        rcases (g1.fp b).1 hb with ⟨x1, x2⟩ | ⟨i, q, x, _⟩
        · left; rw [hke]; exact ⟨x1, x2⟩
        · cases x
      · rcases he.newU b hu with g | g | ⟨k0, c0, g1, g2⟩
        · exact hi.out k c h b hb g
        · have := hi.fpl k c h b hb; omega
        · have mdA : ∀ {l t : Chs}, (t.map (·.1)).Nodup → (k, c) ∈ t → (∀ c0, (k, c0) ∉ l) → (k, c) ∈ aX t l := by
            intro l
            induction l with
            | nil => intro t _ h _; exact h
            | cons q l ih =>
              intro t hn ht hl
              obtain ⟨j, c1⟩ := q
              exact ih (nd_delA hn) (mem_delA' hn ht (fun e => hl c1 (e ▸ List.mem_cons_self))) (fun c0 h0 => hl c0 (List.mem_cons_of_mem _ h0))
          have hk' : ∀ c0, (k, c0) ∉ chs := fun c0 h0 => hk ⟨c0, h0⟩
          have hnone : (aC [] chs).lookup k = none := by
            have : ∀ {l : Chs}, (∀ c0, (k, c0) ∉ l) → (aC [] l).lookup k = none := by
              intro l
              induction l with
              | nil => intro _; rfl
              | cons q l ih =>
                intro hl
                obtain ⟨j, c1⟩ := q
                have hb : (k == j) = false := by
                  simp only [beq_eq_false_iff_ne]
                  intro e; exact hl c1 (e ▸ List.mem_cons_self)
                have := ih (fun c0 h0 => hl c0 (List.mem_cons_of_mem _ h0))
                cases c1 <;> simp only [aC, List.lookup_cons, hb] <;> exact this
            exact this hk'
          have hm2 : ∃ c', (k, c') ∈ aU ch chs chs [] := by
            unfold aU
            split
            · exact ⟨c, h⟩
            · refine ⟨_, List.mem_append.2 (.inr (subCh_eq _ _ ▸ List.mem_map.2 ⟨(k, c), mdA hi.nd h hk', rfl⟩))⟩
          obtain ⟨c', hm2⟩ := hm2
          exact he.inv.out k c' hm2 b (by rw [he.env k hnone]; exact hb) hu
end Go.Am
end
section
namespace Go.Am
variable {P : Program} {E : Env} {U : Nat → Prop} {w : World} {ch : Chs} {d : Nat}
def cT (P : Program) [Glob P] (t : Slots) : Operand → C
  | .tmp i => gt t i
  | .const v => .s v
  | .global g => match lk (Glob.gl P) g with | some cs => .ref cs | none => .s (.pointer (some ⟨g, 0, none⟩))
  | .func f => .fn (.func f) [] []
def AOp.reads : AOp → List Operand
  | .ext _ aS => aS
  | .mv x | .mvs x | .box x | .nilc x | .un _ x | .cvi _ x | .cvs x | .conv _ _ x | .faddr _ x | .field _ _ _ x | .extr x _ | .len _ x | .load _ _ x => [x]
  | .alloc _ => []
  | .pick c a b => [c, a, b]
  | .build _ ps => ps.map (·.2.2)
  | .mkSl _ _ _ _ _ ps => ps.map (·.2)
  | .store _ _ a x | .bin _ _ a x | .beq _ _ a x | .makeSl _ _ _ _ a x | .iaddr _ _ a x | .iarr _ _ a x | .istr a x | .app _ _ _ _ _ a x => [a, x]
  | .mkFn _ xs ys => xs ++ ys
  | .ssl _ x lo hi mx => [x] ++ lo.toList ++ hi.toList ++ mx.toList
  | .sstr x lo hi => [x] ++ lo.toList ++ hi.toList
  | .call f aS => f :: aS
  | .bi _ _ _ aS => aS
  | .opq o _ => o.operands.toList
theorem bnd_congr {ρ ρ' : Operand → C} {o : Option Operand} {n : Int} (h : ∀ x ∈ o.toList, ρ x = ρ' x) : cU ρ o n = cU ρ' o n := by
  cases o with
  | none => rfl
  | some x => simp only [cU]; rw [h x (by simp)]
theorem opF_congr {ρ ρ' : Operand → C} {op : AOp} (h : ∀ x ∈ op.reads, ρ x = ρ' x) : cV ρ ch d op = cV ρ' ch d op := by
  cases op <;> simp only [AOp.reads, List.mem_cons, List.not_mem_nil, or_false, forall_eq_or_imp, forall_eq, List.mem_append, List.cons_append, List.nil_append] at h
  case build z ps =>
    simp only [cV]
    have : (ps.map fun (a, b, x) => (a, b, ρ x)) = ps.map fun (a, b, x) => (a, b, ρ' x) := List.map_congr_left fun p hp => by
      obtain ⟨a, b, x⟩ := p
      simp only [h x (List.mem_map.2 ⟨_, hp, rfl⟩)]
    rw [this]
  case mkSl own ty sz z len ps =>
    simp only [cV]
    have : (ps.map fun (i, x) => (i, ρ x)) = ps.map fun (i, x) => (i, ρ' x) := List.map_congr_left fun p hp => by
      obtain ⟨i, x⟩ := p
      simp only [h x (List.mem_map.2 ⟨_, hp, rfl⟩)]
    simp only at this
    rw [this]
  case ext e aS =>
    simp only [cV]
    rw [List.map_congr_left h]
  case mkFn f xs ys =>
    simp only [cV]
    rw [List.map_congr_left (fun x hx => h x (.inl hx)), List.map_congr_left (fun x hx => h x (.inr hx))]
  case ssl sz x lo hi mx =>
    simp only [cV]
    have h1 : ∀ n, cU ρ lo n = cU ρ' lo n := fun n => bnd_congr fun y hy => h.2 y (.inl (.inl hy))
    have h2 : ∀ n, cU ρ hi n = cU ρ' hi n := fun n => bnd_congr fun y hy => h.2 y (.inl (.inr hy))
    have h3 : ∀ n, cU ρ mx n = cU ρ' mx n := fun n => bnd_congr fun y hy => h.2 y (.inr hy)
    simp only [h.1, h1, h2, h3]
  case sstr x lo hi =>
    simp only [cV]
    have h1 : ∀ n, cU ρ lo n = cU ρ' lo n := fun n => bnd_congr fun y hy => h.2 y (.inl hy)
    have h2 : ∀ n, cU ρ hi n = cU ρ' hi n := fun n => bnd_congr fun y hy => h.2 y (.inr hy)
    simp only [h.1, h1, h2]
  all_goals first | rfl | (simp only [cV, h])
inductive OpR (P : Program) [Glob P] (ρ : Operand → C) (ch : Chs) (d : Nat) : AOp → Eff → Prop
  | f {op : AOp} {ef : Eff} (h : cV ρ ch d op = some ef) (hc : ef.cond) : OpR P ρ ch d op ef
  | call {fo : Operand} {aS : List Operand} {r : C} {chs chs' : Chs} {nk : List Nat} (h : CallR P ρ ch d fo aS r chs chs' nk) : OpR P ρ ch d (.call fo aS) ⟨True, r, aU ch chs chs' nk, aC nk chs⟩
  | callK {fo : Operand} {aS : List Operand} {r : C} {chs : Chs} (h : CallR P ρ ch d fo aS r chs chs []) (hp : plainChs chs = true) (hr : keysIn [] r) : OpR P ρ ch d (.call fo aS) ⟨True, r, ch, []⟩
def OpM (P : Program) [Glob P] (ro : Option Nat) (ρ : Operand → C) (ch : Chs) (d : Nat) (op : AOp) (outs : List Eff) : Prop :=
  ∀ (own : Bool) (o : Oper) (a : Act) (E : Env) (U : Nat → Prop) (w : World), compOp P own o.op o.type = some op → Inv E U w.heap ch → GlobOk P U w.heap → (∀ x ∈ op.reads, Rep E U w.heap (ρ x) (a.eval x)) →
      ∀ (K : Act → World → Prop) (Q : Exit → Act → World → Prop), (∀ ef ∈ outs, ∀ v E' U' w', Rep E' U' w'.heap ef.v v → Ev E U w ch ef.sub d E' U' w' ef.ch → K (a.put o.dst v) w') → o.wpIn (FW ro) 0 P a w K Q
theorem Good.wp {ro : Option Nat} {a : Act} {o : Oper} {ef : Eff} (hnd : ∀ c, o.op ≠ .defer c) (hg : Good P E U w ch d (execOp a.eval o) ef) {K : Act → World → Prop} {Q : Exit → Act → World → Prop}
    (hK : ∀ v E' U' w', Rep E' U' w'.heap ef.v v → Ev E U w ch ef.sub d E' U' w' ef.ch → K (a.put o.dst v) w') : o.wpIn (FW ro) 0 P a w K Q := by
  obtain ⟨v, E', U', w', hr, h1, h2⟩ := hg
  rcases hr with hr | ⟨hr, rfl⟩
  · exact op_value hnd hr (hK v E' U' w' h1 h2)
  · exact op_skip hnd hr (hK _ E' U' w' h1 h2)
theorem call_of_comp0 {own : Bool} {op : Op} {ty : TypeId} {fo : Operand} {aS : List Operand} (h : compOp0 P own op ty = some (.call fo aS)) : ∃ args ts, op = .call { callee := .value fo, args := args, argTypes := ts } ∧ args.toList = aS := by
  cases op with
  | call c =>
    obtain ⟨callee, args, argTypes⟩ := c
    cases callee with
    | value f => simp only [compOp0, Option.some.injEq, AOp.call.injEq] at h; obtain ⟨rfl, rfl⟩ := h; exact ⟨args, argTypes, rfl, rfl⟩
    | invoke r m => simp [compOp0] at h
    | builtin b =>
      exfalso
      cases b <;> simp only [compOp0] at h
      case append =>
        split at h
        · split at h
          · simp only [Option.bind_eq_some_iff] at h
            obtain ⟨i, _, z, _, h⟩ := h
            split at h <;> cases h
          · cases h
        · cases h
      case len =>
        split at h
        · split at h <;> cases h
        · cases h
      all_goals cases h
  | buildSlice t len parts =>
    simp only [compOp0] at h
    split at h
    · simp only [Option.bind_eq_some_iff] at h
      obtain ⟨i, _, z, _, h⟩ := h
      split at h <;> cases h
    · cases h
  | build t parts => simp [compOp0, Option.bind_eq_some_iff] at h
  | load t x => simp [compOp0, Option.bind_eq_some_iff] at h
  | binOp b t x y yt =>
    simp only [compOp0] at h
    split at h <;> cases h
  | convert s t x =>
    simp only [compOp0] at h
    split at h <;> cases h
  | makeSlice t l c =>
    simp only [compOp0] at h
    split at h
    · simp only [Option.bind_eq_some_iff] at h
      obtain ⟨i, _, z, _, h⟩ := h
      split at h <;> cases h
    · cases h
  | slice t x lo hi mx =>
    simp only [compOp0] at h
    split at h <;> simp at h
  | fieldAddr t x f =>
    simp only [compOp0] at h
    split at h
    · simp only [Option.bind_eq_some_iff] at h
      obtain ⟨i, _, z, _, h⟩ := h
      split at h <;> cases h
    · cases h
  | field t x f =>
    simp only [compOp0] at h
    split at h
    · simp [Option.bind_eq_some_iff] at h
    · cases h
  | indexAddr t x i =>
    simp only [compOp0] at h
    split at h
    · simp [Option.bind_eq_some_iff] at h
    · simp at h
    · cases h
  | index t x i =>
    simp only [compOp0] at h
    split at h <;> cases h
  | move x => cases own <;> simp [compOp0] at h
  | assign x => cases own <;> simp [compOp0] at h
  | _ => simp [compOp0] at h
theorem call_of_comp {own : Bool} {op : Op} {ty : TypeId} {fo : Operand} {aS : List Operand} (h : compOp P own op ty = some (.call fo aS)) : ∃ args ts, op = .call { callee := .value fo, args := args, argTypes := ts } ∧ args.toList = aS := by
  unfold compOp at h
  split at h
  · cases h
  · exact call_of_comp0 h
theorem no_defer {own : Bool} {op : Op} {ty : TypeId} {aop : AOp} {ρ : Operand → C} {ef : Eff} (h : compOp P own op ty = some aop) (hf : cV ρ ch d aop = some ef) : ∀ c, op ≠ .defer c := by
  rintro c rfl
  simp only [compOp, compExt, compOp0, Option.some.injEq] at h
  subst h
  simp [cV] at hf
def only (P : Program) [Glob P] (ts : List Operand) (t : Slots) : Operand → C
  | .tmp i => if (ts.any fun x => match x with | .tmp j => j == i | _ => false) then gt t i else .any
  | x => cT P t x
variable [Glob P]
theorem only_eq {ts : List Operand} {t : Slots} {x : Operand} (hx : x ∈ ts) : only P ts t x = cT P t x := by
  cases x with
  | tmp i =>
    simp only [only, cT]
    rw [if_pos (List.any_eq_true.2 ⟨.tmp i, hx, by simp⟩)]
  | _ => rfl
theorem glob_rep {U : Nat → Prop} {h : Array Obj} (hg : GlobOk P U h) (t : Slots) (g : Nat) : Rep E U h (cT P t (.global g)) (.pointer (some ⟨g, 0, none⟩)) := by
  simp only [cT]
  cases hl : lk (Glob.gl P) g with
  | none => exact .d (.s _)
  | some cs => exact hg.1 g cs hl E
theorem only_rep {ts : List Operand} {t : Slots} {a : Act} {h : Array Obj} (hg : GlobOk P U h) (hρ : ∀ x ∈ ts, Rep E U h (cT P t x) (a.eval x)) (x : Operand) : Rep E U h (only P ts t x) (a.eval x) := by
  cases x with
  | tmp i =>
    simp only [only]
    split
    · rename_i hm
      obtain ⟨y, hy, h2⟩ := List.any_eq_true.1 hm
      cases y with
      | tmp j =>
        have : j = i := by simpa using h2
        subst this
        exact hρ _ hy
      | _ => simp at h2
    · exact .d (.any _)
  | const v => exact .d (.s v)
  | global g => exact glob_rep hg t g
  | func f => exact .fn _ _ _ _ _ rfl (fun j c h => by simp at h) rfl (fun j c h => by simp at h)
theorem OpR.sound {ro : Option Nat} {t : Slots} {op : AOp} {ef : Eff} (h : OpR P (cT P t) ch d op ef) {own : Bool} {o : Oper} {a : Act} (hc : compOp P own o.op o.type = some op) (hi : Inv E U w.heap ch) (hg : GlobOk P U w.heap) (hρ : ∀ x ∈ op.reads, Rep E U w.heap (cT P t x) (a.eval x))
    {K : Act → World → Prop} {Q : Exit → Act → World → Prop} (hK : ∀ v E' U' w', Rep E' U' w'.heap ef.v v → Ev E U w ch ef.sub d E' U' w' ef.ch → K (a.put o.dst v) w') : o.wpIn (FW ro) 0 P a w K Q := by
  cases h with
  | f h hcond =>
    have e : cV (only P op.reads t) ch d op = some ef := by rw [← h]; exact opF_congr fun x hx => only_eq hx
    exact (opF_sound hi (only_rep hg hρ) hc e hcond).wp (no_defer hc h) hK
  | call h =>
    rename_i fo aS r chs chs' nk
    obtain ⟨args, ts, ho, ha⟩ := call_of_comp hc
    subst ha
    have e1 : only P (AOp.call fo args.toList).reads t fo = cT P t fo := only_eq (by simp [AOp.reads])
    have e2 : args.toList.map (only P (AOp.call fo args.toList).reads t) = args.toList.map (cT P t) := List.map_congr_left fun x hx => only_eq (by simp only [AOp.reads]; exact List.mem_cons_of_mem _ hx)
    refine call_sound (ρ := only P (AOp.call fo args.toList).reads t) (r := r) (chs := chs) (chs' := chs') (nk := nk) hi hg (only_rep hg hρ) ho ⟨?_, h.nd, h.hnk, h.new, h.old, h.kr, h.kc⟩ hK
    rw [e1, e2]; exact h.ex
  | callK h hp hr =>
    rename_i fo aS r chs
    obtain ⟨args, ts, ho, ha⟩ := call_of_comp hc
    subst ha
    have e1 : only P (AOp.call fo args.toList).reads t fo = cT P t fo := only_eq (by simp [AOp.reads])
    have e2 : args.toList.map (only P (AOp.call fo args.toList).reads t) = args.toList.map (cT P t) := List.map_congr_left fun x hx => only_eq (by simp only [AOp.reads]; exact List.mem_cons_of_mem _ hx)
    refine call_soundK (ρ := only P (AOp.call fo args.toList).reads t) (r := r) (chs := chs) hi hg (only_rep hg hρ) ho ⟨?_, h.nd, h.hnk, h.new, h.old, h.kr, h.kc⟩ hp hr hK
    rw [e1, e2]; exact h.ex
end Go.Am
end
section
namespace Go.Am
variable {P : Program} [Glob P] {E : Env} {U : Nat → Prop} {w : World}
structure Cx where
  n : Nat
  A0 : Nat → Prop
  w0 : World
  X : Nat → Prop
  E0 : Env
  hn : n ≤ 100000
  ro : Option Nat
  hid : List (Nat × Obj)
  lo : Nat
  hi : Nat
  hlo : 100000 ≤ lo
def Cx.fx (cx : Cx) (k : Nat) : Prop := cx.lo ≤ k ∧ k < cx.hi
theorem Cx.fx_ge {cx : Cx} {k : Nat} (h : cx.fx k) : 100000 ≤ k := Nat.le_trans cx.hlo h.1
def HidB (E : Env) (U : Nat → Prop) (h : Array Obj) (ch : Chs) (b : Nat) (o : Obj) : Prop := h[b]? = some o ∧ ¬ U b ∧ ∀ k c, (k, c) ∈ ch → ¬ (E k).fp b
theorem HidB.ev {E E' : Env} {U U' : Nat → Prop} {w w' : World} {ch ch' : Chs} {m : List (Nat × Sb)} {d b : Nat} {o : Obj} (hh : HidB E U w.heap ch b o) (he : Ev E U w ch m d E' U' w' ch') : HidB E' U' w'.heap ch' b o := by
  obtain ⟨h1, h2, h3⟩ := hh
  have hlt := lt_of_getElem? h1
  refine ⟨(he.rest b hlt h3).trans h1, fun hu => ?_, fun k c hm hf => ?_⟩
  · rcases he.newU b hu with g | g | ⟨k0, c0, g1, g2⟩
    · exact h2 g
    · omega
    · exact h3 k0 c0 g1 g2
  · rcases he.live k c hm b hf with g | ⟨k0, c0, g1, g2⟩
    · omega
    · exact h3 k0 c0 g1 g2
def markD (D : Nat) : Deferred := { target := .collected D, args := #[] }
def ca (m : List (Nat × Sb)) (t : Slots) : Slots :=
  match m with
  | [] => t
  | m => t.map fun p => (p.1, bV m p.2)
def cJ (dst : Option Nat) (m : List (Nat × Sb)) (v : C) (t : Slots) : Slots :=
  match dst with
  | some d => co (ca m t) d v
  | none => ca m t
theorem gt_subT (m : List (Nat × Sb)) (t : Slots) (i : Nat) : gt (ca m t) i = bV m (gt t i) := by
  cases m with
  | nil => simp only [ca, subC_nil]
  | cons x m =>
    simp only [ca]
    induction t with
    | nil => rfl
    | cons p t ih =>
      obtain ⟨j, c⟩ := p
      simp only [List.map_cons, gt, lk] at ih ⊢
      split
      · rfl
      · exact ih
theorem gt_setA (t : Slots) (i : Nat) (c : C) (j : Nat) : gt (co t i c) j = if i = j then c else gt t j := by
  simp only [gt, lk_setA]
  split <;> rfl
structure Holds (P : Program) [Glob P] (cx : Cx) (E : Env) (U : Nat → Prop) (a : Act) (w : World) (st : ASt) : Prop where
  sz : a.tmps.size = cx.n
  df : ∃ Ds : List Nat, a.defers = Ds.map markD ∧ Ds.Nodup ∧ ∀ D ∈ Ds, cx.w0.heap.size ≤ D ∧ HidB E U w.heap st.ch D (.deferred (some []))
  tok : ∀ i, Rep E U w.heap (gt st.t i) (a.tmps.getD i undef)
  inv : Inv E U w.heap st.ch
  os : w.os = cx.w0.os
  tape : w.tape = cx.w0.tape
  output : w.output = cx.w0.output
  size : cx.w0.heap.size ≤ w.heap.size
  fr : ∀ b, b < cx.w0.heap.size → ¬ cx.X b → w.heap[b]? = cx.w0.heap[b]?
  keepA : ∀ b, cx.A0 b → U b ∧ w.heap[b]? = cx.w0.heap[b]?
  live : ∀ k c, (k, c) ∈ st.ch → ∀ b, (E k).fp b → cx.w0.heap.size ≤ b ∨ cx.X b
  base : ∀ b, U b → cx.A0 b ∨ cx.w0.heap.size ≤ b ∨ cx.X b
  fix : ∀ k cs, cx.fx k → (k, .box cs) ∈ st.ch → (E k).toKE0 = (cx.E0 k).toKE0
  hid : ∀ p ∈ cx.hid, HidB E U w.heap st.ch p.1 p.2
  gok : GlobOk P U w.heap
def cd (dst : Option Nat) (ef : Eff) (st : ASt) : ASt := ⟨cJ dst ef.sub ef.v st.t, ef.ch⟩
theorem Holds.ev {cx : Cx} {a : Act} {st : ASt} (hh : Holds P cx E U a w st) (x : Operand) : Rep E U w.heap (cT P st.t x) (a.eval x) := by
  cases x with
  | tmp i => exact hh.tok i
  | const v => exact .d (.s v)
  | global g => exact glob_rep hh.gok st.t g
  | func f => exact .fn _ _ _ _ _ rfl (fun j c h => by simp at h) rfl (fun j c h => by simp at h)
theorem Holds.onDf {cx : Cx} {a : Act} {st : ASt} (hh : Holds P cx E U a w st) {m : List (Nat × Sb)} {d : Nat} {E' : Env} {U' : Nat → Prop} {w' : World} {ch' : Chs} (he : Ev E U w st.ch m d E' U' w' ch') :
    ∃ Ds : List Nat, a.defers = Ds.map markD ∧ Ds.Nodup ∧ ∀ D ∈ Ds, cx.w0.heap.size ≤ D ∧ HidB E' U' w'.heap ch' D (.deferred (some [])) := by
  obtain ⟨Ds, h1, h2, h3⟩ := hh.df
  exact ⟨Ds, h1, h2, fun D hD => ⟨(h3 D hD).1, (h3 D hD).2.ev he⟩⟩
theorem Holds.step {cx : Cx} {a : Act} {st : ASt} {dst : Option Nat} {ef : Eff} {vc : Value} {E' : Env} {U' : Nat → Prop} {w' : World} (hh : Holds P cx E U a w st) (hd : ∀ d, dst = some d → d < cx.n)
    (hr : Rep E' U' w'.heap ef.v vc) (he : Ev E U w st.ch ef.sub (dst.getD 0) E' U' w' ef.ch) : Holds P cx E' U' (a.put dst vc) w' (cd dst ef st) where
  sz := by cases dst <;> simp [Act.put, hh.sz]
  df := by
    have := hh.onDf he
    cases dst <;> exact this
  tok := fun i => by
    cases dst with
    | none => simp only [cd, cJ, Act.put, gt_subT]; exact he.rep (hh.tok i)
    | some d =>
      simp only [cd, cJ, Act.put, gt_setA, gt_subT]
      have hdn := hd d rfl
      by_cases hi : d = i
      · subst hi
        rw [if_pos rfl, getD_of_some (v := vc) (by rw [Array.getElem?_setIfInBounds]; simp [hh.sz, hdn])]
        exact hr
      · rw [if_neg hi]
        have : (a.tmps.setIfInBounds d vc).getD i undef = a.tmps.getD i undef := by simp [Array.getD_eq_getD_getElem?, Array.getElem?_setIfInBounds_ne hi]
        rw [this]; exact he.rep (hh.tok i)
  inv := he.inv
  os := he.os.trans hh.os
  tape := he.tape.trans hh.tape
  output := he.output.trans hh.output
  size := Nat.le_trans hh.size he.size
  fr := fun b hb hx => (he.rest b (Nat.lt_of_lt_of_le hb hh.size) (fun k c hm e => by
    rcases hh.live k c hm b e with h | h
    · omega
    · exact hx h)).trans (hh.fr b hb hx)
  keepA := fun b hb => ⟨(he.keep b (hh.keepA b hb).1).1, (he.keep b (hh.keepA b hb).1).2.trans (hh.keepA b hb).2⟩
  live := fun k c hm b hn => by
    rcases he.live k c hm b hn with h | ⟨k0, c0, h1, h2⟩
    · exact .inl (Nat.le_trans hh.size h)
    · exact hh.live k0 c0 h1 b h2
  base := fun b hb => by
    rcases he.newU b hb with h | h | ⟨k0, c0, h1, h2⟩
    · exact hh.base b h
    · exact .inr (.inl (Nat.le_trans hh.size h))
    · rcases hh.live k0 c0 h1 b h2 with h | h
      · exact .inr (.inl h)
      · exact .inr (.inr h)
  fix := fun k cs hk hm => by
    rcases he.boxes k cs hm with h | ⟨⟨cs0, h1⟩, h2⟩
    · have : dst.getD 0 < 100000 := by
        cases dst with
        | none => simp
        | some d => have := hd d rfl; have := cx.hn; simp; omega
      have := Cx.fx_ge hk
      omega
    · exact h2.trans (hh.fix k cs0 hk h1)
  hid := fun p hp => (hh.hid p hp).ev he
  gok := hh.gok.mono he.keep
def wantA (t : Slots) : Option (Nat × Bool) → Option Bool
  | none => some true
  | some (s, want) =>
    match gt t s with
    | .s (.bool b) => some (b == want)
    | .s _ => some false
    | _ => none
inductive StepE (P : Program) [Glob P] (o : AO) (st : ASt) : Eff → Prop
  | yes (ef : Eff) (h : wantA st.t o.guard = some true) (hr : OpR P (cT P st.t) st.ch (o.dst.getD 0) o.op ef) : StepE P o st ef
  | no (h : wantA st.t o.guard = some false) : StepE P o st ⟨True, .s undef, st.ch, []⟩
def Chain (P : Program) [Glob P] (dr : Bool) : List AO → ASt → ASt → Prop
  | [], s, s' => s' = s
  | o :: os, s, s' => ∃ ef, StepE P o s ef ∧ (dr = true → o.tot = true ∨ (ef.ch = s.ch ∧ ef.sub = [])) ∧ Chain P dr os (cd o.dst ef s) s'
theorem wanted_of {ops : Array Oper} {o : Oper} {ao : AO} {own tot : Bool} {t : Slots} {tmps : Array Value} {h : Array Obj} {n : Nat} {b : Bool} (hc : compO P own tot ops o = some ao) (hsz : tmps.size = n) (hg : ∀ d want, ao.guard = some (d, want) → d < n)
    (htok : ∀ d want, ao.guard = some (d, want) → Rep E U h (gt t d) (tmps.getD d undef)) (hw : wantA t ao.guard = some b) : Region.wanted o (yielded ops tmps) = b := by
  simp only [compO, Option.bind_eq_some_iff] at hc
  obtain ⟨aop, h1, h2⟩ := hc
  cases hgd : o.guard with
  | none =>
    simp only [hgd, Option.some.injEq] at h2
    subst h2
    simp only [wantA, Option.some.injEq] at hw
    simp [Region.wanted, hgd, ← hw]
  | some jw =>
    obtain ⟨j, want⟩ := jw
    simp only [hgd, Option.map_eq_some_iff] at h2
    obtain ⟨d, hd, rfl⟩ := h2
    have hdn := hg d want rfl
    have hr := htok d want rfl
    simp only [Region.wanted, hgd, yielded, hd, Option.bind_some]
    have ht : tmps[d]? = some (tmps.getD d undef) := by
      have hlt : d < tmps.size := by omega
      simp [Array.getD_eq_getD_getElem?, Array.getElem?_eq_getElem hlt]
    rw [ht]
    simp only [wantA] at hw
    split at hw
    · rename_i b' hb
      cases hw
      rw [hb] at hr
      rw [rep_s hr]
      cases b' <;> cases want <;> rfl
    · rename_i v hnb hv
      cases hw
      rw [hv] at hr
      rw [rep_s hr]
      cases v <;> first | rfl | exact (hnb _ rfl).elim
    · cases hw
def Matches (P : Program) (n : Nat) (ops : Array Oper) (o : Oper) (ao : AO) : Prop :=
  (∃ own, compO P own ao.tot ops o = some ao) ∧ (∀ d, ao.dst = some d → d < n) ∧ (∀ d want, ao.guard = some (d, want) → d < n)
theorem compO_fields {own tot : Bool} {ops : Array Oper} {o : Oper} {ao : AO} (hc : compO P own tot ops o = some ao) : ao.dst = o.dst ∧ compOp P own o.op o.type = some ao.op := by
  simp only [compO, Option.bind_eq_some_iff] at hc
  obtain ⟨aop, h1, h2⟩ := hc
  cases hgd : o.guard with
  | none => simp only [hgd, Option.some.injEq] at h2; subst h2; exact ⟨rfl, h1⟩
  | some jw =>
    simp only [hgd, Option.map_eq_some_iff] at h2
    obtain ⟨d, hd, rfl⟩ := h2
    exact ⟨rfl, h1⟩
theorem step_wp {cx : Cx} {a : Act} {st : ASt} {ops : Array Oper} {o : Oper} {ao : AO} {ef : Eff} (hm : Matches P cx.n ops o ao) (hs : StepE P ao st ef) (hh : Holds P cx E U a w st) {K : Act → World → Prop} {Q : Exit → Act → World → Prop}
    (hK : ∀ E' U' a' w', Holds P cx E' U' a' w' (cd ao.dst ef st) → K a' w') :
    (Region.wanted o (yielded ops a.tmps) = true ∧ o.wpIn (FW cx.ro) 0 P a w K Q) ∨ (Region.wanted o (yielded ops a.tmps) = false ∧ K (a.put o.dst undef) w) := by
  obtain ⟨⟨own, hc⟩, hd, hg⟩ := hm
  obtain ⟨f1, f2⟩ := compO_fields hc
  cases hs with
  | yes _ h hr =>
    left
    refine ⟨wanted_of hc hh.sz hg (fun d want _ => hh.tok d) h, hr.sound f2 hh.inv hh.gok (fun x _ => hh.ev x) (fun v E' U' w' h1 h2 => ?_)⟩
    rw [← f1]
    exact hK E' U' _ w' (hh.step hd h1 h2)
  | no h =>
    right
    refine ⟨wanted_of hc hh.sz hg (fun d want _ => hh.tok d) h, ?_⟩
    rw [← f1]
    exact hK E U _ w (hh.step (ef := ⟨True, .s undef, st.ch, []⟩) hd (.d (.s undef)) (Ev.refl hh.inv _))
def Ghost (P : Program) [Glob P] (cx : Cx) (s s' : ASt) : Prop := ∀ E U a w, Holds P cx E U a w s → ∃ E' U', Holds P cx E' U' a w s'
def Tree (P : Program) [Glob P] (cx : Cx) (G : ASt → Prop) : List AO → ASt → Prop
  | [], s => G s
  | o :: os, s => (wantA s.t o.guard = some false ∧ Tree P cx G os (cd o.dst ⟨True, .s undef, s.ch, []⟩ s)) ∨
      (wantA s.t o.guard = some true ∧ ∃ s1, Ghost P cx s s1 ∧ ((∃ ef, OpR P (cT P s1.t) s1.ch (o.dst.getD 0) o.op ef ∧ Tree P cx G os (cd o.dst ef s1)) ∨
        (∃ outs, OpM P cx.ro (cT P s1.t) s1.ch (o.dst.getD 0) o.op outs ∧ ∀ ef ∈ outs, Tree P cx G os (cd o.dst ef s1))))
theorem plain_ops {cx : Cx} {ops : Array Oper} {Q : Exit → Act → World → Prop} {G : ASt → Prop} (hQ : ∀ st', G st' → ∀ E' U' a' w', Holds P cx E' U' a' w' st' → Q .normal a' w') : ∀ (l : List Oper) (aos : List AO) (st : ASt) (E : Env) (U : Nat → Prop) (a : Act) (w : World),
    l.length = aos.length → (∀ (j : Nat) o ao, l[j]? = some o → aos[j]? = some ao → Matches P cx.n ops o ao) → Tree P cx G aos st → Holds P cx E U a w st → wpListIn (FW cx.ro) 0 P ops Q l a w
  | [], aos, st, E, U, a, w, hl, _, hc, hh => by
    have : aos = [] := by cases aos <;> simp_all
    subst this
    simp only [Tree] at hc
    exact hQ st hc E U a w hh
  | o :: l, [], st, E, U, a, w, hl, _, hc, hh => by simp at hl
  | o :: l, ao :: aos, st, E, U, a, w, hl, hm, hc, hh => by
    have rec_ : ∀ s1 ef, Tree P cx G aos (cd ao.dst ef s1) → ∀ E' U' a' w', Holds P cx E' U' a' w' (cd ao.dst ef s1) → wpListIn (FW cx.ro) 0 P ops Q l a' w' := fun s1 ef h2 E' U' a' w' hh' =>
      plain_ops hQ l aos _ E' U' a' w' (by simpa using hl) (fun j o ao h1 h2 => hm (j + 1) o ao (by simpa using h1) (by simpa using h2)) h2 hh'
    obtain ⟨⟨own, hc'⟩, hd, hg⟩ := hm 0 o ao rfl rfl
    obtain ⟨f1, f2⟩ := compO_fields hc'
    unfold wpListIn
    rcases hc with ⟨h1, h2⟩ | ⟨h1, s1, hgh, h2⟩
    · rw [if_neg (by rw [wanted_of hc' hh.sz hg (fun d want _ => hh.tok d) h1]; simp)]
      refine ⟨fun _ _ => trivial, ?_⟩
      rw [← f1]
      exact rec_ st ⟨True, .s undef, st.ch, []⟩ h2 E U _ w (hh.step (ef := ⟨True, .s undef, st.ch, []⟩) hd (.d (.s undef)) (Ev.refl hh.inv _))
    · rw [if_pos (wanted_of hc' hh.sz hg (fun d want _ => hh.tok d) h1)]
      obtain ⟨E1, U1, hh1⟩ := hgh E U a w hh
      rcases h2 with ⟨ef, g1, g2⟩ | ⟨outs, g1, g2⟩
      · refine g1.sound f2 hh1.inv hh1.gok (fun x _ => hh1.ev x) (fun v E' U' w' r1 r2 => ?_)
        rw [← f1]
        exact rec_ s1 ef g2 E' U' _ w' (hh1.step hd r1 r2)
      · refine g1 own o a E1 U1 w f2 hh1.inv hh1.gok (fun x _ => hh1.ev x) _ _ (fun ef hef v E' U' w' r1 r2 => ?_)
        rw [← f1]
        exact rec_ s1 ef (g2 ef hef) E' U' _ w' (hh1.step hd r1 r2)
end Go.Am
end
section
namespace Go.Am
variable {P : Program} {E : Env} {U : Nat → Prop} {w : World}
section folds
variable {α : Type}
def foldF : List (α → α) → (Nat → Bool) → Nat → α → α
  | [], _, _, a => a
  | f :: r, S, i, a => foldF r S (i + 1) (if S i then f a else a)
theorem foldF_agree : ∀ (fs : List (α → α)) (S S' : Nat → Bool) (i : Nat) (a : α), (∀ k f, fs[k]? = some f → S (i + k) = S' (i + k) ∨ ∀ a, f a = a) → foldF fs S i a = foldF fs S' i a
  | [], _, _, _, _, _ => rfl
  | f :: r, S, S', i, a, h => by
    simp only [foldF]
    have h0 := h 0 f rfl
    have e : (if S i then f a else a) = if S' i then f a else a := by
      rcases h0 with h0 | h0
      · rw [Nat.add_zero] at h0; rw [h0]
      · rw [h0 a]; split <;> split <;> rfl
    rw [e]
    exact foldF_agree r S S' (i + 1) _ (fun k g hk => by have := h (k + 1) g (by simpa using hk); rwa [show i + (k + 1) = i + 1 + k from by omega] at this)
theorem foldF_id (fs : List (α → α)) (S : Nat → Bool) (i : Nat) (a : α) (h : ∀ k f, fs[k]? = some f → S (i + k) = true → ∀ a, f a = a) : foldF fs S i a = a := by
  have : foldF fs S i a = foldF fs (fun _ => false) i a := foldF_agree fs S _ i a (fun k f hk => by
    cases hs : S (i + k) with
    | false => exact .inl rfl
    | true => exact .inr (h k f hk hs))
  rw [this]
  clear this h
  induction fs generalizing i with
  | nil => rfl
  | cons f r ih => simp only [foldF, Bool.false_eq_true, if_false]; exact ih (i + 1)
theorem foldF_add : ∀ (fs : List (α → α)) (S : Nat → Bool) (i : Nat) (a : α) (k : Nat) (f : α → α), fs[k]? = some f → S (i + k) = false → (∀ k' g, k < k' → fs[k']? = some g → S (i + k') = true → ∀ a, g a = a) →
    foldF fs (fun n => n == i + k || S n) i a = f (foldF fs S i a)
  | [], _, _, _, k, f, h, _, _ => by simp at h
  | g :: r, S, i, a, 0, f, h, hs, hl => by
    simp at h
    subst h
    rw [Nat.add_zero] at hs
    simp only [foldF, Nat.add_zero, beq_self_eq_true, Bool.true_or, if_true, hs, Bool.false_eq_true, if_false]
    have l1 : ∀ a, foldF r (fun n => n == i || S n) (i + 1) a = a := fun a => foldF_id r _ (i + 1) a (fun k f hk hs' => by
      refine hl (k + 1) f (by omega) (by simpa using hk) ?_
      have hne : (i + 1 + k == i) = false := by simp; omega
      simp only [hne, Bool.false_or] at hs'
      rwa [show i + (k + 1) = i + 1 + k from by omega])
    have l2 : ∀ a, foldF r S (i + 1) a = a := fun a => foldF_id r _ (i + 1) a (fun k f hk hs' => hl (k + 1) f (by omega) (by simpa using hk) (by rwa [show i + (k + 1) = i + 1 + k from by omega]))
    rw [l1, l2]
  | g :: r, S, i, a, k + 1, f, h, hs, hl => by
    have hne : (i == i + (k + 1)) = false := by simp
    simp only [foldF, hne, Bool.false_or]
    have := foldF_add r S (i + 1) (if S i then g a else a) k f (by simpa using h) (by rwa [show i + 1 + k = i + (k + 1) from by omega]) (fun k' g' hk hg hs' => hl (k' + 1) g' (by omega) (by simpa using hg) (by rwa [show i + (k' + 1) = i + 1 + k' from by omega]))
    rwa [show i + 1 + k = i + (k + 1) from by omega] at this
theorem foldF_map {β : Type} (π : α → β) : ∀ (fs : List (α → α)) (gs : List (β → β)) (S : Nat → Bool) (i : Nat) (a : α), fs.length = gs.length → (∀ (k : Nat) f g, fs[k]? = some f → gs[k]? = some g → ∀ a, π (f a) = g (π a)) → π (foldF fs S i a) = foldF gs S i (π a)
  | [], gs, _, _, _, hl, _ => by
    have : gs = [] := by cases gs <;> simp_all
    subst this; rfl
  | f :: fs, [], _, _, _, hl, _ => by simp at hl
  | f :: fs, g :: gs, S, i, a, hl, h => by
    simp only [foldF]
    rw [foldF_map π fs gs S (i + 1) _ (by simpa using hl) (fun k f' g' h1 h2 => h (k + 1) f' g' (by simpa using h1) (by simpa using h2))]
    have := h 0 f g rfl rfl a
    cases hs : S i <;> simp [this]
theorem foldF_keep : ∀ (fs : List (α → α)) (S : Nat → Bool) (i : Nat) (c : α), (∀ k f, fs[k]? = some f → S (i + k) = true → f c = c) → foldF fs S i c = c
  | [], _, _, _, _ => rfl
  | f :: r, S, i, c, h => by
    simp only [foldF]
    have e : (if S i then f c else c) = c := by
      cases hs : S i with
      | false => rfl
      | true => exact h 0 f rfl (by simpa using hs)
    rw [e]
    exact foldF_keep r S (i + 1) c (fun k g hk hs => h (k + 1) g (by simpa using hk) (by rwa [show i + (k + 1) = i + 1 + k from by omega]))
theorem foldF_upto : ∀ (fs : List (α → α)) (S : Nat → Bool) (i : Nat) (a c : α) (j : Nat), (∀ k f, fs[k]? = some f → i + k < j → S (i + k) = true ∨ ∀ a, f a = a) → (∀ k f, fs[k]? = some f → j ≤ i + k → S (i + k) = true → f c = c) →
    foldF fs (fun n => decide (n < j)) i a = c → foldF fs S i a = c
  | [], _, _, _, _, _, _, _, h => h
  | f :: r, S, i, a, c, j, h1, h2, h3 => by
    have n1 : ∀ k g, r[k]? = some g → i + 1 + k < j → S (i + 1 + k) = true ∨ ∀ a, g a = a := fun k g hk hj => by
      have := h1 (k + 1) g (by simpa using hk) (by omega)
      rwa [show i + (k + 1) = i + 1 + k from by omega] at this
    have n2 : ∀ k g, r[k]? = some g → j ≤ i + 1 + k → S (i + 1 + k) = true → g c = c := fun k g hk hj hs => h2 (k + 1) g (by simpa using hk) (by omega) (by rwa [show i + (k + 1) = i + 1 + k from by omega])
    simp only [foldF] at h3 ⊢
    by_cases hij : i < j
    · simp only [hij, decide_true, if_true] at h3
      have e : (if S i then f a else a) = f a := by
        rcases h1 0 f rfl (by omega) with h | h
        · rw [Nat.add_zero] at h; rw [h]; rfl
        · rw [h a]; split <;> rfl
      rw [e]
      exact foldF_upto r S (i + 1) (f a) c j n1 n2 h3
    · simp only [hij, decide_false, Bool.false_eq_true, if_false] at h3
      have hk : foldF r (fun n => decide (n < j)) (i + 1) a = a := foldF_id r _ (i + 1) a (fun k g _ hs => by simp at hs; omega)
      have hac : a = c := hk.symm.trans h3
      subst hac
      have e : (if S i then f a else a) = a := by
        cases hs : S i with
        | false => rfl
        | true => exact h2 0 f rfl (by omega) (by simpa using hs)
      rw [e]
      exact foldF_upto r S (i + 1) a a j n1 n2 hk
theorem foldF_set : ∀ (fs : List (α → α)) (S : Nat → Bool) (i : Nat) (a c : α) (k : Nat) (f : α → α), fs[k]? = some f → S (i + k) = true → (∀ a, f a = c) → (∀ k' g, k < k' → fs[k']? = some g → S (i + k') = true → g c = c) → foldF fs S i a = c
  | [], _, _, _, _, k, f, h, _, _, _ => by simp at h
  | g :: r, S, i, a, c, 0, f, h, hs, hc, hl => by
    simp at h
    subst h
    rw [Nat.add_zero] at hs
    simp only [foldF, hs, if_true, hc]
    exact foldF_keep r S (i + 1) c (fun k f' hk hs' => hl (k + 1) f' (by omega) (by simpa using hk) (by rwa [show i + (k + 1) = i + 1 + k from by omega]))
  | g :: r, S, i, a, c, k + 1, f, h, hs, hc, hl => by
    simp only [foldF]
    exact foldF_set r S (i + 1) _ c k f (by simpa using h) (by rwa [show i + 1 + k = i + (k + 1) from by omega]) hc (fun k' g' hk hg hs' => hl (k' + 1) g' (by omega) (by simpa using hg) (by rwa [show i + (k' + 1) = i + 1 + k' from by omega]))
end folds
def predsOf (o : Oper) : List Nat := (o.after.toList.filter (Region.binds .any)).map (·.on)
def masks : List (List Nat) → List Nat → List Nat
  | [], acc => acc
  | p :: r, acc => masks r (acc ++ [p.foldl (fun m i => m ||| 2 ^ i ||| acc.getD i 0) 0])
theorem foldl_bit (acc : List Nat) (i : Nat) : ∀ (p : List Nat) (m : Nat), (p.foldl (fun m i => m ||| 2 ^ i ||| acc.getD i 0) m).testBit i = true → m.testBit i = true ∨ ∃ q ∈ p, q = i ∨ (acc.getD q 0).testBit i = true
  | [], m, h => .inl h
  | q :: p, m, h => by
    simp only [List.foldl_cons] at h
    rcases foldl_bit acc i p _ h with h | ⟨q', h1, h2⟩
    · simp only [Nat.testBit_or, Bool.or_eq_true, Nat.testBit_two_pow, decide_eq_true_eq] at h
      rcases h with (h | h) | h
      · exact .inl h
      · exact .inr ⟨q, List.mem_cons_self, .inl h⟩
      · exact .inr ⟨q, List.mem_cons_self, .inr h⟩
    · exact .inr ⟨q', List.mem_cons_of_mem _ h1, h2⟩
theorem masks_ok {all : List (List Nat)} {S : Nat → Bool} (hS : ∀ (j : Nat) l, all[j]? = some l → S j = true → ∀ p ∈ l, S p = true) (hlt : ∀ (j : Nat) l, all[j]? = some l → ∀ p ∈ l, p < j) :
    ∀ (ps : List (List Nat)) (acc : List Nat), ps = all.drop acc.length → (∀ j i, j < acc.length → (acc.getD j 0).testBit i = true → ∀ l, all[j]? = some l → (∀ p ∈ l, S p = true) → S i = true) →
      ∀ j i, ((masks ps acc).getD j 0).testBit i = true → ∀ l, all[j]? = some l → (∀ p ∈ l, S p = true) → S i = true
  | [], acc, hp, ha, j, i, h, l, hl, hall => by
    simp only [masks] at h
    by_cases hj : j < acc.length
    · exact ha j i hj h l hl hall
    · have : acc.getD j 0 = 0 := by simp [List.getD_eq_getElem?_getD, List.getElem?_eq_none (Nat.le_of_not_lt hj)]
      rw [this] at h; simp at h
  | p :: r, acc, hp, ha, j, i, h, l, hl, hall => by
    have hp0 : all[acc.length]? = some p := by
      have : (all.drop acc.length)[0]? = some p := by rw [← hp]; rfl
      simpa using this
    have hr : r = all.drop (acc ++ [p.foldl (fun m i => m ||| 2 ^ i ||| acc.getD i 0) 0]).length := by
      have : (all.drop acc.length).drop 1 = r := by rw [← hp]; rfl
      rw [← this]; simp
    refine masks_ok hS hlt r _ hr (fun j i hj hb l hl hall => ?_) j i (by simpa only [masks] using h) l hl hall
    simp only [List.length_append, List.length_cons, List.length_nil, Nat.zero_add] at hj
    by_cases hj2 : j < acc.length
    · rw [List.getD_eq_getElem?_getD, List.getElem?_append_left hj2, ← List.getD_eq_getElem?_getD] at hb
      exact ha j i hj2 hb l hl hall
    · have hje : j = acc.length := by omega
      subst hje
      rw [List.getD_eq_getElem?_getD, List.getElem?_append_right (Nat.le_refl _)] at hb
      simp only [Nat.sub_self, List.getElem?_cons_zero, Option.getD_some] at hb
      rw [hp0] at hl; cases hl
      rcases foldl_bit acc i p 0 hb with h0 | ⟨q, hq, rfl | hq2⟩
      · simp at h0
      · exact hall _ hq
      · have hql : q < acc.length := hlt _ _ hp0 q hq
        cases hlq : all[q]? with
        | none =>
          have := List.getElem?_eq_none_iff.1 hlq
          have := (List.getElem?_eq_some_iff.1 hp0).1
          omega
        | some lq => exact ha q i hql hq2 lq hlq (hS q lq hlq (hall q hq))
def AO.slots (o : AO) : List Nat :=
  (o.op.reads.filterMap fun x => match x with | .tmp t => some t | _ => none) ++ (match o.guard with | some (g, _) => [g] | none => [])
def AO.apart (x y : AO) : Bool :=
  (match x.dst with
   | some d => !(y.slots.contains d) && y.dst != some d
   | none => true) &&
  (match y.dst with
   | some d => !(x.slots.contains d)
   | none => true)
def AO.mvs (x : AO) : Bool :=
  match x.op, x.guard with
  | .mvs _, none => !x.tot
  | _, _ => false
def drawOk (ops : Array Oper) (aos : List AO) : Bool :=
  let ps := ops.toList.map predsOf
  let ms := masks ps []
  (ps.zipIdx.all fun p => p.1.all (· < p.2)) &&
  (aos.zipIdx.all fun y => aos.zipIdx.all fun x => !(decide (x.2 < y.2)) || (ms.getD y.2 0).testBit x.2 || (x.1.apart y.1 && !x.1.tot && (!y.1.tot || x.1.mvs)))
def drawOk1 (e : Nat) (rb : List Nat) (ops : Array Oper) (aos : List AO) : Bool :=
  if e = 999 then
    ((ops.toList.map predsOf).zipIdx.all fun p => p.1.all (· < p.2)) && rb.all fun c => decide (c % 100 < ops.size) && ((masks (ops.toList.map predsOf) []).getD (c % 100) 0).testBit (c / 100)
  else
  let ps := ops.toList.map predsOf
  let ms := masks ps []
  (ps.zipIdx.all fun p => p.1.all (· < p.2)) && ((aos[e]?).any fun x => x.tot) && !(rb.contains e) &&
  (aos.zipIdx.all fun y => aos.zipIdx.all fun x => !(decide (x.2 < y.2)) || (ms.getD y.2 0).testBit x.2 ||
    (x.1.apart y.1 && ((!x.1.tot && !y.1.tot) || (y.2 == e && !x.1.tot && rb.contains x.2) || (x.2 == e && !y.1.tot && rb.contains y.2))))
theorem apart_spec {x y : AO} (h : x.apart y = true) : (∀ d, x.dst = some d → d ∉ y.slots ∧ y.dst ≠ some d) ∧ (∀ d, y.dst = some d → d ∉ x.slots) := by
  simp only [AO.apart, Bool.and_eq_true] at h
  refine ⟨fun d hd => ?_, fun d hd => ?_⟩
  · rw [hd] at h
    simp at h
    exact ⟨h.1.1, h.1.2⟩
  · rw [hd] at h
    simp at h
    exact h.2
variable [Glob P]
theorem evC_slots {t t' : Slots} {o : AO} (h : ∀ i ∈ o.slots, gt t i = gt t' i) : ∀ x ∈ o.op.reads, cT P t x = cT P t' x := fun x hx => by
  cases x with
  | tmp i => exact h i (List.mem_append.2 (.inl (List.mem_filterMap.2 ⟨.tmp i, hx, rfl⟩)))
  | _ => rfl
theorem OpR.congr {ρ ρ' : Operand → C} {ch : Chs} {d : Nat} {op : AOp} {ef : Eff} (h : OpR P ρ ch d op ef) (he : ∀ x ∈ op.reads, ρ x = ρ' x) : OpR P ρ' ch d op ef := by
  cases h with
  | f h hc => exact .f (by rw [← h]; exact (opF_congr he).symm) hc
  | call h =>
    rename_i fo aS r chs chs' od
    have e1 : ρ fo = ρ' fo := he fo (by simp [AOp.reads])
    have e2 : aS.map ρ = aS.map ρ' := List.map_congr_left fun x hx => he x (by simp only [AOp.reads]; exact List.mem_cons_of_mem _ hx)
    have hx := h.ex
    rw [e1, e2] at hx
    exact .call ⟨hx, h.nd, h.hnk, h.new, h.old, h.kr, h.kc⟩
  | callK h hp hr =>
    rename_i fo aS r chs
    have e1 : ρ fo = ρ' fo := he fo (by simp [AOp.reads])
    have e2 : aS.map ρ = aS.map ρ' := List.map_congr_left fun x hx => he x (by simp only [AOp.reads]; exact List.mem_cons_of_mem _ hx)
    have hx := h.ex
    rw [e1, e2] at hx
    exact .callK ⟨hx, h.nd, h.hnk, h.new, h.old, h.kr, h.kc⟩ hp hr
theorem StepE.congr {o : AO} {st st' : ASt} {ef : Eff} (h : StepE P o st ef) (hs : ∀ i ∈ o.slots, gt st.t i = gt st'.t i) (hc : st.ch = st'.ch) : StepE P o st' ef := by
  have hw : wantA st.t o.guard = wantA st'.t o.guard := by
    cases hg : o.guard with
    | none => rfl
    | some g =>
      obtain ⟨g, want⟩ := g
      simp only [wantA, hs g (List.mem_append.2 (.inr (by simp [hg])))]
  cases h with
  | yes _ h hr => exact .yes ef (hw ▸ h) (hc ▸ hr.congr (evC_slots hs))
  | no h => rw [hc]; exact .no (hw ▸ h)
theorem Holds.ext {cx : Cx} {a : Act} {st st' : ASt} (h : Holds P cx E U a w st) (ht : ∀ i, gt st.t i = gt st'.t i) (hc : st.ch = st'.ch) : Holds P cx E U a w st' :=
  ⟨h.sz, hc ▸ h.df, fun i => ht i ▸ h.tok i, hc ▸ h.inv, h.os, h.tape, h.output, h.size, h.fr, h.keepA, hc ▸ h.live, h.base, hc ▸ h.fix, hc ▸ h.hid, h.gok⟩
end Go.Am
end
section
namespace Go.Am
variable {P : Program} [Glob P]
def slotF (x : Nat) (p : AO × Eff) (c : C) : C := if p.1.dst = some x then p.2.v else bV p.2.sub c
def chF (p : AO × Eff) (h : Chs) : Chs := if p.1.tot then p.2.ch else h
def stF (p : AO × Eff) (s : ASt) : ASt := ⟨cJ p.1.dst p.2.sub p.2.v s.t, chF p s.ch⟩
theorem gt_putS (dst : Option Nat) (m : List (Nat × Sb)) (v : C) (t : Slots) (x : Nat) : gt (cJ dst m v t) x = if dst = some x then v else bV m (gt t x) := by
  cases dst with
  | none => simp [cJ, gt_subT]
  | some d => simp [cJ, gt_setA, gt_subT]
def stS (ps : List (AO × Eff)) (S : Nat → Bool) (s : ASt) : ASt := foldF (ps.map stF) S 0 s
theorem gt_stS (ps : List (AO × Eff)) (S : Nat → Bool) (s : ASt) (x : Nat) : gt (stS ps S s).t x = foldF (ps.map (slotF x)) S 0 (gt s.t x) :=
  foldF_map (fun s : ASt => gt s.t x) (ps.map stF) (ps.map (slotF x)) S 0 s (by simp) (fun k f g h1 h2 a => by
    simp only [List.getElem?_map, Option.map_eq_some_iff] at h1 h2
    obtain ⟨p, hp, rfl⟩ := h1
    obtain ⟨q, hq, rfl⟩ := h2
    rw [hp] at hq; cases hq
    simp only [stF, slotF, gt_putS])
theorem ch_stS (ps : List (AO × Eff)) (S : Nat → Bool) (s : ASt) : (stS ps S s).ch = foldF (ps.map chF) S 0 s.ch :=
  foldF_map (fun s : ASt => s.ch) (ps.map stF) (ps.map chF) S 0 s (by simp) (fun k f g h1 h2 a => by
    simp only [List.getElem?_map, Option.map_eq_some_iff] at h1 h2
    obtain ⟨p, hp, rfl⟩ := h1
    obtain ⟨q, hq, rfl⟩ := h2
    rw [hp] at hq; cases hq
    rfl)
theorem chain_list : ∀ (aos : List AO) (s s' : ASt), Chain P true aos s s' → ∃ efs : List Eff, efs.length = aos.length ∧
    (∀ (j : Nat) ao ef, aos[j]? = some ao → efs[j]? = some ef → StepE P ao (stS (aos.zip efs) (fun i => decide (i < j)) s) ef ∧ (ao.tot = true ∨ (ef.ch = (stS (aos.zip efs) (fun i => decide (i < j)) s).ch ∧ ef.sub = []))) ∧
    s' = stS (aos.zip efs) (fun i => decide (i < aos.length)) s
  | [], s, s', h => by
    simp only [Chain] at h
    subst h
    exact ⟨[], rfl, fun j ao ef h => by simp at h, rfl⟩
  | o :: os, s, s', h => by
    obtain ⟨ef, h1, h2, h3⟩ := h
    have hp : cd o.dst ef s = stF (o, ef) s := by
      simp only [cd, stF, chF]
      rcases h2 rfl with h | ⟨h, _⟩
      · rw [if_pos h]
      · by_cases ht : o.tot = true
        · rw [if_pos ht]
        · rw [if_neg ht, h]
    rw [hp] at h3
    obtain ⟨efs, l1, l2, l3⟩ := chain_list os _ s' h3
    have shift : ∀ j, stS (os.zip efs) (fun i => decide (i < j)) (stF (o, ef) s) = stS ((o :: os).zip (ef :: efs)) (fun i => decide (i < j + 1)) s := fun j => by
      simp only [stS, List.zip_cons_cons, List.map_cons, foldF, Nat.zero_lt_succ, decide_true, if_true]
      have : ∀ (fs : List (ASt → ASt)) (k : Nat) (a : ASt), foldF fs (fun i => decide (i < j)) k a = foldF fs (fun i => decide (i < j + 1)) (k + 1) a := by
        intro fs
        induction fs with
        | nil => intro k a; rfl
        | cons f r ih =>
          intro k a
          simp only [foldF]
          rw [ih]
          by_cases hk : k < j
          · simp [hk]
          · simp [hk]
      exact this _ 0 _
    refine ⟨ef :: efs, by simp [l1], fun j ao e hj he => ?_, ?_⟩
    · cases j with
      | zero =>
        simp at hj he
        subst hj he
        have e0 : stS ((o :: os).zip (ef :: efs)) (fun i => decide (i < 0)) s = s := foldF_id _ _ 0 s (fun k f _ hs => by simp at hs)
        rw [e0]
        exact ⟨h1, h2 rfl⟩
      | succ j =>
        simp at hj he
        rw [← shift j]
        exact l2 j ao e hj he
    · rw [l3, shift]; rfl
theorem getD_set (l : Array Bool) (j i : Nat) (hj : j < l.size) : (l.setIfInBounds j true).getD i false = (i == j || l.getD i false) := by
  simp only [Array.getD_eq_getD_getElem?, Array.getElem?_setIfInBounds]
  by_cases h : j = i
  · subst h; simp [hj]
  · rw [if_neg h]
    have : (i == j) = false := by simp; exact fun e => h e.symm
    simp [this]
theorem exists_least {m : Nat} {f : Nat → Bool} (h : ∃ i, i < m ∧ f i = false) : ∃ i, i < m ∧ f i = false ∧ ∀ k, k < i → f k = true := by
  induction m with
  | zero => obtain ⟨i, hi, _⟩ := h; omega
  | succ m ih =>
    by_cases h2 : ∃ i, i < m ∧ f i = false
    · obtain ⟨i, h3, h4, h5⟩ := ih h2
      exact ⟨i, by omega, h4, h5⟩
    · obtain ⟨i, h3, h4⟩ := h
      have hi : i = m := by
        by_cases hlt : i < m
        · exact absurd ⟨i, hlt, h4⟩ h2
        · omega
      subst hi
      refine ⟨i, h3, h4, fun k hk => ?_⟩
      cases hf : f k with
      | true => rfl
      | false => exact absurd ⟨k, hk, hf⟩ h2
section draw
variable {cx : Cx} {ops : Array Oper} {aos : List AO} {st st' : ASt} {efs : List Eff} {Q : Exit → Act → World → Prop}
theorem count_set {m : Nat} {S : Nat → Bool} {j : Nat} (hj : j < m) (hs : S j = false) : ((List.range m).countP fun i => !(i == j || S i)) + 1 = (List.range m).countP fun i => !(S i) := by
  induction m with
  | zero => omega
  | succ m ih =>
    simp only [List.range_succ, List.countP_append, List.countP_cons, List.countP_nil, Nat.zero_add]
    by_cases h : j = m
    · subst h
      have e : ((List.range j).countP fun i => !(i == j || S i)) = (List.range j).countP fun i => !(S i) := by
        apply List.countP_congr
        intro i hi
        have : i ≠ j := by have := List.mem_range.1 hi; omega
        simp [this]
      rw [e]; simp [hs]
    · have := ih (by omega)
      have hb : (m == j) = false := by simp; omega
      rw [hb]
      simp only [Bool.false_or]
      omega
theorem draw_any (hops : ops.size = aos.length) (hef : efs.length = aos.length) (hm : ∀ (j : Nat) o ao, ops[j]? = some o → aos[j]? = some ao → Matches P cx.n ops o ao) (hok : drawOk ops aos = true)
    (hch : ∀ (j : Nat) ao ef, aos[j]? = some ao → efs[j]? = some ef → StepE P ao (stS (aos.zip efs) (fun i => decide (i < j)) st) ef ∧ (ao.tot = true ∨ (ef.ch = (stS (aos.zip efs) (fun i => decide (i < j)) st).ch ∧ ef.sub = [])))
    (hfin : st' = stS (aos.zip efs) (fun i => decide (i < aos.length)) st) (hQ : ∀ E' U' a' w', Holds P cx E' U' a' w' st' → Q .normal a' w') :
    ∀ (fuel : Nat) (listed : Array Bool) (E : Env) (U : Nat → Prop) (a : Act) (w : World), listed.size = ops.size → ((List.range ops.size).countP fun i => !(listed.getD i false)) = fuel →
      (∀ (j : Nat) o, ops[j]? = some o → listed.getD j false = true → ∀ p ∈ predsOf o, listed.getD p false = true) →
      Holds P cx E U a w (stS (aos.zip efs) (fun i => listed.getD i false) st) → wpAnyIn (FW cx.ro) 0 P .any ops Q fuel listed a w := by
  simp only [drawOk, Bool.and_eq_true] at hok
  obtain ⟨hok1, hok2⟩ := hok
  have hlt : ∀ (j : Nat) l, (ops.toList.map predsOf)[j]? = some l → ∀ p ∈ l, p < j := fun j l hj p hp => by
    have hz : (l, j) ∈ (ops.toList.map predsOf).zipIdx := by
      rw [List.mk_mem_zipIdx_iff_getElem?]; exact hj
    have := List.all_eq_true.1 hok1 (l, j) hz
    simpa using List.all_eq_true.1 this p hp
  have hpair : ∀ (i j : Nat) x y, aos[i]? = some x → aos[j]? = some y → i < j → ((masks (ops.toList.map predsOf) []).getD j 0).testBit i = true ∨ (x.apart y = true ∧ x.tot = false ∧ (y.tot = false ∨ x.mvs = true)) := fun i j x y hx hy hij => by
    have h1 := List.all_eq_true.1 hok2 (y, j) (by rw [List.mk_mem_zipIdx_iff_getElem?]; exact hy)
    have h2 := List.all_eq_true.1 h1 (x, i) (by rw [List.mk_mem_zipIdx_iff_getElem?]; exact hx)
    simp only [hij, decide_true, Bool.not_true, Bool.false_or, Bool.or_eq_true, Bool.and_eq_true] at h2
    rcases h2 with h2 | ⟨⟨h3, h4⟩, h5⟩
    · exact .inl h2
    · exact .inr ⟨h3, by simpa using h4, by simpa using h5⟩
  have hmv : ∀ (j : Nat) ao ef, aos[j]? = some ao → efs[j]? = some ef → ao.mvs = true → ao.tot = false ∧ (∀ x ∈ ao.slots, ∃ v, gt (stS (aos.zip efs) (fun i => decide (i < j)) st).t x = .s v) ∧ (∃ v, ef.v = .s v) ∧
      ∀ s : ASt, (∀ x ∈ ao.slots, gt s.t x = gt (stS (aos.zip efs) (fun i => decide (i < j)) st).t x) → StepE P ao s ⟨ef.cond, ef.v, s.ch, []⟩ := fun j ao ef hao hefj hm => by
    obtain ⟨hs, _⟩ := hch j ao ef hao hefj
    obtain ⟨dst, guard, op, tot⟩ := ao
    unfold AO.mvs at hm
    split at hm
    · rename_i x0 hop hgd
      simp only at hop hgd
      subst hop hgd
      have ht : tot = false := by simpa using hm
      subst ht
      cases hs with
      | no h => simp [wantA] at h
      | yes _ h hr =>
        cases hr with
        | f hf hc =>
          simp only [cV] at hf
          split at hf
          · rename_i v hv
            cases hf
            refine ⟨rfl, fun x hx => ?_, ⟨v, rfl⟩, fun s hsl => .yes _ rfl (.f ?_ trivial)⟩
            · simp only [AO.slots, AOp.reads, List.append_nil, List.mem_filterMap, List.mem_singleton] at hx
              obtain ⟨y, rfl, hy⟩ := hx
              cases y with
              | tmp t => simp only [Option.some.injEq] at hy; subst hy; exact ⟨v, hv⟩
              | _ => cases hy
            · have e : cT P s.t x0 = .s v := by
                cases x0 with
                | tmp t =>
                  have := hsl t (by simp [AO.slots, AOp.reads])
                  exact this.trans hv
                | _ => exact hv
              simp only [cV, e]
          · cases hf
    · cases hm
  have hz : ∀ (j : Nat) ao ef, aos[j]? = some ao → efs[j]? = some ef → (aos.zip efs)[j]? = some (ao, ef) := fun j ao ef h1 h2 => by
    rw [List.getElem?_zip_eq_some]; exact ⟨h1, h2⟩
  have hz' : ∀ (j : Nat) p, (aos.zip efs)[j]? = some p → aos[j]? = some p.1 ∧ efs[j]? = some p.2 := fun j p h => by
    obtain ⟨x, y⟩ := p
    rw [List.getElem?_zip_eq_some] at h; exact h
  have hpure : ∀ (j : Nat) p, (aos.zip efs)[j]? = some p → p.1.tot = false → p.2.sub = [] := fun j p h ht => by
    obtain ⟨h1, h2⟩ := hz' j p h
    rcases (hch j p.1 p.2 h1 h2).2 with h | h
    · rw [ht] at h; cases h
    · exact h.2
  have atEnd : ∀ (listed : Array Bool) (E : Env) (U : Nat → Prop) (a : Act) (w : World), (∀ i, i < ops.size → listed.getD i false = true) → Holds P cx E U a w (stS (aos.zip efs) (fun i => listed.getD i false) st) → Q .normal a w := fun listed E U a w hall hh => by
    have hag : ∀ {α : Type} (g : AO × Eff → α → α) (c : α), foldF ((aos.zip efs).map g) (fun i => listed.getD i false) 0 c = foldF ((aos.zip efs).map g) (fun i => decide (i < aos.length)) 0 c := fun g c =>
      foldF_agree _ _ _ 0 c (fun k f hk => by
        have hk' := (List.getElem?_eq_some_iff.1 hk).1
        simp only [List.length_map, List.length_zip, hef, Nat.min_self] at hk'
        left
        simp only [Nat.zero_add, hall k (by omega), hk', decide_true])
    refine hQ E U a w (hh.ext (fun i => ?_) ?_)
    · rw [hfin, gt_stS, gt_stS]; exact hag _ _
    · rw [hfin, ch_stS, ch_stS]; exact hag _ _
  intro fuel
  induction fuel with
  | zero =>
    intro listed E U a w hls hcnt hcl hh
    have hall : ∀ i, i < ops.size → listed.getD i false = true := fun i hi => by
      have := List.countP_eq_zero.1 hcnt i (List.mem_range.2 hi)
      simpa using this
    refine ⟨?_, atEnd listed E U a w hall hh⟩
    apply List.filter_eq_nil_iff.2
    intro i hi hf
    simp only [Bool.and_eq_true] at hf
    have hi' := List.mem_range.1 hi
    have h1 := hall i hi'
    have h2 : listed.getD i true = listed.getD i false := by
      have hlt : i < listed.size := by omega
      simp [Array.getD_eq_getD_getElem?, Array.getElem?_eq_getElem hlt]
    rw [h2, h1] at hf
    simp at hf
  | succ fuel ih =>
    intro listed E U a w hls hcnt hcl hh
    have hsome : ∃ i, i < ops.size ∧ listed.getD i false = false := by
      rcases Classical.em (∃ i, i < ops.size ∧ listed.getD i false = false) with h | h
      · exact h
      · exfalso
        have : ((List.range ops.size).countP fun i => !(listed.getD i false)) = 0 := List.countP_eq_zero.2 (fun i hi => by
          cases hf : listed.getD i false with
          | true => simp
          | false => exact absurd ⟨i, List.mem_range.1 hi, hf⟩ h)
        omega
    have hgd : ∀ i, i < ops.size → listed.getD i true = listed.getD i false := fun i hi => by
      have hlt : i < listed.size := by omega
      simp [Array.getD_eq_getD_getElem?, Array.getElem?_eq_getElem hlt]
    refine ⟨fun hnil => ?_, fun j hj => ?_⟩
    · exfalso
      obtain ⟨i, h1, h2, h3⟩ := exists_least hsome
      have hnot := List.filter_eq_nil_iff.1 hnil i (List.mem_range.2 h1)
      apply hnot
      obtain ⟨o, ho⟩ : ∃ o, ops[i]? = some o := ⟨_, Array.getElem?_eq_getElem h1⟩
      simp only [Bool.and_eq_true]
      refine ⟨by rw [hgd i h1, h2]; rfl, ?_⟩
      simp only [ho, Option.map_some, Option.getD_some]
      rw [Array.all_eq_true']
      intro e he
      simp only [Bool.or_eq_true]
      by_cases hb : Region.binds .any e = true
      · right
        have hp : e.on ∈ predsOf o := List.mem_map.2 ⟨e, List.mem_filter.2 ⟨by simpa using he, hb⟩, rfl⟩
        exact h3 _ (hlt i (predsOf o) (by simp [ho]) _ hp)
      · left; simpa using hb
    · have hj2 := List.mem_filter.1 hj
      have hjm := List.mem_range.1 hj2.1
      have hjr := hj2.2
      simp only [Bool.and_eq_true] at hjr
      obtain ⟨o, ho⟩ : ∃ o, ops[j]? = some o := ⟨_, Array.getElem?_eq_getElem hjm⟩
      obtain ⟨ao, hao⟩ : ∃ ao, aos[j]? = some ao := ⟨_, List.getElem?_eq_getElem (by omega)⟩
      obtain ⟨ef, hefj⟩ : ∃ ef, efs[j]? = some ef := ⟨_, List.getElem?_eq_getElem (by omega)⟩
      have hSj : listed.getD j false = false := by
        have := hjr.1
        rw [hgd j hjm] at this
        simpa using this
      have hpreds : ∀ p ∈ predsOf o, listed.getD p false = true := fun p hp => by
        obtain ⟨e, he, rfl⟩ := List.mem_map.1 hp
        obtain ⟨he1, he2⟩ := List.mem_filter.1 he
        have := hjr.2
        simp only [ho, Option.map_some, Option.getD_some] at this
        rw [Array.all_eq_true'] at this
        have := this e (by simpa using he1)
        simpa [he2] using this
      have hclS : ∀ (i : Nat) l, (ops.toList.map predsOf)[i]? = some l → listed.getD i false = true → ∀ p ∈ l, listed.getD p false = true := fun i l hi hs p hp => by
        simp only [List.getElem?_map, Option.map_eq_some_iff, Array.getElem?_toList] at hi
        obtain ⟨o', ho', rfl⟩ := hi
        exact hcl i o' ho' hs p hp
      have hbef : ∀ i x, aos[i]? = some x → i < j → listed.getD i false = true ∨ (x.apart ao = true ∧ x.tot = false ∧ (ao.tot = false ∨ x.mvs = true)) := fun i x hx hij => by
        rcases hpair i j x ao hx hao hij with h | h
        · left
          exact masks_ok hclS hlt (ops.toList.map predsOf) [] (by simp) (fun j i h => by simp at h) j i h (predsOf o) (by simp [ho]) hpreds
        · exact .inr h
      have haft : ∀ i x, aos[i]? = some x → j < i → listed.getD i false = true → (ao.apart x = true ∧ ao.tot = false ∧ (x.tot = false ∨ ao.mvs = true)) := fun i x hx hij hs => by
        rcases hpair j i ao x hao hx hij with h | h
        · exfalso
          obtain ⟨o', ho'⟩ : ∃ o', ops[i]? = some o' := ⟨_, Array.getElem?_eq_getElem (by have := (List.getElem?_eq_some_iff.1 hx).1; omega)⟩
          have := masks_ok hclS hlt (ops.toList.map predsOf) [] (by simp) (fun j i h => by simp at h) i j h (predsOf o') (by simp [ho']) (hcl i o' ho' hs)
          rw [hSj] at this; cases this
        · exact h
      obtain ⟨hst, hpu⟩ := hch j ao ef hao hefj
      have hgo : ∃ ef2, StepE P ao (stS (aos.zip efs) (fun i => listed.getD i false) st) ef2 ∧ (∀ E' U' a' w', Holds P cx E' U' a' w' (cd ao.dst ef2 (stS (aos.zip efs) (fun i => listed.getD i false) st)) → Holds P cx E' U' a' w' (stS (aos.zip efs) (fun i => (listed.setIfInBounds j true).getD i false) st)) := by
        cases hmvs : ao.mvs with
        | true =>
          obtain ⟨m1, m2, ⟨v0, m3⟩, m4⟩ := hmv j ao ef hao hefj hmvs
          have hpj : ef.sub = [] := hpure j (ao, ef) (hz j ao ef hao hefj) m1
          have hlate : ∀ (x : Nat) (v : Value) (k : Nat) (p : AO × Eff), (aos.zip efs)[k]? = some p → j < k → listed.getD k false = true → p.1.dst ≠ some x → slotF x p (.s v) = .s v := fun x v k p hp hk hs hne => by
            simp only [slotF]
            rw [if_neg hne]
            cases hm : p.2.sub <;> simp [bV]
          have hslots : ∀ x ∈ ao.slots, gt (stS (aos.zip efs) (fun i => listed.getD i false) st).t x = gt (stS (aos.zip efs) (fun i => decide (i < j)) st).t x := fun x hx => by
            obtain ⟨v, hv⟩ := m2 x hx
            rw [hv]
            rw [gt_stS] at hv ⊢
            refine foldF_upto _ _ 0 _ _ j (fun k f hk hkj => ?_) (fun k f hk hkj hs => ?_) hv
            · simp only [List.getElem?_map, Option.map_eq_some_iff] at hk
              obtain ⟨p, hp, rfl⟩ := hk
              obtain ⟨g1, g2⟩ := hz' k p hp
              simp only [Nat.zero_add] at hkj ⊢
              rcases hbef k p.1 g1 hkj with h1 | ⟨h1, h2, h3⟩
              · exact .inl h1
              · right
                intro c
                have := (apart_spec h1).1
                simp only [slotF, hpure k p hp h2, subC_nil]
                rw [if_neg (fun e => (this x e).1 hx)]
            · simp only [List.getElem?_map, Option.map_eq_some_iff] at hk
              obtain ⟨p, hp, rfl⟩ := hk
              obtain ⟨g1, g2⟩ := hz' k p hp
              simp only [Nat.zero_add] at hkj hs
              have hne : k ≠ j := fun e => by rw [e, hSj] at hs; cases hs
              obtain ⟨h1, h2, h3⟩ := haft k p.1 g1 (by omega) hs
              exact hlate x v k p hp (by omega) hs (fun e => (apart_spec h1).2 x e hx)
          refine ⟨_, m4 _ hslots, fun E' U' a' w' h => ?_⟩
          have hS' : (fun i => (listed.setIfInBounds j true).getD i false) = fun i => i == 0 + j || listed.getD i false := by
            funext i
            rw [getD_set _ _ _ (by omega), Nat.zero_add]
          rw [hS']
          have hother : ∀ k, k ≠ j → (0 + k == 0 + j) = false := fun k hk => by simp; exact hk
          refine h.ext (fun x => ?_) ?_
          · have hkj : ((aos.zip efs).map (slotF x))[j]? = some (slotF x (ao, ef)) := by simp [hz j ao ef hao hefj]
            rw [gt_stS]
            by_cases hx : ao.dst = some x
            · have e1 : gt (cd ao.dst ⟨ef.cond, ef.v, (stS (aos.zip efs) (fun i => listed.getD i false) st).ch, []⟩ (stS (aos.zip efs) (fun i => listed.getD i false) st)).t x = .s v0 := by
                simp only [cd, gt_putS, hx, if_true, m3]
              rw [e1]
              refine (foldF_set _ _ 0 _ _ j _ hkj (by simp) (fun a => by simp only [slotF, hx, if_true, m3]) (fun k g hk hg hs => ?_)).symm
              simp only [List.getElem?_map, Option.map_eq_some_iff] at hg
              obtain ⟨p, hp, rfl⟩ := hg
              obtain ⟨g1, g2⟩ := hz' k p hp
              rw [hother k (by omega), Bool.false_or, Nat.zero_add] at hs
              obtain ⟨h1, h2, h3⟩ := haft k p.1 g1 hk hs
              exact hlate x v0 k p hp hk hs ((apart_spec h1).1 x hx).2
            · have e1 : gt (cd ao.dst ⟨ef.cond, ef.v, (stS (aos.zip efs) (fun i => listed.getD i false) st).ch, []⟩ (stS (aos.zip efs) (fun i => listed.getD i false) st)).t x = gt (stS (aos.zip efs) (fun i => listed.getD i false) st).t x := by
                simp only [cd, gt_putS, hx, if_false, subC_nil]
              rw [e1, gt_stS]
              refine foldF_agree _ _ _ 0 _ (fun k f hk => ?_)
              by_cases hkj2 : k = j
              · subst hkj2
                rw [hkj] at hk; cases hk
                right; intro c
                simp only [slotF, hpj, subC_nil, if_neg hx]
              · left
                rw [hother k hkj2, Bool.false_or]
          · show (stS (aos.zip efs) (fun i => listed.getD i false) st).ch = _
            rw [ch_stS, ch_stS]
            have hkj : ((aos.zip efs).map chF)[j]? = some (chF (ao, ef)) := by simp [hz j ao ef hao hefj]
            refine foldF_agree _ _ _ 0 _ (fun k f hk => ?_)
            by_cases hkj2 : k = j
            · subst hkj2
              rw [hkj] at hk; cases hk
              right; intro c; simp [chF, m1]
            · left
              rw [hother k hkj2, Bool.false_or]
        | false =>
          have haft0 := haft
          have haft : ∀ i x, aos[i]? = some x → j < i → listed.getD i false = true → (ao.apart x = true ∧ ao.tot = false ∧ x.tot = false) := fun i x hx hij hs => by
            obtain ⟨h1, h2, h3⟩ := haft0 i x hx hij hs
            exact ⟨h1, h2, h3.resolve_right (by rw [hmvs]; simp)⟩
          have hslots : ∀ x ∈ ao.slots, gt (stS (aos.zip efs) (fun i => decide (i < j)) st).t x = gt (stS (aos.zip efs) (fun i => listed.getD i false) st).t x := fun x hx => by
            rw [gt_stS, gt_stS]
            refine foldF_agree _ _ _ 0 _ (fun k f hk => ?_)
            simp only [List.getElem?_map, Option.map_eq_some_iff] at hk
            obtain ⟨p, hp, rfl⟩ := hk
            obtain ⟨g1, g2⟩ := hz' k p hp
            simp only [Nat.zero_add]
            rcases Nat.lt_trichotomy k j with h | h | h
            · rcases hbef k p.1 g1 h with h1 | ⟨h1, h2, h3⟩
              · left; simp [h, h1]
              · right
                intro c
                have := (apart_spec h1).1
                simp only [slotF, hpure k p hp h2, subC_nil]
                rw [if_neg (fun e => (this x e).1 hx)]
            · subst h; left; simp [hSj]
            · cases hs : listed.getD k false with
              | false => left; simp; omega
              | true =>
                right
                obtain ⟨h1, h2, h3⟩ := haft k p.1 g1 h hs
                intro c
                have := (apart_spec h1).2
                simp only [slotF, hpure k p hp h3, subC_nil]
                rw [if_neg (fun e => this x e hx)]
          have hchs : (stS (aos.zip efs) (fun i => decide (i < j)) st).ch = (stS (aos.zip efs) (fun i => listed.getD i false) st).ch := by
            rw [ch_stS, ch_stS]
            refine foldF_agree _ _ _ 0 _ (fun k f hk => ?_)
            simp only [List.getElem?_map, Option.map_eq_some_iff] at hk
            obtain ⟨p, hp, rfl⟩ := hk
            obtain ⟨g1, g2⟩ := hz' k p hp
            simp only [Nat.zero_add]
            rcases Nat.lt_trichotomy k j with h | h | h
            · rcases hbef k p.1 g1 h with h1 | ⟨h1, h2, h3⟩
              · left; simp [h, h1]
              · right; intro c; simp [chF, h2]
            · subst h; left; simp [hSj]
            · cases hs : listed.getD k false with
              | false => left; simp; omega
              | true =>
                right
                obtain ⟨h1, h2, h3⟩ := haft k p.1 g1 h hs
                intro c; simp [chF, h3]
          have hst2 := hst.congr hslots hchs
          have hnext : ∀ E' U' a' w', Holds P cx E' U' a' w' (cd ao.dst ef (stS (aos.zip efs) (fun i => listed.getD i false) st)) → Holds P cx E' U' a' w' (stS (aos.zip efs) (fun i => (listed.setIfInBounds j true).getD i false) st) := fun E' U' a' w' h => by
            have hS' : (fun i => (listed.setIfInBounds j true).getD i false) = fun i => i == 0 + j || listed.getD i false := by
              funext i
              rw [getD_set _ _ _ (by omega), Nat.zero_add]
            rw [hS']
            refine h.ext (fun x => ?_) ?_
            · have e1 : gt (cd ao.dst ef (stS (aos.zip efs) (fun i => listed.getD i false) st)).t x = slotF x (ao, ef) (gt (stS (aos.zip efs) (fun i => listed.getD i false) st).t x) := by
                simp only [cd, gt_putS, slotF]
              rw [e1, gt_stS, gt_stS]
              have hkj : ((aos.zip efs).map (slotF x))[j]? = some (slotF x (ao, ef)) := by simp [hz j ao ef hao hefj]
              by_cases hx : ao.dst = some x ∨ ao.tot = true
              · refine (foldF_add _ (fun i => listed.getD i false) 0 _ j _ hkj (by simpa using hSj) (fun k g hk hg hs => ?_)).symm
                simp only [List.getElem?_map, Option.map_eq_some_iff] at hg
                obtain ⟨p, hp, rfl⟩ := hg
                obtain ⟨g1, g2⟩ := hz' k p hp
                obtain ⟨h1, h2, h3⟩ := haft k p.1 g1 hk (by simpa using hs)
                rcases hx with hx | hx
                · intro c
                  have := ((apart_spec h1).1 x hx).2
                  simp only [slotF, hpure k p hp h3, subC_nil, if_neg this]
                · rw [hx] at h2; cases h2
              · have hx1 : ao.dst ≠ some x := fun e => hx (.inl e)
                have hx2 : ao.tot = false := by cases ht : ao.tot with | false => rfl | true => exact absurd (.inr ht) hx
                have hid : ∀ c, slotF x (ao, ef) c = c := fun c => by
                  have := hpure j (ao, ef) (hz j ao ef hao hefj) hx2
                  simp only at this
                  simp only [slotF, this, subC_nil, if_neg hx1]
                rw [hid]
                refine foldF_agree _ _ _ 0 _ (fun k f hk => ?_)
                by_cases hkj2 : k = j
                · subst hkj2
                  rw [hkj] at hk; cases hk
                  exact .inr hid
                · left
                  have : (0 + k == 0 + j) = false := by simp; exact hkj2
                  simp only [this, Bool.false_or]
            · rw [ch_stS]
              simp only [cd]
              have hkj : ((aos.zip efs).map chF)[j]? = some (chF (ao, ef)) := by simp [hz j ao ef hao hefj]
              cases ht : ao.tot with
              | true =>
                have := foldF_add ((aos.zip efs).map chF) (fun i => listed.getD i false) 0 st.ch j _ hkj (by simpa using hSj) (fun k g hk hg hs => by
                  simp only [List.getElem?_map, Option.map_eq_some_iff] at hg
                  obtain ⟨p, hp, rfl⟩ := hg
                  obtain ⟨g1, g2⟩ := hz' k p hp
                  obtain ⟨h1, h2, h3⟩ := haft k p.1 g1 hk (by simpa using hs)
                  rw [ht] at h2; cases h2)
                rw [this]
                simp [chF, ht]
              | false =>
                have hp : ef.ch = (stS (aos.zip efs) (fun i => decide (i < j)) st).ch := by
                  rcases hpu with h | h
                  · rw [ht] at h; cases h
                  · exact h.1
                rw [hp, hchs, ch_stS]
                refine foldF_agree _ _ _ 0 _ (fun k f hk => ?_)
                by_cases hkj2 : k = j
                · subst hkj2
                  rw [hkj] at hk; cases hk
                  right; intro c; simp [chF, ht]
                · left
                  have : (0 + k == 0 + j) = false := by simp; exact hkj2
                  simp only [this, Bool.false_or]
          exact ⟨ef, hst2, hnext⟩
      obtain ⟨ef2, hst2, hnext⟩ := hgo
      have hstep := step_wp (Q := Q) (K := wpAnyIn (FW cx.ro) 0 P .any ops Q fuel (listed.setIfInBounds j true)) (hm j o ao ho hao) hst2 hh (fun E' U' a' w' h =>
        ih (listed.setIfInBounds j true) E' U' a' w' (by simpa using hls)
          (by
            have e : (fun i => !((listed.setIfInBounds j true).getD i false)) = fun i => !(i == j || listed.getD i false) := by
              funext i; rw [getD_set _ _ _ (by omega)]
            rw [e]
            have := count_set (S := fun i => listed.getD i false) hjm hSj
            omega)
          (fun i o' ho' hs p hp => by
            rw [getD_set _ _ _ (by omega)] at hs ⊢
            simp only [Bool.or_eq_true, beq_iff_eq] at hs ⊢
            right
            rcases hs with rfl | hs
            · rw [ho] at ho'; cases ho'; exact hpreds p hp
            · exact hcl i o' ho' hs p hp)
          (hnext E' U' a' w' h))
      unfold wpOpIn
      rw [ho]
      rcases hstep with ⟨e, h⟩ | ⟨e, h⟩
      · simp only [e, if_true]; exact h
      · simp only [e, Bool.false_eq_true, if_false]; exact ⟨fun _ _ => trivial, h⟩
end draw
theorem draw_region {cx : Cx} {ops : Array Oper} {aos : List AO} {st st' : ASt} {id : Nat} {E : Env} {U : Nat → Prop} {a : Act} {w : World} {Q : Exit → Act → World → Prop} (hmix : P.follows .mixedOrders = true) (hops : ops.size = aos.length)
    (hm : ∀ (j : Nat) o ao, ops[j]? = some o → aos[j]? = some ao → Matches P cx.n ops o ao) (hok : drawOk ops aos = true) (hc : Chain P true aos st st') (hh : Holds P cx E U a w st) (hQ : ∀ E' U' a' w', Holds P cx E' U' a' w' st' → Q .normal a' w') :
    (Code.region id ops true).wpIn (FW cx.ro) 0 P Q a w := by
  obtain ⟨efs, l1, l2, l3⟩ := chain_list aos st st' hc
  refine wpIn_region_any hmix (draw_any hops l1 hm hok l2 l3 hQ ops.size _ E U a _ (by simp) ?_ (fun j o ho hs => ?_) ?_)
  · have : ((List.range ops.size).countP fun i => !((Array.replicate ops.size false).getD i false)) = (List.range ops.size).length := List.countP_eq_length.2 (fun i hi => by
      have := List.mem_range.1 hi
      simp [Array.getD_eq_getD_getElem?, this])
    simpa using this
  · exfalso
    by_cases h : j < ops.size <;> simp [Array.getD_eq_getD_getElem?, h] at hs
  · have e : stS (aos.zip efs) (fun i => (Array.replicate ops.size false).getD i false) st = st := foldF_id _ _ 0 st (fun k f _ hs => by
      exfalso
      by_cases h : k < ops.size <;> simp [Array.getD_eq_getD_getElem?, h] at hs)
    rw [e]
    exact ⟨hh.sz, hh.df, hh.tok, hh.inv, hh.os, hh.tape, hh.output, hh.size, hh.fr, hh.keepA, hh.live, hh.base, hh.fix, hh.hid, hh.gok⟩
end Go.Am
end
section
namespace Go.Am
variable {P : Program} [Glob P]
def ownFlag (h : AO) : Bool := match h.op with | .mkSl own _ _ _ _ _ => own | .store own _ _ _ => own | .mvs _ => true | _ => false
def inB (n : Nat) (ao : AO) : Bool :=
  (match ao.dst with | some d => decide (d < n) | none => true) && (match ao.guard with | some (g, _) => decide (g < n) | none => true)
def compOs (P : Program) (n : Nat) (ops : Array Oper) : List AO → List Oper → Option (List AO)
  | [], [] => some []
  | h :: hs, o :: os => (compO P (ownFlag h) h.tot ops o).bind fun ao => if inB n ao && (ao.tot == h.tot) then (compOs P n ops hs os).map (ao :: ·) else none
  | _, _ => none
def compC (P : Program) (n : Nat) : AC → Code → Option AC
  | .keep l x, c => (compC P n x c).map (.keep l)
  | .cut x, c => (compC P n x c).map .cut
  | .nilrow i sz ty x, c => (compC P n x c).map (.nilrow i sz ty)
  | .fz l x, c => (compC P n x c).map (.fz l)
  | .deepen i isz ity x, c => (compC P n x c).map (.deepen i isz ity)
  | .rangeFunc _ _ a b, .rangeFunc g ps x y => if ps.all (fun p => decide (p < n)) then (compC P n a x).bind fun a' => (compC P n b y).map fun b' => .rangeFunc g ps.toList a' b' else none
  | .skip, .skip => some .skip
  | .ret, .ret => some .ret
  | .seq a b, .seq c d => (compC P n a c).bind fun a' => (compC P n b d).map fun b' => .seq a' b'
  | .region dr hs, .region _ ops draw =>
    if draw = dr then (compOs P n ops hs ops.toList).bind fun r => if !dr || (drawOk ops r && P.follows .mixedOrders) then some (.region dr r) else none else none
  | .draw e rb hs, .region _ ops true =>
    (compOs P n ops hs ops.toList).bind fun r => if drawOk1 e rb ops r && P.follows .mixedOrders then some (.draw e rb r) else none
  | .cond _ a b, .cond c x y => (compC P n a x).bind fun a' => (compC P n b y).map fun b' => .cond c a' b'
  | .block _ a, .block id x => (compC P n a x).map (.block id)
  | .loop a, .loop x => (compC P n a x).map .loop
  | .exit _, .exit id => some (.exit id)
  | _, _ => none
inductive It where
  | c (x : AC)
  | blk (id : Nat)
  | post (Q : ASt → Prop)
  | rnd (N : ASt → Prop) (R : Code → ASt → Prop)
  | lp (x : AC)
def RnH (P : Program) [Glob P] (cx : Cx) (Q : ASt → Prop) (a : Act) (w : World) : Prop := ∃ E U st, Holds P cx E U a w st ∧ Q st
def LoopIn (P : Program) (ro : Option Nat) (Q : Exit → Act → World → Prop) (c : Code) (a : Act) (w : World) : Prop :=
  ∀ (b : Frame) (kk : List Item) (cs : List Frame), b.roundOf = (FW ro).round → (FW ro).fn b.fn → (FW ro).room (cs.length + 1 + 0) →
    ∃ e a' w', Q e a' w' ∧ ArrivesIn (Machine.fenced P (FW ro)) P (lone (b.atR a (.code c :: .inLoop c :: kk)) cs w) b kk cs e a' w'
def WE (P : Program) [Glob P] (cx : Cx) (Q : ASt → Prop) : List It → Exit → Act → World → Prop
  | [], .normal, a, w => RnH P cx Q a w
  | [], .ret, a, w => RnH P cx Q a w
  | [], _, _, _ => False
  | .c x :: k, .normal, a, w => ∀ code, compC P cx.n x code = some x → code.wpIn (FW cx.ro) 0 P (WE P cx Q k) a w
  | .c _ :: k, e, a, w => WE P cx Q k e a w
  | .blk _ :: k, .normal, a, w => WE P cx Q k .normal a w
  | .blk id :: k, .exit j, a, w => if j = id then WE P cx Q k .normal a w else WE P cx Q k (.exit j) a w
  | .blk _ :: k, e, a, w => WE P cx Q k e a w
  | .post R :: _, .normal, a, w => RnH P cx R a w
  | .post _ :: k, e, a, w => WE P cx Q k e a w
  | .lp x :: k, .normal, a, w => ∀ code, compC P cx.n x code = some x → LoopIn P cx.ro (WE P cx Q k) code a w
  | .lp _ :: k, e, a, w => WE P cx Q k e a w
  | .rnd N _ :: _, .normal, a, w => RnH P cx N a w
  | .rnd _ R :: _, .ret, a, w => RnH P cx (R .ret) a w
  | .rnd _ R :: _, .exit j, a, w => RnH P cx (R (.exit j)) a w
  | .rnd _ _ :: _, _, _, _ => False
def SG (P : Program) [Glob P] (cx : Cx) (Q : ASt → Prop) (k : List It) (st : ASt) : Prop :=
  ∀ E U a w, Holds P cx E U a w st → WE P cx Q k .normal a w
def DG (P : Program) [Glob P] (cx : Cx) (Q : ASt → Prop) (dr : Bool) (k : List It) (os : List AO) (st : ASt) : Prop :=
  match dr with
  | true => ∃ st', Chain P true os st st' ∧ SG P cx Q k st'
  | false => Tree P cx (SG P cx Q k) os st
variable {cx : Cx} {Q : ASt → Prop} {k : List It} {st : ASt}
def bP (Q : ASt → Prop) : List It → ASt → Prop
  | [], st => Q st
  | .rnd _ R :: _, st => R .ret st
  | .c _ :: k, st => bP Q k st
  | .blk _ :: k, st => bP Q k st
  | .post _ :: k, st => bP Q k st
  | .lp _ :: k, st => bP Q k st
theorem WE_ret : ∀ (k : List It) (a : Act) (w : World), RnH P cx (bP Q k) a w → WE P cx Q k .ret a w
  | [], _, _, h => h
  | .c _ :: k, a, w, h => WE_ret k a w h
  | .blk _ :: k, a, w, h => WE_ret k a w h
  | .post _ :: k, a, w, h => WE_ret k a w h
  | .lp _ :: k, a, w, h => WE_ret k a w h
  | .rnd _ _ :: _, _, _, h => h
inductive ER where
  | cont (k : List It)
  | out (p : ASt → Prop)
  | none
def bu (id : Nat) : List It → ER
  | [] => .none
  | .blk j :: k => if j = id then .cont k else bu id k
  | .rnd _ R :: _ => .out (R (.exit id))
  | .c _ :: k => bu id k
  | .post _ :: k => bu id k
  | .lp _ :: k => bu id k
theorem WE_exit {id : Nat} : ∀ (k k' : List It) (a : Act) (w : World), bu id k = .cont k' → WE P cx Q k' .normal a w → WE P cx Q k (.exit id) a w
  | [], k', a, w, h, _ => by simp [bu] at h
  | .c _ :: k, k', a, w, h, h2 => WE_exit k k' a w (by simpa only [bu] using h) h2
  | .post _ :: k, k', a, w, h, h2 => WE_exit k k' a w (by simpa only [bu] using h) h2
  | .lp _ :: k, k', a, w, h, h2 => WE_exit k k' a w (by simpa only [bu] using h) h2
  | .rnd _ _ :: k, k', a, w, h, h2 => by simp [bu] at h
  | .blk j :: k, k', a, w, h, h2 => by
    simp only [bu] at h
    simp only [WE]
    by_cases hj : j = id
    · subst hj; simp at h; subst h; simpa using h2
    · rw [if_neg hj] at h
      rw [if_neg (fun e => hj e.symm)]
      exact WE_exit k k' a w h h2
theorem WE_out {id : Nat} : ∀ (k : List It) (p : ASt → Prop) (a : Act) (w : World), bu id k = .out p → RnH P cx p a w → WE P cx Q k (.exit id) a w
  | [], p, a, w, h, _ => by simp [bu] at h
  | .c _ :: k, p, a, w, h, h2 => WE_out k p a w (by simpa only [bu] using h) h2
  | .post _ :: k, p, a, w, h, h2 => WE_out k p a w (by simpa only [bu] using h) h2
  | .lp _ :: k, p, a, w, h, h2 => WE_out k p a w (by simpa only [bu] using h) h2
  | .rnd _ R :: k, p, a, w, h, h2 => by simp only [bu, ER.out.injEq] at h; subst h; exact h2
  | .blk j :: k, p, a, w, h, h2 => by
    simp only [bu] at h
    simp only [WE]
    by_cases hj : j = id
    · subst hj; simp at h
    · rw [if_neg hj] at h
      rw [if_neg (fun e => hj e.symm)]
      exact WE_out k p a w h h2
theorem S_nil (h : Q st) : SG P cx Q [] st := fun E U a w hh => ⟨E, U, st, hh, h⟩
theorem S_post {R : ASt → Prop} (h : R st) : SG P cx Q (.post R :: k) st := fun E U a w hh => ⟨E, U, st, hh, h⟩
theorem S_blk {id : Nat} (h : SG P cx Q k st) : SG P cx Q (.blk id :: k) st := fun E U a w hh => h E U a w hh
theorem S_code {x : AC} (h : ∀ code, compC P cx.n x code = some x → ∀ E U a w, Holds P cx E U a w st → code.wpIn (FW cx.ro) 0 P (WE P cx Q k) a w) : SG P cx Q (.c x :: k) st :=
  fun E U a w hh code hc => h code hc E U a w hh
theorem loopIn_of {x : AC} {c : Code} {E : Env} {U : Nat → Prop} {a : Act} {w : World} (h : SG P cx Q (.c x :: .lp x :: k) st) (hh : Holds P cx E U a w st) (hc : compC P cx.n x c = some x) : LoopIn P cx.ro (WE P cx Q k) c a w := by
  intro b kk cs hro hF hroom
  obtain ⟨e, a1, w1, hq, harr⟩ := h E U a w hh c hc b (.inLoop c :: kk) cs hro hF hroom
  cases e with
  | normal =>
    obtain ⟨e2, a2, w2, hq2, harr2⟩ := hq c hc b kk cs hro hF hroom
    exact ⟨e2, a2, w2, hq2, .of_steps (StepsIn.trans harr (.one (fenced_calm hF hroom rfl) stepR_inLoop)) harr2⟩
  | exit id => exact ⟨_, a1, w1, hq, .pass (x := .inLoop c) rfl (fun _ _ => .inl (by simp)) harr⟩
  | goto l => exact ⟨_, a1, w1, hq, .pass (x := .inLoop c) rfl (fun _ _ => .inl (by simp)) harr⟩
  | ret => exact ⟨_, a1, w1, hq, .pass (x := .inLoop c) rfl (fun _ _ => .inl (by simp)) harr⟩
  | panic ch => exact ⟨_, a1, w1, hq, .pass (x := .inLoop c) rfl (fun _ _ => .inl (by simp)) harr⟩
  | outgrown => exact ⟨_, a1, w1, hq, .pass (x := .inLoop c) rfl (fun _ _ => .inl (by simp)) harr⟩
theorem S_lp {x : AC} (h : SG P cx Q (.c x :: .lp x :: k) st) : SG P cx Q (.lp x :: k) st := fun _ _ _ _ hh _ hc => loopIn_of h hh hc
theorem S_lp0 {x : AC} (h : SG P cx Q (.c x :: .lp x :: k) st) : SG P cx Q (.c (.loop x) :: k) st := S_code fun code hc E U a w hh => by
  cases code <;> simp [compC] at hc
  rename_i c
  intro b kk cs hro hF hroom
  obtain ⟨e, a', w', hq, harr⟩ := loopIn_of h hh hc b kk cs hro hF hroom
  exact ⟨e, a', w', hq, .of_steps (.one (fenced_calm hF hroom rfl) stepR_loop) harr⟩
theorem S_skip (h : SG P cx Q k st) : SG P cx Q (.c .skip :: k) st := S_code fun code hc E U a w hh => by
  cases code <;> simp [compC] at hc
  exact wpIn_skip (h E U a w hh)
theorem S_ret (h : bP Q k st) : SG P cx Q (.c .ret :: k) st := S_code fun code hc E U a w hh => by
  cases code <;> simp [compC] at hc
  exact wpIn_ret (WE_ret k a w ⟨E, U, st, hh, h⟩)
theorem S_out {id : Nat} {p : ASt → Prop} (hk : bu id k = .out p) (h : p st) : SG P cx Q (.c (.exit id) :: k) st := S_code fun code hc E U a w hh => by
  cases code <;> simp [compC] at hc
  subst hc
  exact wpIn_exit (WE_out k p a w hk ⟨E, U, st, hh, h⟩)
theorem S_exit {id : Nat} {k' : List It} (hk : bu id k = .cont k') (h : SG P cx Q k' st) : SG P cx Q (.c (.exit id) :: k) st := S_code fun code hc E U a w hh => by
  cases code <;> simp [compC] at hc
  subst hc
  exact wpIn_exit (WE_exit k k' a w hk (h E U a w hh))
theorem S_seq {x y : AC} (h : SG P cx Q (.c x :: .c y :: k) st) : SG P cx Q (.c (.seq x y) :: k) st := S_code fun code hc E U a w hh => by
  cases code <;> simp only [compC, Option.bind_eq_some_iff, Option.map_eq_some_iff, reduceCtorEq] at hc
  rename_i c d
  obtain ⟨a', h1, b', h2, h3⟩ := hc
  cases h3
  refine wpIn_seq (wpIn_mono (h E U a w hh c h1) (fun e a w he => ?_))
  cases e <;> first | exact he | exact he d h2
theorem S_keep {l : List Nat} {x : AC} (h : SG P cx Q (.c x :: k) st) : SG P cx Q (.c (.keep l x) :: k) st := S_code fun code hc E U a w hh => by
  simp only [compC, Option.map_eq_some_iff] at hc
  obtain ⟨x', h1, h2⟩ := hc
  cases h2
  exact h E U a w hh code h1
theorem S_nilrow0 {i sz : Nat} {ty : TypeId} {x : AC} (h : SG P cx Q (.c x :: k) st) : SG P cx Q (.c (.nilrow i sz ty x) :: k) st := S_code fun code hc E U a w hh => by
  simp only [compC, Option.map_eq_some_iff] at hc
  obtain ⟨x', h1, h2⟩ := hc
  cases h2
  exact h E U a w hh code h1
theorem S_fz0 {l : List Nat} {x : AC} (h : SG P cx Q (.c x :: k) st) : SG P cx Q (.c (.fz l x) :: k) st := S_code fun code hc E U a w hh => by
  simp only [compC, Option.map_eq_some_iff] at hc
  obtain ⟨x', h1, h2⟩ := hc
  cases h2
  exact h E U a w hh code h1
theorem S_deepen0 {i isz : Nat} {ity : TypeId} {x : AC} (h : SG P cx Q (.c x :: k) st) : SG P cx Q (.c (.deepen i isz ity x) :: k) st := S_code fun code hc E U a w hh => by
  simp only [compC, Option.map_eq_some_iff] at hc
  obtain ⟨x', h1, h2⟩ := hc
  cases h2
  exact h E U a w hh code h1
theorem S_block {id : Nat} {x : AC} (h : SG P cx Q (.c x :: .blk id :: k) st) : SG P cx Q (.c (.block id x) :: k) st := S_code fun code hc E U a w hh => by
  cases code <;> simp [compC] at hc
  rename_i id' c
  obtain ⟨h1, rfl⟩ := hc
  refine wpIn_block (wpIn_mono (h E U a w hh c h1) (fun e a w he => ?_))
  cases e <;> exact he
theorem S_cond {c : Operand} {x y : AC} {b : Bool} (hb : cT P st.t c = .s (.bool b)) (h1 : b = true → SG P cx Q (.c x :: k) st) (h2 : b = false → SG P cx Q (.c y :: k) st) : SG P cx Q (.c (.cond c x y) :: k) st := S_code fun code hc E U a w hh => by
  cases code <;> simp only [compC, Option.bind_eq_some_iff, Option.map_eq_some_iff, reduceCtorEq] at hc
  rename_i c' p q
  obtain ⟨a', g1, b', g2, g3⟩ := hc
  cases g3
  have he := rep_s (hb ▸ hh.ev c)
  exact wpIn_cond_split he (fun e => h1 e E U a w hh p g1) (fun e => h2 e E U a w hh q g2)
theorem compOs_match {n : Nat} {ops : Array Oper} : ∀ {hs : List AO} {os : List Oper} {r : List AO}, compOs P n ops hs os = some r → r.length = os.length ∧ ∀ (j : Nat) o ao, os[j]? = some o → r[j]? = some ao → Matches P n ops o ao
  | [], [], r, h => by simp [compOs] at h; subst h; exact ⟨rfl, fun j o ao h => by simp at h⟩
  | [], o :: os, r, h => by simp [compOs] at h
  | x :: hs, [], r, h => by simp [compOs] at h
  | x :: hs, o :: os, r, h => by
    simp only [compOs, Option.bind_eq_some_iff] at h
    obtain ⟨ao, h1, h2⟩ := h
    split at h2
    · rename_i hb
      simp only [Option.map_eq_some_iff] at h2
      obtain ⟨r', h3, rfl⟩ := h2
      obtain ⟨g1, g2⟩ := compOs_match h3
      refine ⟨by simp [g1], fun j o' ao' ho ha => ?_⟩
      cases j with
      | zero =>
        simp at ho ha
        subst ho ha
        simp only [Bool.and_eq_true, inB, beq_iff_eq] at hb
        obtain ⟨⟨b1, b2⟩, b3⟩ := hb
        refine ⟨⟨_, by rw [b3]; exact h1⟩, fun d hd => ?_, fun d want hd => ?_⟩
        · rw [hd] at b1; simpa using b1
        · rw [hd] at b2; simpa using b2
      | succ j => simp at ho ha; exact g2 j o' ao' ho ha
    · cases h2
theorem S_region {dr : Bool} {os : List AO} (h : DG P cx Q dr k os st) : SG P cx Q (.c (.region dr os) :: k) st := S_code fun code hc E U a w hh => by
  cases code <;> simp only [compC, reduceCtorEq] at hc
  rename_i id ops draw
  split at hc
  · rename_i hd
    subst hd
    simp only [Option.bind_eq_some_iff] at hc
    obtain ⟨r, h3, h4⟩ := hc
    split at h4
    · rename_i hok
      simp only [Option.some.injEq, AC.region.injEq, true_and] at h4
      subst h4
      obtain ⟨g1, g2⟩ := compOs_match h3
      have g2' : ∀ (j : Nat) o ao, ops[j]? = some o → r[j]? = some ao → Matches P cx.n ops o ao := fun j o ao ho ha => g2 j o ao (by simpa using ho) ha
      cases draw with
      | false =>
        exact wpIn_region_list (plain_ops (cx := cx) (Q := WE P cx Q k) (G := SG P cx Q k) (fun st' h2 E' U' a' w' h => h2 E' U' a' w' h) ops.toList r st E U a w g1.symm g2 h hh)
      | true =>
        obtain ⟨st', h1, h2⟩ := h
        simp only [Bool.not_true, Bool.false_or, Bool.and_eq_true] at hok
        exact draw_region hok.2 (by simpa using g1.symm) g2' hok.1 h1 hh (fun E' U' a' w' h => h2 E' U' a' w' h)
    · cases h4
  · cases hc
def LeS (s s' : ASt) : Prop := (∀ i, gt s'.t i = .any ∨ gt s.t i = gt s'.t i) ∧ ((s'.ch.map (·.1)).Nodup ∧ ∀ p ∈ s'.ch, lk s.ch p.1 = some p.2)
theorem HidB.less {E : Env} {U : Nat → Prop} {h : Array Obj} {ch ch' : Chs} {b : Nat} {o : Obj} (hh : HidB E U h ch b o) (hs : ∀ k c, (k, c) ∈ ch' → (k, c) ∈ ch) : HidB E U h ch' b o := ⟨hh.1, hh.2.1, fun k c hm => hh.2.2 k c (hs k c hm)⟩
theorem Holds.le {cx : Cx} {E : Env} {U : Nat → Prop} {a : Act} {w : World} {s s' : ASt} (hh : Holds P cx E U a w s) (h : LeS s s') : Holds P cx E U a w s' := by
  have hs : ∀ k c, (k, c) ∈ s'.ch → (k, c) ∈ s.ch := fun k c hm => lk_mem (h.2.2 (k, c) hm)
  refine ⟨hh.sz, ?_, fun i => ?_, hh.inv.sub hs h.2.1, hh.os, hh.tape, hh.output, hh.size, hh.fr, hh.keepA, fun k c hm => hh.live k c (hs k c hm), hh.base, fun k cs hk hm => hh.fix k cs hk (hs k _ hm), fun p hp => (hh.hid p hp).less hs, hh.gok⟩
  · obtain ⟨Ds, h1, h2, h3⟩ := hh.df
    exact ⟨Ds, h1, h2, fun D hD => ⟨(h3 D hD).1, (h3 D hD).2.less hs⟩⟩
  · rcases h.1 i with e | e
    · rw [e]; exact .d (.any _)
    · rw [← e]; exact hh.tok i
end Go.Am
end
section
namespace Go.Am
variable {P : Program} [Glob P] {cx : Cx} {Q : ASt → Prop} {k : List It} {st : ASt}
def bZ : List Nat → Nat → Bool
  | [], _ => false
  | j :: l, i => if j = i then true else bZ l i
def bF (l : List Nat) : Slots → Slots
  | [] => []
  | (i, c) :: t => if bZ l i = true then (i, c) :: bF l t else bF l t
theorem gt_keepT (l : List Nat) (t : Slots) (i : Nat) : gt (bF l t) i = .any ∨ gt t i = gt (bF l t) i := by
  induction t with
  | nil => exact .inl rfl
  | cons p t ih =>
    obtain ⟨j, c⟩ := p
    simp only [bF]
    by_cases hj : j = i
    · subst hj
      by_cases hl : bZ l j = true
      · rw [if_pos hl]; exact .inr (by simp [gt, lk])
      · rw [if_neg hl]
        left
        have : ∀ t : Slots, gt (bF l t) j = .any := by
          intro t
          induction t with
          | nil => rfl
          | cons q t ih2 =>
            obtain ⟨m, c'⟩ := q
            simp only [bF]
            by_cases hm : bZ l m = true
            · rw [if_pos hm]
              have hne : m ≠ j := fun e => hl (e ▸ hm)
              simp only [gt, lk, if_neg hne] at ih2 ⊢
              exact ih2
            · rw [if_neg hm]; exact ih2
        exact this t
    · by_cases hl : bZ l j = true
      · rw [if_pos hl]
        simp only [gt, lk, if_neg hj] at ih ⊢
        exact ih
      · rw [if_neg hl]
        simp only [gt, lk, if_neg hj] at ih ⊢
        exact ih
theorem Holds.slots {E : Env} {U : Nat → Prop} {a : Act} {w : World} {t : Slots} (hh : Holds P cx E U a w st) (ht : ∀ i, Rep E U w.heap (gt t i) (a.tmps.getD i undef)) : Holds P cx E U a w ⟨t, st.ch⟩ :=
  ⟨hh.sz, hh.df, ht, hh.inv, hh.os, hh.tape, hh.output, hh.size, hh.fr, hh.keepA, hh.live, hh.base, hh.fix, hh.hid, hh.gok⟩
theorem S_keepT {l : List Nat} (h : SG P cx Q k ⟨bF l st.t, st.ch⟩) : SG P cx Q k st := fun E U a w hh =>
  h E U a w (hh.slots fun i => by
    rcases gt_keepT l st.t i with e | e
    · rw [e]; exact .d (.any _)
    · rw [← e]; exact hh.tok i)
theorem Ghost.refl : Ghost P cx st st := fun E U _ _ hh => ⟨E, U, hh⟩
theorem S_ghost {s' : ASt} (hg : Ghost P cx st s') (h : SG P cx Q k s') : SG P cx Q k st := fun E U a w hh => by
  obtain ⟨E', U', h'⟩ := hg E U a w hh
  exact h E' U' a w h'
theorem Holds.ghost {E : Env} {U : Nat → Prop} {a : Act} {w : World} (hh : Holds P cx E U a w st) {m : List (Nat × Sb)} {d : Nat} {E' : Env} {U' : Nat → Prop} {ch' : Chs} (hd : d < 100000) (he : Ev E U w st.ch m d E' U' w ch') : Holds P cx E' U' a w ⟨ca m st.t, ch'⟩ := by
  refine ⟨hh.sz, hh.onDf he, fun i => by rw [gt_subT]; exact he.rep (hh.tok i), he.inv, hh.os, hh.tape, hh.output, hh.size, hh.fr, fun b hb => ⟨(he.keep b (hh.keepA b hb).1).1, (hh.keepA b hb).2⟩, fun k c hm b hb => ?_, fun b hb => ?_, fun k cs hk hm => ?_, fun p hp => (hh.hid p hp).ev he, hh.gok.mono he.keep⟩
  · rcases he.live k c hm b hb with h | ⟨k0, c0, h1, h2⟩
    · exact .inl (Nat.le_trans hh.size h)
    · exact hh.live k0 c0 h1 b h2
  · rcases he.newU b hb with h | h | ⟨k0, c0, h1, h2⟩
    · exact hh.base b h
    · exact .inr (.inl (Nat.le_trans hh.size h))
    · rcases hh.live k0 c0 h1 b h2 with h | h
      · exact .inr (.inl h)
      · exact .inr (.inr h)
  · rcases he.boxes k cs hm with h | ⟨⟨cs0, h1⟩, h2⟩
    · have := Cx.fx_ge hk; omega
    · exact h2.trans (hh.fix k cs0 hk h1)
def aO (ch : Chs) : List Nat → List (Nat × Sb)
  | [] => []
  | k :: ks =>
    match (lk ch k).bind cN with
    | some x => (k, .c x) :: aO ch ks
    | none => aO ch ks
theorem fzList_frozen {ch : Chs} : ∀ ks : List Nat, Frozen ch (aO ch ks)
  | [] => fun k c h => by simp [aO] at h
  | k :: ks => by
    simp only [aO]
    cases hl : (lk ch k).bind cN with
    | none => exact fzList_frozen ks
    | some x =>
      simp only [Option.bind_eq_some_iff] at hl
      obtain ⟨c0, hl, hx⟩ := hl
      intro k' c' h
      simp only [List.lookup_cons] at h
      by_cases hk : k' = k
      · subst hk; simp at h; exact ⟨c0, x, hl, hx, h.symm⟩
      · have hb : (k' == k) = false := by simp [hk]
        rw [hb] at h
        exact fzList_frozen ks k' c' h
def cR (ks : List Nat) (s : ASt) : ASt := ⟨ca (aO s.ch ks) s.t, a7 (aO s.ch ks) (aX s.ch (aO s.ch ks))⟩
theorem Holds.fz {E : Env} {U : Nat → Prop} {a : Act} {w : World} (hh : Holds P cx E U a w st) (ks : List Nat) : ∃ U', Holds P cx E U' a w (cR ks st) := by
  have he := Ev.freeze (w1 := w) hh.inv (fzList_frozen ks) rfl rfl rfl (Nat.le_refl _) (fun _ _ => rfl) (fun _ => False) (fun b h => h.elim) 0
  exact ⟨_, hh.ghost (by decide) he⟩
theorem Ghost.fz (ks : List Nat) : Ghost P cx st (cR ks st) := fun E U a w hh => by
  obtain ⟨U', h⟩ := hh.fz ks
  exact ⟨E, U', h⟩
theorem S_fz (ks : List Nat) (h : SG P cx Q k (cR ks st)) : SG P cx Q k st := S_ghost (Ghost.fz ks) h
def cL (i sz : Nat) (ty : TypeId) (s : ASt) : ASt := ⟨co (ca [(i, .c .any)] s.t) i (.own i), (i, .row sz ty []) :: a7 [(i, .c .any)] (cC s.ch i)⟩
theorem Ghost.nilrow {i sz : Nat} {ty : TypeId} (hi : i < 100000) (hn : gt st.t i = .s (.slice none 0 0)) : Ghost P cx st (cL i sz ty st) := fun E U a w hh => by
  let x : KE := ke0 ⟨0, 0, 0, 0, sz, true⟩
  have hx : ChOk (updE E i x) U w.heap i (.row sz ty []) := by
    rw [ChOk, updE_same]
    exact ⟨⟨rfl, rfl, (fun n el h => by simp at h), .inl ⟨rfl, rfl⟩⟩, ke0_fp _⟩
  have he := Ev.freshNil hh.inv i x (.row sz ty []) (fun b hb => by cases hb.1) hx
  have hv : a.tmps.getD i undef = .slice none 0 0 := rep_s (hn ▸ hh.tok i)
  have h1 := hh.ghost hi he
  refine ⟨_, U, h1.slots fun j => ?_⟩
  by_cases hj : i = j
  · subst hj
    simp only [gt_setA, if_true]
    have := Rep.own (E := updE E i x) (U := U) (h := w.heap) i
    rw [updE_same] at this
    rw [hv]; exact this
  · have := h1.tok j
    simp only [gt_setA, if_neg hj]
    exact this
theorem S_nilrow {i sz : Nat} {ty : TypeId} (hi : i < 100000) (hn : gt st.t i = .s (.slice none 0 0)) (h : SG P cx Q k (cL i sz ty st)) : SG P cx Q k st := S_ghost (Ghost.nilrow hi hn) h
def br (kk isz : Nat) (ity ty : TypeId) (es : List (List C)) (s : ASt) : ASt := ⟨ca [(kk, .inner)] s.t, (kk, .deep isz ity ty none (es.map fun _ => [])) :: a7 [(kk, .inner)] (cC s.ch kk)⟩
theorem Ghost.deepen {kk isz : Nat} {ity ty : TypeId} {es : List (List C)} (hl : lk st.ch kk = some (.row 1 ty es)) (hes : ∀ e ∈ es, e = [.s (.slice none 0 0)]) : Ghost P cx st (br kk isz ity ty es st) := fun E U a w hh => by
  have hkm := lk_mem hl
  obtain ⟨⟨h1, h2, h3, h4⟩, hf⟩ := hh.inv.ok kk _ hkm
  let y0 : KE0 := ⟨0, 0, 0, 0, isz, true⟩
  let x : KE := mkK (E kk).toKE0 (fun _ => y0) (deepI isz ity none (es.map fun _ => []))
  have hx : FpOk x (deepI isz ity none (es.map fun _ => [])) := mkK_fp (fun i q _ h => by cases h) (fun i j q q' _ _ _ h => by cases h)
  have he := Ev.write (w1 := w) (k := kk) (c1 := .deep isz ity ty none (es.map fun _ => [])) (x := x) hh.inv hl rfl rfl rfl (Nat.le_refl _) (fun _ _ _ => rfl) rfl (fun b hb => by
    rcases hb with h | ⟨i, q, _, h, _⟩
    · exact (hf.fp b).2 (.inl h)
    · cases h) (fun ⟨cs, h⟩ => by cases h) (fun _ _ => by
    simp only [ChOk, updE_same]
    refine ⟨⟨by rw [List.length_map]; exact h1, h2, ?_⟩, hx, fun i n t es' h => ?_⟩
    · rcases h4 with ⟨g1, rfl⟩ | ⟨g1, g2, g3, arr, g4, g5, g6⟩
      · exact .inl ⟨g1, rfl⟩
      · refine .inr ⟨g1, by rw [List.length_map]; exact g2, g3, arr, g4, by rw [Nat.mul_one] at g5; exact g5, fun i hi => ?_⟩
        have hi' : i < es.length := by simpa using hi
        have e1 := hes es[i] (List.getElem_mem hi')
        have e2 : es[i]? = some [.s (.slice none 0 0)] := by rw [List.getElem?_eq_getElem hi', e1]
        obtain ⟨r1, r2⟩ := g6 i _ 0 _ e2 rfl
        rw [Nat.mul_one, Nat.add_zero] at r1 r2
        exact ⟨r2, fun _ => repD_s r1⟩
    · simp only [deepI, reduceCtorEq, if_false, List.getElem?_map, Option.map_map, Option.map_eq_some_iff] at h
      obtain ⟨e, _, h⟩ := h
      simp only [Function.comp, Prod.mk.injEq] at h
      obtain ⟨rfl, rfl, rfl⟩ := h
      exact ⟨rfl, rfl, (fun n el h => by simp at h), .inl ⟨rfl, rfl⟩⟩) 0
  exact ⟨_, U, hh.ghost (by decide) he⟩
variable {dr : Bool} {o : AO} {os : List AO}
def cO (dr : Bool) (o : AO) (ef : Eff) (s : ASt) : Prop :=
  match dr, o.tot with
  | true, false => ef.ch = s.ch ∧ ef.sub = []
  | _, _ => True
theorem drC_spec {ef : Eff} {s : ASt} (h : cO dr o ef s) : dr = true → o.tot = true ∨ (ef.ch = s.ch ∧ ef.sub = []) := fun hd => by
  subst hd
  cases ht : o.tot with
  | true => exact .inl rfl
  | false => simp only [cO, ht] at h; exact .inr h
theorem D_nil (h : SG P cx Q k st) : DG P cx Q dr k [] st := by
  cases dr with
  | true => exact ⟨st, rfl, h⟩
  | false => exact h
theorem D_eff {ef : Eff} (hs : StepE P o st ef) (hd : cO dr o ef st) (h : DG P cx Q dr k os (cd o.dst ef st)) : DG P cx Q dr k (o :: os) st := by
  cases dr with
  | true =>
    obtain ⟨st', h1, h2⟩ := h
    exact ⟨st', ⟨ef, hs, drC_spec hd, h1⟩, h2⟩
  | false =>
    cases hs with
    | yes _ hw hr => exact .inr ⟨hw, st, Ghost.refl, .inl ⟨ef, hr, h⟩⟩
    | no hw => exact .inl ⟨hw, h⟩
theorem D_ghost {s' : ASt} (hno : o.guard = none) (hg : Ghost P cx st s') (h : DG P cx Q false k (o :: os) s') : DG P cx Q false k (o :: os) st := by
  rcases h with ⟨h1, _⟩ | ⟨h1, s1, g1, g2⟩
  · rw [hno] at h1; cases h1
  · refine .inr ⟨by rw [hno]; rfl, s1, fun E U a w hh => ?_, g2⟩
    obtain ⟨E', U', h'⟩ := hg E U a w hh
    exact g1 E' U' a w h'
theorem D_outs {outs : List Eff} (hg : o.guard = none) (ho : OpM P cx.ro (cT P st.t) st.ch (o.dst.getD 0) o.op outs) (h : ∀ ef ∈ outs, DG P cx Q false k os (cd o.dst ef st)) : DG P cx Q false k (o :: os) st :=
  .inr ⟨by rw [hg]; rfl, st, Ghost.refl, .inr ⟨outs, ho, h⟩⟩
def EqS (s s' : ASt) : Prop := (∀ i, gt s.t i = gt s'.t i) ∧ s.ch = s'.ch
theorem Chain.eqS : ∀ (os : List AO) (s s2 s' : ASt), EqS s s2 → Chain P dr os s s' → ∃ s2', EqS s' s2' ∧ Chain P dr os s2 s2'
  | [], s, s2, s', he, h => by simp only [Chain] at h; subst h; exact ⟨s2, he, rfl⟩
  | o :: os, s, s2, s', he, h => by
    obtain ⟨ef, h1, h2, h3⟩ := h
    have he2 : EqS (cd o.dst ef s) (cd o.dst ef s2) := ⟨fun i => by simp only [cd, gt_putS, he.1 i], rfl⟩
    obtain ⟨s2', g1, g2⟩ := Chain.eqS os _ _ s' he2 h3
    exact ⟨s2', g1, ef, h1.congr (fun i _ => he.1 i) he.2, fun hd => by rw [← he.2]; exact h2 hd, g2⟩
theorem SG.eqS {s2 : ASt} (he : EqS s2 st) (h : SG P cx Q k s2) : SG P cx Q k st := fun E U a w hh => h E U a w (hh.ext (fun i => (he.1 i).symm) he.2.symm)
theorem Ghost.eqS {s s' : ASt} (he : EqS s s') : Ghost P cx s' s := fun E U _ _ hh => ⟨E, U, hh.ext (fun i => (he.1 i).symm) he.2.symm⟩
theorem Tree.eqS {G : ASt → Prop} (hG : ∀ s s2, EqS s2 s → G s2 → G s) : ∀ (os : List AO) (s s2 : ASt), EqS s2 s → Tree P cx G os s2 → Tree P cx G os s
  | [], s, s2, he, h => hG s s2 he h
  | o :: os, s, s2, he, h => by
    have hw : wantA s2.t o.guard = wantA s.t o.guard := by
      cases hg : o.guard with
      | none => rfl
      | some g => obtain ⟨g, want⟩ := g; simp only [wantA, he.1 g]
    rcases h with ⟨h1, h2⟩ | ⟨h1, s1, g1, g2⟩
    · refine .inl ⟨hw ▸ h1, Tree.eqS hG os _ (cd o.dst ⟨True, .s undef, s2.ch, []⟩ s2) ⟨fun i => by simp only [cd, gt_putS, he.1 i], he.2⟩ h2⟩
    · refine .inr ⟨hw ▸ h1, s1, fun E U a w hh => ?_, g2⟩
      obtain ⟨E', U', h'⟩ := Ghost.eqS he E U a w hh
      exact g1 E' U' a w h'
theorem DG.eqS {s2 : ASt} (he : EqS s2 st) (h : DG P cx Q dr k os s2) : DG P cx Q dr k os st := by
  cases dr with
  | true =>
    obtain ⟨s', h1, h2⟩ := h
    obtain ⟨s2', g1, g2⟩ := Chain.eqS os _ _ s' he h1
    exact ⟨s2', g2, h2.eqS g1⟩
  | false => exact Tree.eqS (fun s s2 he h => SG.eqS he h) os _ _ he h
theorem eqS_set {g : Nat} {c : C} (h : gt st.t g = c) : EqS ⟨co st.t g c, st.ch⟩ st := ⟨fun i => by
  simp only [gt_setA]
  split
  · rename_i e; subst e; exact h.symm
  · rfl, rfl⟩
structure WfR (chs : Chs) (r : C) (chs' : Chs) (nk : List Nat) : Prop where
  new : ∀ k c, (k, c) ∈ chs' → k ∈ nk ∨ ∃ c0, (k, c0) ∈ chs
  old : ∀ k cs, (k, .box cs) ∈ chs → ∃ cs', (k, .box cs') ∈ chs'
  kr : keysIn (chs'.map (·.1)) r
  kc : ∀ k c, (k, c) ∈ chs' → keysCh (chs'.map (·.1)) c
structure Ent (P : Program) [Glob P] where
  id : FuncId
  sp : List C → Chs → Option (Prop × C × Chs × List Nat)
  ok : ∀ args chs p r chs' nk, sp args chs = some (p, r, chs', nk) → p → FC P id args chs r chs' ∧ WfR chs r chs' nk
  kp : List C → Chs → Option (Prop × C) := fun _ _ => none
  kpok : ∀ args chs p r, kp args chs = some (p, r) → p → FC P id args chs r chs ∧ plainChs chs = true ∧ keysIn [] r := by intro _ _ _ _ h; cases h
def Ent.mk3 (id : FuncId) (sp : List C → Chs → Option (Prop × C × Chs × List Nat)) (ok : ∀ args chs p r chs' nk, sp args chs = some (p, r, chs', nk) → p → FC P id args chs r chs' ∧ WfR chs r chs' nk) : Ent P := { id := id, sp := sp, ok := ok }
def cQ : List (Ent P) → FuncId → List C → Chs → Option (Prop × C)
  | [], _, _, _ => none
  | e :: L, f, args, chs => if e.id = f then e.kp args chs else cQ L f args chs
theorem lkK_ok : ∀ {L : List (Ent P)} {f : FuncId} {args : List C} {chs : Chs} {p : Prop} {r : C}, cQ L f args chs = some (p, r) → p → FC P f args chs r chs ∧ plainChs chs = true ∧ keysIn [] r
  | [], _, _, _, _, _, h, _ => by cases h
  | e :: L, f, args, chs, p, r, h, hp => by
    simp only [cQ] at h
    split at h
    · rename_i hf; subst hf; exact e.kpok args chs p r h hp
    · exact lkK_ok h hp
def cZ : List (Ent P) → FuncId → List C → Chs → Option (Prop × C × Chs × List Nat)
  | [], _, _, _ => none
  | e :: L, f, args, chs => if e.id = f then e.sp args chs else cZ L f args chs
theorem lkE_ok : ∀ {L : List (Ent P)} {f : FuncId} {args : List C} {chs : Chs} {p : Prop} {r : C} {chs' : Chs} {nk : List Nat}, cZ L f args chs = some (p, r, chs', nk) → p → FC P f args chs r chs' ∧ WfR chs r chs' nk
  | [], _, _, _, _, _, _, _, h, _ => by cases h
  | e :: L, f, args, chs, p, r, chs', nk, h, hp => by
    simp only [cZ] at h
    split at h
    · rename_i hf; subst hf; exact e.ok args chs p r chs' nk h hp
    · exact lkE_ok h hp
def cM (l : List Nat) (k : Nat) : List Nat := if bZ l k = true then l else l ++ [k]
def af (l : List Nat) : List C → List Nat
  | [] => l
  | .ptr k _ :: cs => af (cM l k) cs
  | .eptr k _ _ :: cs => af (cM l k) cs
  | .iptr k _ _ _ :: cs => af (cM l k) cs
  | .fn _ xs ys :: cs => af (passKs (passKs l xs) ys) cs
  | .agg xs :: cs => af (passKs l xs) cs
  | _ :: cs => af l cs
where passKs (l : List Nat) : List C → List Nat
  | [] => l
  | .ptr k _ :: cs => passKs (cM l k) cs
  | .eptr k _ _ :: cs => passKs (cM l k) cs
  | .iptr k _ _ _ :: cs => passKs (cM l k) cs
  | _ :: cs => passKs l cs
def aD (l : List Nat) : List C → List Nat
  | [] => l
  | .own k :: cs => aD (cM l k) cs
  | .inn k _ :: cs => aD (cM l k) cs
  | .ptr k _ :: cs => aD (cM l k) cs
  | .eptr k _ _ :: cs => aD (cM l k) cs
  | .iptr k _ _ _ :: cs => aD (cM l k) cs
  | _ :: cs => aD l cs
def aL (ch : Chs) (l : List Nat) : List Nat → List Nat
  | [] => l
  | k :: ks => match lk ch k with | some (.box cs) => aL ch (aD l cs) ks | _ => aL ch l ks
def ae (ps : List Nat) (l : List Nat) : List C → List Nat
  | [] => l
  | .own k :: cs => ae ps (if bZ ps k = true then l else cM l k) cs
  | .inn k _ :: cs => ae ps (if bZ ps k = true then l else cM l k) cs
  | .agg xs :: cs => ae ps (lendKs ps l xs) cs
  | _ :: cs => ae ps l cs
where lendKs (ps : List Nat) (l : List Nat) : List C → List Nat
  | [] => l
  | .own k :: cs => lendKs ps (if bZ ps k = true then l else cM l k) cs
  | .inn k _ :: cs => lendKs ps (if bZ ps k = true then l else cM l k) cs
  | _ :: cs => lendKs ps l cs
def bj (ch : Chs) : List Nat → Option Chs
  | [] => some []
  | k :: ks => (lk ch k).bind fun c => (bj ch ks).map ((k, c) :: ·)
def cp (i : Nat) : List Nat → List (Nat × Nat)
  | [] => []
  | k :: ks => (k, 100000 + i) :: cp (i + 1) ks
def bD : List (Nat × Nat) → List (Nat × Nat)
  | [] => []
  | (a, b) :: m => (b, a) :: bD m
def cg (d : Nat) : List Nat → List (Nat × Nat)
  | [] => []
  | k :: ks => (k, d) :: cg (d + 1000) ks
def bm : C → Bool
  | .s _ => true
  | .own _ => true
  | .ptr _ _ => true
  | .agg cs => flatBs cs
  | .tup cs => flatBs cs
  | _ => false
where flatBs : List C → Bool
  | [] => true
  | c :: cs => bm c && flatBs cs
def an : Chs → Prop
  | [] => True
  | (_, c) :: r => aG c ∧ an r
def aJ (bs : List Nat) (r : C) (chs' : Chs) : Prop :=
  match bs with
  | [] => True
  | _ => bA r ∧ an chs'
def aR : List Nat → Prop
  | [] => True
  | k :: ks => bZ ks k = false ∧ aR ks
def av (m mi : List (Nat × Nat)) : List Nat → Prop
  | [] => True
  | k :: ks => rn m (rn mi k) = k ∧ av m mi ks
def ar : List Nat → List Nat → Prop
  | [], _ => True
  | k :: ks, l => bZ l k = true ∧ ar ks l
def az : List Nat → List Nat → Prop
  | [], _ => True
  | k :: ks, l => bZ l k = false ∧ az ks l
def bq (ks : List Nat) : C → Bool
  | .own k => bZ ks k
  | .ptr k _ => bZ ks k
  | .eptr k _ _ => bZ ks k
  | .inn k _ => bZ ks k
  | .iptr k _ _ _ => bZ ks k
  | .agg cs => keysBs ks cs
  | .tup cs => keysBs ks cs
  | .fn _ xs ys => keysBs ks xs && keysBs ks ys
  | _ => true
where keysBs (ks : List Nat) : List C → Bool
  | [] => true
  | c :: cs => bq ks c && keysBs ks cs
def aT (ks : List Nat) : List C → Bool
  | [] => true
  | c :: cs => bq ks c && aT ks cs
def ap (ks : List Nat) : Chs → Bool
  | [] => true
  | (_, .box cs) :: r => aT ks cs && ap ks r
  | _ :: r => ap ks r
def aF : Chs → List Nat
  | [] => []
  | (k, _) :: r => k :: aF r
inductive CR where
  | none
  | eff (e : Eff)
  | fz (ks : List Nat)
def be (ch : Chs) (ks bs : List Nat) (chs : Chs) (va : List C) (mi m2 : List (Nat × Nat)) (all : List C) (p : Prop) (chs' : Chs) (nk ck : List Nat) (r2 : C) (chs2 : Chs) (nk2 : List Nat) : CR :=
  .eff ⟨p ∧ aY.viewOks ch bs all ∧ aJ bs r2 chs2 ∧ aR ((ck ++ nk).map (rn m2)) ∧ ar (aF chs') (ck ++ nk) ∧ av m2 mi ks ∧ (va.all (bq ks) = true ∧ ap ks chs = true) ∧ az ks bs ∧ az ks nk2 ∧ nk2.all (fun k => decide (k < 100000)) = true, r2, aU ch chs chs2 nk2, aC nk2 chs⟩
def bz (ch : Chs) (ks bs : List Nat) (chs : Chs) (va : List C) (mi m2 : List (Nat × Nat)) (all : List C) (p : Prop) (r : C) (chs' : Chs) (nk : List Nat) (nk2 : List Nat) : CR :=
  be ch ks bs chs va mi m2 all p chs' nk (aF (aN mi chs)) (bS m2 r) (aN m2 chs') nk2
def bg (ch : Chs) (d : Nat) (ks bs : List Nat) (chs : Chs) (va : List C) (mi m : List (Nat × Nat)) (all : List C) (o : Option (Prop × C × Chs × List Nat)) : CR :=
  match o with
  | Option.some (p, r, chs', nk) => bz ch ks bs chs va mi (cg d nk ++ m) all p r chs' nk ((cg d nk).map (·.2))
  | Option.none => .none
def bn (ch : Chs) : CR → CR
  | .eff e => .eff ⟨e.cond, e.v, ch, []⟩
  | x => x
def cH (ch : Chs) (d : Nat) (ks bs : List Nat) (chs : Chs) (va : List C) (mi : List (Nat × Nat)) (all : List C) (o : Option (Prop × C)) (alt : Option (Prop × C × Chs × List Nat)) : CR :=
  match o with
  | Option.some (p, r) => bn ch (bz ch ks bs chs va mi (bD mi) all p r (aN mi chs) [] [])
  | Option.none => bg ch d ks bs chs va mi (bD mi) all alt
def bL (L : List (Ent P)) (ch : Chs) (d : Nat) (f : FuncId) (all : List C) (ks bs : List Nat) (chs : Option Chs) (va : List C) (mi : List (Nat × Nat)) : CR :=
  match chs with
  | Option.some chs => cH ch d ks bs chs va mi all (cQ L f (va.map (bS mi)) (aN mi chs)) (cZ L f (va.map (bS mi)) (aN mi chs))
  | Option.none => .none
def bH (L : List (Ent P)) (ch : Chs) (d : Nat) (f : FuncId) (all : List C) (ks bs : List Nat) : CR :=
  bL L ch d f all ks bs (bj ch ks) (all.map (bf ch bs)) (cp 0 ks)
def bk (ch : Chs) (d : Nat) (all : List C) (bs : List Nat) (va : List C) (o : Option (Prop × C × Chs × List Nat)) : CR :=
  match o with
  | Option.some (p, r, [], _) => match bs.isEmpty || bm r with | true => .eff ⟨p ∧ aY.viewOks ch bs all ∧ aJ bs r [], r, ch, []⟩ | false => .fz bs
  | o => bg ch d [] bs [] va [] [] all o
def bB (L : List (Ent P)) (ch : Chs) (d : Nat) (f : FuncId) (all : List C) (bs : List Nat) (va : List C) : CR := bk ch d all bs va (cZ L f va [])
def bC (L : List (Ent P)) (ch : Chs) (d : Nat) (f : FuncId) (all : List C) (bs : List Nat) : CR := bB L ch d f all bs (all.map (bf ch bs))
def bo (L : List (Ent P)) (ch : Chs) (d : Nat) (f : FuncId) (all : List C) (ks : List Nat) : CR := bH L ch d f all ks (ae ks [] all)
def bl (L : List (Ent P)) (ch : Chs) (d : Nat) (f : FuncId) (all : List C) (ks : List Nat) : CR := bo L ch d f all (aL ch ks ks)
def bw (L : List (Ent P)) (ch : Chs) (d : Nat) (f : FuncId) (all : List C) (ks : List Nat) : CR :=
  match ks with
  | [] => bC L ch d f all (ae [] [] all)
  | k :: ks => bl L ch d f all (aL ch (k :: ks) (k :: ks))
def a6 (L : List (Ent P)) (ch : Chs) (d : Nat) (f : FuncId) (all : List C) : CR := bw L ch d f all (af [] all)
def bR (L : List (Ent P)) (ch : Chs) (d : Nat) (c : Option (FuncId × List C × List C)) (aS : List C) : CR :=
  match c with
  | Option.some (f, first, caps) => a6 L ch d f (first ++ aS ++ caps)
  | Option.none => .none
end Go.Am
end
section
namespace Go.Am
variable {P : Program} [Glob P] {ch : Chs} {d : Nat}
theorem memN_spec {k : Nat} : ∀ {l : List Nat}, bZ l k = true ↔ k ∈ l
  | [] => by simp [bZ]
  | j :: l => by
    simp only [bZ, List.mem_cons]
    by_cases h : j = k
    · rw [if_pos h]; exact ⟨fun _ => .inl h.symm, fun _ => rfl⟩
    · rw [if_neg h, memN_spec]
      exact ⟨.inr, fun g => g.resolve_left (fun e => h e.symm)⟩
theorem keysNd_nodup : ∀ {ks : List Nat}, aR ks → ks.Nodup
  | [], _ => List.nodup_nil
  | k :: ks, h => List.nodup_cons.2 ⟨(fun hm => by have := memN_spec.2 hm; rw [h.1] at this; cases this), keysNd_nodup h.2⟩
theorem subsetN_spec : ∀ {ks l : List Nat}, ar ks l → ∀ k ∈ ks, k ∈ l
  | [], _, _, k, h => by simp at h
  | j :: ks, l, h, k, hk => by
    rcases List.mem_cons.1 hk with e | e
    · rw [e]; exact memN_spec.1 h.1
    · exact subsetN_spec h.2 k e
theorem apartN_spec : ∀ {ks l : List Nat}, az ks l → ∀ k ∈ ks, k ∉ l
  | [], _, _, k, h => by simp at h
  | j :: ks, l, h, k, hk => by
    rcases List.mem_cons.1 hk with e | e
    · rw [e]; intro hm; have := memN_spec.2 hm; rw [h.1] at this; cases this
    · exact apartN_spec h.2 k e
theorem backOk_spec {m mi : List (Nat × Nat)} : ∀ {ks : List Nat}, av m mi ks → ∀ k ∈ ks, rn m (rn mi k) = k
  | [], _, k, h => by simp at h
  | j :: ks, h, k, hk => by
    rcases List.mem_cons.1 hk with e | e
    · rw [e]; exact h.1
    · exact backOk_spec h.2 k e
theorem keysOf_eq : ∀ ch : Chs, aF ch = ch.map (·.1)
  | [] => rfl
  | (k, _) :: r => by simp [aF, keysOf_eq r]
theorem keysBl_all {ks : List Nat} : ∀ {cs : List C}, aT ks cs = true → ∀ c ∈ cs, bq ks c = true
  | [], _, c, h => by simp at h
  | x :: cs, h, c, hc => by
    simp only [aT, Bool.and_eq_true] at h
    rcases List.mem_cons.1 hc with e | e
    · rw [e]; exact h.1
    · exact keysBl_all h.2 c e
theorem keysBch_all {ks : List Nat} : ∀ {ch : Chs}, ap ks ch = true → ∀ k cs, (k, .box cs) ∈ ch → ∀ c ∈ cs, bq ks c = true
  | [], _, k, cs, h => by simp at h
  | (j, .box cs0) :: r, h, k, cs, hm => by
    simp only [ap, Bool.and_eq_true] at h
    rcases List.mem_cons.1 hm with e | e
    · cases e; exact keysBl_all h.1
    · exact keysBch_all h.2 k cs e
  | (j, .row _ _ _) :: r, h, k, cs, hm | (j, .deep _ _ _ _ _) :: r, h, k, cs, hm | (j, .res _) :: r, h, k, cs, hm => by
    rcases List.mem_cons.1 hm with e | e
    · cases e
    · exact keysBch_all (by simpa only [ap] using h) k cs e
theorem renC_back {m mi : List (Nat × Nat)} {ks : List Nat} (hb : ∀ k ∈ ks, rn m (rn mi k) = k) : ∀ c : C, bq ks c = true → bS m (bS mi c) = c := by
  intro c
  have h : ∀ (n : Nat) (c : C), SizeOf.sizeOf c ≤ n → bq ks c = true → bS m (bS mi c) = c := by
    intro n
    induction n with
    | zero => intro c hc; cases c <;> simp at hc
    | succ n ih =>
      intro c hc hk
      have hl : ∀ cs : List C, SizeOf.sizeOf cs ≤ n → bq.keysBs ks cs = true → (cs.map (bS mi)).map (bS m) = cs := by
        intro cs
        induction cs with
        | nil => intro _ _; rfl
        | cons x xs ihx =>
          intro hx hkx
          simp at hx
          simp only [bq.keysBs, Bool.and_eq_true] at hkx
          simp only [List.map_cons]
          rw [ih x (by omega) hkx.1, ihx (by omega) hkx.2]
      cases c with
      | agg cs => simp only [bS, renCs_eq]; simp at hc; rw [hl cs (by omega) hk]
      | tup cs => simp only [bS, renCs_eq]; simp at hc; rw [hl cs (by omega) hk]
      | fn f xs ys =>
        simp only [bq, Bool.and_eq_true] at hk
        simp only [bS, renCs_eq]; simp at hc; rw [hl xs (by omega) hk.1, hl ys (by omega) hk.2]
      | own k => simp only [bS]; rw [hb k (memN_spec.1 hk)]
      | ptr k off => simp only [bS]; rw [hb k (memN_spec.1 hk)]
      | eptr k i j => simp only [bS]; rw [hb k (memN_spec.1 hk)]
      | inn k i => simp only [bS]; rw [hb k (memN_spec.1 hk)]
      | iptr k i n j => simp only [bS]; rw [hb k (memN_spec.1 hk)]
      | _ => simp [bS]
  exact h _ c (Nat.le_refl _)
theorem keysIn_mono {ks ks' : List Nat} (hs : ∀ k ∈ ks, k ∈ ks') : ∀ c : C, keysIn ks c → keysIn ks' c := by
  intro c
  have h : ∀ (n : Nat) (c : C), SizeOf.sizeOf c ≤ n → keysIn ks c → keysIn ks' c := by
    intro n
    induction n with
    | zero => intro c hc; cases c <;> simp at hc
    | succ n ih =>
      intro c hc hk
      have hl : ∀ cs : List C, SizeOf.sizeOf cs ≤ n → keysIn.keysIns ks cs → keysIn.keysIns ks' cs := by
        intro cs
        induction cs with
        | nil => intro _ _; trivial
        | cons x xs ihx =>
          intro hx hkx
          simp at hx
          exact ⟨ih x (by omega) hkx.1, ihx (by omega) hkx.2⟩
      cases c with
      | agg cs => simp at hc; exact hl cs (by omega) hk
      | tup cs => simp at hc; exact hl cs (by omega) hk
      | fn f xs ys => simp at hc; exact ⟨hl xs (by omega) hk.1, hl ys (by omega) hk.2⟩
      | own k => exact hs k hk
      | ptr k off => exact hs k hk
      | eptr k i j => exact hs k hk
      | inn k i => exact hs k hk
      | iptr k i n j => exact hs k hk
      | _ => trivial
  exact h _ c (Nat.le_refl _)
theorem keysIn_ren {ks : List Nat} {m : List (Nat × Nat)} : ∀ c : C, keysIn ks c → keysIn (ks.map (rn m)) (bS m c) := by
  intro c
  have mem : ∀ k, k ∈ ks → rn m k ∈ ks.map (rn m) := fun k hk => List.mem_map.2 ⟨k, hk, rfl⟩
  have h : ∀ (n : Nat) (c : C), SizeOf.sizeOf c ≤ n → keysIn ks c → keysIn (ks.map (rn m)) (bS m c) := by
    intro n
    induction n with
    | zero => intro c hc; cases c <;> simp at hc
    | succ n ih =>
      intro c hc hk
      have hl : ∀ cs : List C, SizeOf.sizeOf cs ≤ n → keysIn.keysIns ks cs → keysIn.keysIns (ks.map (rn m)) (bS.renCs m cs) := by
        intro cs
        induction cs with
        | nil => intro _ _; trivial
        | cons x xs ihx =>
          intro hx hkx
          simp at hx
          exact ⟨ih x (by omega) hkx.1, ihx (by omega) hkx.2⟩
      cases c with
      | agg cs => simp at hc; exact hl cs (by omega) hk
      | tup cs => simp at hc; exact hl cs (by omega) hk
      | fn f xs ys => simp at hc; exact ⟨hl xs (by omega) hk.1, hl ys (by omega) hk.2⟩
      | own k => exact mem k hk
      | ptr k off => exact mem k hk
      | eptr k i j => exact mem k hk
      | inn k i => exact mem k hk
      | iptr k i n j => exact mem k hk
      | _ => trivial
  exact h _ c (Nat.le_refl _)
theorem keysIns_map {ks : List Nat} {m : List (Nat × Nat)} {cs : List C} (h : keysIn.keysIns ks cs) : keysIn.keysIns (ks.map (rn m)) (cs.map (bS m)) :=
  keysIns_of fun c hc => by
    obtain ⟨c0, h0, rfl⟩ := List.mem_map.1 hc
    exact keysIn_ren c0 (keysIns_all h c0 h0)
theorem getCh_spec : ∀ {ks : List Nat} {chs : Chs}, bj ch ks = some chs → aF chs = ks ∧ ∀ k c, (k, c) ∈ chs → lk ch k = some c
  | [], chs, h => by simp [bj] at h; subst h; exact ⟨rfl, fun k c h => by simp at h⟩
  | k :: ks, chs, h => by
    simp only [bj, Option.bind_eq_some_iff, Option.map_eq_some_iff] at h
    obtain ⟨c, h1, r, h2, rfl⟩ := h
    obtain ⟨g1, g2⟩ := getCh_spec h2
    refine ⟨by simp [aF, g1], fun k' c' hm => ?_⟩
    rcases List.mem_cons.1 hm with e | e
    · cases e; exact h1
    · exact g2 k' c' e
theorem newM_lk {m : List (Nat × Nat)} : ∀ {nk : List Nat} {d k : Nat}, k ∈ nk → ∃ v, v ∈ (cg d nk).map (·.2) ∧ lk (cg d nk ++ m) k = some v
  | [], d, k, h => by simp at h
  | j :: nk, d, k, h => by
    simp only [cg, List.cons_append, lk, List.map_cons]
    by_cases hj : j = k
    · rw [if_pos hj]; exact ⟨d, List.mem_cons_self, rfl⟩
    · rw [if_neg hj]
      rcases List.mem_cons.1 h with e | e
      · exact absurd e.symm hj
      · obtain ⟨v, h1, h2⟩ := newM_lk (d := d + 1000) e
        exact ⟨v, List.mem_cons_of_mem _ h1, h2⟩
theorem viewOks_mem {bs : List Nat} {l : List C} (h : aY.viewOks ch bs l) : ∀ c ∈ l, aY ch bs c := viewOks_all h
theorem flatChs_all : ∀ {chs : Chs}, an chs → ∀ k c, (k, c) ∈ chs → aG c
  | [], _, k, c, h => by simp at h
  | (j, c0) :: r, h, k, c, hm => by
    rcases List.mem_cons.1 hm with e | e
    · cases e; exact h.1
    · exact flatChs_all h.2 k c e
theorem lendOk_spec {bs : List Nat} {r : C} {chs' : Chs} (h : aJ bs r chs') : bs = [] ∨ (bA r ∧ ∀ k c, (k, c) ∈ chs' → aG c) := by
  unfold aJ at h
  split at h
  · exact .inl rfl
  · exact .inr ⟨h.1, flatChs_all h.2⟩
theorem callR_sound {ρ : Operand → C} {fo : Operand} {aS : List Operand} {f : FuncId} {first caps : List C} {ks bs : List Nat} {chs : Chs} {mi m2 : List (Nat × Nat)} {args' : List C} {chs0 : Chs} {p : Prop} {r : C} {chs' : Chs} {nk nk2 : List Nat} {e : Eff}
    (hfo : cq (ρ fo) = some (f, first, caps)) (hks : aF chs = ks) (hlk : ∀ k c, (k, c) ∈ chs → lk ch k = some c) (ha : args' = ((first ++ aS.map ρ ++ caps).map (bf ch bs)).map (bS mi)) (hc0 : chs0 = aN mi chs)
    (hF : p → FC P f args' chs0 r chs' ∧ WfR chs0 r chs' nk) (hn2 : ∀ k ∈ nk, rn m2 k ∈ nk2)
    (h : bz ch ks bs chs ((first ++ aS.map ρ ++ caps).map (bf ch bs)) mi m2 (first ++ aS.map ρ ++ caps) p r chs' nk nk2 = .eff e) (hcond : e.cond) :
    p ∧ e.v = bS m2 r ∧ e.ch = aU ch chs (aN m2 chs') nk2 ∧ e.sub = aC nk2 chs ∧ (chs' = chs0 → aN m2 chs' = chs) ∧ CallR P ρ ch d fo aS (bS m2 r) chs (aN m2 chs') nk2 := by
  simp only [bz, be, CR.eff.injEq] at h
  subst h
  obtain ⟨hp, hvo, hlend, hnd, hsub, hback, ⟨hkb, hkc⟩, hab, han, hsmall⟩ := hcond
  obtain ⟨hFC, hwf⟩ := hF hp
  subst ha hc0
  have hb := backOk_spec hback
  have hinks : ∀ k c, (k, c) ∈ chs → k ∈ ks := fun k c h => by rw [← hks, keysOf_eq]; exact List.mem_map.2 ⟨_, h, rfl⟩
  have hndl := keysNd_nodup hnd
  have hren := hFC.ren m2 (aF (aN mi chs) ++ nk) hndl (fun k c h => List.mem_append.2 (.inl (by rw [keysOf_eq]; exact List.mem_map.2 ⟨_, h, rfl⟩)))
    (fun k c h => ⟨subsetN_spec hsub k (by rw [keysOf_eq]; exact List.mem_map.2 ⟨_, h, rfl⟩), by
      have := hwf.kc k c h
      cases c with
      | box cs => exact keysIns_of fun c hc => keysIn_mono (fun k hk => subsetN_spec hsub k (by rw [keysOf_eq]; exact hk)) c (keysIns_all this c hc)
      | _ => trivial⟩) (keysIn_mono (fun k hk => subsetN_spec hsub k (by rw [keysOf_eq]; exact hk)) r hwf.kr)
  have e1 : ((((first ++ aS.map ρ ++ caps).map (bf ch bs)).map (bS mi)).map (bS m2)) = (first ++ aS.map ρ ++ caps).map (bf ch bs) := by
    generalize (first ++ aS.map ρ ++ caps).map (bf ch bs) = va at hkb
    rw [List.map_map]
    exact (List.map_congr_left (fun c hc => renC_back hb c (List.all_eq_true.1 hkb c hc))).trans (List.map_id _)
  have e2 : aN m2 (aN mi chs) = chs := by
    rw [renChs_eq, renChs_eq, List.map_map]
    refine (List.map_congr_left (fun p hp => ?_)).trans (List.map_id _)
    obtain ⟨k, c⟩ := p
    have hk := hinks k c hp
    show (rn m2 (rn mi k), aI m2 (aI mi c)) = (k, c)
    rw [hb k hk]
    congr 1
    cases c with
    | box cs =>
      simp only [aI, List.map_map]
      congr 1
      exact (List.map_congr_left (fun c hc => renC_back hb c (keysBch_all hkc k cs hp c hc))).trans (List.map_id _)
    | _ => rfl
  rw [e1, e2] at hren
  have hkeys2 : ∀ (l : Chs), (aN m2 l).map (·.1) = (l.map (·.1)).map (rn m2) := fun l => by rw [renChs_eq, List.map_map, List.map_map]; rfl
  have hcan : (aF (aN mi chs)).map (rn m2) = ks := by
    rw [keysOf_eq, ← hkeys2, e2, ← keysOf_eq, hks]
  have hksnd : ks.Nodup := by
    rw [List.map_append, hcan] at hndl
    exact (List.nodup_append.1 hndl).1
  refine ⟨hp, rfl, rfl, rfl, fun e3 => by rw [e3, e2], ⟨⟨f, first, caps, bs, hfo, hren, viewOks_mem hvo, fun k c h => ⟨hlk k c h, apartN_spec hab k (hinks k c h), apartN_spec han k (hinks k c h)⟩, lendOk_spec hlend⟩,
    by rw [← keysOf_eq, hks]; exact hksnd, fun k cs hm hk => ?_, fun k c hm => ?_, fun k cs hm => ?_, ?_, fun k c hm => ?_⟩⟩
  · simpa using List.all_eq_true.1 hsmall k hk
  · obtain ⟨k0, c0, h0, rfl, rfl⟩ := mem_renChs hm
    rcases hwf.new k0 _ h0 with hn | ⟨c1, h1⟩
    · exact .inl (hn2 k0 hn)
    · right
      obtain ⟨k1, c2, h2, rfl, _⟩ := mem_renChs h1
      rw [hb k1 (hinks k1 c2 h2)]
      exact ⟨c2, h2⟩
  · obtain ⟨cs', g⟩ := hwf.old _ _ (renChs_mem (m := mi) hm)
    have := renChs_mem (m := m2) g
    rw [hb k (hinks k _ hm)] at this
    exact ⟨_, this⟩
  · rw [hkeys2]; exact keysIn_ren r hwf.kr
  · obtain ⟨k0, c0, h0, rfl, rfl⟩ := mem_renChs hm
    have := hwf.kc k0 c0 h0
    rw [hkeys2]
    cases c0 with
    | box cs => exact keysIns_map this
    | _ => trivial
theorem callP_sound {ρ : Operand → C} {fo : Operand} {aS : List Operand} {f : FuncId} {first caps : List C} {ks bs : List Nat} {chs : Chs} {mi m : List (Nat × Nat)} {args' : List C} {chs0 : Chs} {L : List (Ent P)} {e : Eff}
    (hfo : cq (ρ fo) = some (f, first, caps)) (hks : aF chs = ks) (hlk : ∀ k c, (k, c) ∈ chs → lk ch k = some c) (ha : args' = ((first ++ aS.map ρ ++ caps).map (bf ch bs)).map (bS mi)) (hc0 : chs0 = aN mi chs)
    (h : bg ch d ks bs chs ((first ++ aS.map ρ ++ caps).map (bf ch bs)) mi m (first ++ aS.map ρ ++ caps) (cZ L f args' chs0) = .eff e) (hcond : e.cond) : OpR P ρ ch d (.call fo aS) ⟨True, e.v, e.ch, e.sub⟩ := by
  cases ho : cZ L f args' chs0 with
  | none => rw [ho] at h; cases h
  | some q =>
    obtain ⟨p, r, chs', nk⟩ := q
    rw [ho] at h
    simp only [bg] at h
    obtain ⟨_, g1, g2, g3, _, g4⟩ := callR_sound (d := d) hfo hks hlk ha hc0 (lkE_ok ho) (fun k hk => by
      obtain ⟨v, h1, h2⟩ := newM_lk (d := d) (m := m) hk
      simp only [rn, h2, Option.getD_some]
      exact h1) h hcond
    rw [g1, g2, g3]
    exact .call g4
theorem calK_sound {ρ : Operand → C} {fo : Operand} {aS : List Operand} {f : FuncId} {first caps : List C} {ks bs : List Nat} {chs : Chs} {mi : List (Nat × Nat)} {L : List (Ent P)} {e : Eff}
    (hfo : cq (ρ fo) = some (f, first, caps)) (hks : aF chs = ks) (hlk : ∀ k c, (k, c) ∈ chs → lk ch k = some c)
    (h : cH ch d ks bs chs ((first ++ aS.map ρ ++ caps).map (bf ch bs)) mi (first ++ aS.map ρ ++ caps) (cQ L f (((first ++ aS.map ρ ++ caps).map (bf ch bs)).map (bS mi)) (aN mi chs)) (cZ L f (((first ++ aS.map ρ ++ caps).map (bf ch bs)).map (bS mi)) (aN mi chs)) = .eff e) (hcond : e.cond) : OpR P ρ ch d (.call fo aS) ⟨True, e.v, e.ch, e.sub⟩ := by
  cases ho : cQ L f (((first ++ aS.map ρ ++ caps).map (bf ch bs)).map (bS mi)) (aN mi chs) with
  | none =>
    rw [ho] at h
    exact callP_sound (L := L) hfo hks hlk rfl rfl h hcond
  | some q =>
    obtain ⟨p, r⟩ := q
    rw [ho] at h
    simp only [cH] at h
    cases hq : bz ch ks bs chs ((first ++ aS.map ρ ++ caps).map (bf ch bs)) mi (bD mi) (first ++ aS.map ρ ++ caps) p r (aN mi chs) [] [] with
    | none => rw [hq] at h; cases h
    | fz l => rw [hq] at h; cases h
    | eff e0 =>
      rw [hq] at h
      simp only [bn, CR.eff.injEq] at h
      subst h
      have hF : p → FC P f (((first ++ aS.map ρ ++ caps).map (bf ch bs)).map (bS mi)) (aN mi chs) r (aN mi chs) ∧ WfR (aN mi chs) r (aN mi chs) [] := fun hp => by
        obtain ⟨h1, h2, h3⟩ := lkK_ok ho hp
        refine ⟨h1, fun k c h => .inr ⟨c, h⟩, fun k cs h => ⟨cs, h⟩, keysIn_mono (fun k hk => by simp at hk) r h3, fun k c h => ?_⟩
        obtain ⟨cs, rfl, hpl⟩ := plainChs_mem h2 h
        exact keysIns_of fun c hc => keysIn_mono (fun k hk => by simp at hk) c (plainC_keys (hpl c hc)).1
      obtain ⟨hp, g1, _, _, g2, g3⟩ := callR_sound (d := d) hfo hks hlk rfl rfl hF (fun k hk => by simp at hk) hq hcond
      obtain ⟨_, h2, h3⟩ := lkK_ok ho hp
      rw [g2 rfl] at g3
      rw [g1]
      have hr : keysIn [] (bS (bD mi) r) := by
        have := keysIn_ren (m := bD mi) (ks := []) r h3
        simpa using this
      refine .callK g3 ?_ hr
      have : ∀ {l : Chs}, plainChs (aN mi l) = true → plainChs l = true := by
        intro l
        induction l with
        | nil => intro _; rfl
        | cons q l ih =>
          intro h
          obtain ⟨k, c⟩ := q
          cases c with
          | box cs =>
            simp only [aN, aI, plainChs, Bool.and_eq_true, List.all_eq_true, List.mem_map, forall_exists_index, and_imp, forall_apply_eq_imp_iff₂] at h ⊢
            refine ⟨fun x hx => ?_, ih h.2⟩
            have := h.1 x hx
            cases x with
            | fn f xs ys => cases xs <;> cases ys <;> simp [bS, bS.renCs, plainC] at this ⊢
            | _ => first | exact this | cases this
          | _ => simp [aN, aI, plainChs] at h
      exact this h2
theorem renCh1_nil (c : Ch) : aI [] c = c := by
  have hr : ∀ c : C, bS [] c = c := by
    intro c
    have h : ∀ (n : Nat) (c : C), SizeOf.sizeOf c ≤ n → bS [] c = c := by
      intro n
      induction n with
      | zero => intro c hc; cases c <;> simp at hc
      | succ n ih =>
        intro c hc
        have hl : ∀ cs : List C, SizeOf.sizeOf cs ≤ n → cs.map (bS []) = cs := by
          intro cs
          induction cs with
          | nil => intro _; rfl
          | cons x xs ihx =>
            intro hx
            simp at hx
            simp only [List.map_cons]
            rw [ih x (by omega), ihx (by omega)]
        cases c with
        | agg cs => simp only [bS, renCs_eq]; simp at hc; rw [hl cs (by omega)]
        | tup cs => simp only [bS, renCs_eq]; simp at hc; rw [hl cs (by omega)]
        | fn f xs ys => simp only [bS, renCs_eq]; simp at hc; rw [hl xs (by omega), hl ys (by omega)]
        | _ => simp [bS, rn, lk]
    exact h _ c (Nat.le_refl _)
  cases c with
  | box cs => simp only [aI]; congr 1; exact (List.map_congr_left (fun c _ => hr c)).trans (List.map_id _)
  | _ => rfl
theorem renC_nil (c : C) : bS [] c = c := by
  have := renCh1_nil (.box [c])
  simpa [aI] using this
theorem calF_sound {ρ : Operand → C} {fo : Operand} {aS : List Operand} {L : List (Ent P)} {e : Eff} (h : bR L ch d (cq (ρ fo)) (aS.map ρ) = .eff e) (hcond : e.cond) : OpR P ρ ch d (.call fo aS) ⟨True, e.v, e.ch, e.sub⟩ := by
  unfold bR at h
  split at h
  · rename_i f first caps hfo
    unfold a6 bw at h
    split at h
    · unfold bC bB bk at h
      split at h
      · rename_i p r nk ho
        split at h
        · cases h
          obtain ⟨hp, hvo, hl⟩ := hcond
          obtain ⟨hFC, hwf⟩ := lkE_ok ho hp
          exact .call (chs := []) (chs' := []) (nk := []) ⟨⟨f, first, caps, _, hfo, hFC, viewOks_mem hvo, fun k c h => by simp at h, lendOk_spec hl⟩, by simp, fun k cs h => by simp at h, fun k c h => by simp at h, fun k cs h => by simp at h, hwf.kr, fun k c h => by simp at h⟩
        · cases h
      · refine callP_sound (L := L) (args' := (first ++ aS.map ρ ++ caps).map (bf ch (ae [] [] (first ++ aS.map ρ ++ caps)))) (chs0 := []) hfo rfl (fun k c h => by simp at h) ?_ rfl h hcond
        exact ((List.map_congr_left (fun c _ => renC_nil c)).trans (List.map_id _)).symm
    · unfold bl bo bH bL at h
      split at h
      · rename_i chs hg
        obtain ⟨g1, g2⟩ := getCh_spec hg
        exact calK_sound (L := L) hfo g1 g2 h hcond
      · cases h
  · cases h
end Go.Am
end
section
namespace Go.Am
variable {P : Program} [Glob P] {cx : Cx} {Q : ASt → Prop} {k : List It} {st : ASt} {dr : Bool} {o : AO} {os : List AO}
def ah (t : Slots) : List Nat → List Nat
  | [] => []
  | i :: l => match gt t i with | .own k => k :: ah t l | _ => ah t l
inductive Md where
  | run
  | eff (o : Option Eff)
  | grd (c : C) (want : Bool)
  | cnd (c : C) (x : Operand) (a b : AC)
  | ext (o : ER) (id : Nat)
  | cal (r : CR)
  | nl (c : C) (i sz : Nat) (ty : TypeId) (a : AC)
  | dp (c : C) (i isz : Nat) (ity : TypeId) (a : AC)
  | dq (kk : Nat) (o : Option Ch) (i isz : Nat) (ity : TypeId) (a : AC)
def bN (L : List (Ent P)) (ρ : Operand → C) (ch : Chs) (d : Nat) : AOp → Md
  | .call fo aS => .cal (bR L ch d (cq (ρ fo)) (aS.map ρ))
  | _ => .cal .none
def bE (P : Program) [Glob P] (cx : Cx) (Q : ASt → Prop) (m : Md) (q : Option (Bool × List AO)) (k : List It) (st : ASt) : Prop :=
  match q with
  | some (dr, os) => DG P cx Q dr k os st
  | none =>
    match m with
    | .cnd _ x a b => SG P cx Q (.c (.cond x a b) :: k) st
    | .ext _ id => SG P cx Q (.c (.exit id) :: k) st
    | .nl _ i sz ty a => SG P cx Q (.c (.nilrow i sz ty a) :: k) st
    | .dp _ i isz ity a => SG P cx Q (.c (.deepen i isz ity a) :: k) st
    | .dq _ _ i isz ity a => SG P cx Q (.c (.deepen i isz ity a) :: k) st
    | _ => SG P cx Q k st
def okM (P : Program) [Glob P] (L : List (Ent P)) (m : Md) (q : Option (Bool × List AO)) (k : List It) (st : ASt) : Prop :=
  match m, q with
  | .cnd c x _ _, none => c = cT P st.t x
  | .ext o id, none => o = bu id k
  | .nl c i _ _ _, none => c = gt st.t i
  | .dp c i _ _ _, none => c = gt st.t i
  | .dq kk o i _ _ _, none => gt st.t i = .own kk ∧ o = lk st.ch kk
  | .eff o, some (_, ⟨dst, none, op, _⟩ :: _) => o = cV (cT P st.t) st.ch (dst.getD 0) op
  | .cal r, some (_, ⟨dst, none, op, _⟩ :: _) => bN L (cT P st.t) st.ch (dst.getD 0) op = .cal r
  | .grd c w, some (_, ⟨_, some (g, want), _, _⟩ :: _) => c = gt st.t g ∧ w = want
  | _, _ => True
def cc (P : Program) [Glob P] (L : List (Ent P)) (u : Bool) (cx : Cx) (Q : ASt → Prop) : Nat → Md → Option (Bool × List AO) → List It → ASt → Prop
  | _ + 1, .run, none, [], st => Q st
  | n + 1, .run, none, .blk _ :: k, st => cc P L u cx Q n .run none k st
  | _ + 1, .run, none, .post R :: _, st => R st
  | _ + 1, .run, none, .rnd N _ :: _, st => N st
  | n + 1, .run, none, .c .skip :: k, st => cc P L u cx Q n .run none k st
  | _ + 1, .run, none, .c .ret :: k, st => bP Q k st
  | n + 1, .run, none, .c (.seq a b) :: k, st => cc P L u cx Q n .run none (.c a :: .c b :: k) st
  | n + 1, .run, none, .c (.region dr os) :: k, st => cc P L u cx Q n .run (some (dr, os)) k st
  | n + 1, .run, none, .c (.cond c a b) :: k, st => cc P L u cx Q n (.cnd (cT P st.t c) c a b) none k st
  | n + 1, .run, none, .c (.block id a) :: k, st => cc P L u cx Q n .run none (.c a :: .blk id :: k) st
  | n + 1, .run, none, .c (.exit id) :: k, st => cc P L u cx Q n (.ext (bu id k) id) none k st
  | n + 1, .run, none, .c (.keep l a) :: k, st => cc P L u cx Q n .run none (.c a :: k) ⟨bF l st.t, st.ch⟩
  | n + 1, .run, none, .c (.loop a) :: k, st => match u with | true => cc P L u cx Q n .run none (.c a :: .lp a :: k) st | false => SG P cx Q (.c (.loop a) :: k) st
  | n + 1, .run, none, .lp a :: k, st => match u with | true => cc P L u cx Q n .run none (.c a :: .lp a :: k) st | false => SG P cx Q (.lp a :: k) st
  | _ + 1, .run, none, .c (.rangeFunc g ps a b) :: k, st => SG P cx Q (.c (.rangeFunc g ps a b) :: k) st
  | _ + 1, .run, none, .c (.cut a) :: k, st => SG P cx Q (.c (.cut a) :: k) st
  | _ + 1, .run, none, .c (.draw e rb a) :: k, st => SG P cx Q (.c (.draw e rb a) :: k) st
  | n + 1, .run, none, .c (.nilrow i sz ty a) :: k, st => cc P L u cx Q n (.nl (gt st.t i) i sz ty a) none k st
  | n + 1, .run, none, .c (.deepen i isz ity a) :: k, st => cc P L u cx Q n (.dp (gt st.t i) i isz ity a) none k st
  | n + 1, .run, none, .c (.fz l a) :: k, st => cc P L u cx Q n .run none (.c a :: k) (cR (ah st.t l) st)
  | n + 1, .run, some (_, []), k, st => cc P L u cx Q n .run none k st
  | n + 1, .run, some (dr, ⟨dst, none, op, tot⟩ :: os), k, st => cc P L u cx Q n (.eff (cV (cT P st.t) st.ch (dst.getD 0) op)) (some (dr, ⟨dst, none, op, tot⟩ :: os)) k st
  | n + 1, .run, some (dr, ⟨dst, some (g, want), op, tot⟩ :: os), k, st => cc P L u cx Q n (.grd (gt st.t g) want) (some (dr, ⟨dst, some (g, want), op, tot⟩ :: os)) k st
  | n + 1, .eff (some ef), some (dr, ⟨dst, none, op, tot⟩ :: os), k, st => ef.cond ∧ cO dr ⟨dst, none, op, tot⟩ ef st ∧ cc P L u cx Q n .run (some (dr, os)) k (cd dst ef st)
  | n + 1, .eff none, some (dr, ⟨dst, none, op, tot⟩ :: os), k, st => cc P L u cx Q n (bN L (cT P st.t) st.ch (dst.getD 0) op) (some (dr, ⟨dst, none, op, tot⟩ :: os)) k st
  | n + 1, .cal (.eff ef), some (dr, ⟨dst, none, op, tot⟩ :: os), k, st => ef.cond ∧ cO dr ⟨dst, none, op, tot⟩ ef st ∧ cc P L u cx Q n .run (some (dr, os)) k (cd dst ef st)
  | n + 1, .cal (.fz ks), some (false, ⟨dst, none, op, tot⟩ :: os), k, st => cc P L u cx Q n .run (some (false, ⟨dst, none, op, tot⟩ :: os)) k (cR ks st)
  | n + 1, .grd (.s (.bool b)) want, some (dr, ⟨dst, some (g, _), op, tot⟩ :: os), k, st =>
    if b = want then cc P L u cx Q n .run (some (dr, ⟨dst, none, op, tot⟩ :: os)) k ⟨co st.t g (.s (.bool want)), st.ch⟩
    else cc P L u cx Q n .run (some (dr, os)) k ⟨cJ dst [] (.s undef) (co st.t g (.s (.bool (!want)))), st.ch⟩
  | n + 1, .grd (.s (.tuple _)) _, some (dr, ⟨dst, some _, _, _⟩ :: os), k, st => cc P L u cx Q n .run (some (dr, os)) k ⟨cJ dst [] (.s undef) st.t, st.ch⟩
  | n + 1, .cnd (.s (.bool x)) _ a b, none, k, st => if x = true then cc P L u cx Q n .run none (.c a :: k) st else cc P L u cx Q n .run none (.c b :: k) st
  | n + 1, .ext (.cont k') _, none, _, st => cc P L u cx Q n .run none k' st
  | _ + 1, .ext (.out p) _, none, _, st => p st
  | n + 1, .nl (.s (.slice none 0 0)) i sz ty a, none, k, st => i < 100000 ∧ cc P L u cx Q n .run none (.c a :: k) (cL i sz ty st)
  | n + 1, .dp (.own kk) i isz ity a, none, k, st => cc P L u cx Q n (.dq kk (lk st.ch kk) i isz ity a) none k st
  | n + 1, .dq kk (some (.row sz ty es)) _ isz ity a, none, k, st => sz = 1 ∧ (∀ e ∈ es, e = [.s (.slice none 0 0)]) ∧ cc P L u cx Q n .run none (.c a :: k) (br kk isz ity ty es st)
  | _, m, q, k, st => bE P cx Q m q k st
theorem StepE.unguard {s : ASt} {ef : Eff} (h : StepE P { o with guard := none } s ef) (hw : wantA s.t o.guard = some true) : StepE P o s ef := by
  cases h with
  | yes _ _ hr => exact .yes ef hw hr
  | no h => simp [wantA] at h
theorem okM_run {L : List (Ent P)} {k : List It} {st : ASt} (q : Option (Bool × List AO)) (_ : Unit) : okM P L .run q k st := by
  unfold okM; split <;> first | trivial | (rename_i h; cases h)
theorem D_unguard {dst : Option Nat} {g : Nat} {w0 : Bool} {op : AOp} {tot : Bool} (hw : wantA st.t (some (g, w0)) = some true) (h : DG P cx Q dr k (⟨dst, none, op, tot⟩ :: os) st) : DG P cx Q dr k (⟨dst, some (g, w0), op, tot⟩ :: os) st := by
  cases dr with
  | true =>
    obtain ⟨s', ⟨ef, g1, g2, g3⟩, g4⟩ := h
    exact ⟨s', ⟨ef, StepE.unguard (o := ⟨dst, some (g, w0), op, tot⟩) g1 hw, g2, g3⟩, g4⟩
  | false =>
    rcases h with ⟨h1, _⟩ | ⟨_, h2⟩
    · cases h1
    · exact .inr ⟨hw, h2⟩
theorem runS_sound {L : List (Ent P)} {u : Bool} (n : Nat) (m : Md) (q : Option (Bool × List AO)) (k : List It) (st : ASt) (h : cc P L u cx Q n m q k st) (hm : okM P L m q k st) : bE P cx Q m q k st := by
  induction n generalizing m q k st with
  | zero => unfold cc at h; exact h
  | succ n ih =>
    generalize hN : n + 1 = N at h
    unfold cc at h
    split at h
    all_goals (try cases hN)
    · exact S_nil h
    · exact S_blk (ih _ _ _ _ h trivial)
    · exact S_post h
    · exact fun E U a w hh => ⟨E, U, _, hh, h⟩
    · exact S_skip (ih _ _ _ _ h trivial)
    · exact S_ret h
    · exact S_seq (ih _ _ _ _ h trivial)
    · rename_i dr os
      exact S_region (ih _ _ _ _ h (okM_run _ ()))
    · have h1 := ih _ _ _ _ h rfl
      exact h1
    · exact S_block (ih _ _ _ _ h trivial)
    · have h1 := ih _ _ _ _ h rfl
      exact h1
    · exact S_keepT (S_keep (ih _ _ _ _ h trivial))
    · split at h
      · exact S_lp0 (ih _ _ _ _ h trivial)
      · exact h
    · split at h
      · exact S_lp (ih _ _ _ _ h trivial)
      · exact h
    · exact h
    · exact h
    · exact h
    · have h1 := ih _ _ _ _ h rfl
      exact h1
    · have h1 := ih _ _ _ _ h rfl
      exact h1
    · exact S_fz _ (S_fz0 (ih _ _ _ _ h trivial))
    · exact D_nil (ih _ _ _ _ h trivial)
    · have h1 := ih _ _ _ _ h rfl
      exact h1
    · have h1 := ih _ _ _ _ h ⟨rfl, rfl⟩
      exact h1
    · rename_i ef dr dst op tot os
      exact D_eff (.yes ef rfl (.f hm.symm h.1)) h.2.1 (ih _ _ _ _ h.2.2 (okM_run _ ()))
    · rename_i dr dst op tot os
      have hmd : ∃ r, bN L (cT P st.t) st.ch (dst.getD 0) op = .cal r := by unfold bN; split <;> exact ⟨_, rfl⟩
      obtain ⟨r, hr⟩ := hmd
      rw [hr] at h
      have h1 := ih _ _ _ _ h hr
      exact h1
    · rename_i ef dr dst op tot os
      have hop : OpR P (cT P st.t) st.ch (dst.getD 0) op ⟨True, ef.v, ef.ch, ef.sub⟩ := by
        simp only [okM] at hm
        unfold bN at hm
        split at hm
        · cases hm' : bR L st.ch (dst.getD 0) (cq (cT P st.t ‹Operand›)) (List.map (cT P st.t) ‹List Operand›) with
          | eff e =>
            rw [hm'] at hm
            cases hm
            exact calF_sound hm' h.1
          | _ => rw [hm'] at hm; cases hm
        · cases hm
      exact D_eff (ef := ⟨True, ef.v, ef.ch, ef.sub⟩) (.yes _ rfl hop) (by have := h.2.1; unfold cO at this ⊢; exact this) (ih _ _ _ _ h.2.2 (okM_run _ ()))
    · rename_i ks dst op tot os
      exact D_ghost rfl (Ghost.fz ks) (ih _ _ _ _ h (okM_run _ ()))
    · rename_i b want dr dst g w0 op tot os
      obtain ⟨hb, hw⟩ := hm
      subst hw
      have hb := hb.symm
      split at h
      · rename_i hbw
        subst hbw
        have h1 := ih _ _ _ _ h (okM_run _ ())
        have h2 := DG.eqS (eqS_set hb) h1
        exact D_unguard (by simp [wantA, hb]) h2
      · rename_i hbw
        have h1 := ih _ _ _ _ h (okM_run _ ())
        have hb2 : gt st.t g = .s (.bool (!want)) := by rw [hb]; cases b <;> cases want <;> simp_all
        have he : EqS ⟨cJ dst [] (.s undef) (co st.t g (.s (.bool (!want)))), st.ch⟩ ⟨cJ dst [] (.s undef) st.t, st.ch⟩ := ⟨fun i => by
          simp only [gt_putS, (eqS_set hb2).1 i], rfl⟩
        have h2 := DG.eqS he h1
        refine D_eff (ef := ⟨True, .s undef, st.ch, []⟩) (.no (by simp only [wantA, hb]; cases b <;> cases want <;> simp_all)) ?_ h2
        unfold cO; split <;> simp
    · rename_i xs want dr dst gw op tot os
      obtain ⟨g, w0⟩ := gw
      obtain ⟨hb, hw⟩ := hm
      have h1 := ih _ _ _ _ h (okM_run _ ())
      refine D_eff (ef := ⟨True, .s undef, st.ch, []⟩) (.no (by simp only [wantA, ← hb])) ?_ h1
      unfold cO; split <;> simp
    · rename_i x c a b
      refine S_cond (Eq.symm hm) (fun e => ?_) (fun e => ?_)
      · rw [if_pos e] at h; exact ih _ _ _ _ h trivial
      · rw [if_neg (by rw [e]; simp)] at h; exact ih _ _ _ _ h trivial
    · exact S_exit (Eq.symm hm) (ih _ _ _ _ h trivial)
    · exact S_out (Eq.symm hm) h
    · exact S_nilrow0 (S_nilrow h.1 (Eq.symm hm) (ih _ _ _ _ h.2 trivial))
    · have h1 := ih _ _ _ _ h ⟨Eq.symm hm, rfl⟩
      exact h1
    · obtain ⟨hm1, hm2⟩ := hm
      obtain ⟨rfl, h1, h2⟩ := h
      exact S_deepen0 (S_ghost (Ghost.deepen hm2.symm h1) (ih _ _ _ _ h2 trivial))
    · exact h
theorem S_run (L : List (Ent P)) (n : Nat) (h : cc P L false cx Q n .run none k st) : SG P cx Q k st := runS_sound n .run none k st h trivial
theorem S_runU (L : List (Ent P)) (n : Nat) (h : cc P L true cx Q n .run none k st) : SG P cx Q k st := runS_sound n .run none k st h trivial
theorem D_run (L : List (Ent P)) (n : Nat) (h : cc P L false cx Q n .run (some (dr, os)) k st) : DG P cx Q dr k os st := runS_sound n .run (some (dr, os)) k st h (okM_run _ ())
end Go.Am
end
section
namespace Go.Am
variable {P : Program} [Glob P] {cx : Cx} {Q : ASt → Prop} {k : List It} {st : ASt}
inductive RV where
  | tmp (t : Nat)
  | cell (a : Nat) (agg : Bool) (sz : Nat)
def compRV (P : Program) : ResultVar → Option RV
  | .tmp t => some (.tmp t)
  | .cell a t => (isAggB P t).bind fun b => (szOf P t).map fun n => .cell a b n
def da (s : ASt) : RV → Option C
  | .tmp t => some (gt s.t t)
  | .cell a agg sz =>
    match gt s.t a with
    | .ptr k off =>
      match lk s.ch k with
      | some (.box cs) => if off + sz ≤ cs.length ∧ (agg = false → sz = 1) ∧ ((cs.drop off).take sz).all ay = true then some (aP agg sz cs off) else none
      | _ => none
    | _ => none
def ce (s : ASt) : List RV → Option (List C)
  | [] => some []
  | r :: rs => (da s r).bind fun c => (ce s rs).map (c :: ·)
def cG : List C → C
  | [c] => c
  | l => .tup l
def b0 : C → C → Prop
  | _, .any => True
  | .s (.slice none 0 0), .sl _ [] => True
  | a, b => a = b
def cn : List C → List C → Prop
  | [], [] => True
  | a :: l, b :: m => b0 a b ∧ cn l m
  | _, _ => False
def leC : C → C → Prop
  | _, .any => True
  | .s (.slice none 0 0), .sl _ [] => True
  | .tup a, .tup b => cn a b
  | .agg a, .agg b => cn a b
  | a, b => a = b
theorem leC1_rep {E : Env} {U : Nat → Prop} {h : Array Obj} {c r : C} {v : Value} (hl : b0 c r) (hr : Rep E U h c v) : Rep E U h r v := by
  unfold b0 at hl
  split at hl
  · exact .d (.any v)
  · rw [rep_s hr]; exact .d (.sl0 _ _ _ (by decide))
  · rw [← hl]; exact hr
theorem leCs_rep {E : Env} {U : Nat → Prop} {h : Array Obj} : ∀ {cs rs : List C}, cn cs rs → rs.length = cs.length ∧ ∀ (vf : Nat → Value), (∀ (j : Nat) c, cs[j]? = some c → Rep E U h c (vf j)) → ∀ (j : Nat) r, rs[j]? = some r → Rep E U h r (vf j)
  | [], [], _ => ⟨rfl, fun vf _ j r h => by simp at h⟩
  | [], _ :: _, h => by simp [cn] at h
  | _ :: _, [], h => by simp [cn] at h
  | a :: l, b :: m, h => by
    simp only [cn] at h
    obtain ⟨h1, h2⟩ := leCs_rep h.2
    refine ⟨by simp [h1], fun vf hv j r hj => ?_⟩
    cases j with
    | zero => simp at hj; subst hj; exact leC1_rep h.1 (hv 0 a rfl)
    | succ j => exact h2 (fun j => vf (j + 1)) (fun j c hc => hv (j + 1) c (by simpa using hc)) j r (by simpa using hj)
theorem leC_rep {E : Env} {U : Nat → Prop} {h : Array Obj} {c r : C} {v : Value} (hl : leC c r) (hr : Rep E U h c v) : Rep E U h r v := by
  unfold leC at hl
  split at hl
  · exact .d (.any v)
  · rw [rep_s hr]; exact .d (.sl0 _ _ _ (by decide))
  · obtain ⟨vs, h1, h2, h3⟩ := rep_tup hr
    subst h1
    obtain ⟨g1, g2⟩ := leCs_rep (E := E) (U := U) (h := h) hl
    exact .tup _ vs (by rw [g1]; exact h2) (g2 _ h3)
  · obtain ⟨vs, h1, h2, h3, h4⟩ := rep_agg hr
    subst h1
    obtain ⟨g1, g2⟩ := leCs_rep (E := E) (U := U) (h := h) hl
    exact .agg _ vs (by rw [g1]; exact h2) (g2 _ h3) h4
  · rw [← hl]; exact hr
def ai : Chs → List Nat
  | [] => []
  | (k, .row _ _ _) :: r => k :: ai r
  | (k, .deep _ _ _ Option.none _) :: r => k :: ai r
  | (_, .deep _ _ _ (Option.some _) _) :: r => ai r
  | (_, .box _) :: r => ai r
  | (_, .res _) :: r => ai r
def aE : List Nat → List Nat → List Nat
  | [], _ => []
  | j :: l, ks => if bZ ks j = true then aE l ks else j :: aE l ks
def aA : Chs → Chs → Prop
  | [], _ => True
  | (k, c) :: r, ch => lk ch k = some c ∧ aA r ch
theorem subChs_spec : ∀ {c1 ch : Chs}, aA c1 ch → ∀ p ∈ c1, lk ch p.1 = some p.2
  | [], _, _, p, h => by simp at h
  | (k, c) :: r, ch, hs, p, h => by
    rcases List.mem_cons.1 h with h | h
    · rw [h]; exact hs.1
    · exact subChs_spec hs.2 p h
def bO (rvs : List RV) (kp : List Nat) (r : C) (chs' : Chs) (s : ASt) : Prop :=
  (match ce (cR (aE (ai s.ch) kp) s) rvs with | some l => leC (cG l) r | none => False) ∧ aA chs' (cR (aE (ai s.ch) kp) s).ch
def argS : Nat → List C → Slots
  | _, [] => []
  | i, c :: cs => (i, c) :: argS (i + 1) cs
theorem gt_argS : ∀ (cs : List C) (i j : Nat), gt (argS i cs) j = if i ≤ j then (cs[j - i]?).getD .any else .any
  | [], i, j => by simp [argS, gt, lk]
  | c :: cs, i, j => by
    simp only [argS, gt, lk]
    by_cases h : i = j
    · subst h; simp
    · rw [if_neg h]
      have := gt_argS cs (i + 1) j
      simp only [gt] at this
      rw [this]
      by_cases h2 : i + 1 ≤ j
      · rw [if_pos h2, if_pos (by omega)]
        have : j - i = (j - (i + 1)) + 1 := by omega
        rw [this, List.getElem?_cons_succ]
      · rw [if_neg h2, if_neg (by omega)]
def resRun (tmps : Array Value) : ResultVar → Sem Value
  | .tmp t => pure (tmps.getD t undef)
  | .cell x t => do loadVar t (← asAddr (tmps.getD x undef))
theorem results_eq (fn : Func) (tmps : Array Value) : results fn tmps = (do let vs ← fn.results.mapM (resRun tmps); pure (if h : vs.size = 1 then vs[0] else .tuple vs)) := rfl
theorem run_results {E : Env} {U : Nat → Prop} {a : Act} {w : World} {s : ASt} (hh : Holds P cx E U a w s) : ∀ {l : List ResultVar} {rvs : List RV} {cs : List C}, l.mapM (compRV P) = some rvs → ce s rvs = some cs →
    ∃ vs : List Value, (l.mapM (resRun a.tmps)).run P w = .ok vs w ∧ vs.length = cs.length ∧ ∀ (j : Nat) c v, cs[j]? = some c → vs[j]? = some v → Rep E U w.heap c v
  | [], rvs, cs, h, hr => by
    simp at h; subst h
    simp [ce] at hr; subst hr
    exact ⟨[], by simp, rfl, fun j c v h => by simp at h⟩
  | r :: l, rvs, cs, h, hr => by
    simp only [List.mapM_cons, Option.pure_def, Option.bind_eq_bind, Option.bind_eq_some_iff, Option.some.injEq] at h
    obtain ⟨rv, h1, rvs', h2, rfl⟩ := h
    simp only [ce, Option.bind_eq_some_iff, Option.map_eq_some_iff] at hr
    obtain ⟨c, h3, cs', h4, rfl⟩ := hr
    obtain ⟨vs, g1, g2, g3⟩ := run_results hh h2 h4
    have head : ∃ v, ((resRun a.tmps) r).run P w = .ok v w ∧ Rep E U w.heap c v := by
      cases r with
      | tmp t =>
        simp only [compRV, Option.some.injEq] at h1
        subst h1
        simp only [da, Option.some.injEq] at h3
        subst h3
        exact ⟨_, by simp [resRun], hh.tok t⟩
      | cell x t =>
        simp only [compRV, Option.bind_eq_some_iff, Option.map_eq_some_iff] at h1
        obtain ⟨b, hb, n, hn, rfl⟩ := h1
        simp only [da] at h3
        split at h3
        · rename_i kk off hx
          split at h3
          · rename_i bcs hl
            split at h3
            · rename_i hcond
              cases h3
              have hv := rep_ptr (hx ▸ hh.tok x)
              have hcells : aP b n bcs off = aP b n ((bcs.drop off).take n) 0 := by
                cases b with
                | true => simp [aP, List.take_take]
                | false =>
                  have hn1 := hcond.2.1 rfl
                  subst hn1
                  have hlt : off < bcs.length := by omega
                  simp only [aP, Bool.false_eq_true, if_false]
                  rw [List.drop_eq_getElem_cons hlt]; rfl
              obtain ⟨v, e1, e2⟩ := run_load_mem hb hn (box_mem (hh.inv.ok kk _ (lk_mem hl)) off n (fun j c hj => all_get hcond.2.2 hj)) 0 (by simp; omega) hcond.2.1
              rw [← hcells] at e2
              refine ⟨v, ?_, e2⟩
              simp only [Instr.loadAt, Instr.sureAddr, Sem.run_bind, Sem.run_pure, Result.andThen_ok, Nat.add_zero] at e1
              simp only [resRun, hv, asAddr, Sem.run_bind, Sem.run_pure, Result.andThen_ok, e1]
            · cases h3
          · cases h3
        · cases h3
    obtain ⟨v, e1, e2⟩ := head
    refine ⟨v :: vs, ?_, by simp [g2], fun j c' v' hc hv => ?_⟩
    · simp only [List.mapM_cons, Sem.run_bind, Sem.run_pure]
      rw [e1]
      simp only [Result.andThen_ok]
      rw [g1]
      rfl
    · cases j with
      | zero => simp at hc hv; subst hc hv; exact e2
      | succ j => simp at hc hv; exact g3 j c' v' hc hv
theorem Holds.shut {E : Env} {U : Nat → Prop} {a : Act} {w : World} {s : ASt} {D : Nat} {Ds : List Nat} (hh : Holds P cx E U a w s) (hd : a.defers = (D :: Ds).map markD) (hc : cx.hid = []) :
    Holds P cx E U { a with defers := Ds.map markD } (w.putObj D (.deferred none)) s := by
  obtain ⟨Ds', h1, h2, h3⟩ := hh.df
  have he : Ds' = D :: Ds := by
    have : Ds'.map markD = (D :: Ds).map markD := by rw [← h1, hd]
    exact (List.map_inj_right (fun x y e => by simpa [markD] using e)).1 this
  subst he
  obtain ⟨⟨g1, g2, g3, g4⟩⟩ : Nonempty (_ ∧ _ ∧ _ ∧ _) := ⟨(h3 D List.mem_cons_self).1, (h3 D List.mem_cons_self).2.1, (h3 D List.mem_cons_self).2.2.1, (h3 D List.mem_cons_self).2.2.2⟩
  have hne : ∀ b, b ≠ D → (w.putObj D (.deferred none)).heap[b]? = w.heap[b]? := fun b hb => by
    simp [World.putObj, Array.getElem?_setIfInBounds, Ne.symm hb]
  have hsz : (w.putObj D (.deferred none)).heap.size = w.heap.size := by simp [World.putObj]
  have hU : ∀ b, U b → U b ∧ (w.putObj D (.deferred none)).heap[b]? = w.heap[b]? := fun b hb => ⟨hb, hne b (fun e => g3 (e ▸ hb))⟩
  have hF : ∀ k c, (k, c) ∈ s.ch → ∀ b, (E k).fp b → (w.putObj D (.deferred none)).heap[b]? = w.heap[b]? := fun k c hm b hb => hne b (fun e => g4 k c hm (e ▸ hb))
  refine ⟨hh.sz, ⟨Ds, rfl, (List.nodup_cons.1 h2).2, fun D' hD' => ?_⟩, fun i => (hh.tok i).same hU, ⟨hh.inv.nd, fun k c hm => (hh.inv.ok k c hm).same hU (hF k c hm), hh.inv.sep, hh.inv.out, fun k c hm b hb => by rw [hsz]; exact hh.inv.fpl k c hm b hb, fun b hb => by rw [hsz]; exact hh.inv.lt b hb⟩,
    hh.os, hh.tape, hh.output, by rw [hsz]; exact hh.size, fun b hb hx => (hne b (by omega)).trans (hh.fr b hb hx), fun b hb => ⟨(hh.keepA b hb).1, (hU b (hh.keepA b hb).1).2.trans (hh.keepA b hb).2⟩, hh.live, hh.base, hh.fix, fun p hp => by rw [hc] at hp; simp at hp, hh.gok.mono hU⟩
  obtain ⟨q1, q2, q3, q4⟩ := h3 D' (List.mem_cons_of_mem _ hD')
  refine ⟨q1, ?_, q3, q4⟩
  rw [hne D' (fun e => (List.nodup_cons.1 h2).1 (e ▸ hD'))]; exact q2
theorem marks_leave {E : Env} {U : Nat → Prop} {s : ASt} {fn : Func} {R : Ending → World → Prop} (hc : cx.hid = []) : ∀ (Ds : List Nat) (a : Act) (w : World), a.defers = Ds.map markD → Holds P cx E U a w s →
    (∀ w', Holds P cx E U { a with defers := [] } w' s → ∃ v, (results fn a.tmps).run P w' = .ok v w' ∧ R (.returned v) w') → LeavesInM (FW none) 0 P fn a.tmps R a.defers .returning w
  | [], a, w, hd, hh, hf => by
    rw [hd]
    obtain ⟨t, d⟩ := a
    simp only at hd; subst hd
    exact hf w hh
  | D :: Ds, a, w, hd, hh, hf => by
    have h1 := hh.shut hd hc
    have h2 := marks_leave (fn := fn) (R := R) hc Ds { a with defers := Ds.map markD } _ rfl h1 hf
    rw [hd]
    simp only [List.map_cons, LeavesInM]
    refine ⟨by simp, .inl ⟨D, _, rfl, run_takeDeferred ?_, h2⟩⟩
    obtain ⟨Ds', e1, _, e3⟩ := hh.df
    have he : Ds' = D :: Ds := by
      have : Ds'.map markD = (D :: Ds).map markD := by rw [← e1, hd]
      exact (List.map_inj_right (fun x y e => by simpa [markD] using e)).1 this
    subst he
    exact (e3 D List.mem_cons_self).2.1
structure FnIs (P : Program) (f : FuncId) (n : Nat) (ac : AC) (rvs : List RV) : Prop where
  ex : ∃ fn code, P.funcs[f]? = some fn ∧ (fn.name == "runtime.NumGoroutine") = false ∧ fn.body = some code ∧ fn.ntmps = n ∧ compC P n ac code = some ac ∧ fn.results.toList.mapM (compRV P) = some rvs
  hn : n ≤ 100000
def FCo (P : Program) [Glob P] (f : FuncId) (args : List C) (chs : Chs) (outs : List (C × Chs)) : Prop :=
  FnOk P f ∧ ∀ (E : Env) (U : Nat → Prop) (vs : Array Value) (w : World), GlobOk P U w.heap → ArgsR E U w.heap args vs → Inv E U w.heap chs →
    Calls P f vs w fun e w' => ∃ o ∈ outs, ∃ v E' U', e = .returned v ∧ Rep E' U' w'.heap o.1 v ∧ CEv E U w chs E' U' w' o.2
def aQ (rvs : List RV) (kp : List Nat) (outs : List (C × Chs)) (s : ASt) : Prop := ∃ o ∈ outs, bO rvs kp o.1 o.2 s
theorem fco_intro {f : FuncId} {n : Nat} {ac : AC} {rvs : List RV} {args : List C} {chs : Chs} {outs : List (C × Chs)} (kp : List Nat) (hf : FnIs P f n ac rvs) (hargs : args.length ≤ n) (hnd : ∀ o ∈ outs, (o.2.map (·.1)).Nodup)
    (hkinds : ∀ o ∈ outs, ∀ k cs, (k, .box cs) ∈ o.2 → (∃ c, (k, c) ∈ chs) → (∃ cs0, (k, .box cs0) ∈ chs) ∧ 100000 ≤ k ∧ k < 200000)
    (h : ∀ cx : Cx, cx.n = n → cx.ro = none → cx.hi = 200000 → SG P cx (aQ rvs kp outs) [.c ac] ⟨argS 0 args, chs⟩) : FCo P f args chs outs := by
  obtain ⟨⟨fn, code, h1, h2, h3, h4, h5, h6⟩, hn⟩ := hf
  refine ⟨⟨fn, h1, h2, by rw [h3]; rfl⟩, fun E U vs w hg ha hi => ?_⟩
  let cx : Cx := { n := n, A0 := U, w0 := w, X := fun b => ∃ k c, (k, c) ∈ chs ∧ (E k).fp b, E0 := E, hn := hn, ro := none, hid := [], lo := 100000, hi := 200000, hlo := Nat.le_refl _ }
  have hsz : vs.size = args.length := ha.1
  have hh : Holds P cx E U { tmps := vs ++ Array.replicate (fn.ntmps - vs.size) undef, defers := [] } w ⟨argS 0 args, chs⟩ := by
    refine ⟨by simp [cx, h4]; omega, ⟨[], rfl, .nil, fun D hD => by simp at hD⟩, fun i => ?_, hi, rfl, rfl, rfl, Nat.le_refl _, fun _ _ _ => rfl, fun b hb => ⟨hb, rfl⟩, fun k c hm b hb => .inr ⟨k, c, hm, hb⟩, fun b hb => .inl hb, fun k cs _ _ => rfl, fun p hp => by simp [cx] at hp, hg⟩
    simp only [gt_argS, Nat.zero_le, if_true, Nat.sub_zero]
    cases hc : args[i]? with
    | none => exact .d (.any _)
    | some c =>
      have hlt : i < vs.size := by rw [hsz]; exact (List.getElem?_eq_some_iff.1 hc).1
      have e : (vs ++ Array.replicate (fn.ntmps - vs.size) undef).getD i undef = vs.getD i undef := by
        simp only [Array.getD_eq_getD_getElem?, Array.getElem?_append]
        rw [if_pos hlt]
      rw [e]; exact ha.2 i c hc
  refine calls_FW (ro := none) (n := 0) (callsIn_of_wp_marks h1 h3 trivial (wpIn_mono (h cx rfl rfl rfl E U _ w hh code h5) (fun e a w' he => ?_)) rfl)
  have fin : RnH P cx (aQ rvs kp outs) a w' → LeavesInM (FW none) 0 P fn a.tmps (fun e w' => ∃ o ∈ outs, ∃ v E' U', e = .returned v ∧ Rep E' U' w'.heap o.1 v ∧ CEv E U w chs E' U' w' o.2) a.defers .returning w' := by
    rintro ⟨E', U0, s, hs, ⟨r, chs'⟩, ho, hr1, hr2⟩
    obtain ⟨U', hs'⟩ := hs.fz (aE (ai s.ch) kp)
    generalize cR (aE (ai s.ch) kp) s = s' at hs' hr1 hr2
    obtain ⟨cs, hcs, hr1⟩ : ∃ cs, ce s' rvs = some cs ∧ leC (cG cs) r := by
      split at hr1
      · exact ⟨_, by assumption, hr1⟩
      · exact hr1.elim
    obtain ⟨Ds, hds, _⟩ := hs'.df
    refine marks_leave rfl Ds a w' hds hs' (fun w'' hs'' => ?_)
    obtain ⟨l, g1, g2, g3⟩ := run_results hs'' h6 hcs
    refine ⟨(if hsz : l.toArray.size = 1 then l.toArray[0] else .tuple l.toArray), ?_, (r, chs'), ho, _, E', U', rfl, leC_rep hr1 ?_, ?_⟩
    · have hm : (fn.results.mapM (resRun a.tmps)).run P w'' = .ok l.toArray w'' := by
        rw [Array.mapM_eq_mapM_toList]
        simp only [Sem.run_map]
        rw [g1]; rfl
      rw [results_eq]
      simp only [Sem.run_bind]
      rw [hm]
      rfl
    · match l, cs, g2, g3 with
      | [], [], _, _ => exact .tup [] #[] rfl (fun j c h => by simp at h)
      | [v], [c], _, g3 => simpa [cG] using g3 0 c v rfl rfl
      | v1 :: v2 :: vs', [], g2, _ => simp at g2
      | v1 :: v2 :: vs', [c], g2, _ => simp at g2
      | v1 :: v2 :: vs', c1 :: c2 :: cs', g2, g3 =>
        have e1 : ¬ ((v1 :: v2 :: vs').toArray.size = 1) := by simp
        rw [dif_neg e1]
        simp only [cG]
        refine .tup _ _ (by simpa using g2) (fun j c hj => ?_)
        have hlt : j < (v1 :: v2 :: vs').length := by rw [g2]; exact (List.getElem?_eq_some_iff.1 hj).1
        have := g3 j c _ hj (List.getElem?_eq_getElem hlt)
        rw [getD_of_some (v := (v1 :: v2 :: vs')[j]) (by simp)]
        exact this
    · have hmem : ∀ k c, (k, c) ∈ chs' → lk s'.ch k = some c := fun k c hm => subChs_spec hr2 (k, c) hm
      refine ⟨hs''.os, hs''.tape, hs''.output, hs''.size, fun b hb => hs''.keepA b hb, fun b hb1 hb2 => hs''.fr b hb1 (fun ⟨k, c, g1, g2⟩ => hb2 k c g1 g2), fun k c hm b hb => hs''.live k c (lk_mem (hmem k c hm)) b hb, fun b hb => hs''.base b hb, fun k cs hm hex => ?_, hs''.inv.sub (fun k c hm => lk_mem (hmem k c hm)) (hnd _ ho)⟩
      obtain ⟨c, hc⟩ := hex
      obtain ⟨g1, g2⟩ := hkinds _ ho k cs hm ⟨c, hc⟩
      exact ⟨g1, hs''.fix k cs g2 (lk_mem (hmem k _ hm))⟩
  cases e with
  | normal => exact fin he
  | ret => exact fin he
  | _ => exact he.elim
theorem fc_intro {f : FuncId} {n : Nat} {ac : AC} {rvs : List RV} {args : List C} {chs : Chs} {r : C} {chs' : Chs} (kp : List Nat) (hf : FnIs P f n ac rvs) (hargs : args.length ≤ n) (hkeys : ∀ p ∈ chs, 100000 ≤ p.1 ∧ p.1 < 200000) (hnd : (chs'.map (·.1)).Nodup)
    (hkinds : ∀ k cs, (k, .box cs) ∈ chs' → (∃ c, (k, c) ∈ chs) → ∃ cs0, (k, .box cs0) ∈ chs)
    (h : ∀ cx : Cx, cx.n = n → cx.ro = none → cx.hi = 200000 → SG P cx (bO rvs kp r chs') [.c ac] ⟨argS 0 args, chs⟩) : FC P f args chs r chs' := by
  have hq : ∀ o ∈ [(r, chs')], o = (r, chs') := fun o ho => by simpa using ho
  have hf2 := fco_intro (outs := [(r, chs')]) kp hf hargs (fun o ho => by rw [hq o ho]; exact hnd) (fun o ho => by rw [hq o ho]; exact fun k cs hm ⟨c, hc⟩ => ⟨hkinds k cs hm ⟨c, hc⟩, hkeys _ hc⟩) (fun cx h1 h2 h3 => by
    refine fun E U a w hh code hc => wpIn_mono (h cx h1 h2 h3 E U a w hh code hc) (fun e a w he => ?_)
    cases e with
    | normal => obtain ⟨E', U', s, g1, g2⟩ := he; exact ⟨E', U', s, g1, _, List.mem_cons_self, g2⟩
    | ret => obtain ⟨E', U', s, g1, g2⟩ := he; exact ⟨E', U', s, g1, _, List.mem_cons_self, g2⟩
    | _ => exact he.elim)
  refine ⟨hf2.1, fun E U vs w hg ha hi => (hf2.2 E U vs w hg ha hi).mono fun e w' h => ?_⟩
  obtain ⟨o, ho, h⟩ := h
  rw [hq o ho] at h
  exact h
end Go.Am
end
section
namespace Go.Am
variable {P : Program} [Glob P] {cx : Cx} {Q : ASt → Prop} {k : List It} {st : ASt}
def LenOk (c : C) : Prop := ∃ U h v, RepD U h c v
theorem LenOk.sl {sz : Nat} {es : List (List C)} (h : LenOk (.sl sz es)) : es.length ≤ 9223372036854775807 ∧ ∀ e ∈ es, ∀ c ∈ e, LenOk c := by
  obtain ⟨U, hp, v, hr⟩ := h
  cases hr with
  | sl0 sz a cap hc => exact ⟨by simp, fun e he => by simp at he⟩
  | sl es b off cap sz arr ty fz vf hU hb hcap hmax hsz hv hr =>
    refine ⟨?_, fun e he c hc => ?_⟩
    · have : cap ≤ 9223372036854775807 := hmax
      omega
    · obtain ⟨i, hi⟩ := List.mem_iff_getElem?.1 he
      obtain ⟨j, hj⟩ := List.mem_iff_getElem?.1 hc
      exact ⟨_, _, _, hr i e j c hi hj⟩
def aK : List C → Prop
  | [] => True
  | .sl sz es :: r => LenOk (.sl sz es) ∧ aK r
  | .agg cs :: r => LensOks cs ∧ aK r
  | _ :: r => aK r
where LensOks : List C → Prop
  | [] => True
  | .sl sz es :: r => LenOk (.sl sz es) ∧ LensOks r
  | _ :: r => LensOks r
theorem LensOks_of {E : Env} {U : Nat → Prop} {h : Array Obj} : ∀ {cs : List C}, (∀ c ∈ cs, ∃ v, Rep E U h c v) → aK.LensOks cs
  | [], _ => trivial
  | c :: r, hc => by
    have hr := LensOks_of (cs := r) fun c hm => hc c (List.mem_cons_of_mem _ hm)
    cases c <;> simp only [aK.LensOks] <;> try exact hr
    obtain ⟨v, hv⟩ := hc _ List.mem_cons_self
    exact ⟨⟨_, _, v, rep_sl hv⟩, hr⟩
theorem LensOk_of {E : Env} {U : Nat → Prop} {h : Array Obj} : ∀ {cs : List C}, (∀ c ∈ cs, ∃ v, Rep E U h c v) → aK cs
  | [], _ => trivial
  | c :: r, hc => by
    have hr := LensOk_of (cs := r) fun c hm => hc c (List.mem_cons_of_mem _ hm)
    cases c <;> simp only [aK] <;> try exact hr
    · obtain ⟨v, hv⟩ := hc _ List.mem_cons_self
      exact ⟨⟨_, _, v, rep_sl hv⟩, hr⟩
    · obtain ⟨v, hv⟩ := hc _ List.mem_cons_self
      obtain ⟨vs, _, h2, h3, _⟩ := rep_agg hv
      refine ⟨LensOks_of (E := E) (U := U) (h := h) fun c hm => ?_, hr⟩
      obtain ⟨j, hj⟩ := List.mem_iff_getElem?.1 hm
      exact ⟨_, h3 j c hj⟩
def ax : Chs → Prop
  | [] => True
  | (_, .row _ _ es) :: r => es.length ≤ 9223372036854775807 ∧ ax r
  | (_, .deep _ _ _ _ rows) :: r => rows.length ≤ 9223372036854775807 ∧ ax r
  | (_, .box _) :: r => ax r
  | (_, .res _) :: r => ax r
theorem LensCh_of {E : Env} {U : Nat → Prop} {h : Array Obj} : ∀ {ch : Chs}, (∀ k c, (k, c) ∈ ch → ChOk E U h k c) → ax ch
  | [], _ => trivial
  | (k, c) :: r, hc => by
    have hr := LensCh_of (ch := r) fun k c hm => hc k c (List.mem_cons_of_mem _ hm)
    have h0 := hc k c List.mem_cons_self
    cases c with
    | box cs => exact hr
    | res R => exact hr
    | row sz ty es =>
      refine ⟨?_, hr⟩
      rcases h0.1.2.2.2 with ⟨_, rfl⟩ | ⟨_, h5, h6, _⟩
      · simp
      · have : (E k).cap ≤ 9223372036854775807 := h6
        omega
    | deep isz ity ty hole rows =>
      refine ⟨?_, hr⟩
      rcases h0.1.2.2 with ⟨_, rfl⟩ | ⟨_, h5, h6, _⟩
      · simp
      · have : (E k).cap ≤ 9223372036854775807 := h6
        omega
theorem FC.lens {f : FuncId} {args : List C} {chs : Chs} {r : C} {chs' : Chs} (hf : FnOk P f) (h : aK args → ax chs → FC P f args chs r chs') : FC P f args chs r chs' :=
  ⟨hf, fun E U vs w hg ha hi => (h (LensOk_of (E := E) (U := U) (h := w.heap) fun c hm => by
    obtain ⟨j, hj⟩ := List.mem_iff_getElem?.1 hm
    exact ⟨_, ha.2 j c hj⟩) (LensCh_of hi.ok)).2 E U vs w hg ha hi⟩
theorem Holds.leC {E : Env} {U : Nat → Prop} {a : Act} {w : World} {s s' : ASt} (hh : Holds P cx E U a w s) (h1 : ∀ i, gt s'.t i = .any ∨ leC (gt s.t i) (gt s'.t i)) (h2 : (s'.ch.map (·.1)).Nodup ∧ ∀ p ∈ s'.ch, lk s.ch p.1 = some p.2) : Holds P cx E U a w s' := by
  have hs : ∀ k c, (k, c) ∈ s'.ch → (k, c) ∈ s.ch := fun k c hm => lk_mem (h2.2 (k, c) hm)
  refine ⟨hh.sz, ?_, fun i => ?_, hh.inv.sub hs h2.1, hh.os, hh.tape, hh.output, hh.size, hh.fr, hh.keepA, fun k c hm => hh.live k c (hs k c hm), hh.base, fun k cs hk hm => hh.fix k cs hk (hs k _ hm), fun p hp => (hh.hid p hp).less hs, hh.gok⟩
  · obtain ⟨Ds, h1, h2, h3⟩ := hh.df
    exact ⟨Ds, h1, h2, fun D hD => ⟨(h3 D hD).1, (h3 D hD).2.less hs⟩⟩
  · rcases h1 i with e | e
    · rw [e]; exact .d (.any _)
    · exact leC_rep e (hh.tok i)
def bX (t : Slots) : Slots → Prop
  | [] => True
  | (i, c) :: r => leC (gt t i) c ∧ bX t r
def dc (s s' : ASt) : Prop := bX s.t s'.t ∧ aR (aF s'.ch) ∧ aA s'.ch s.ch
theorem leT'_spec {t : Slots} : ∀ {t' : Slots} (i : Nat), bX t t' → gt t' i = .any ∨ leC (gt t i) (gt t' i)
  | [], i, _ => .inl rfl
  | (j, c) :: r, i, h => by
    simp only [gt, lk]
    by_cases hj : j = i
    · subst hj; rw [if_pos rfl]; exact .inr h.1
    · rw [if_neg hj]; exact leT'_spec (t' := r) i h.2
theorem S_leS {s' : ASt} (h : dc st s') (h2 : SG P cx Q k s') : SG P cx Q k st := fun E U a w hh =>
  h2 E U a w (hh.leC (fun i => leT'_spec i h.1) ⟨by rw [← keysOf_eq]; exact keysNd_nodup h.2.1, subChs_spec h.2.2⟩)
def bv {α : Type} (sh : α → ASt) (inv : α → Prop) (μ : α → Nat) (v : α) (s : ASt) : Prop := ∃ v', inv v' ∧ μ v' < μ v ∧ dc s (sh v')
def bW (n : Nat) (sh : Nat → ASt) (inv : Nat → Prop) (i : Nat) (s : ASt) : Prop := i < n ∧ inv (i + 1) ∧ dc s (sh (i + 1))
theorem S_loop' {x : AC} {α : Type} (sh : α → ASt) (inv : α → Prop) (μ : α → Nat) (v0 : α) (h0 : inv v0) (hs : dc st (sh v0))
    (hr : ∀ v, inv v → SG P cx Q (.c x :: .post (bv sh inv μ v) :: k) (sh v)) : SG P cx Q (.c (.loop x) :: k) st := by
  refine S_leS hs ?_
  refine S_code fun code hc E U a w hh => ?_
  cases code <;> simp [compC] at hc
  rename_i c
  intro b kk cs hro hF hroom
  have key : ∀ n v, μ v ≤ n → inv v → ∀ E U a w, Holds P cx E U a w (sh v) →
      ∃ e a' w', WE P cx Q k e a' w' ∧ ArrivesIn (Machine.fenced P (FW cx.ro)) P (lone (b.atR a (.code c :: .inLoop c :: kk)) cs w) b kk cs e a' w' := by
    intro n
    induction n using Nat.strongRecOn with
    | _ n ih =>
      intro v hn hv E U a w hh
      have hbody := hr v hv E U a w hh c hc
      obtain ⟨e, a₁, w₁, hq, harr⟩ := hbody b (.inLoop c :: kk) cs hro hF hroom
      cases e with
      | normal =>
        obtain ⟨E', U', s, g1, v', g2, g3, g4⟩ := hq
        have g5 := g1.leC (fun i => leT'_spec i g4.1) ⟨by rw [← keysOf_eq]; exact keysNd_nodup g4.2.1, subChs_spec g4.2.2⟩
        obtain ⟨e₂, a₂, w₂, hq₂, harr₂⟩ := ih (μ v') (by omega) v' (Nat.le_refl _) g2 E' U' a₁ w₁ g5
        exact ⟨e₂, a₂, w₂, hq₂, .of_steps (StepsIn.trans harr (.one (fenced_calm hF hroom rfl) stepR_inLoop)) harr₂⟩
      | exit id => exact ⟨_, a₁, w₁, hq, .pass (x := .inLoop c) rfl (fun _ _ => .inl (by simp)) harr⟩
      | goto l => exact ⟨_, a₁, w₁, hq, .pass (x := .inLoop c) rfl (fun _ _ => .inl (by simp)) harr⟩
      | ret => exact ⟨_, a₁, w₁, hq, .pass (x := .inLoop c) rfl (fun _ _ => .inl (by simp)) harr⟩
      | panic ch => exact ⟨_, a₁, w₁, hq, .pass (x := .inLoop c) rfl (fun _ _ => .inl (by simp)) harr⟩
      | outgrown => exact ⟨_, a₁, w₁, hq, .pass (x := .inLoop c) rfl (fun _ _ => .inl (by simp)) harr⟩
  obtain ⟨e, a', w', hq, harr⟩ := key _ v0 (Nat.le_refl _) h0 E U a w hh
  exact ⟨e, a', w', hq, .of_steps (.one (fenced_calm hF hroom rfl) stepR_loop) harr⟩
def cK (t : Slots) : Slots → Slots
  | [] => t
  | (i, c) :: r => cK (co t i c) r
def aZ (ch : Chs) : Chs → Chs
  | [] => ch
  | (i, c) :: r => aZ (co ch i c) r
def cm (st : ASt) (ts : Slots) (cs : Chs) : ASt := ⟨cK st.t ts, aZ st.ch cs⟩
theorem S_loopU {x : AC} {α : Type} (ts : α → Slots) (cs : α → Chs) (inv : α → Prop) (μ : α → Nat) (v0 : α) (h0 : inv v0) (hs : dc st (cm st (ts v0) (cs v0)))
    (hr : ∀ v, inv v → SG P cx Q (.c x :: .post (bv (fun v => cm st (ts v) (cs v)) inv μ v) :: k) (cm st (ts v) (cs v))) : SG P cx Q (.c (.loop x) :: k) st :=
  S_loop' (fun v => cm st (ts v) (cs v)) inv μ v0 h0 hs hr
theorem S_for {x : AC} (n : Nat) (sh : Nat → ASt) (inv : Nat → Prop) (h0 : inv 0) (hs : dc st (sh 0))
    (hr : ∀ i, i ≤ n → inv i → SG P cx Q (.c x :: .post (bW n sh inv i) :: k) (sh i)) : SG P cx Q (.c (.loop x) :: k) st := by
  refine S_loop' sh (fun i => i ≤ n ∧ inv i) (fun i => n - i) 0 ⟨Nat.zero_le _, h0⟩ hs (fun i hi => ?_)
  have h := hr i hi.1 hi.2
  refine fun E U a w hh code hc => wpIn_mono (h E U a w hh code hc) (fun e a w he => ?_)
  cases e <;> first | exact he | skip
  obtain ⟨E', U', s, g1, g2, g3, g4⟩ := he
  exact ⟨E', U', s, g1, i + 1, ⟨g2, g3⟩, (by show n - (i + 1) < n - i; omega), g4⟩
theorem S_forU {x : AC} (n : Nat) (ts : Nat → Slots) (cs : Nat → Chs) (inv : Nat → Prop) (h0 : inv 0) (hs : dc st (cm st (ts 0) (cs 0)))
    (hr : ∀ i, i ≤ n → inv i → SG P cx Q (.c x :: .post (bW n (fun i => cm st (ts i) (cs i)) inv i) :: k) (cm st (ts i) (cs i))) : SG P cx Q (.c (.loop x) :: k) st :=
  S_for n (fun i => cm st (ts i) (cs i)) inv h0 hs hr
theorem fc_intro' {f : FuncId} {n : Nat} {ac : AC} {rvs : List RV} {args : List C} {r : C} (hf : FnIs P f n ac rvs) (hargs : args.length ≤ n)
    (h : ∀ cx : Cx, aK args → SG P cx (bO rvs [] r []) [.c ac] ⟨argS 0 args, []⟩) : FC P f args [] r [] := by
  have hf' := hf
  obtain ⟨⟨fn, code, h1, h2, h3, _⟩, _⟩ := hf'
  exact FC.lens ⟨fn, h1, h2, by rw [h3]; rfl⟩ fun hl _ => fc_intro [] hf hargs (fun p hp => by simp at hp) (by simp) (fun k cs hm => by simp at hm) (fun cx _ _ _ => h cx hl)
def aj (chs : Chs) : Chs → Prop
  | [] => True
  | (k, .box _) :: r => (match lk chs k with | some (.box _) => True | some _ => False | none => True) ∧ aj chs r
  | _ :: r => aj chs r
theorem kindsOk_spec {chs : Chs} (hn : (chs.map (·.1)).Nodup) : ∀ {l : Chs}, aj chs l → ∀ k cs, (k, .box cs) ∈ l → (∃ c, (k, c) ∈ chs) → ∃ cs0, (k, .box cs0) ∈ chs
  | [], _, k, cs, hm, _ => by simp at hm
  | (j, c0) :: r, h, k, cs, hm, hex => by
    have hr : aj chs r := by cases c0 <;> first | exact h | exact h.2
    rcases List.mem_cons.1 hm with e | e
    · cases e
      obtain ⟨c, hc⟩ := hex
      have hl := lk_of_mem hn hc
      have h1 := h.1
      rw [hl] at h1
      cases c with
      | box cs0 => exact ⟨cs0, hc⟩
      | _ => exact h1.elim
    · exact kindsOk_spec hn hr k cs e hex
def cD : Chs → Prop
  | [] => True
  | (k, _) :: r => (100000 ≤ k ∧ k < 200000) ∧ cD r
theorem bigK_spec : ∀ {l : Chs}, cD l → ∀ p ∈ l, 100000 ≤ p.1 ∧ p.1 < 200000
  | [], _, p, h => by simp at h
  | (k, c) :: r, h, p, hp => by
    rcases List.mem_cons.1 hp with e | e
    · rw [e]; exact h.1
    · exact bigK_spec h.2 p e
theorem fc_introC {f : FuncId} {n : Nat} {ac : AC} {rvs : List RV} {args : List C} {chs : Chs} {r : C} {chs' : Chs} (kp : List Nat) (hf : FnIs P f n ac rvs) (hargs : args.length ≤ n) (hks : cD chs) (hn0 : aR (aF chs)) (hn1 : aR (aF chs')) (hkd : aj chs chs')
    (h : ∀ cx : Cx, cx.n = n ∧ cx.ro = none ∧ cx.hi = 200000 → aK args → ax chs → SG P cx (bO rvs kp r chs') [.c ac] ⟨argS 0 args, chs⟩) : FC P f args chs r chs' := by
  have hf' := hf
  obtain ⟨⟨fn, code, h1, h2, h3, _⟩, _⟩ := hf'
  exact FC.lens ⟨fn, h1, h2, by rw [h3]; rfl⟩ fun hl hc => fc_intro kp hf hargs (bigK_spec hks) (by rw [← keysOf_eq]; exact keysNd_nodup hn1) (kindsOk_spec (by rw [← keysOf_eq]; exact keysNd_nodup hn0) hkd) (fun cx h1 h2 h3 => h cx ⟨h1, h2, h3⟩ hl hc)
end Go.Am
end
section
namespace Go.Am
variable {P : Program} [Glob P]
class Dat (α : Type) where
  sz : Nat
  agg : Bool
  cells : α → List C
  dec : List C → Option α
  ok : ∀ {l a}, dec l = some a → l = cells a
  data : ∀ a, (cells a).all (fun c => match c with | .s _ => true | .sl _ _ => true | _ => false) = true
  one : agg = false → ∀ a, (cells a).length = 1
  nilv : Option α := none
  nil_ok : ∀ a, nilv = some a → agg = false ∧ ∃ n, cells a = [.sl n []] := by intro a h; cases h
open Dat (cells)
def enc {α : Type} [Dat α] (a : α) : C := if Dat.agg α = true then .agg (cells a) else (cells a).headD .any
def decL {α : Type} [Dat α] : List (List C) → Option (List α)
  | [] => some []
  | l :: ls => (Dat.dec l).bind fun a => (decL ls).map (a :: ·)
theorem decL_ok {α : Type} [Dat α] : ∀ {ls : List (List C)} {aS : List α}, decL ls = some aS → ls = aS.map cells
  | [], aS, h => by simp [decL] at h; subst h; rfl
  | l :: ls, aS, h => by
    simp only [decL, Option.bind_eq_some_iff, Option.map_eq_some_iff] at h
    obtain ⟨a, h1, bs, h2, rfl⟩ := h
    rw [List.map_cons, ← Dat.ok h1, ← decL_ok h2]
class DatL (α : Type) extends Dat α where
  dec_cells : ∀ a : α, Dat.dec (cells a) = some a
theorem decL_map {α : Type} [DatL α] : ∀ aS : List α, decL (aS.map cells) = some aS
  | [] => rfl
  | a :: aS => by simp [decL, DatL.dec_cells, decL_map aS]
instance : DatL Int where
  sz := 1
  agg := false
  cells n := [.s (.int .i64 n)]
  dec | [.s (.int .i64 n)] => some n | _ => none
  ok := by intro l a h; split at h <;> cases h; rfl
  data := fun a => rfl
  one := fun _ a => rfl
  dec_cells := fun a => rfl
instance : DatL Bool where
  sz := 1
  agg := false
  cells b := [.s (.bool b)]
  dec | [.s (.bool b)] => some b | _ => none
  ok := by intro l a h; split at h <;> cases h; rfl
  data := fun a => rfl
  one := fun _ a => rfl
  dec_cells := fun a => rfl
instance : DatL ByteArray where
  sz := 1
  agg := false
  cells b := [.s (.string b)]
  dec | [.s (.string b)] => some b | _ => none
  ok := by intro l a h; split at h <;> cases h; rfl
  data := fun a => rfl
  one := fun _ a => rfl
  dec_cells := fun a => rfl
instance {α : Type} [DatL α] : DatL (List α) where
  sz := 1
  agg := false
  cells l := [.sl (Dat.sz α) (l.map cells)]
  dec
    | [.sl n es] => if n = Dat.sz α then decL es else none
    | _ => none
  ok := by
    intro l a h
    split at h
    · split at h
      · rename_i hn; rw [hn, decL_ok h]
      · cases h
    · cases h
  nilv := some []
  nil_ok := by intro a h; cases h; exact ⟨rfl, _, rfl⟩
  data := fun a => rfl
  one := fun _ a => rfl
  dec_cells := fun a => by simp [decL_map]
theorem one_cells {α : Type} [Dat α] (h : Dat.agg α = false) (a : α) : cells a = [enc a] := by
  have h1 := Dat.one h a
  unfold enc
  rw [if_neg (by rw [h]; simp)]
  match hc : cells a, h1 with
  | [c], _ => rfl
def decV {α : Type} [Dat α] (c : C) : Option α :=
  match c with
  | .agg cs => if Dat.agg α = true then Dat.dec cs else none
  | .s (.slice none 0 0) => Dat.nilv
  | c => if Dat.agg α = true then none else Dat.dec [c]
theorem leC1_refl (c : C) : b0 c c := by
  cases c <;> simp [b0]
theorem decV_ok {α : Type} [Dat α] {c : C} {a : α} (h : decV c = some a) : b0 c (enc a) := by
  unfold decV at h
  split at h
  · split at h
    · rename_i hg
      have : enc a = .agg (cells a) := by unfold enc; rw [if_pos hg]
      rw [this, ← Dat.ok h]; simp [b0]
    · cases h
  · obtain ⟨hg, n, hc⟩ := Dat.nil_ok a h
    have : enc a = .sl n [] := by unfold enc; rw [if_neg (by rw [hg]; simp), hc]; rfl
    rw [this]; simp [b0]
  · split at h
    · cases h
    · rename_i hg
      have h2 := Dat.ok h
      rw [one_cells (by simpa using hg) a] at h2
      have h3 := (List.cons.inj h2).1
      rw [← h3]
      exact leC1_refl c
theorem FC.le {f : FuncId} {args args' : List C} {chs : Chs} {r : C} {chs' : Chs} (h : cn args args') (hf : FC P f args' chs r chs') : FC P f args chs r chs' :=
  ⟨hf.1, fun E U vs w hg ha hi => by
    obtain ⟨h1, h2⟩ := leCs_rep (E := E) (U := U) (h := w.heap) h
    exact hf.2 E U vs w hg ⟨by rw [h1]; exact ha.1, h2 _ ha.2⟩ hi⟩
theorem WfR.plain {r : C} (h : keysIn [] r) : WfR [] r [] [] := ⟨fun k c h => by simp at h, fun k cs h => by simp at h, h, fun k c h => by simp at h⟩
def Ent.of1 {α : Type} [Dat α] (id : FuncId) (pre : α → Prop) (res : α → C) (hk : ∀ a, keysIn [] (res a)) (h : ∀ a, pre a → FC P id [enc a] [] (res a) []) : Ent P where
  id := id
  sp := fun args chs => match args, chs with
    | [x], [] => (decV x).bind fun a => some (pre a, res a, [], [])
    | _, _ => none
  ok := by
    intro args chs p r chs' nk hs hp
    split at hs
    · simp only [Option.bind_eq_some_iff, Option.some.injEq, Prod.mk.injEq] at hs
      obtain ⟨a, ha, rfl, rfl, rfl, rfl⟩ := hs
      exact ⟨(h a hp).le (args' := [_]) ⟨decV_ok ha, trivial⟩, .plain (hk a)⟩
    · cases hs
def Ent.of0 (id : FuncId) (res : C) (hk : keysIn [] res) (h : FC P id [] [] res []) : Ent P where
  id := id
  sp := fun args chs => match args, chs with
    | [], [] => some (True, res, [], [])
    | _, _ => none
  ok := by
    intro args chs p r chs' nk hs hp
    split at hs
    · simp only [Option.some.injEq, Prod.mk.injEq] at hs
      obtain ⟨rfl, rfl, rfl, rfl⟩ := hs
      exact ⟨h, .plain hk⟩
    · cases hs
def Ent.of2 {α β : Type} [Dat α] [Dat β] (id : FuncId) (pre : α → β → Prop) (res : α → β → C) (hk : ∀ a b, keysIn [] (res a b)) (h : ∀ a b, pre a b → FC P id [enc a, enc b] [] (res a b) []) : Ent P where
  id := id
  sp := fun args chs => match args, chs with
    | [x, y], [] => (decV x).bind fun a => (decV y).bind fun b => some (pre a b, res a b, [], [])
    | _, _ => none
  ok := by
    intro args chs p r chs' nk hs hp
    split at hs
    · simp only [Option.bind_eq_some_iff, Option.some.injEq, Prod.mk.injEq] at hs
      obtain ⟨a, ha, b, hb, rfl, rfl, rfl, rfl⟩ := hs
      exact ⟨(h a b hp).le (args' := [_, _]) ⟨decV_ok ha, decV_ok hb, trivial⟩, .plain (hk a b)⟩
    · cases hs
def Ent.of3 {α β γ : Type} [Dat α] [Dat β] [Dat γ] (id : FuncId) (pre : α → β → γ → Prop) (res : α → β → γ → C) (hk : ∀ a b c, keysIn [] (res a b c)) (h : ∀ a b c, pre a b c → FC P id [enc a, enc b, enc c] [] (res a b c) []) : Ent P where
  id := id
  sp := fun args chs => match args, chs with
    | [x, y, z], [] => (decV x).bind fun a => (decV y).bind fun b => (decV z).bind fun c => some (pre a b c, res a b c, [], [])
    | _, _ => none
  ok := by
    intro args chs p r chs' nk hs hp
    split at hs
    · simp only [Option.bind_eq_some_iff, Option.some.injEq, Prod.mk.injEq] at hs
      obtain ⟨a, ha, b, hb, c, hc, rfl, rfl, rfl, rfl⟩ := hs
      exact ⟨(h a b c hp).le (args' := [_, _, _]) ⟨decV_ok ha, decV_ok hb, decV_ok hc, trivial⟩, .plain (hk a b c)⟩
    · cases hs
theorem enc_int (n : Int) : enc n = .s (.int .i64 n) := rfl
theorem enc_bool (b : Bool) : enc b = .s (.bool b) := rfl
theorem enc_str (b : ByteArray) : enc b = .s (.string b) := rfl
theorem enc_list {α : Type} [DatL α] (l : List α) : enc l = .sl (Dat.sz α) (l.map cells) := rfl
theorem cells_int (n : Int) : cells n = [.s (.int .i64 n)] := rfl
theorem cells_bool (n : Bool) : cells n = [.s (.bool n)] := rfl
theorem cells_str (n : ByteArray) : cells n = [.s (.string n)] := rfl
theorem cells_list {α : Type} [DatL α] (l : List α) : cells l = [.sl (Dat.sz α) (l.map cells)] := rfl
theorem sz_int : Dat.sz Int = 1 := rfl
theorem sz_bool : Dat.sz Bool = 1 := rfl
theorem sz_str : Dat.sz ByteArray = 1 := rfl
theorem sz_list {α : Type} [DatL α] : Dat.sz (List α) = 1 := rfl
theorem decV_int (n : Int) : decV (.s (.int .i64 n)) = some n := rfl
theorem decV_bool (n : Bool) : decV (.s (.bool n)) = some n := rfl
theorem decV_str (n : ByteArray) : decV (.s (.string n)) = some n := rfl
theorem dec_int (n : Int) : Dat.dec [C.s (.int .i64 n)] = some n := rfl
theorem dec_bool (n : Bool) : Dat.dec [C.s (.bool n)] = some n := rfl
theorem dec_str (n : ByteArray) : Dat.dec [C.s (.string n)] = some n := rfl
theorem dec_list {α : Type} [DatL α] (n : Nat) (es : List (List C)) : Dat.dec (α := List α) [C.sl n es] = if n = Dat.sz α then decL es else none := rfl
theorem decV_nil {α : Type} [DatL α] : decV (α := List α) (.s (.slice none 0 0)) = some [] := rfl
theorem decV_sl {α : Type} [DatL α] (n : Nat) (es : List (List C)) : decV (α := List α) (.sl n es) = if n = Dat.sz α then decL es else none := rfl
theorem decL_nil {α : Type} [Dat α] : decL (α := α) [] = some [] := rfl
theorem decL_cons {α : Type} [Dat α] (l : List C) (ls : List (List C)) : decL (α := α) (l :: ls) = (Dat.dec l).bind fun a => (decL ls).map (a :: ·) := rfl
theorem getD_int (xs : List Int) (n : Nat) : List.getD (xs.map cells) n [C.s (.int .i64 0)] = [.s (.int .i64 (xs.getD n 0))] := by
  simp only [List.getD_eq_getElem?_getD, List.getElem?_map]
  cases xs[n]? <;> rfl
theorem getD_bool (xs : List Bool) (n : Nat) : List.getD (xs.map cells) n [C.s (.bool false)] = [.s (.bool (xs.getD n false))] := by
  simp only [List.getD_eq_getElem?_getD, List.getElem?_map]
  cases xs[n]? <;> rfl
theorem getD_str (xs : List ByteArray) (n : Nat) : List.getD (xs.map cells) n [C.s (.string ⟨#[]⟩)] = [.s (.string (xs.getD n ⟨#[]⟩))] := by
  simp only [List.getD_eq_getElem?_getD, List.getElem?_map]
  cases xs[n]? <;> rfl
theorem getD_list {α : Type} [DatL α] (xs : List (List α)) (n : Nat) (d : List C) (h : n < xs.length) : List.getD (xs.map cells) n d = [.sl (Dat.sz α) ((xs.getD n []).map cells)] := by
  simp only [List.getD_eq_getElem?_getD, List.getElem?_map, List.getElem?_eq_getElem h]
  rfl
end Go.Am
namespace Go.Am
open Dat (cells)
structure Gs where
  re : Int
  im : Int
  deriving DecidableEq, Inhabited
instance : DatL Gs where
  sz := 2
  agg := true
  cells g := [.s (.int .i64 g.re), .s (.int .i64 g.im)]
  dec | [.s (.int .i64 a), .s (.int .i64 b)] => some ⟨a, b⟩ | _ => none
  ok := by intro l a h; split at h <;> cases h; rfl
  data := fun a => rfl
  one := fun h => by cases h
  dec_cells := fun a => rfl
theorem enc_gs (g : Gs) : enc g = .agg [.s (.int .i64 g.re), .s (.int .i64 g.im)] := rfl
theorem cells_gs (g : Gs) : cells g = [.s (.int .i64 g.re), .s (.int .i64 g.im)] := rfl
theorem sz_gs : Dat.sz Gs = 2 := rfl
theorem dec_gs (a b : Int) : Dat.dec [C.s (.int .i64 a), .s (.int .i64 b)] = some (⟨a, b⟩ : Gs) := rfl
theorem decV_gs (a b : Int) : decV (.agg [C.s (.int .i64 a), .s (.int .i64 b)]) = some (⟨a, b⟩ : Gs) := rfl
theorem getD_gs (xs : List Gs) (n : Nat) : List.getD (xs.map cells) n [C.s (.int .i64 0), .s (.int .i64 0)] = [.s (.int .i64 (xs.getD n ⟨0, 0⟩).re), .s (.int .i64 (xs.getD n ⟨0, 0⟩).im)] := by
  simp only [List.getD_eq_getElem?_getD, List.getElem?_map]
  cases xs[n]? <;> rfl
theorem gs_eta (g : Gs) : Gs.mk g.re g.im = g := rfl
theorem lookup_if {α : Type} (d k : Nat) (c : α) (m : List (Nat × α)) : List.lookup k ((d, c) :: m) = if k = d then some c else List.lookup k m := by
  rw [List.lookup_cons]
  by_cases h : k = d
  · simp [h]
  · have : (k == d) = false := by simp [h]
    rw [this, if_neg h]
theorem drop_getD {α : Type} {l : List α} {i : Nat} (d : α) (h : i < l.length) : l.drop i = l.getD i d :: l.drop (i + 1) := by
  rw [List.drop_eq_getElem_cons h, List.getD_eq_getElem?_getD, List.getElem?_eq_getElem h]; rfl
theorem take_getD {α : Type} {l : List α} {i : Nat} (d : α) (h : i < l.length) : l.take (i + 1) = l.take i ++ [l.getD i d] := by
  rw [List.take_succ_eq_append_getElem h, List.getD_eq_getElem?_getD, List.getElem?_eq_getElem h]; rfl
theorem LenOk.list {α : Type} [DatL α] {n : Nat} {l : List α} (h : LenOk (.sl n (l.map cells))) : l.length ≤ 9223372036854775807 := by simpa using h.sl.1
theorem LenOk.inner {α : Type} [DatL α] {n : Nat} {l : List (List α)} (h : LenOk (.sl n (l.map cells))) (i : Nat) (hi : i < l.length) : (l.getD i []).length ≤ 9223372036854775807 := by
  have := h.sl.2 (cells l[i]) (List.mem_map.2 ⟨l[i], List.getElem_mem hi, rfl⟩) _ (List.mem_singleton.2 rfl)
  have h2 := this.sl.1
  rw [List.getD_eq_getElem?_getD, List.getElem?_eq_getElem hi]
  simpa using h2
end Go.Am
end
section
namespace Go.Am
open Dat (cells)
variable {P : Program} [Glob P]
structure Moved (U F : Nat → Prop) (w : World) (U' F' : Nat → Prop) (w' : World) : Prop where
  os : w'.os = w.os
  tape : w'.tape = w.tape
  output : w'.output = w.output
  size : w.heap.size ≤ w'.heap.size
  keep : ∀ b, U b → U' b ∧ w'.heap[b]? = w.heap[b]?
  rest : ∀ b, b < w.heap.size → ¬ F b → w'.heap[b]? = w.heap[b]?
  live : ∀ b, F' b → w.heap.size ≤ b ∨ F b
  newU : ∀ b, U' b → U b ∨ w.heap.size ≤ b ∨ F b
  out : ∀ b, F' b → ¬ U' b
  fpl : ∀ b, F' b → b < w'.heap.size
  lt : ∀ b, U' b → b < w'.heap.size
def YAt (P : Program) [Glob P] (l : Nat) (xs : List C) (R : Res) (Rt : Option Res) (Rf : Res) : Prop :=
  ∀ (E : Env) (U F : Nat → Prop) (w : World) (vs : Array Value), GlobOk P U w.heap → ArgsR E U w.heap xs vs → R.φ F U w.heap → (∀ b, F b → ¬ U b) → (∀ b, F b → b < w.heap.size) → (∀ b, U b → b < w.heap.size) →
    ∃ fn tmps assign body, (Instr.yield l vs).run P w = .ok (.round l fn tmps assign body) w ∧
      ∀ ro, RoundIn (FW ro) 0 P l fn tmps assign body w fun e w' => ∃ (b : Bool) (F' U' : Nat → Prop), e = .returned (.bool b) ∧
        (match b with | true => ∃ R', Rt = some R' ∧ R'.φ F' U' w'.heap | false => Rf.φ F' U' w'.heap) ∧ Moved U F w U' F' w'
def bU (ch : Chs) (kr : Nat) (b : Bool) (R : Res) : Eff := ⟨True, .s (.bool b), (kr, .res R) :: a7 [(kr, .inner)] (cC ch kr), [(kr, .inner)]⟩
def a8 (ch : Chs) (kr : Nat) (Rt : Option Res) (Rf : Res) : List Eff :=
  match Rt with
  | some R => [bU ch kr true R, bU ch kr false Rf]
  | none => [bU ch kr false Rf]
theorem Ev.res {E : Env} {U F' U' : Nat → Prop} {w w' : World} {ch : Chs} {kr : Nat} {R R' : Res} (hi : Inv E U w.heap ch) (hl : lk ch kr = some (.res R)) (hm : Moved U (E kr).fp w U' F' w') (hφ : R'.φ F' U' w'.heap) (d : Nat) :
    Ev E U w ch [(kr, .inner)] d (updE E kr { E kr with fp := F' }) U' w' ((kr, .res R') :: a7 [(kr, .inner)] (cC ch kr)) := by
  have hkm := lk_mem hl
  have hd : ∀ c, (kr, c) ∉ cC ch kr := fun c => not_mem_delA hi.nd
  have hmem : ∀ k' c, (k', c) ∈ cC ch kr → (k', c) ∈ ch ∧ k' ≠ kr := fun k' c h => ⟨mem_delA h, fun e => hd c (e ▸ h)⟩
  have henv : ∀ k', [(kr, Sb.inner)].lookup k' = none → updE E kr { E kr with fp := F' } k' = E k' := fun k' h => by
    rw [look1] at h
    split at h
    · cases h
    · exact updE_other E _ (by assumption)
  have henvI : ∀ k', [(kr, Sb.inner)].lookup k' = some .inner → (updE E kr { E kr with fp := F' } k').toKE0 = (E k').toKE0 := fun k' h => by
    rw [look1] at h
    split at h
    · have e : k' = kr := by assumption
      subst e; rw [updE_same]
    · cases h
  have hsub : ∀ k' c', [(kr, Sb.inner)].lookup k' = some (.c c') → ∀ v, Rep E U w.heap (.own k') v → Rep (updE E kr { E kr with fp := F' }) U' w'.heap c' v := fun k' c' h => by
    rw [look1] at h; split at h <;> cases h
  refine Ev.gen (news := [(kr, .res R')]) (old := cC ch kr) hi hm.os hm.tape hm.output hm.size (delA_sub ch kr) hm.keep henv henvI hsub (fun k' c h => updE_other E _ (hmem k' c h).2)
    (fun k' c h b hb => hm.rest b (hi.fpl k' c (hmem k' c h).1 b hb) (fun hb' => hi.sep k' c kr _ (hmem k' c h).1 hkm (hmem k' c h).2 b hb hb')) (fun b hb1 hb2 => hm.rest b hb1 (hb2 kr _ hkm)) (by simp) (fun k' c h => ?_) (fun k' c h => ?_) (fun k' c h b hb => ?_) (fun k' c h b hb => ?_)
    (fun k1 x1 k2 x2 h1 h2 hne => ?_) (fun b hb => ?_) (fun k' c h b hb => ?_) hm.lt (fun k' cs h => ?_)
  · simp only [List.mem_singleton, Prod.mk.injEq] at h; obtain ⟨rfl, rfl⟩ := h; exact hd
  · simp only [List.mem_singleton, Prod.mk.injEq] at h; obtain ⟨rfl, rfl⟩ := h; simp only [ChOk, updE_same]; exact hφ
  · simp only [List.mem_singleton, Prod.mk.injEq] at h; obtain ⟨rfl, rfl⟩ := h; rw [updE_same] at hb
    rcases hm.live b hb with g | g
    · exact .inl g
    · exact .inr ⟨_, _, hkm, hd, g⟩
  · simp only [List.mem_singleton, Prod.mk.injEq] at h; obtain ⟨rfl, rfl⟩ := h; rw [updE_same] at hb; exact hm.fpl b hb
  · simp only [List.mem_singleton, Prod.mk.injEq] at h1 h2; exact absurd (h1.1.trans h2.1.symm) hne
  · rcases hm.newU b hb with g | g | g
    · exact .inl g
    · exact .inr (.inl g)
    · exact .inr (.inr ⟨_, _, hkm, hd, g⟩)
  · simp only [List.mem_singleton, Prod.mk.injEq] at h; obtain ⟨rfl, rfl⟩ := h; rw [updE_same] at hb; exact hm.out b hb
  · simp only [List.mem_singleton, Prod.mk.injEq] at h; exact absurd h.2 (by simp)
theorem OpM.yield {ro : Option Nat} {ρ : Operand → C} {ch : Chs} {d l kr : Nat} {xs : List C} {R Rf : Res} {Rt : Option Res} {fo : Operand} {aS : List Operand} (hfo : ρ fo = .s (.func (.yield l) #[] #[])) (hxs : aS.map ρ = xs) (hl : lk ch kr = some (.res R)) (hy : YAt P l xs R Rt Rf) :
    OpM P ro ρ ch d (.call fo aS) (a8 ch kr Rt Rf) := by
  intro own o a E U w hc hi hg hρ K Q hK
  obtain ⟨args, ts, ho, ha⟩ := call_of_comp hc
  subst ha
  have hev : a.eval fo = .func (.yield l) #[] #[] := rep_s (hfo ▸ hρ fo (by simp [AOp.reads]))
  have hargs : ArgsR E U w.heap xs (args.map a.eval) := by
    subst hxs
    refine ⟨by simp, fun j c hj => ?_⟩
    simp only [List.getElem?_map, Option.map_eq_some_iff, Array.getElem?_toList] at hj
    obtain ⟨x, hx, rfl⟩ := hj
    rw [getD_of_some (v := a.eval x) (by simp [hx])]
    exact hρ x (by simp only [AOp.reads]; exact List.mem_cons_of_mem _ (by simpa using Array.mem_of_getElem? hx))
  have hkm := lk_mem hl
  obtain ⟨fn, tmps, assign, body, hrun, hround⟩ := hy E U (E kr).fp w (args.map a.eval) hg hargs (hi.ok kr _ hkm) (hi.out kr _ hkm) (hi.fpl kr _ hkm) hi.lt
  have hrun2 : (execOp a.eval o).run P w = .ok (.round l fn tmps assign body) w := by
    simp only [execOp, ho, resolve, hev, Deferred.ofValue, Sem.run_bind, Sem.run_pure, Result.andThen_ok, invoke]
    simpa using hrun
  refine ⟨fun _ _ => trivial, ?_⟩
  rw [Oper.semAt_eq _ _ _ (by rw [ho]; simp), hrun2, Oper.uponIn_round]
  refine ⟨fun h => by simp [FW, Fence.wide] at h, (hround ro).mono fun e w' h => ?_⟩
  obtain ⟨b, F', U', rfl, hb, hm⟩ := h
  show K (a.put o.dst (.bool b)) w'
  cases b with
  | true =>
    obtain ⟨R', rfl, hφ⟩ := hb
    exact hK (bU ch kr true R') (by simp [a8]) _ _ _ _ (.d (.s _)) (Ev.res hi hl hm hφ d)
  | false =>
    exact hK (bU ch kr false Rf) (by unfold a8; cases Rt <;> simp) _ _ _ _ (.d (.s _)) (Ev.res hi hl hm hb d)
end Go.Am
end
section
namespace Go.Am
open Dat (cells)
variable {P : Program} [Glob P]
def au (bx : List Nat) : C → Bool
  | .own _ | .inn _ _ | .eptr _ _ _ | .iptr _ _ _ _ => false
  | .ptr k _ => bZ bx k
  | .agg cs => ptrOnlys bx cs
  | .tup cs => ptrOnlys bx cs
  | .fn _ xs ys => ptrOnlys bx xs && ptrOnlys bx ys
  | _ => true
where ptrOnlys (bx : List Nat) : List C → Bool
  | [] => true
  | c :: cs => au bx c && ptrOnlys bx cs
theorem ptrOnlys_all {bx : List Nat} : ∀ {cs : List C}, au.ptrOnlys bx cs = true → ∀ c ∈ cs, au bx c = true
  | [], _, c, h => by simp at h
  | x :: cs, h, c, hc => by
    simp only [au.ptrOnlys, Bool.and_eq_true] at h
    rcases List.mem_cons.1 hc with e | e
    · rw [e]; exact h.1
    · exact ptrOnlys_all h.2 c e
theorem Rep.fixed {E E' : Env} {U : Nat → Prop} {h : Array Obj} {c : C} {v : Value} {bx : List Nat} (hr : Rep E U h c v) (hk : au bx c = true) (he : ∀ k ∈ bx, (E' k).toKE0 = (E k).toKE0) : Rep E' U h c v := by
  induction hr with
  | d hd => exact .d hd
  | ref cs b off arr ty fz vf hU hb hv hr => exact .ref cs b off arr ty fz vf hU hb hv hr
  | agg cs vs hl hr h1 ih => exact .agg cs vs hl (fun j c hj => ih j c hj (ptrOnlys_all (by simpa only [au] using hk) c (List.mem_of_getElem? hj))) h1
  | tup cs vs hl hr ih => exact .tup cs vs hl (fun j c hj => ih j c hj (ptrOnlys_all (by simpa only [au] using hk) c (List.mem_of_getElem? hj)))
  | fn f xs ys vs ws hl hr hl' hr' ih ih' =>
    simp only [au, Bool.and_eq_true] at hk
    exact .fn f xs ys vs ws hl (fun j c hj => ih j c hj (ptrOnlys_all hk.1 c (List.mem_of_getElem? hj))) hl' (fun j c hj => ih' j c hj (ptrOnlys_all hk.2 c (List.mem_of_getElem? hj)))
  | own k => simp [au] at hk
  | ptr k off => simp only [au] at hk; rw [← he k (memN_spec.1 hk)]; exact .ptr k off
  | eptr k i j => simp [au] at hk
  | inn k i => simp [au] at hk
  | iptr k i n j => simp [au] at hk
def cu (bx : List Nat) : Slots → Slots
  | [] => []
  | (i, c) :: t => (i, match au bx c with | true => c | false => .any) :: cu bx t
end Go.Am
end
