/- Part 2 of the proof of: TopSymbolLink returns true for every input and never panics: bits with their check, coded, scrambled, modulated, layered, with a matrix applied, are recovered behind equalizing by soft bits turned back by the register; conditions: none beyond the given statement. -/
import Derived.Laws.StructEq
import Derived.Laws.Cover3
import Derived.RangeFuncLeaves
import Derived.TacticsIn
import Derived.OrdersIn
import Derived.RangeFuncRecord
import Derived.Test.YteoobfmbipmibaaGreatAm1
set_option linter.all false
section
namespace Go.Am
variable {P : Program} {E : Env} {U : Nat → Prop} {w : World} {ch : Chs} {d : Nat}
theorem vC {own : Bool} {a : Act} {o : Oper} {aop : AOp} {ρ : Operand → C} {ef : Eff} (hi : Inv E U w.heap ch) (hρ : ∀ x, Rep E U w.heap (ρ x) (a.eval x)) (hc : ee P own o.op o.type = some aop) (he : ak ρ ch d aop = some ef) (hcond : ef.cond) :
 dK P E U w ch d (execOp a.eval o) ef := by
 cases ho : o.op <;> rw [ho] at hc <;> simp only [ee] at hc
 case move x =>
  cases own with
  | false =>
   cases hc; simp only [ak] at he; cases he
   exact dn hi (by simp [execOp, ho]) (hρ x)
  | true =>
   cases hc; simp only [ak] at he
   split at he
   · rename_i v hv
     cases he
     exact dn hi (by simp [execOp, ho]) (hv ▸ hρ x)
   · cases he
 case assign x =>
  cases own with
  | false =>
   cases hc; simp only [ak] at he; cases he
   exact dn hi (by simp [execOp, ho]) (hρ x)
  | true =>
   cases hc; simp only [ak] at he
   split at he
   · rename_i v hv
     cases he
     exact dn hi (by simp [execOp, ho]) (hv ▸ hρ x)
   · cases he
 case pick c x y =>
  cases hc; simp only [ak] at he
  split at he
  · rename_i h; cases he
    exact dn hi (by simp [execOp, ho, dx (h ▸ hρ c), asBool]) (hρ x)
  · rename_i h; cases he
    exact dn hi (by simp [execOp, ho, dx (h ▸ hρ c), asBool]) (hρ y)
  · cases he
 case alloc t =>
  simp only [Option.map_eq_some_iff] at hc
  obtain ⟨z, hz, rfl⟩ := hc
  simp only [ak] at he; cases he
  exact yQ hi ho hz hcond
 case box t x =>
  cases hc; simp only [ak] at he; cases he
  exact op_box hi ho (hρ x) hcond
 case build t parts =>
  simp only [Option.bind_eq_some_iff, Option.map_eq_some_iff] at hc
  obtain ⟨z, hz, ps, hp, rfl⟩ := hc
  simp only [ak, Option.map_eq_some_iff] at he
  obtain ⟨cs, hf, rfl⟩ := he
  exact x6 hi ho hz hp hρ hf hcond
 case buildSlice t len parts =>
  split at hc
  · rename_i e hu
    simp only [Option.bind_eq_some_iff] at hc
    obtain ⟨z, hz, n, hn, hc⟩ := hc
    split at hc
    · rename_i hlen
      cases hc
      simp only [ak] at he
      have hmax : len ≤ maxLen := Nat.le_trans hlen.2.2 (by decide)
      cases own with
      | true =>
       simp only [if_true] at he
       split at he
       · rename_i hp
         cases he
         exact vL hi ho hu hz hn hlen.1 hmax hlen.2.1 (by simpa using hp) hcond
       · split at he
         · rename_i k hps
           split at he
           · rename_i m ty es hlk
             cases he
             obtain ⟨rfl, rfl, c1, c2⟩ := hcond
             obtain ⟨x, hx, hk⟩ : ∃ x, parts.toList = [(0, x)] ∧ ρ x = .own k := by
              cases hpl : parts.toList with
              | nil => rw [hpl] at hps; cases hps
              | cons q r =>
               rw [hpl] at hps
               cases r with
               | nil => obtain ⟨i, x⟩ := q; simp at hps; exact ⟨x, by rw [hps.1], hps.2⟩
               | cons _ _ => simp at hps
             exact xS hi ho hu hz hn hlen.2.1 c2 hx (hk ▸ hρ x) hlk c1
           · cases he
         · cases he
      | false =>
       simp only [Bool.false_eq_true, if_false, Option.map_eq_some_iff] at he
       obtain ⟨es, hf, rfl⟩ := he
       have hg := ue (d := d) (p := z.all (·.oneCell') = true) hi ho hu hz hn hlen.1 hlen.2.1 hmax hρ hcond hf
       have e : (if (ax ch (List.map (fun (x : Nat × Operand) => (x.1, ρ x.2)) parts.toList)).2.isEmpty = true then ch else ag (ax ch (List.map (fun (x : Nat × Operand) => (x.1, ρ x.2)) parts.toList)).2 (aD ch (ax ch (List.map (fun (x : Nat × Operand) => (x.1, ρ x.2)) parts.toList)).2)) =
        ag (ax ch (List.map (fun (x : Nat × Operand) => (x.1, ρ x.2)) parts.toList)).2 (aD ch (ax ch (List.map (fun (x : Nat × Operand) => (x.1, ρ x.2)) parts.toList)).2) := by
        split
        · rename_i h
          rw [List.isEmpty_iff.1 h, nB]; rfl
        · rfl
       rw [e]
       exact hg
    · cases hc
  · cases hc
 case load t x =>
  simp only [Option.bind_eq_some_iff, Option.map_eq_some_iff] at hc
  obtain ⟨b, hb, n, hn, rfl⟩ := hc
  simp only [ak] at he
  have hr := hρ x
  split at he
  · rename_i k off hx
    split at he
    · rename_i cs hlk
      cases he
      obtain ⟨c1, c2, c3⟩ := hcond
      rw [hx] at hr
      have hck := hi.ok k _ (du hlk)
      by_cases hisl : ∃ n' t' es', au b n cs off = .isl n' t' es'
      · obtain ⟨n', t', es', hisl⟩ := hisl
        have hbf : b = false := by
         cases b with
         | false => rfl
         | true => simp [au] at hisl
        subst hbf
        have hn1 := c2 rfl
        subst hn1
        obtain ⟨⟨hnil, arr, ty, b1, b2, b3⟩, _⟩ := hck
        have hlt : off < cs.length := by omega
        have hcell : cs[off]? = some (.isl n' t' es') := by
         simp only [au, Bool.false_eq_true, if_false] at hisl
         rw [List.drop_eq_getElem_cons hlt] at hisl
         simp only [List.headD_cons] at hisl
         rw [List.getElem?_eq_getElem hlt, hisl]
        have hld : cg k false 1 cs off = .inn k off := by simp [cg, hisl]
        rw [hld]
        rcases b3 off _ hcell with ⟨r1, _⟩ | ⟨_, r2⟩
        · exact absurd r1 iQ
        · have hm : MemR E U w.heap (E k).blk off [.s (slV ((E k).inn off))] := fun j c hj => by
           cases j with
           | zero =>
            simp at hj; subst hj
            have hlt2 : off < arr.size := by omega
            refine ⟨arr, ty, (0, 0), slV ((E k).inn off), b1, ?_, .d (.s _), gL _⟩
            rw [Nat.add_zero, ← r2]
            simp [Array.getD_eq_getD_getElem?, Array.getElem?_eq_getElem hlt2]
           | succ j => simp at hj
          obtain ⟨v, g1, g2⟩ := jG hb hn hm 0 (by simp) (fun _ => rfl)
          have hv := dx (v0 := slV ((E k).inn off)) (by simpa [au] using g2)
          subst hv
          refine dn hi ?_ (.inn k off)
          have hx' := ii hr
          simp only [Nat.add_zero] at g1
          simp only [execOp, ho, hx', Sem.run_bind, g1, Result.andThen_ok, Sem.run_pure]
      · have hld : cg k b n cs off = au b n cs off := by
         unfold cg
         split
         · rename_i h; exact absurd ⟨_, _, _, h⟩ hisl
         · rfl
        rw [hld]
        have hcells : au b n cs off = au b n ((cs.drop off).take n) 0 := by
         cases b with
         | true => simp [au, List.take_take]
         | false =>
          have hn1 := c2 rfl
          subst hn1
          have hlt : off < cs.length := by omega
          simp only [au, Bool.false_eq_true, if_false]
          rw [List.drop_eq_getElem_cons hlt]; rfl
        rw [hcells]
        refine nJ (off := off) (j := 0) hi ho hb hn (by rw [ii hr]; rfl) (u0 hck off n (fun j c hj => ?_)) (by simp; omega) c2
        cases hbb : b with
        | true => exact kP (c3 hbb) hj
        | false =>
         have hn1 := c2 hbb
         subst hn1
         have hlt : off < cs.length := by omega
         obtain ⟨hj1, hj2⟩ := ke hj
         have hj0 : j = 0 := by omega
         subst hj0
         rw [List.drop_eq_getElem_cons hlt] at hj1
         simp only [List.getElem?_cons_zero, Option.some.injEq] at hj1
         subst hj1
         subst hbb
         simp only [au, Bool.false_eq_true, if_false] at hisl
         rw [List.drop_eq_getElem_cons hlt] at hisl
         simp only [List.headD_cons] at hisl
         generalize cs[off] = c at hisl
         cases c <;> first | rfl | exact absurd ⟨_, _, _, rfl⟩ hisl
    · cases he
  · rename_i cs hx
    cases he
    rw [hx] at hr
    obtain ⟨bb, off, arr, ty, fz, vf, hv, hU, hbk, h1, h2⟩ := qH hr
    exact nJ (off := off) (j := 0) hi ho hb hn (by rw [hv]; rfl) (fun j c hj => ⟨arr, ty, fz, vf j, hbk, (h1 j c hj).1, .d (h2 j c hj), (h1 j c hj).2⟩) (by simpa using hcond.1) hcond.2
  · rename_i k i j hx
    split at he
    · rename_i m ty es hlk
      cases he
      rw [hx] at hr
      have hck := (hi.ok k _ (du hlk)).1
      have hel := mw hcond.1 []
      have hlen := hck.2.2.1 i _ hel
      have hv := jb hr
      rw [hck.2.1] at hv
      exact nJ hi ho hb hn hv (qW hck hel) (by rw [hlen]; exact hcond.2.1) hcond.2.2
    · rename_i hole rows hlk
      cases he
      obtain ⟨c1, c2, rfl, rfl, rfl⟩ := hcond
      rw [hx] at hr
      have hv := jb hr
      obtain ⟨⟨d1, d2, d3⟩, _⟩ := hi.ok k _ (du hlk)
      rw [d2, Nat.mul_one] at hv
      rcases d3 with ⟨_, rfl⟩ | ⟨_, _, _, arr, b1, b2, b3⟩
      · simp at c1
      · have hlt2 : (E k).off + i < arr.size := by omega
        have r2 := (b3 i c1).2 c2
        have hm : MemR E U w.heap (E k).blk ((E k).off + i) [.s (slV ((E k).inn i))] := fun j c hj => by
         cases j with
         | zero =>
          simp at hj; subst hj
          refine ⟨arr, _, (0, 0), slV ((E k).inn i), b1, ?_, .d (.s _), gL _⟩
          rw [Nat.add_zero, ← r2]
          simp [Array.getD_eq_getD_getElem?, Array.getElem?_eq_getElem hlt2]
         | succ j => simp at hj
        obtain ⟨v, g1, g2⟩ := jG hb hn hm 0 (by simp) (fun _ => rfl)
        have hv' := dx (v0 := slV ((E k).inn i)) (by simpa [au] using g2)
        subst hv'
        refine dn hi ?_ (.inn k i)
        simp only [execOp, ho, hv, Sem.run_bind, g1, Result.andThen_ok, Sem.run_pure]
    · cases he
  · rename_i k i m j hx
    split at he
    · rename_i q n' ty es hlk
      cases he
      obtain ⟨hq, c1, c2, c3⟩ := hcond
      rw [hx] at hr
      obtain ⟨c0, hl0, hI, _, hres⟩ := iF hlk hq
      have hrow := ((hi.ok k _ (du hl0)).inns hres).2 i _ _ _ hI
      have hel := mw c1 []
      have hlen := hrow.2.2.1 m _ hel
      have hv := kX hr
      rw [hrow.2.1] at hv
      exact nJ hi ho hb hn hv (qW hrow hel) (by rw [hlen]; exact c2) c3
    · cases he
  · cases he
 case store t x y =>
  simp only [Option.map_eq_some_iff] at hc
  obtain ⟨n, hn, rfl⟩ := hc
  simp only [ak] at he
  have hr := hρ x
  split at he
  · split at he
    · rename_i k off t' hx hy
      split at he
      · rename_i m ty es cs h1 h2
        cases he
        obtain ⟨rfl, c1, c2⟩ := hcond
        exact xP hi ho hn (ii (hx ▸ hr)) h2 h1 (hy ▸ hρ y) c1 c2
      · cases he
    · rename_i k i j t' hx hy
      split at he
      · rename_i m ty es n' ty' ty0 hole rows h1 h2
        cases he
        obtain ⟨rfl, rfl, c1, c2, rfl, rfl, c3⟩ := hcond
        exact vn hi ho hn (jb (hx ▸ hr)) h2 h1 (hy ▸ hρ y) c1 c2 c3
      · cases he
    · cases he
  · split at he
    · rename_i k off hx
      split at he
      · rename_i cs hlk
        cases he
        rw [hx] at hr
        exact uK hi ho hn (ii hr) hlk (hρ y) hcond.1 hcond.2.1 hcond.2.2.1 hcond.2.2.2
      · cases he
    · rename_i k i j hx
      split at he
      · rename_i m ty es hlk
        cases he
        rw [hx] at hr
        exact uG hi ho hn (jb hr) hlk (hρ y) hcond.1 hcond.2.1 hcond.2.2.1 hcond.2.2.2
      · cases he
    · rename_i k i m j hx
      split at he
      · rename_i q n' ty es hlk
        cases he
        obtain ⟨hq, c1, c2, c3, c4⟩ := hcond
        rw [hx] at hr
        exact uC hi ho hn (kX hr) hlk hq (hρ y) c1 c2 c3 c4
      · cases he
    · cases he
 case nilCheck x =>
  cases hc; simp only [ak] at he
  have hr := hρ x
  split at he
  · rename_i k off hx
    cases he; rw [hx] at hr
    exact dn hi (by simp [execOp, ho, ii hr]) (ii hr ▸ hr)
  · rename_i k i j hx
    cases he; rw [hx] at hr
    exact dn hi (by simp [execOp, ho, jb hr]) (jb hr ▸ hr)
  · rename_i k i m j hx
    cases he; rw [hx] at hr
    exact dn hi (by simp [execOp, ho, kX hr]) (kX hr ▸ hr)
  · rename_i cs hx
    cases he; rw [hx] at hr
    obtain ⟨bb, off, arr, ty, fz, vf, hv, _⟩ := qH hr
    exact dn hi (by simp [execOp, ho, hv]) (hv ▸ hr)
  · rename_i aa hx
    cases he; rw [hx] at hr
    exact dn hi (by simp [execOp, ho, dx hr]) (dx hr ▸ hr)
  · rename_i f xs ys hx
    cases he; rw [hx] at hr
    obtain ⟨vs, ws, hv, _⟩ := wE hr
    exact dn hi (by simp [execOp, ho, hv]) (hv ▸ hr)
  · cases he
 case binOp op t x y yt =>
  have gen : ak ρ ch d (.bin op t x y) = some ef → dK P E U w ch d (execOp a.eval o) ef := fun he => by
   simp only [ak, Option.map_eq_some_iff] at he
   obtain ⟨⟨q, c⟩, hb, rfl⟩ := he
   exact op_bin hi ho (hρ x) (hρ y) hb hcond
  split at hc
  · rename_i ht
    cases hc
    simp only [ak] at he
    split at he
    · rename_i b1 b2 h1 h2
      cases he
      exact xg (neg := false) hi ho ht (dx (h1 ▸ hρ x)) (dx (h2 ▸ hρ y))
    · cases he
  · rename_i ht
    cases hc
    simp only [ak] at he
    split at he
    · rename_i b1 b2 h1 h2
      cases he
      exact xg (neg := true) hi ho ht (dx (h1 ▸ hρ x)) (dx (h2 ▸ hρ y))
    · cases he
  · cases hc; exact gen he
 case unOp op t x =>
  cases hc; simp only [ak] at he
  split at he
  · rename_i k n hx
    cases he
    exact op_neg hi ho (dx (hx ▸ hρ x)) hcond
  · rename_i b hx
    cases he
    exact op_not hi ho (dx (hx ▸ hρ x))
  · cases he
 case convert src dst x =>
  split at hc
  · rename_i k0 k h1 h2
    cases hc; simp only [ak] at he
    split at he
    · rename_i k' n hx
      cases he
      exact op_cvi hi ho h1 h2 (dx (hx ▸ hρ x)) hcond
    · cases he
  · rename_i h1 h2
    cases hc; simp only [ak] at he
    split at he
    · rename_i s hx
      cases he
      have hv := dx (hx ▸ hρ x)
      exact dn hi (by simp [execOp, ho, hv, convert, run_underlying h1, run_underlying h2]) (.d (.s _))
    · cases he
  · cases hc; simp only [ak] at he; cases he
 case makeFunc f first caps =>
  cases hc; simp only [ak] at he; cases he
  have hm : ∀ l : Array Operand, (l.map a.eval).size = (l.toList.map ρ).length ∧ ∀ (j : Nat) c, (l.toList.map ρ)[j]? = some c → Rep E U w.heap c ((l.map a.eval).getD j undef) := fun l => by
   refine ⟨by simp, fun j c hj => ?_⟩
   simp only [List.getElem?_map, Option.map_eq_some_iff] at hj
   obtain ⟨y, hy, rfl⟩ := hj
   have : (l.map a.eval).getD j undef = a.eval y := by
    apply eF
    simp only [Array.getElem?_toList] at hy
    simp [hy]
   rw [this]; exact hρ y
  exact dn hi (by simp [execOp, ho, Instr.makeFunc]) (.fn f _ _ _ _ (hm first).1 (hm first).2 (hm caps).1 (hm caps).2)
 case makeSlice t l c =>
  split at hc
  · rename_i e hu
    simp only [Option.bind_eq_some_iff] at hc
    obtain ⟨i, hie, z, hz, hc⟩ := hc
    split at hc
    · rename_i hzs
      cases hc
      simp only [ak] at he
      split at he
      · rename_i k1 n k2 m h1 h2
        cases he
        obtain ⟨c1, c2, c3, c4, c5⟩ := hcond
        exact wm hi ho hu hie hz hzs (dx (h1 ▸ hρ l)) (dx (h2 ▸ hρ c)) ⟨c1, c2, c3, c4⟩ c5
      · cases he
    · cases hc
  · cases hc
 case slice t x lo hi' mx =>
  split at hc
  · rename_i e hu
    simp only [Option.map_eq_some_iff] at hc
    obtain ⟨n, hn, rfl⟩ := hc
    simp only [ak] at he
    split at he
    · rename_i m es hx
      split at he
      · rename_i hm
        subst hm
        split at he
        · rename_i l h m' hl hh hm'
          cases he
          exact vu hi ho hu hn (hx ▸ hρ x) (ju hρ hl) (ju hρ hh) (ju hρ hm') hcond
        · cases he
      · cases he
    · rename_i k hx
      split at he
      · rename_i m ty es hlk
        split at he
        · rename_i hm
          subst hm
          split at he
          · rename_i l h hl hh
            cases he
            exact wV hi ho hu hn (hx ▸ hρ x) hlk (ju hρ hl) (ju hρ hh) hcond
          · cases he
        · cases he
      · cases he
    · rename_i hx
      split at he
      · rename_i l h hl hh
        cases he
        have hv := dx (hx ▸ hρ x)
        have hrun := lJ (P := P) (w := w) (ad := none) (len := 0) (cap := 0) hu hn (ju hρ hl) (ju hρ hh) hcond (Nat.le_refl _)
        have h0 : l.toNat = 0 ∧ h.toNat = 0 := by have := hcond.1; have := hcond.2.1; have := hcond.2.2; simp at *; omega
        rw [h0.1, h0.2] at hrun
        simp only [if_true, Nat.sub_self] at hrun
        exact dn hi (by simp only [execOp, ho, hv, Sem.run_bind, Option.map_none, hrun, Result.andThen_ok, Sem.run_pure]) (.d (.s _))
      · cases he
    · cases he
  · rename_i hu
    cases hc
    simp only [ak] at he
    split at he
    · rename_i s hx
      split at he
      · rename_i l h hl hh
        cases he
        exact op_sstr hi ho hu (dx (hx ▸ hρ x)) (ju hρ hl) (ju hρ hh) hcond
      · cases he
    · cases he
  · cases hc; simp only [ak] at he; cases he
 case fieldAddr t x f =>
  split at hc
  · rename_i fields hu
    simp only [Option.bind_eq_some_iff] at hc
    obtain ⟨g, hg, n, hn, hc⟩ := hc
    split at hc
    · cases hc
    · rename_i h0
      cases hc
      simp only [ak] at he
      have hr := hρ x
      split at he
      · rename_i k off hx
        cases he; rw [hx] at hr
        exact mO hi ho hu hg hn h0 (ii hr) (.ptr k (off + g.offset))
      · rename_i k i j hx
        cases he; rw [hx] at hr
        have := Rep.eptr (E := E) (U := U) (h := w.heap) k i (j + g.offset)
        rw [← Nat.add_assoc] at this
        exact mO hi ho hu hg hn h0 (jb hr) this
      · rename_i k i m j hx
        cases he; rw [hx] at hr
        have := Rep.iptr (E := E) (U := U) (h := w.heap) k i m (j + g.offset)
        rw [← Nat.add_assoc] at this
        exact mO hi ho hu hg hn h0 (kX hr) this
      · rename_i cs hx
        cases he; rw [hx] at hr
        obtain ⟨bb, off, hv, hd⟩ := yW (off := g.offset) hr
        exact mO hi ho hu hg hn h0 hv hd
      · cases he
  · cases hc
 case field t x f =>
  split at hc
  · rename_i fields hu
    simp only [Option.bind_eq_some_iff, Option.map_eq_some_iff] at hc
    obtain ⟨g, hg, b, hb, n, hn, rfl⟩ := hc
    simp only [ak] at he
    split at he
    · rename_i cs hx
      cases he
      exact yP hi ho hu hg hb hn (hx ▸ hρ x) hcond.1 hcond.2
    · cases he
  · cases hc
 case indexAddr t x i =>
  split at hc
  · rename_i e hu
    simp only [Option.bind_eq_some_iff, Option.map_eq_some_iff] at hc
    obtain ⟨n, hn, z, hz, rfl⟩ := hc
    simp only [ak] at he
    split at he
    · rename_i m es q hx hq
      split at he
      · rename_i hm
        subst hm
        cases he
        obtain ⟨k, hk⟩ := lT hρ hq
        exact sK hi ho hu hn (hx ▸ hρ x) hk hcond
      · cases he
    · rename_i kk q hx hq
      split at he
      · rename_i m ty es hlk
        split at he
        · rename_i hm
          subst hm
          cases he
          obtain ⟨k, hk⟩ := lT hρ hq
          exact uE hi ho hu hn (hx ▸ hρ x) hlk hk hcond
        · cases he
      · rename_i rows hlk
        split at he
        · rename_i hm
          subst hm
          cases he
          obtain ⟨k, hk⟩ := lT hρ hq
          exact sW hi ho hu hn (hx ▸ hρ x) hlk hk hcond
        · cases he
      · cases he
    · rename_i kk j q hx hq
      split at he
      · rename_i pp m ty es hlk
        split at he
        · rename_i hm
          subst hm
          cases he
          obtain ⟨k, hk⟩ := lT hρ hq
          exact ub hi ho hu hn (hx ▸ hρ x) hlk hcond.1 hk hcond.2
        · cases he
      · cases he
    · cases he
  · rename_i len e hu
    simp only [Option.map_eq_some_iff] at hc
    obtain ⟨n, hn, rfl⟩ := hc
    simp only [ak] at he
    split at he
    · rename_i k off q hx hq
      cases he
      obtain ⟨kk, hk⟩ := lT hρ hq
      have hv := ii (hx ▸ hρ x)
      have hc' : 0 ≤ q ∧ q < (len : Int) := hcond
      refine dn hi ?_ (.ptr k (off + q.toNat * n))
      simp [execOp, ho, hv, hk, Instr.indexAt, Instr.sureAddr, asIntOf, run_underlying hu, hc', eO hn, Addr.add_lit]
    · cases he
  · cases hc
 case index t x i =>
  split at hc
  · rename_i hu
    cases hc
    simp only [ak] at he
    split at he
    · rename_i s q hx hq
      cases he
      obtain ⟨kk, hk⟩ := lT hρ hq
      have hv := dx (hx ▸ hρ x)
      have hlt : q.toNat < s.size := by have := hcond.1; have := hcond.2; omega
      refine dn hi ?_ (.d (.s _))
      have hget : (if 0 ≤ q then s[q.toNat]? else none) = some (s.data.toList.getD q.toNat 0) := by
       rw [if_pos hcond.1]
       have hlt2 : q.toNat < s.data.size := hlt
       have e1 : s[q.toNat]? = some s[q.toNat] := by simp [hlt]
       rw [e1]
       have e2 : s.data.toList.getD q.toNat 0 = s.data[q.toNat] := by rw [List.getD_eq_getElem?_getD, Array.getElem?_toList, Array.getElem?_eq_getElem hlt2]; rfl
       rw [e2]; rfl
      simp only [execOp, ho, hv, hk, Instr.index, asIntOf, run_underlying hu, Sem.run_bind, Sem.run_pure, Result.andThen_ok]
      rw [hget]
      rfl
    · cases he
  · cases hc; simp only [ak] at he; cases he
 case extract x i =>
  cases hc; simp only [ak] at he
  split at he
  · rename_i cs hx
    cases he
    obtain ⟨vs, hv, hl, hr⟩ := uO (hx ▸ hρ x)
    have hlt : i < vs.size := by rw [hl]; exact hcond
    obtain ⟨u, hu⟩ : ∃ u, vs[i]? = some u := ⟨_, Array.getElem?_eq_getElem hlt⟩
    have hcl : cs[i]? = some (cs.getD i .any) := by
     have : i < cs.length := hcond
     simp [List.getD_eq_getElem?_getD, List.getElem?_eq_getElem this]
    refine dn (v := u) hi (by simp [execOp, ho, hv, Instr.extract, hu]) ?_
    rw [← eF hu]
    exact hr i _ hcl
  · cases he
 case call c =>
  obtain ⟨callee, args, argTypes⟩ := c
  cases callee with
  | value f => simp only at hc; cases hc; simp only [ak] at he; cases he
  | invoke r m => simp only at hc; cases hc; simp only [ak] at he; cases he
  | builtin b =>
   have other : ∀ b' ts ty aS, aop = .bi b' ts ty aS → dK P E U w ch d (execOp a.eval o) ef := fun b' ts ty aS h => by
    subst h; simp only [ak] at he; cases he
   cases b <;> simp only at hc
   case append =>
    split at hc
    · rename_i s x t u h1 h2
      have ha : args = #[s, x] := by cases args; simp at h1; simp [h1]
      have ht : argTypes = #[t, u] := by cases argTypes; simp at h2; simp [h2]
      subst ha ht
      split at hc
      · rename_i e e2 g1 g2
        simp only [Option.bind_eq_some_iff] at hc
        obtain ⟨i, hie, z, hz, hc⟩ := hc
        split at hc
        · rename_i hsz
          cases hc
          exact app_ok hi hρ ho g1 g2 hie hz hsz.1 hsz.2 he hcond
        · cases hc
      · cases hc; exact other _ _ _ _ rfl
    · cases hc
   case len =>
    split at hc
    · rename_i x t h1 h2
      have ha : args = #[x] := by cases args; simp at h1; simp [h1]
      have ht : argTypes = #[t] := by cases argTypes; simp at h2; simp [h2]
      subst ha ht
      split at hc
      · rename_i g1
        cases hc
        simp only [ak, Option.map_eq_some_iff] at he
        split at he
        · rename_i heq; cases heq
        · simp only [Option.map_eq_some_iff] at he
          obtain ⟨n, hl, rfl⟩ := he
          exact xb (str := true) hi ho (by simpa using g1) (hρ x) hl
      · rename_i e g1
        cases hc
        simp only [ak] at he
        split at he
        · rename_i k i hx _
          split at he
          · rename_i q m ty es hlk
            cases he
            exact wq hi ho g1 (hx ▸ hρ x) hlk hcond
          · cases he
        · simp only [Option.map_eq_some_iff] at he
          obtain ⟨n, hl, rfl⟩ := he
          exact xb (str := false) hi ho (by simpa using ⟨e, g1⟩) (hρ x) hl
      · cases hc; exact other _ _ _ _ rfl
    · cases hc
   all_goals (cases hc; exact other _ _ _ _ rfl)
 all_goals (cases hc; simp only [ak] at he; cases he)
end Go.Am
end
section
namespace Go.Am
variable {P : Program} {E : Env} {U : Nat → Prop} {w : World} {ch : Chs} {d : Nat}
theorem qY {t : TypeId} {xs : Array Value} {off k : Nat} (hu : l9 P t = some k) {v : Value} (hx : xs[off]? = some v) : (part t xs off).run P w = .ok v w := by
 unfold l9 at hu
 cases h : P.underlying t with
 | none => rw [h] at hu; cases hu
 | some u => rw [h] at hu; cases u <;> simp at hu <;> simp [part, isAgg, run_underlying h, hx]
theorem oB {xs : Array Value} {j : Nat} (h : j < xs.size) : xs[j]? = some (xs.getD j undef) := by simp [Array.getD_eq_getD_getElem?, h]
theorem nh {h : Array Obj} (D : Nat) (xs ys : Array Value) : ∀ (fs : List Field) (off : Nat) (ks : List Nat) (cs ds : List C) (b : Bool), ij P off fs = some ks → aU ks cs ds = some b → off + cs.length = xs.size → off + ds.length = ys.size →
 (∀ (j : Nat) c, cs[j]? = some c → Rep E U h c (xs.getD (off + j) undef)) → (∀ (j : Nat) c, ds[j]? = some c → Rep E U h c (ys.getD (off + j) undef)) → (Op.eqFields (D + 1) xs ys fs).run P w = .ok b w
 | [], off, ks, cs, ds, b, hp, he, _, _, _, _ => by
  simp only [ij, Option.some.injEq] at hp
  subst hp
  unfold aU at he
  split at he <;> simp_all [Op.eqFields]
 | f :: fs, off, ks, cs, ds, b, hp, he, hx, hy, h1, h2 => by
  simp only [ij] at hp
  split at hp
  · rename_i hno
    obtain ⟨hn, ho⟩ := hno
    simp only [Option.bind_eq_some_iff, Option.map_eq_some_iff] at hp
    obtain ⟨k, hu, ks', hp, rfl⟩ := hp
    have fin : ∀ (c d : C) (cs' ds' : List C) (q : Bool), cs = c :: cs' → ds = d :: ds' → (Rep E U h c (xs.getD off undef) → Rep E U h d (ys.getD off undef) → (Op.equalIn (D + 1) f.type (xs.getD off undef) (ys.getD off undef)).run P w = .ok q w) → (aU ks' cs' ds').map (q && ·) = some b →
     (Op.eqFields (D + 1) xs ys (f :: fs)).run P w = .ok b w := by
     intro c d cs' ds' q hcs hds hq hb
     subst hcs hds
     simp only [List.length_cons] at hx hy
     have e1 := qY (P := P) (w := w) hu (oB (xs := xs) (j := off) (by omega))
     have e2 := qY (P := P) (w := w) hu (oB (xs := ys) (j := off) (by omega))
     simp only [Option.map_eq_some_iff] at hb
     obtain ⟨b', hb', rfl⟩ := hb
     have hq' := hq (h1 0 c rfl) (h2 0 d rfl)
     simp only [Op.eqFields, ho]
     rw [if_pos hn]
     simp only [Sem.run_bind, e1, e2, hq', Result.andThen_ok]
     cases q with
     | false => simp
     | true =>
      simpa using nh D xs ys fs (off + 1) ks' cs' ds' b' hp hb' (by omega) (by omega)
       (fun j c hj => by have := h1 (j + 1) c (by simpa using hj); rwa [show off + 1 + j = off + (j + 1) by omega])
       (fun j c hj => by have := h2 (j + 1) c (by simpa using hj); rwa [show off + 1 + j = off + (j + 1) by omega])
    unfold aU at he
    split at he
    · rename_i hk; cases hk
    · rename_i hk
      cases hk
      split at he
      · rename_i hkk; subst hkk
        refine fin _ _ _ _ _ rfl rfl (fun r1 r2 => ?_) he
        rw [dx r1, dx r2]
        unfold l9 at hu
        split at hu <;> simp at hu
        rename_i kk hh
        simp [Op.equalIn, run_underlying hh]
        rfl
      · cases he
    · rename_i a _ a' _ hk
      cases hk
      refine fin _ _ _ _ _ rfl rfl (fun r1 r2 => ?_) he
      rw [dx r1, dx r2]
      unfold l9 at hu
      split at hu <;> simp at hu
      rename_i hh
      have hb : (a == a') = decide (a = a') := by cases a <;> cases a' <;> rfl
      simp [Op.equalIn, run_underlying hh, hb]
    · rename_i a _ a' _ hk
      cases hk
      refine fin _ _ _ _ _ rfl rfl (fun r1 r2 => ?_) he
      rw [dx r1, dx r2]
      unfold l9 at hu
      split at hu <;> simp at hu
      rename_i hh
      simp [Op.equalIn, run_underlying hh, beq_toListBytes, mS]
    · cases he
  · cases hp
theorem uR {m : Bool} {k : IntKind} : ∀ (l : List C) (vs : List Value) (a r : Int) {h : Array Obj}, cr m k a l = some r → vs.length = l.length → (∀ (j : Nat) c v, l[j]? = some c → vs[j]? = some v → Rep E U h c v) →
 (vs.foldlM (if m then Builtin.max2 else Builtin.min2) (.int k a)).run P w = .ok (.int k r) w
 | [], vs, a, r, h, hm, hl, _ => by
  have : vs = [] := by simpa using hl
  subst this
  simp [cr] at hm; subst hm; simp
 | c :: l, [], a, r, h, hm, hl, _ => by simp at hl
 | c :: l, v :: vs, a, r, h, hm, hl, hv => by
  unfold cr at hm
  split at hm
  · rename_i hc; cases hc
  · rename_i k' b l' hc
    cases hc
    split at hm
    · rename_i hk; subst hk
      have e := dx (hv 0 _ v rfl rfl)
      subst e
      have ih := uR l vs (cB m a b) r (h := h) hm (by simpa using hl) (fun j c v h1 h2 => hv (j + 1) c v (by simpa using h1) (by simpa using h2))
      simp only [List.foldlM_cons, Sem.run_bind]
      cases m with
      | true => simp only [if_true, Builtin.max2, Sem.run_pure, Result.andThen_ok] at ih ⊢; exact ih
      | false => simp only [Bool.false_eq_true, if_false, Builtin.min2, Sem.run_pure, Result.andThen_ok] at ih ⊢; exact ih
    · cases hm
  · cases hm
end Go.Am
namespace Go.Am
variable {P : Program} {E : Env} {U : Nat → Prop} {w : World} {ch : Chs} {d : Nat}
theorem qf {op : BinOp} {a b x : Nat} (h : fN op a b = some x) : (Op.floatArith op .f64 a b).run P w = .ok (.float .f64 x) w := by
 unfold fN at h
 split at h
 all_goals first | (cases h; done) | simp [Op.floatArith, h]
theorem iN {op : BinOp} {a b x : Nat} (h : fN op a b = some x) : (Op.Complex.arith op .f64 a b).run P w = .ok x w := by
 simp [Op.Complex.arith, qf h]
theorem vP {op : BinOp} {a b c d x y : Nat} (h : aN op a b c d = some (x, y)) : (Op.complexOp op .f64 a b c d).run P w = .ok (.complex .f64 x y) w := by
 unfold aN at h
 split at h
 · simp only [Option.bind_eq_some_iff, Option.map_eq_some_iff, Prod.mk.injEq] at h
   obtain ⟨x', h1, y', h2, rfl, rfl⟩ := h
   simp [Op.complexOp, iN h1, iN h2]
 · simp only [Option.bind_eq_some_iff, Option.map_eq_some_iff, Prod.mk.injEq] at h
   obtain ⟨x', h1, y', h2, rfl, rfl⟩ := h
   simp [Op.complexOp, iN h1, iN h2]
 · simp only [Option.bind_eq_some_iff, Option.map_eq_some_iff, Prod.mk.injEq] at h
   obtain ⟨ac, h1, bd, h2, ad, h3, bc, h4, x', h5, y', h6, rfl, rfl⟩ := h
   simp [Op.complexOp, Op.Complex.conv, Op.Complex.product, Op.Complex.mul, Op.Complex.sub, Op.Complex.add, iN h1, iN h2, iN h3, iN h4, iN h5, iN h6]
 · cases h
theorem ov {t : TypeId} {fs : Array Field} (h : P.underlying t = some (.struct fs)) : P.fieldsOf t = fs := by simp [Program.fieldsOf, h]
theorem p5 : ∀ {es : List (List C)} {xs : List Int}, p8 es = some xs → xs.length = es.length ∧ ∀ i, i < es.length → es[i]? = some [.s (.int .u8 (xs.getD i 0))]
 | [], xs, h => by cases h; exact ⟨rfl, fun i hi => (by simp at hi)⟩
 | e :: es, xs, h => by
  unfold p8 at h
  split at h
  · rename_i hq; cases hq
  · rename_i n es' hq
    cases hq
    simp only [Option.map_eq_some_iff] at h
    obtain ⟨ys, h1, rfl⟩ := h
    obtain ⟨g1, g2⟩ := p5 h1
    refine ⟨by simp [g1], fun i hi => ?_⟩
    cases i with
    | zero => rfl
    | succ i => simpa using g2 i (by simpa using hi)
  · cases h
theorem ext_ok {a : Act} {o : Oper} {e : Ext} {aS : List Operand} {ρ : Operand → C} {q p : Prop} {c : C} (hi : Inv E U w.heap ch) (hρ : ∀ x, Rep E U w.heap (ρ x) (a.eval x)) (hc : n6 P o.op = some (e, aS)) (he : aB ch e (aS.map ρ) = some (q, c)) (hq : q) :
 dK P E U w ch d (execOp a.eval o) ⟨p, c, ch, []⟩ := by
 cases ho : o.op <;> rw [ho] at hc <;> simp only [n6, reduceCtorEq] at hc
 case binOp op t x y yt =>
  split at hc
  · rename_i fields hu
    split at hc
    · rename_i hg
      simp only [Bool.and_eq_true, Bool.not_eq_true'] at hg
      have main : ∀ (neg : Bool) ks, ij P 0 fields.toList = some ks → aB ch (.eqs neg ks) [ρ x, ρ y] = some (q, c) → op = (if neg then .neq else .eql) → dK P E U w ch d (execOp a.eval o) ⟨p, c, ch, []⟩ := by
       intro neg ks hks hx hop
       simp only [aB] at hx
       split at hx
       rotate_left
       · cases hx
       rename_i cs ds h2
       have h2 := List.cons.inj h2
       have h3 := (List.cons.inj h2.2).1
       simp only [Option.map_eq_some_iff, Prod.mk.injEq] at hx
       obtain ⟨b, hb, rfl, rfl⟩ := hx
       obtain ⟨xs, e1, e2, e3, _⟩ := lU (h2.1 ▸ hρ x)
       obtain ⟨ys, g1, g2, g3, _⟩ := lU (h3 ▸ hρ y)
       have hf := nh (P := P) (w := w) (E := E) (U := U) (h := w.heap) 9998 xs ys fields.toList 0 ks cs ds b hks hb (by rw [e2]; simp) (by rw [g2]; simp) (fun j c hj => by simpa using e3 j c hj) (fun j c hj => by simpa using g3 j c hj)
       have hs := run_equalIn_struct (P := P) w 9999 t xs ys (by rw [ov hu]; exact hu) hg.1
       rw [ov hu, hf] at hs
       have hgd : ∀ op, (eqGuard op t x y (.agg xs) (.agg ys)).run P w = .ok () w := fun op => run_eqGuard_agg w op t x y xs ys hg.2
       refine dn hi ?_ (.d (.s _))
       subst hop
       cases neg with
       | false => simp [execOp, ho, e1, g1, hgd, run_eql_struct, hs]
       | true => simp [execOp, ho, e1, g1, hgd, run_neq_struct, hs]
      split at hc
      · rename_i ks hk; cases hc; exact main false ks hk he rfl
      · rename_i ks hk; cases hc; exact main true ks hk he rfl
      · cases hc
    · cases hc
  · rename_i el hu
    have main : ∀ (neg : Bool), y = .const (.slice none 0 0) → aB ch (.isnil neg) [ρ x] = some (q, c) → op = (if neg then .neq else .eql) → dK P E U w ch d (execOp a.eval o) ⟨p, c, ch, []⟩ := by
     intro neg hy hx hop
     have fin : ∀ (ad : Option Addr) (l cap : Nat), a.eval x = .slice ad l cap → c = .s (.bool (if neg then !ad.isNone else ad.isNone)) → dK P E U w ch d (execOp a.eval o) ⟨p, c, ch, []⟩ := by
      intro ad l cap h1 h2
      subst h2 hy
      have hey : a.eval (.const (.slice none 0 0)) = .slice none 0 0 := rfl
      have hgd : ∀ op, eqGuard op t x (.const (.slice none 0 0)) (.slice ad l cap) (.slice none 0 0) = pure () := fun op => by cases op <;> rfl
      refine dn hi ?_ (.d (.s _))
      subst hop
      cases neg with
      | false => simp [execOp, ho, h1, hey, hgd, binOp, run_equal_slice_nil w t el ad l cap hu]
      | true => simp [execOp, ho, h1, hey, hgd, run_neq_slice_nil w t el ad l cap hu]
     simp only [aB] at hx
     split at hx
     · rename_i h2
       have h2 := (List.cons.inj h2).1
       cases hx
       refine fin none 0 0 (dx (h2 ▸ hρ x)) ?_
       cases neg <;> rfl
     · rename_i n e0 es h2
       have h2 := (List.cons.inj h2).1
       cases hx
       have hr := kt (h2 ▸ hρ x)
       generalize hv : a.eval x = v at hr
       cases hr with
       | sl _ b off cap sz arr ty fz vf hU hb hcap hmax hsz hv hr =>
        refine fin _ _ _ hv ?_
        cases neg <;> rfl
     · rename_i k h2
       have h2 := (List.cons.inj h2).1
       split at hx
       · rename_i n ty e0 es hl
         cases hx
         have hck := hi.ok k _ (du hl)
         obtain ⟨⟨_, _, _, hn | hn⟩, _⟩ := hck
         · exact absurd hn.2 (by simp)
         · rcases jN (h2 ▸ hρ x) with ⟨hn2, hv⟩ | ⟨hn2, hv⟩
           · rw [hn.1] at hn2; cases hn2
           · refine fin _ _ _ hv ?_
             cases neg <;> rfl
       · cases hx
     · cases hx
    split at hc
    · cases hc; exact main false rfl he rfl
    · cases hc; exact main true rfl he rfl
    · cases hc
  · cases hc
    simp only [aB, List.map_cons, List.map_nil] at he
    split at he
    rotate_left
    · cases he
    rename_i a1 b1 c1 d1 h2
    have h2 := List.cons.inj h2
    have h3 := (List.cons.inj h2.2).1
    simp only [Option.map_eq_some_iff, Prod.mk.injEq, Prod.exists] at he
    obtain ⟨x', y', hb, rfl, rfl⟩ := he
    have r1 := dx (h2.1 ▸ hρ x)
    have r2 := dx (h3 ▸ hρ y)
    have hgd : eqGuard op t x y (.complex .f64 a1 b1) (.complex .f64 c1 d1) = pure () := by cases op <;> rfl
    have hbin : binOp op t (.complex .f64 a1 b1) (.complex .f64 c1 d1) = Op.complexOp op .f64 a1 b1 c1 d1 := by cases op <;> simp [binOp]
    exact dn hi (by simp [execOp, ho, r1, r2, hgd, hbin, vP hb]) (.d (.s _))
  · cases hc
    simp only [aB, List.map_cons, List.map_nil] at he
    split at he
    rotate_left
    · cases he
    rename_i a1 b1 h2
    have h2 := List.cons.inj h2
    have h3 := (List.cons.inj h2.2).1
    simp only [Option.map_eq_some_iff, Prod.mk.injEq] at he
    obtain ⟨x', hb, rfl, rfl⟩ := he
    have r1 := dx (h2.1 ▸ hρ x)
    have r2 := dx (h3 ▸ hρ y)
    have hgd : eqGuard op t x y (.float .f64 a1) (.float .f64 b1) = pure () := by cases op <;> rfl
    have hbin : binOp op t (.float .f64 a1) (.float .f64 b1) = Op.floatArith op .f64 a1 b1 := by
     unfold fN at hb
     split at hb <;> simp [binOp] at hb ⊢
    exact dn hi (by simp [execOp, ho, r1, r2, hgd, hbin, qf hb]) (.d (.s _))
  · cases hc
 case convert src dst x =>
  split at hc
  · rename_i k0 h1 h2
    cases hc
    simp only [aB, List.map_cons, List.map_nil] at he
    split at he
    rotate_left
    · cases he
    rename_i k n g2
    have g2 := (List.cons.inj g2).1
    cases he
    have r1 := dx (g2 ▸ hρ x)
    exact dn hi (by simp [execOp, ho, r1, convert, run_underlying h1, run_underlying h2, Conv.intToFloat]) (.d (.s _))
  · rename_i k0 h1 h2
    cases hc
    simp only [aB, List.map_cons, List.map_nil] at he
    split at he
    rotate_left
    · cases he
    rename_i b g2
    have g2 := (List.cons.inj g2).1
    simp only [Option.map_eq_some_iff, Prod.mk.injEq] at he
    obtain ⟨n, hn, rfl, rfl⟩ := he
    have r1 := dx (g2 ▸ hρ x)
    exact dn hi (by simp [execOp, ho, r1, convert, run_underlying h1, run_underlying h2, Conv.floatToInt, hn, hq]) (.d (.s _))
  · rename_i e0 h1 h2
    split at hc
    rotate_left
    · cases hc
    rename_i h3
    cases hc
    simp only [aB, List.map_cons, List.map_nil] at he
    split at he
    rotate_left
    · cases he
    rename_i e1 es1 g2
    have g2 := (List.cons.inj g2).1
    simp only [Option.map_eq_some_iff, Prod.mk.injEq] at he
    obtain ⟨xs, hn, rfl, rfl⟩ := he
    obtain ⟨b1, b2⟩ := p5 hn
    have r1 : Rep E U w.heap (.sl 1 (e1 :: es1)) (a.eval x) := g2 ▸ hρ x
    generalize he : e1 :: es1 = es at *
    generalize hv : a.eval x = v at *
    have hlen : 0 < es.length := by rw [← he]; simp
    cases r1 with
    | d hd =>
     cases hd with
     | sl0 => simp at hlen
     | sl _ b off cap _ arr ty fz vf hUb hb hcap hmax hsz hv' hr =>
      refine dn hi ?_ (.d (.s _))
      have hcell : ∀ i, i < es.length → w.cell? ⟨b, off + i, none⟩ = some (.int .u8 (xs.getD i 0)) := fun i hi' => by
       have q1 := b2 i hi'
       obtain ⟨q2, _⟩ := hv' i _ 0 _ q1 rfl
       have q3 := hr i _ 0 _ q1 rfl
       have q4 : vf i 0 = .int .u8 (xs.getD i 0) := by generalize vf i 0 = qq at q3; cases q3; rfl
       rw [q4] at q2
       have e : off + i * 1 + 0 = off + i := by omega
       rw [e] at q2
       simp only [World.cell?, hb]
       simpa using q2
      have := run_convert_bytes_arg (P := P) w _ e0 h1 h3 b off es.length cap xs b1 hcell _ h2
      simp [execOp, ho, hv, this]
  · cases hc
 case call cl =>
  obtain ⟨callee, args, argTypes⟩ := cl
  have rv : ∀ (j : Nat) c v, (args.toList.map ρ)[j]? = some c → (args.toList.map a.eval)[j]? = some v → Rep E U w.heap c v := fun j c v h1 h2 => by
   simp only [List.getElem?_map, Option.map_eq_some_iff] at h1 h2
   obtain ⟨x, g1, rfl⟩ := h1
   obtain ⟨x', g1', rfl⟩ := h2
   rw [g1] at g1'; cases g1'; exact hρ x
  have arg1 : ∀ c0, args.toList.map ρ = [c0] → ∃ x, args = #[x] ∧ c0 = ρ x := fun c0 h => by
   cases args; rename_i l; simp at h
   match l, h with
   | [x], h => simp at h; exact ⟨x, rfl, h.symm⟩
  have mx : ∀ m, aB ch (.mx m) (args.toList.map ρ) = some (q, c) → callee = .builtin (if m then .max else .min) → dK P E U w ch d (execOp a.eval o) ⟨p, c, ch, []⟩ := fun m hx hcal => by
   simp only [aB] at hx
   split at hx
   rotate_left
   · cases hx
   rename_i k n l g
   simp only [Option.map_eq_some_iff, Prod.mk.injEq] at hx
   obtain ⟨r, hr, rfl, rfl⟩ := hx
   cases args; rename_i al
   simp only at g rv
   match al, g, rv with
   | x :: al, g, rv =>
    simp only [List.map_cons, List.cons.injEq] at g
    have r1 := dx (g.1 ▸ hρ x)
    have hm := uR (P := P) (w := w) (E := E) (U := U) (h := w.heap) (m := m) (k := k) l (al.map a.eval) n r hr (by rw [← g.2]; simp) (fun j c v h1 h2 => rv (j + 1) c v (by rw [← g.2] at h1; simpa using h1) (by simpa using h2))
    refine dn hi ?_ (.d (.s _))
    refine gV (w' := w) (by rw [ho, hcal]) (fun consts => ?_)
    cases m with
    | true =>
     simp only [if_true] at hm
     simp [builtin, Builtin.max_, r1, hm]
    | false =>
     simp only [Bool.false_eq_true, if_false] at hm
     simp [builtin, Builtin.min_, r1, hm]
  split at hc
  · rename_i hcal; simp only at hcal; cases hc; exact mx true he hcal
  · rename_i hcal; simp only at hcal; cases hc; exact mx false he hcal
  · rename_i hcal; simp only at hcal; cases hc
    simp only [aB] at he
    split at he
    rotate_left
    · cases he
    rename_i n m g
    cases he
    cases args; rename_i al
    simp only at g
    have hlen : al.length = 2 := by have := congrArg List.length g; simpa using this
    obtain ⟨x, y, rfl⟩ : ∃ x y, al = [x, y] := by
     match al, hlen with
     | [x, y], _ => exact ⟨x, y, rfl⟩
    simp only [List.map_cons, List.map_nil, List.cons.injEq, and_true] at g
    have r1 := dx (g.1 ▸ hρ x)
    have r2 := dx (g.2 ▸ hρ y)
    refine dn hi ?_ (.d (.s _))
    refine gV (w' := w) (by rw [ho, hcal]) (fun consts => ?_)
    simp [builtin, r1, r2, run_complex]
  · rename_i hcal; simp only at hcal; cases hc
    simp only [aB] at he
    split at he
    rotate_left
    · cases he
    rename_i n m g
    cases he
    obtain ⟨x, rfl, g'⟩ := arg1 _ g
    have r1 := dx (g' ▸ hρ x)
    refine dn hi ?_ (.d (.s _))
    refine gV (w' := w) (by rw [ho, hcal]) (fun consts => ?_)
    simp [builtin, run_real, r1]
  · rename_i hcal; simp only at hcal; cases hc
    simp only [aB] at he
    split at he
    rotate_left
    · cases he
    rename_i n m g
    cases he
    obtain ⟨x, rfl, g'⟩ := arg1 _ g
    have r1 := dx (g' ▸ hρ x)
    refine dn hi ?_ (.d (.s _))
    refine gV (w' := w) (by rw [ho, hcal]) (fun consts => ?_)
    simp [builtin, run_imag, r1]
  · cases hc
theorem wT {own : Bool} {a : Act} {o : Oper} {aop : AOp} {ρ : Operand → C} {ef : Eff} (hi : Inv E U w.heap ch) (hρ : ∀ x, Rep E U w.heap (ρ x) (a.eval x)) (hc : ib P own o.op o.type = some aop) (he : ak ρ ch d aop = some ef) (hcond : ef.cond) :
 dK P E U w ch d (execOp a.eval o) ef := by
 unfold ib at hc
 split at hc
 · rename_i e aS hx
   cases hc
   simp only [ak, Option.map_eq_some_iff, Prod.exists] at he
   obtain ⟨q, c, h1, rfl⟩ := he
   exact ext_ok hi hρ hx h1 hcond
 · exact vC hi hρ hc he hcond
end Go.Am
end
section
namespace Go.Am
variable {P : Program} {E : Env} {U : Nat → Prop} {w : World} {ch : Chs} {d : Nat}
class Glob (P : Program) where
 gl : List (Nat × List C)
 inv : (Nat → Prop) → Array Obj → Prop := fun _ _ => True
 mono : ∀ (U U' : Nat → Prop) (h h' : Array Obj), inv U h → (∀ b, U b → U' b ∧ h'[b]? = h[b]?) → inv U' h' := by intros; trivial
def gm (P : Program) [Glob P] (U : Nat → Prop) (h : Array Obj) : Prop :=
 (∀ g cs, lk (Glob.gl P) g = some cs → ∀ E, Rep E U h (.ref cs) (.pointer (some ⟨g, 0, none⟩))) ∧ Glob.inv P U h
theorem gm.mono [Glob P] {U U' : Nat → Prop} {h h' : Array Obj} (hg : gm P U h) (hk : ∀ b, U b → U' b ∧ h'[b]? = h[b]?) : gm P U' h' :=
 ⟨fun g cs hm E => (hg.1 g cs hm E).same hk, Glob.mono U U' h h' hg.2 hk⟩
def mE (E : Env) (U : Nat → Prop) (h : Array Obj) (cs : List C) (vs : Array Value) : Prop :=
 vs.size = cs.length ∧ ∀ (j : Nat) (c : C), cs[j]? = some c → Rep E U h c (vs.getD j undef)
structure CEv (E : Env) (U : Nat → Prop) (w : World) (ch : Chs) (E' : Env) (U' : Nat → Prop) (w' : World) (ch' : Chs) : Prop where
 os : w'.os = w.os
 tape : w'.tape = w.tape
 output : w'.output = w.output
 size : w.heap.size ≤ w'.heap.size
 keep : ∀ b, U b → U' b ∧ w'.heap[b]? = w.heap[b]?
 rest : ∀ b, b < w.heap.size → (∀ k c, (k, c) ∈ ch → ¬ (E k).fp b) → w'.heap[b]? = w.heap[b]?
 live : ∀ k c, (k, c) ∈ ch' → ∀ b, (E' k).fp b → w.heap.size ≤ b ∨ ∃ k0 c0, (k0, c0) ∈ ch ∧ (E k0).fp b
 newU : ∀ b, U' b → U b ∨ w.heap.size ≤ b ∨ ∃ k0 c0, (k0, c0) ∈ ch ∧ (E k0).fp b
 boxes : ∀ k cs, (k, .box cs) ∈ ch' → (∃ c, (k, c) ∈ ch) → (∃ cs0, (k, .box cs0) ∈ ch) ∧ (E' k).toKE0 = (E k).toKE0
 inv : Inv E' U' w'.heap ch'
def FnOk (P : Program) (f : FuncId) : Prop := ∃ fn, P.funcs[f]? = some fn ∧ (fn.name == "runtime.NumGoroutine") = false ∧ fn.body.isNone = false
def FC (P : Program) [Glob P] (f : FuncId) (args : List C) (chs : Chs) (r : C) (chs' : Chs) : Prop :=
 FnOk P f ∧ ∀ (E : Env) (U : Nat → Prop) (vs : Array Value) (w : World), gm P U w.heap → mE E U w.heap args vs → Inv E U w.heap chs →
  Calls P f vs w fun e w' => ∃ v E' U', e = .returned v ∧ Rep E' U' w'.heap r v ∧ CEv E U w chs E' U' w' chs'
def rn (m : List (Nat × Nat)) (k : Nat) : Nat := (lk m k).getD k
def ai (m : List (Nat × Nat)) : C → C
 | .own k => .own (rn m k)
 | .ptr k off => .ptr (rn m k) off
 | .eptr k i j => .eptr (rn m k) i j
 | .inn k i => .inn (rn m k) i
 | .iptr k i n j => .iptr (rn m k) i n j
 | .agg cs => .agg (renCs m cs)
 | .tup cs => .tup (renCs m cs)
 | .fn f xs ys => .fn f (renCs m xs) (renCs m ys)
 | c => c
where renCs (m : List (Nat × Nat)) : List C → List C
 | [] => []
 | c :: cs => ai m c :: renCs m cs
theorem fI (m : List (Nat × Nat)) : ∀ cs, ai.renCs m cs = cs.map (ai m)
 | [] => by simp [ai.renCs]
 | c :: cs => by simp [ai.renCs, fI m cs]
def aH (m : List (Nat × Nat)) : Ch → Ch
 | .box cs => .box (cs.map (ai m))
 | x => x
def ap (m : List (Nat × Nat)) : Chs → Chs
 | [] => []
 | (k, c) :: r => (rn m k, aH m c) :: ap m r
theorem gB (m : List (Nat × Nat)) : ∀ ch, ap m ch = ch.map fun p => (rn m p.1, aH m p.2)
 | [] => rfl
 | (k, c) :: r => by simp [ap, gB m r]
theorem fd {m : List (Nat × Nat)} {ch : Chs} {k : Nat} {c : Ch} (h : (k, c) ∈ ap m ch) : ∃ k0 c0, (k0, c0) ∈ ch ∧ k = rn m k0 ∧ c = aH m c0 := by
 rw [gB] at h
 obtain ⟨⟨k0, c0⟩, h1, h2⟩ := List.mem_map.1 h
 cases h2
 exact ⟨k0, c0, h1, rfl, rfl⟩
theorem fu {m : List (Nat × Nat)} {ch : Chs} {k : Nat} {c : Ch} (h : (k, c) ∈ ch) : (rn m k, aH m c) ∈ ap m ch := by
 rw [gB]; exact List.mem_map.2 ⟨_, h, rfl⟩
def dm (ks : List Nat) : C → Prop
 | .own k => k ∈ ks
 | .ptr k _ => k ∈ ks
 | .eptr k _ _ => k ∈ ks
 | .inn k _ => k ∈ ks
 | .iptr k _ _ _ => k ∈ ks
 | .agg cs => keysIns ks cs
 | .tup cs => keysIns ks cs
 | .fn _ xs ys => keysIns ks xs ∧ keysIns ks ys
 | _ => True
where keysIns (ks : List Nat) : List C → Prop
 | [] => True
 | c :: cs => dm ks c ∧ keysIns ks cs
theorem eJ {ks : List Nat} : ∀ {cs : List C}, dm.keysIns ks cs → ∀ c ∈ cs, dm ks c
 | [], _, c, h => by simp at h
 | x :: xs, hf, c, h => by
  simp only [dm.keysIns] at hf
  rcases List.mem_cons.1 h with h | h
  · rw [h]; exact hf.1
  · exact eJ hf.2 c h
theorem jr {ks : List Nat} : ∀ {cs : List C}, (∀ c ∈ cs, dm ks c) → dm.keysIns ks cs
 | [], _ => trivial
 | x :: xs, hf => ⟨hf x List.mem_cons_self, jr fun c h => hf c (List.mem_cons_of_mem _ h)⟩
def iR (ks : List Nat) : Ch → Prop
 | .box cs => dm.keysIns ks cs
 | _ => True
theorem Rep.env {E E' : Env} {U : Nat → Prop} {h : Array Obj} {c : C} {v : Value} {ks : List Nat} (hr : Rep E U h c v) (hk : dm ks c) (he : ∀ k ∈ ks, E' k = E k) : Rep E' U h c v := by
 induction hr with
 | d hd => exact .d hd
 | ref cs b off arr ty fz vf hU hb hv hr => exact .ref cs b off arr ty fz vf hU hb hv hr
 | agg cs vs hl hr h1 ih => exact .agg cs vs hl (fun j c hj => ih j c hj (eJ (by simpa only [dm] using hk) c (List.mem_of_getElem? hj))) h1
 | tup cs vs hl hr ih => exact .tup cs vs hl (fun j c hj => ih j c hj (eJ (by simpa only [dm] using hk) c (List.mem_of_getElem? hj)))
 | fn f xs ys vs ws hl hr hl' hr' ih ih' =>
  simp only [dm] at hk
  exact .fn f xs ys vs ws hl (fun j c hj => ih j c hj (eJ hk.1 c (List.mem_of_getElem? hj))) hl' (fun j c hj => ih' j c hj (eJ hk.2 c (List.mem_of_getElem? hj)))
 | own k => simp only [dm] at hk; rw [← he k hk]; exact .own k
 | ptr k off => simp only [dm] at hk; rw [← he k hk]; exact .ptr k off
 | eptr k i j => simp only [dm] at hk; rw [← he k hk]; exact .eptr k i j
 | inn k i => simp only [dm] at hk; rw [← he k hk]; exact .inn k i
 | iptr k i n j => simp only [dm] at hk; rw [← he k hk]; exact .iptr k i n j
theorem Rep.unren {m : List (Nat × Nat)} {h : Array Obj} {c0 : C} {v : Value} (hr : Rep E U h c0 v) : ∀ c, ai m c = c0 → Rep (fun k => E (rn m k)) U h c v := by
 induction hr with
 | @d c0 v hd =>
  intro c hc
  have : c = c0 := by
   cases hd <;> cases c <;> simp only [ai] at hc <;> first | exact hc | rfl | cases hc
  subst this; exact .d hd
 | ref cs b off arr ty fz vf hU hb hv hr =>
  intro c hc
  cases c <;> simp only [ai] at hc <;> cases hc
  exact .ref _ b off arr ty fz vf hU hb hv hr
 | agg cs vs hl hr h1 ih =>
  intro c hc
  cases c <;> simp only [ai, fI] at hc <;> cases hc
  refine .agg _ vs (by simpa using hl) (fun j c hj => ih j (ai m c) (by simp [hj]) c rfl) h1
 | tup cs vs hl hr ih =>
  intro c hc
  cases c <;> simp only [ai, fI] at hc <;> cases hc
  exact .tup _ vs (by simpa using hl) (fun j c hj => ih j (ai m c) (by simp [hj]) c rfl)
 | fn f xs ys vs ws hl hr hl' hr' ih ih' =>
  intro c hc
  cases c <;> simp only [ai, fI] at hc <;> cases hc
  exact .fn f _ _ vs ws (by simpa using hl) (fun j c hj => ih j (ai m c) (by simp [hj]) c rfl) (by simpa using hl') (fun j c hj => ih' j (ai m c) (by simp [hj]) c rfl)
 | own k =>
  intro c hc
  cases c <;> simp only [ai] at hc <;> cases hc
  exact Rep.own (E := fun k => E (rn m k)) _
 | ptr k off =>
  intro c hc
  cases c <;> simp only [ai] at hc <;> cases hc
  exact Rep.ptr (E := fun k => E (rn m k)) _ _
 | eptr k i j =>
  intro c hc
  cases c <;> simp only [ai] at hc <;> cases hc
  exact Rep.eptr (E := fun k => E (rn m k)) _ _ _
 | inn k i =>
  intro c hc
  cases c <;> simp only [ai] at hc <;> cases hc
  exact Rep.inn (E := fun k => E (rn m k)) _ _
 | iptr k i n j =>
  intro c hc
  cases c <;> simp only [ai] at hc <;> cases hc
  exact Rep.iptr (E := fun k => E (rn m k)) _ _ _ _
theorem Rep.ren {m : List (Nat × Nat)} {E1 E' : Env} {ks : List Nat} {h : Array Obj} {c : C} {v : Value} (hr : Rep E1 U h c v) (hk : dm ks c) (he : ∀ k ∈ ks, E' (rn m k) = E1 k) : Rep E' U h (ai m c) v := by
 induction hr with
 | d hd =>
  cases hd with
  | any v => exact .d (.any _)
  | s v => exact .d (.s _)
  | sl0 sz a cap hc => exact .d (.sl0 _ _ _ hc)
  | sl es b off cap sz arr ty fz vf hU hb hcap hmax hsz hv hr => exact .d (.sl es b off cap sz arr ty fz vf hU hb hcap hmax hsz hv hr)
 | ref cs b off arr ty fz vf hU hb hv hr => exact .ref cs b off arr ty fz vf hU hb hv hr
 | agg cs vs hl hr h1 ih =>
  simp only [ai, fI]
  refine .agg _ vs (by simpa using hl) (fun j c hj => ?_) h1
  simp only [List.getElem?_map, Option.map_eq_some_iff] at hj
  obtain ⟨c0, h0, rfl⟩ := hj
  exact ih j c0 h0 (eJ (by simpa only [dm] using hk) c0 (List.mem_of_getElem? h0))
 | tup cs vs hl hr ih =>
  simp only [ai, fI]
  refine .tup _ vs (by simpa using hl) (fun j c hj => ?_)
  simp only [List.getElem?_map, Option.map_eq_some_iff] at hj
  obtain ⟨c0, h0, rfl⟩ := hj
  exact ih j c0 h0 (eJ (by simpa only [dm] using hk) c0 (List.mem_of_getElem? h0))
 | fn f xs ys vs ws hl hr hl' hr' ih ih' =>
  simp only [dm] at hk
  simp only [ai, fI]
  refine .fn f _ _ vs ws (by simpa using hl) (fun j c hj => ?_) (by simpa using hl') (fun j c hj => ?_)
  · simp only [List.getElem?_map, Option.map_eq_some_iff] at hj
    obtain ⟨c0, h0, rfl⟩ := hj
    exact ih j c0 h0 (eJ hk.1 c0 (List.mem_of_getElem? h0))
  · simp only [List.getElem?_map, Option.map_eq_some_iff] at hj
    obtain ⟨c0, h0, rfl⟩ := hj
    exact ih' j c0 h0 (eJ hk.2 c0 (List.mem_of_getElem? h0))
 | own k => simp only [dm] at hk; rw [← he k hk]; exact .own _
 | ptr k off => simp only [dm] at hk; rw [← he k hk]; exact .ptr _ off
 | eptr k i j => simp only [dm] at hk; rw [← he k hk]; exact .eptr _ i j
 | inn k i => simp only [dm] at hk; rw [← he k hk]; exact .inn _ i
 | iptr k i n j => simp only [dm] at hk; rw [← he k hk]; exact .iptr _ i n j
theorem zd {m : List (Nat × Nat)} {c : C} {n : Nat} {t : TypeId} {es : List (List C)} : ai m c = .isl n t es ↔ c = .isl n t es := by
 constructor
 · intro h; cases c <;> simp only [ai] at h <;> first | exact h | cases h
 · rintro rfl; rfl
theorem sA {m : List (Nat × Nat)} (cs : List C) : ff (cs.map (ai m)) = ff cs := by
 funext j
 simp only [ff, List.getElem?_map]
 cases hc : cs[j]? with
 | none => rfl
 | some c =>
  simp only [Option.map_some]
  cases c <;> rfl
theorem dy.unren {m : List (Nat × Nat)} {h : Array Obj} {k : Nat} {c : Ch} (hc : dy E U h (rn m k) (aH m c)) : dy (fun k => E (rn m k)) U h k c := by
 cases c with
 | box cs =>
  simp only [aH, dy, sA] at hc
  obtain ⟨⟨hn, arr, ty, b1, b2, b3⟩, hf, hin⟩ := hc
  refine ⟨⟨hn, arr, ty, b1, by simpa using b2, fun j c hj => ?_⟩, hf, hin⟩
  rcases b3 j (ai m c) (by simp [hj]) with ⟨r1, r2⟩ | ⟨⟨n, t, es, he⟩, r2⟩
  · exact .inl ⟨r1.unren c rfl, r2⟩
  · exact .inr ⟨⟨n, t, es, zd.1 he⟩, r2⟩
 | row sz ty es => exact hc
 | deep isz ity ty hole rows => exact hc
 | res R => exact hc
theorem dy.ren {m : List (Nat × Nat)} {E1 E' : Env} {ks : List Nat} {h : Array Obj} {k : Nat} {c : Ch} (hc : dy E1 U h k c) (hk : k ∈ ks) (hkc : iR ks c) (he : ∀ k ∈ ks, E' (rn m k) = E1 k) : dy E' U h (rn m k) (aH m c) := by
 cases c with
 | box cs =>
  obtain ⟨⟨hn, arr, ty, b1, b2, b3⟩, hf, hin⟩ := hc
  simp only [aH, dy, sA]
  rw [he k hk]
  refine ⟨⟨hn, arr, ty, b1, by simpa using b2, fun j c hj => ?_⟩, hf, hin⟩
  simp only [List.getElem?_map, Option.map_eq_some_iff] at hj
  obtain ⟨c0, h0, rfl⟩ := hj
  rcases b3 j c0 h0 with ⟨r1, r2⟩ | ⟨⟨n, t, es, rfl⟩, r2⟩
  · exact .inl ⟨r1.ren (eJ hkc c0 (List.mem_of_getElem? h0)) he, r2⟩
  · exact .inr ⟨⟨n, t, es, rfl⟩, r2⟩
 | row sz ty es => simp only [aH, dy] at hc ⊢; rw [he k hk]; exact hc
 | deep isz ity ty hole rows => simp only [aH, dy] at hc ⊢; rw [he k hk]; exact hc
 | res R => simp only [aH, dy] at hc ⊢; rw [he k hk]; exact hc
theorem dy.env {E E' : Env} {U : Nat → Prop} {h : Array Obj} {k : Nat} {c : Ch} {ks : List Nat} (hc : dy E U h k c) (hk : k ∈ ks) (hb : iR ks c) (he : ∀ k ∈ ks, E' k = E k) : dy E' U h k c := by
 cases c with
 | box cs =>
  obtain ⟨⟨hn, arr, ty, b1, b2, b3⟩, hf, hin⟩ := hc
  simp only [dy]
  rw [he k hk]
  refine ⟨⟨hn, arr, ty, b1, b2, fun j c hj => ?_⟩, hf, hin⟩
  rcases b3 j c hj with ⟨r1, r2⟩ | r
  · exact .inl ⟨r1.env (eJ hb c (List.mem_of_getElem? hj)) he, r2⟩
  · exact .inr r
 | _ => simp only [dy] at hc ⊢; rw [he k hk]; exact hc
theorem qM {α β : Type} {f : α → β} : ∀ {l : List α}, (l.map f).Nodup → ∀ a ∈ l, ∀ b ∈ l, f a = f b → a = b
 | [], _, a, h, _, _, _ => by simp at h
 | x :: l, hn, a, ha, b, hb, e => by
  simp only [List.map_cons, List.nodup_cons] at hn
  rcases List.mem_cons.1 ha with h1 | h1 <;> rcases List.mem_cons.1 hb with h2 | h2
  · rw [h1, h2]
  · exact absurd (List.mem_map.2 ⟨b, h2, by rw [← e, h1]⟩) hn.1
  · exact absurd (List.mem_map.2 ⟨a, h1, by rw [e, h2]⟩) hn.1
  · exact qM hn.2 a h1 b h2 e
theorem kY {α β : Type} {f : α → β} : ∀ {l : List α}, l.Nodup → (∀ a ∈ l, ∀ b ∈ l, f a = f b → a = b) → (l.map f).Nodup
 | [], _, _ => by simp
 | x :: l, hn, hi => by
  simp only [List.nodup_cons] at hn
  simp only [List.map_cons, List.nodup_cons]
  refine ⟨fun h => ?_, kY hn.2 (fun a ha b hb => hi a (List.mem_cons_of_mem _ ha) b (List.mem_cons_of_mem _ hb))⟩
  obtain ⟨y, hy, e⟩ := List.mem_map.1 h
  have := hi y (List.mem_cons_of_mem _ hy) x List.mem_cons_self e
  exact hn.1 (this ▸ hy)
theorem nD {α β : Type} {f : α → β} : ∀ {l : List α}, (l.map f).Nodup → l.Nodup
 | [], _ => by simp
 | x :: l, hn => by
  simp only [List.map_cons, List.nodup_cons] at hn
  exact List.nodup_cons.2 ⟨fun h => hn.1 (List.mem_map.2 ⟨x, h, rfl⟩), nD hn.2⟩
theorem FC.ren [Glob P] {f : FuncId} {args : List C} {chs : Chs} {r : C} {chs' : Chs} (hf : FC P f args chs r chs') (m : List (Nat × Nat)) (ks : List Nat) (hm : (ks.map (rn m)).Nodup)
 (hks : ∀ k c, (k, c) ∈ chs → k ∈ ks) (hks' : ∀ k c, (k, c) ∈ chs' → k ∈ ks ∧ iR ks c) (hr : dm ks r) : FC P f (args.map (ai m)) (ap m chs) (ai m r) (ap m chs') := by
 refine ⟨hf.1, fun E U vs w hg ha hi => ?_⟩
 have inj := qM hm
 have hargs : mE (fun k => E (rn m k)) U w.heap args vs := ⟨by simpa using ha.1, fun j c hj => (ha.2 j (ai m c) (by simp [hj])).unren c rfl⟩
 have hinv : Inv (fun k => E (rn m k)) U w.heap chs := by
  refine ⟨?_, fun k c hc => (hi.ok _ _ (fu hc)).unren, fun k c k' c' hc hc' hne b hb => ?_, fun k c hc => hi.out _ _ (fu hc), fun k c hc => hi.fpl _ _ (fu hc), hi.lt⟩
  · have := hi.nd
    rw [gB, List.map_map] at this
    have e : ((fun x : Nat × Ch => x.1) ∘ fun p : Nat × Ch => (rn m p.1, aH m p.2)) = (fun k => rn m k) ∘ (fun x : Nat × Ch => x.1) := rfl
    rw [e, ← List.map_map] at this
    exact nD this
  · exact hi.sep _ _ _ _ (fu hc) (fu hc') (fun e => hne (inj k (hks k c hc) k' (hks k' c' hc') e)) b hb
 refine (hf.2 _ U vs w hg hargs hinv).mono fun e w' h => ?_
 obtain ⟨v, E1', U', rfl, hrep, hce⟩ := h
 let E' : Env := fun j => match ks.find? (fun k => rn m k == j) with | some k => E1' k | none => E j
 have hE : ∀ k ∈ ks, E' (rn m k) = E1' k := fun k hk => by
  simp only [E']
  cases hfnd : ks.find? (fun k' => rn m k' == rn m k) with
  | none =>
   have := List.find?_eq_none.1 hfnd k hk
   simp at this
  | some k' =>
   have h1 := List.find?_some hfnd
   have h2 := List.mem_of_find?_eq_some hfnd
   have := inj k' h2 k hk (by simpa using h1)
   rw [this]
 refine ⟨v, E', U', rfl, hrep.ren hr hE, hce.os, hce.tape, hce.output, hce.size, hce.keep, fun b hb h => hce.rest b hb (fun k c hc => h _ _ (fu hc)), fun k c hc b hb => ?_, fun b hb => ?_, fun k cs hc hex => ?_, ?_⟩
 · obtain ⟨k0, c0, h0, rfl, rfl⟩ := fd hc
   rw [hE k0 (hks' k0 c0 h0).1] at hb
   rcases hce.live k0 c0 h0 b hb with g | ⟨k1, c1, g1, g2⟩
   · exact .inl g
   · exact .inr ⟨_, _, fu g1, g2⟩
 · rcases hce.newU b hb with g | g | ⟨k1, c1, g1, g2⟩
   · exact .inl g
   · exact .inr (.inl g)
   · exact .inr (.inr ⟨_, _, fu g1, g2⟩)
 · obtain ⟨k0, c0, h0, rfl, hcs⟩ := fd hc
   obtain ⟨c, hc2⟩ := hex
   obtain ⟨k1, c1, h1, e1, _⟩ := fd hc2
   have := inj k0 (hks' k0 c0 h0).1 k1 (hks k1 c1 h1) e1
   subst this
   cases c0 with
   | box cs0 =>
    obtain ⟨⟨cs1, g1⟩, g2⟩ := hce.boxes k0 cs0 h0 ⟨c1, h1⟩
    exact ⟨⟨_, fu g1⟩, by rw [hE k0 (hks' k0 _ h0).1]; exact g2⟩
   | _ => cases hcs
 · refine ⟨?_, fun k c hc => ?_, fun k c k' c' hc hc' hne b hb => ?_, fun k c hc b hb => ?_, fun k c hc b hb => ?_, hce.inv.lt⟩
   · rw [gB, List.map_map]
     have e : ((fun x : Nat × Ch => x.1) ∘ fun p : Nat × Ch => (rn m p.1, aH m p.2)) = (fun k => rn m k) ∘ (fun x : Nat × Ch => x.1) := rfl
     rw [e, ← List.map_map]
     exact kY hce.inv.nd (fun a ha b hb => inj a (by obtain ⟨⟨k, c⟩, h1, rfl⟩ := List.mem_map.1 ha; exact (hks' k c h1).1) b (by obtain ⟨⟨k, c⟩, h1, rfl⟩ := List.mem_map.1 hb; exact (hks' k c h1).1))
   · obtain ⟨k0, c0, h0, rfl, rfl⟩ := fd hc
     exact (hce.inv.ok k0 c0 h0).ren (hks' k0 c0 h0).1 (hks' k0 c0 h0).2 hE
   · obtain ⟨k0, c0, h0, rfl, rfl⟩ := fd hc
     obtain ⟨k1, c1, h1, rfl, rfl⟩ := fd hc'
     rw [hE k0 (hks' k0 c0 h0).1] at hb
     rw [hE k1 (hks' k1 c1 h1).1]
     exact hce.inv.sep k0 c0 k1 c1 h0 h1 (fun e => hne (by rw [e])) b hb
   · obtain ⟨k0, c0, h0, rfl, rfl⟩ := fd hc
     rw [hE k0 (hks' k0 c0 h0).1] at hb
     exact hce.inv.out k0 c0 h0 b hb
   · obtain ⟨k0, c0, h0, rfl, rfl⟩ := fd hc
     rw [hE k0 (hks' k0 c0 h0).1] at hb
     exact hce.inv.fpl k0 c0 h0 b hb
end Go.Am
end
section
namespace Go.Am
variable {P : Program} {E : Env} {U : Nat → Prop} {w : World} {ch : Chs} {d : Nat}
def FW (ro : Option Nat) : Fence := { Fence.wide with round := ro }
theorem room_FW (ro : Option Nat) (n : Nat) : (FW ro).room n := fun _ h => by simp [FW, Fence.wide] at h
theorem pX {ro : Option Nat} {n : Nat} {f : FuncId} {args : Array Value} {w : World} {R : Ending → World → Prop} (h : Calls P f args w R) : CallsIn (FW ro) n P f args w R :=
 (callsIn_wide (n := n)).2 h
theorem y9 {ro : Option Nat} {n : Nat} {f : FuncId} {args : Array Value} {w : World} {R : Ending → World → Prop} (h : CallsIn (FW ro) n P f args w R) : Calls P f args w R :=
 h.calls (fun k => room_FW ro k)
theorem zl {ro : Option Nat} {a : Act} {o : Oper} {v : Value} {w' : World} {K : Act → World → Prop} {Q : Exit → Act → World → Prop} (hnd : ∀ c, o.op ≠ .defer c) (hr : (execOp a.eval o).run P w = .ok (.value v) w') (hK : K (a.put o.dst v) w') : o.wpIn (FW ro) 0 P a w K Q :=
 ⟨fun _ _ => trivial, by rw [Oper.semAt_eq _ _ _ hnd, hr]; exact hK⟩
theorem op_skip {ro : Option Nat} {a : Act} {o : Oper} {w' : World} {K : Act → World → Prop} {Q : Exit → Act → World → Prop} (hnd : ∀ c, o.op ≠ .defer c) (hr : (execOp a.eval o).run P w = .ok .skip w') (hK : K (a.put o.dst undef) w') : o.wpIn (FW ro) 0 P a w K Q :=
 ⟨fun _ _ => trivial, by rw [Oper.semAt_eq _ _ _ hnd, hr]; exact hK⟩
def bj : C → Option (FuncId × List C × List C)
 | .fn (.func f) xs ys => some (f, xs, ys)
 | .s (.func (.func f) xs ys) => some (f, xs.toList.map .s, ys.toList.map .s)
 | .s (.func (.via _ _ f _) _ _) => (fun _ => none) f
 | _ => none
theorem tR {c : C} {f : FuncId} {xs ys : List C} {v : Value} {h : Array Obj} (hc : bj c = some (f, xs, ys)) (hr : Rep E U h c v) :
 ∃ vs ws : Array Value, v = .func (.func f) vs ws ∧ vs.size = xs.length ∧ (∀ (j : Nat) c, xs[j]? = some c → Rep E U h c (vs.getD j undef)) ∧ ws.size = ys.length ∧ (∀ (j : Nat) c, ys[j]? = some c → Rep E U h c (ws.getD j undef)) := by
 unfold bj at hc
 split at hc
 · cases hc; exact wE hr
 · rename_i f' vs ws
   cases hc
   have g : ∀ a : Array Value, ∀ (j : Nat) c, (a.toList.map C.s)[j]? = some c → Rep E U h c (a.getD j undef) := fun a j c hj => by
    simp only [List.getElem?_map, Option.map_eq_some_iff, Array.getElem?_toList] at hj
    obtain ⟨v, h1, rfl⟩ := hj
    rw [eF h1]; exact .d (.s v)
   exact ⟨vs, ws, dx hr, by simp, g vs, by simp, g ws⟩
 · cases hc
 · cases hc
def cP (ch : Chs) (k i : Nat) : Option (Prop × C) := (aZ ch k i).map fun (p, n, _, es) => (p, .sl n es)
def aC (ch : Chs) (bs : List Nat) : C → C
 | .own k =>
  if bs.contains k then
   match (lk ch k).bind bI with
   | some x => x
   | none => .own k
  else .own k
 | .inn k i =>
  if bs.contains k then
   match cP ch k i with
   | some (_, x) => x
   | none => .inn k i
  else .inn k i
 | .agg cs => .agg (viewCs ch bs cs)
 | c => c
where viewCs (ch : Chs) (bs : List Nat) : List C → List C
 | [] => []
 | c :: cs => aC ch bs c :: viewCs ch bs cs
def aQ (ch : Chs) (bs : List Nat) : C → Prop
 | .inn k i =>
  if bs.contains k then
   match cP ch k i with
   | some (p, _) => p
   | none => True
  else True
 | .agg cs => viewOks ch bs cs
 | _ => True
where viewOks (ch : Chs) (bs : List Nat) : List C → Prop
 | [] => True
 | c :: cs => aQ ch bs c ∧ viewOks ch bs cs
theorem q5 (bs : List Nat) : ∀ cs, aC.viewCs ch bs cs = cs.map (aC ch bs)
 | [] => by simp [aC.viewCs]
 | c :: cs => by simp [aC.viewCs, q5 bs cs]
theorem lH {bs : List Nat} : ∀ {cs : List C}, aQ.viewOks ch bs cs → ∀ c ∈ cs, aQ ch bs c
 | [], _, c, h => by simp at h
 | x :: xs, hf, c, h => by
  simp only [aQ.viewOks] at hf
  rcases List.mem_cons.1 h with h | h
  · rw [h]; exact hf.1
  · exact lH hf.2 c h
def aM : C → Prop
 | .s _ => True
 | .sl _ es => es = []
 | .agg cs => flatCs cs
 | .tup cs => flatCs cs
 | .own _ => True
 | .ptr _ _ => True
 | _ => False
where flatCs : List C → Prop
 | [] => True
 | c :: cs => aM c ∧ flatCs cs
theorem jk : ∀ {cs : List C}, aM.flatCs cs → ∀ c ∈ cs, aM c
 | [], _, c, h => by simp at h
 | x :: xs, hf, c, h => by
  simp only [aM.flatCs] at hf
  rcases List.mem_cons.1 h with h | h
  · rw [h]; exact hf.1
  · exact jk hf.2 c h
def bF : Ch → Prop
 | .box cs => aM.flatCs cs
 | .row _ _ es => ∀ e ∈ es, ∀ c ∈ e, ∃ v, c = .s v
 | _ => False
theorem RepD.flat {U U' : Nat → Prop} {h : Array Obj} {c : C} {v : Value} (hr : RepD U h c v) (hf : aM c) : RepD U' h c v := by
 cases hr with
 | any => simp [aM] at hf
 | s v => exact .s v
 | sl0 sz a cap hc => exact .sl0 sz a cap hc
 | sl es b off cap sz arr ty fz vf hU hb hcap hmax hsz hv hr =>
  simp only [aM] at hf
  subst hf
  exact .sl0 sz _ cap hmax
theorem Rep.flat {U U' : Nat → Prop} {h : Array Obj} {c : C} {v : Value} (hr : Rep E U h c v) (hf : aM c) : Rep E U' h c v := by
 induction hr with
 | d hd => exact .d (hd.flat hf)
 | ref => simp [aM] at hf
 | agg cs vs hl hr h1 ih => exact .agg cs vs hl (fun j c hj => ih j c hj (jk (by simpa only [aM] using hf) c (List.mem_of_getElem? hj))) h1
 | tup cs vs hl hr ih => exact .tup cs vs hl (fun j c hj => ih j c hj (jk (by simpa only [aM] using hf) c (List.mem_of_getElem? hj)))
 | fn => simp [aM] at hf
 | own k => exact .own k
 | ptr k off => exact .ptr k off
 | eptr k i j => exact .eptr k i j
 | inn k i => exact .inn k i
 | iptr k i n j => exact .iptr k i n j
theorem dy.flat {U U' : Nat → Prop} {h : Array Obj} {k : Nat} {c : Ch} (hc : dy E U h k c) (hf : bF c) : dy E U' h k c := by
 cases c with
 | box cs =>
  obtain ⟨⟨hn, arr, ty, h1, h2, h3⟩, hfp, hin⟩ := hc
  have hno : ∀ (j : Nat) c, cs[j]? = some c → aE c = true := fun j c hj => by
   have := jk hf c (List.mem_of_getElem? hj)
   cases c <;> first | rfl | simp [aM] at this
  refine ⟨⟨hn, arr, ty, h1, h2, fun j c hj => ?_⟩, hfp, fun i n t es hi => by rw [lw hno] at hi; cases hi⟩
  rcases h3 j c hj with ⟨r1, r2⟩ | r
  · exact .inl ⟨r1.flat (jk hf c (List.mem_of_getElem? hj)), r2⟩
  · exact .inr r
 | row sz ty es =>
  obtain ⟨⟨h1, h2, h3, h4⟩, hfp⟩ := hc
  refine ⟨⟨h1, h2, h3, ?_⟩, hfp⟩
  rcases h4 with h4 | ⟨h4, h5, h6, arr, h7, h8, h9⟩
  · exact .inl h4
  · refine .inr ⟨h4, h5, h6, arr, h7, h8, fun i e j c he hj => ?_⟩
    obtain ⟨v, rfl⟩ := hf e (List.mem_of_getElem? he) c (List.mem_of_getElem? hj)
    exact ⟨(h9 i e j _ he hj).1.flat trivial, (h9 i e j _ he hj).2⟩
 | _ => exact hf.elim
def az (nk : List Nat) : Chs → List (Nat × Sb)
 | [] => nk.map fun k => (k, .c .any)
 | (k, .box _) :: r => (k, .inner) :: az nk r
 | (k, _) :: r => (k, .c .any) :: az nk r
theorem j0 {nk : List Nat} : ∀ {chs : Chs} {k : Nat} {s : Sb}, (az nk chs).lookup k = some s → s = .c .any ∨ (s = .inner ∧ ∃ cs, (k, Ch.box cs) ∈ chs)
 | [], k, s, h => by
  simp only [az] at h
  left
  induction nk with
  | nil => simp at h
  | cons x l ih =>
   simp only [List.map_cons, List.lookup_cons] at h
   split at h
   · cases h; rfl
   · exact ih h
 | (j, .box cs) :: r, k, s, h => by
  simp only [az, List.lookup_cons] at h
  split at h
  · rename_i hb
    have : k = j := by simpa using hb
    subst this; cases h
    exact .inr ⟨rfl, cs, List.mem_cons_self⟩
  · rcases j0 h with g | ⟨g, cs', g'⟩
    · exact .inl g
    · exact .inr ⟨g, cs', List.mem_cons_of_mem _ g'⟩
 | (j, .row sz ty es) :: r, k, s, h | (j, .deep _ _ _ _ _) :: r, k, s, h | (j, .res _) :: r, k, s, h => by
  simp only [az, List.lookup_cons] at h
  split at h
  · cases h; exact .inl rfl
  · rcases j0 h with g | ⟨g, cs', g'⟩
    · exact .inl g
    · exact .inr ⟨g, cs', List.mem_cons_of_mem _ g'⟩
theorem oz {nk : List Nat} : ∀ {chs : Chs} {k : Nat}, (az nk chs).lookup k = none → k ∉ nk ∧ ∀ c, (k, c) ∉ chs
 | [], k, h => by
  simp only [az] at h
  refine ⟨fun hm => ?_, fun c h => by simp at h⟩
  rw [List.lookup_eq_none_iff] at h
  have := h (k, .c .any) (List.mem_map.2 ⟨k, hm, rfl⟩)
  simp at this
 | (j, c0) :: r, k, h => by
  have g : (az nk r).lookup k = none ∧ k ≠ j := by
   cases c0 <;> simp only [az, List.lookup_cons] at h <;> split at h <;> first | cases h | (rename_i hb; exact ⟨h, fun e => by subst e; simp at hb⟩)
  obtain ⟨h1, h2⟩ := oz g.1
  exact ⟨h1, fun c hm => by
   rcases List.mem_cons.1 hm with hm | hm
   · cases hm; exact g.2 rfl
   · exact h2 c hm⟩
def bz {α : Type} (t : List (Nat × α)) : List Nat → List (Nat × α)
 | [] => t
 | k :: ks => bz (af t k) ks
theorem sy {α : Type} : ∀ (ks : List Nat) (t : List (Nat × α)), (bz t ks).Sublist t
 | [], t => List.Sublist.refl _
 | k :: ks, t => (sy ks _).trans (eE t k)
theorem sw {α : Type} : ∀ {ks : List Nat} {t : List (Nat × α)} {k : Nat} {c : α}, (t.map (·.1)).Nodup → (k, c) ∈ bz t ks → (k, c) ∈ t ∧ k ∉ ks
 | [], t, k, c, _, h => ⟨h, by simp⟩
 | x :: ks, t, k, c, hn, h => by
  obtain ⟨h1, h2⟩ := sw (gO hn) h
  refine ⟨eY h1, fun hm => ?_⟩
  rcases List.mem_cons.1 hm with hm | hm
  · exact dL hn (hm ▸ h1)
  · exact h2 hm
def aV (ch chs chs' : Chs) (nk : List Nat) : Chs :=
 match chs, chs', nk with
 | [], [], [] => ch
 | _, _, _ => chs' ++ ag (az nk chs) (bz (aD ch chs) nk)
structure CallR (P : Program) [Glob P] (ρ : Operand → C) (ch : Chs) (d : Nat) (fo : Operand) (aS : List Operand) (r : C) (chs chs' : Chs) (nk : List Nat) : Prop where
 ex : ∃ f first caps bs, bj (ρ fo) = some (f, first, caps) ∧ FC P f ((first ++ aS.map ρ ++ caps).map (aC ch bs)) chs r chs' ∧ (∀ c ∈ first ++ aS.map ρ ++ caps, aQ ch bs c) ∧
  (∀ k c, (k, c) ∈ chs → lk ch k = some c ∧ k ∉ bs ∧ k ∉ nk) ∧ (bs = [] ∨ (aM r ∧ ∀ k c, (k, c) ∈ chs' → bF c))
 nd : (chs.map (·.1)).Nodup
 hnk : ∀ k cs, (k, .box cs) ∈ chs' → k ∈ nk → k < 100000
 new : ∀ k c, (k, c) ∈ chs' → k ∈ nk ∨ ∃ c0, (k, c0) ∈ chs
 old : ∀ k cs, (k, .box cs) ∈ chs → ∃ cs', (k, .box cs') ∈ chs'
 kr : dm (chs'.map (·.1)) r
 kc : ∀ k c, (k, c) ∈ chs' → iR (chs'.map (·.1)) c
def lv (E : Env) (U : Nat → Prop) (ch : Chs) (bs : List Nat) : Nat → Prop := fun b => U b ∨ ∃ k c, k ∈ bs ∧ lk ch k = some c ∧ (E k).fp b
theorem yI {bs : List Nat} {c : C} {v : Value} (hi : Inv E U w.heap ch) (hr : Rep E U w.heap c v) : aQ ch bs c → Rep E (lv E U ch bs) w.heap (aC ch bs c) v := by
 have hk : ∀ b, U b → lv E U ch bs b ∧ w.heap[b]? = w.heap[b]? := fun b hb => ⟨.inl hb, rfl⟩
 have up : ∀ c v, Rep E U w.heap c v → Rep E (lv E U ch bs) w.heap c v := fun c v h => h.same hk
 induction hr with
 | d hd => intro _; cases hd <;> simp only [aC] <;> exact up _ _ (.d (by first | exact .any _ | exact .s _ | exact .sl0 _ _ _ ‹_› | exact .sl _ _ _ _ _ _ _ _ _ ‹_› ‹_› ‹_› ‹_› ‹_› ‹_› ‹_›))
 | ref cs b off arr ty fz vf hU hb hv hr => intro _; exact up _ _ (.ref cs b off arr ty fz vf hU hb hv hr)
 | agg cs vs hl hr h1 ih =>
  intro ho
  simp only [aC, q5]
  simp only [aQ] at ho
  refine .agg _ vs (by simpa using hl) (fun j c hj => ?_) h1
  simp only [List.getElem?_map, Option.map_eq_some_iff] at hj
  obtain ⟨c0, h0, rfl⟩ := hj
  exact ih j c0 h0 (lH ho c0 (List.mem_of_getElem? h0))
 | tup cs vs hl hr ih => intro _; exact up _ _ (.tup cs vs hl hr)
 | fn f xs ys vs ws hl hr hl' hr' => intro _; exact up _ _ (.fn f xs ys vs ws hl hr hl' hr')
 | own k =>
  intro _
  simp only [aC]
  by_cases hb : bs.contains k = true
  · rw [if_pos hb]
    cases hl : (lk ch k).bind bI with
    | none => exact up _ _ (.own k)
    | some x =>
     simp only [Option.bind_eq_some_iff] at hl
     obtain ⟨c0, hl, hx⟩ := hl
     exact .d (oU (hi.ok k _ (du hl)) hx (Rep.own (E := E) (U := U) (h := w.heap) k) hk (fun b hf => ⟨.inr ⟨k, c0, by simpa using hb, hl, hf⟩, rfl⟩))
  · rw [if_neg hb]; exact up _ _ (.own k)
 | ptr k off => intro _; exact up _ _ (.ptr k off)
 | eptr k i j => intro _; exact up _ _ (.eptr k i j)
 | iptr k i n j => intro _; exact up _ _ (.iptr k i n j)
 | inn k i =>
  intro ho
  simp only [aC]
  simp only [aQ] at ho
  by_cases hb : bs.contains k = true
  · rw [if_pos hb] at ho ⊢
    cases hl : cP ch k i with
    | none => exact up _ _ (.inn k i)
    | some q =>
     rw [hl] at ho
     obtain ⟨p, x⟩ := q
     simp only at ho
     simp only [cP, Option.map_eq_some_iff] at hl
     obtain ⟨⟨p', n, t, es⟩, hl, hq⟩ := hl
     simp only [Prod.mk.injEq] at hq
     obtain ⟨rfl, rfl⟩ := hq
     obtain ⟨c0, hl0, hI, _, hres⟩ := iF hl ho
     have hck := hi.ok k _ (du hl0)
     obtain ⟨hf, hin⟩ := hck.inns hres
     exact .d (mC (hin i _ _ _ hI) hk (fun hn => ⟨.inr ⟨k, c0, by simpa using hb, hl0, (hf.fp _).2 (.inr ⟨i, _, hI, hn, rfl⟩)⟩, rfl⟩))
  · rw [if_neg hb]; exact up _ _ (.inn k i)
theorem nw {f : FuncId} {args : Array Value} (hf : FnOk P f) : (callFunc f args).run P w = .ok (.enter f args) w := by
 obtain ⟨fn, h1, h2, h3⟩ := hf
 have h2' : ¬ ((fn.name == "runtime.NumGoroutine") = true) := by rw [h2]; simp
 have h3' : ¬ (fn.body.isNone = true) := by rw [h3]; simp
 simp only [callFunc, Sem.run_bind, run_program, Result.andThen_ok, h1]
 rw [if_neg h2', if_neg h3']
 rfl
variable [Glob P] in
theorem oy {ro : Option Nat} {a : Act} {o : Oper} {fo : Operand} {aS : Array Operand} {ts : Array TypeId} {ρ : Operand → C} {r : C} {chs chs' : Chs} (hi : Inv E U w.heap ch) (hg : gm P U w.heap) (hρ : ∀ x, Rep E U w.heap (ρ x) (a.eval x))
 (ho : o.op = .call { callee := .value fo, args := aS, argTypes := ts }) {nk : List Nat} (hc : CallR P ρ ch d fo aS.toList r chs chs' nk) {K : Act → World → Prop} {Q : Exit → Act → World → Prop}
 (hK : ∀ v E' U' w', Rep E' U' w'.heap r v → Ev E U w ch (az nk chs) d E' U' w' (aV ch chs chs' nk) → (∀ k c, (k, c) ∈ ch → (∀ c0, (k, c0) ∉ chs) → ∀ b, (E k).fp b → w'.heap[b]? = w.heap[b]?) → K (a.put o.dst v) w') : o.wpIn (FW ro) 0 P a w K Q := by
 obtain ⟨⟨f, first, caps, bs, hfo, hFC, hvo, hchs, hflat⟩, hnd, hnkd, hnew, hold, hkr, hkc⟩ := hc
 obtain ⟨hfn, hFC⟩ := hFC
 obtain ⟨fv, cv, hev, hl1, hr1, hl2, hr2⟩ := tR hfo (hρ fo)
 have hargs : mE E (lv E U ch bs) w.heap ((first ++ aS.toList.map ρ ++ caps).map (aC ch bs)) (fv ++ aS.map a.eval ++ cv) := by
  refine ⟨by simp [hl1, hl2], fun j c hj => ?_⟩
  simp only [List.getElem?_map, Option.map_eq_some_iff] at hj
  obtain ⟨c0, h0, rfl⟩ := hj
  refine yI hi ?_ (hvo c0 (List.mem_of_getElem? h0))
  simp only [Array.getD_eq_getD_getElem?]
  rw [List.append_assoc, List.getElem?_append] at h0
  rw [Array.append_assoc, Array.getElem?_append, hl1]
  split at h0
  · rename_i hlt
    rw [if_pos hlt]
    have := hr1 j c0 h0
    simpa [Array.getD_eq_getD_getElem?] using this
  · rename_i hlt
    rw [if_neg hlt, Array.getElem?_append]
    rw [List.getElem?_append] at h0
    simp only [Array.size_map]
    simp only [List.length_map, Array.length_toList] at h0
    split at h0
    · rename_i hlt2
      rw [if_pos hlt2]
      simp only [List.getElem?_map, Option.map_eq_some_iff, Array.getElem?_toList] at h0
      obtain ⟨x, hx, rfl⟩ := h0
      simp [hx, hρ x]
    · rename_i hlt2
      rw [if_neg hlt2]
      have := hr2 _ c0 h0
      simpa [Array.getD_eq_getD_getElem?] using this
 have hmem : ∀ k c, (k, c) ∈ chs → (k, c) ∈ ch := fun k c h => du (hchs k c h).1
 have hi1 := hi.sub hmem hnd
 have hlent : ∀ b, lv E U ch bs b → b < w.heap.size := fun b hb => by
  rcases hb with hb | ⟨k, c, h1, h2, h3⟩
  · exact hi.lt b hb
  · exact hi.fpl k c (du h2) b h3
 have hup : ∀ b, U b → lv E U ch bs b ∧ w.heap[b]? = w.heap[b]? := fun b hb => ⟨.inl hb, rfl⟩
 have hi2 : Inv E (lv E U ch bs) w.heap chs := by
  refine ⟨hi1.nd, fun k c hc => (hi1.ok k c hc).same hup (fun _ _ => rfl), hi1.sep, fun k c hc b hb hu => ?_, hi1.fpl, hlent⟩
  rcases hu with hu | ⟨k', c', g1, g2, g3⟩
  · exact hi1.out k c hc b hb hu
  · have hne : k ≠ k' := fun e => (hchs k c hc).2.1 (e ▸ g1)
    exact hi.sep k c k' _ (hmem k c hc) (du g2) hne b hb g3
 have hcall := hFC E (lv E U ch bs) _ w (hg.mono hup) hargs hi2
 have hrun : (execOp a.eval o).run P w = .ok (.enter f (fv ++ aS.map a.eval ++ cv)) w := by
  simp only [execOp, ho, resolve, hev, Deferred.ofValue, Sem.run_bind, Sem.run_pure, Result.andThen_ok, invoke, nw hfn]
 refine ⟨fun _ _ => trivial, ?_⟩
 rw [Oper.semAt_eq _ _ _ (by rw [ho]; simp), hrun, Oper.uponIn_enter]
 refine ⟨fun h => by simp [FW, Fence.wide] at h, pX (hcall.mono fun e w' h => ?_)⟩
 obtain ⟨v, E', U', rfl, hrep, hce⟩ := h
 show K (a.put o.dst v) w'
 let ks := chs'.map (·.1)
 let E2 : Env := fun k => if k ∈ ks then E' k else E k
 have hE2in : ∀ k ∈ ks, E2 k = E' k := fun k hk => by simp only [E2, if_pos hk]
 have hE2out : ∀ k, k ∉ ks → E2 k = E k := fun k hk => by simp only [E2, if_neg hk]
 let U2 : Nat → Prop := fun b => U' b ∧ ¬ ∃ k c, k ∈ bs ∧ lk ch k = some c ∧ (E k).fp b
 have hnotlent : ∀ b, U b → ¬ ∃ k c, k ∈ bs ∧ lk ch k = some c ∧ (E k).fp b := fun b hb => by
  rintro ⟨k, c, h1, h2, h3⟩
  exact hi.out k _ (du h2) b h3 hb
 have hkeep : ∀ b, U b → U2 b ∧ w'.heap[b]? = w.heap[b]? := fun b hb => ⟨⟨(hce.keep b (.inl hb)).1, hnotlent b hb⟩, (hce.keep b (.inl hb)).2⟩
 have hr2 : Rep E2 U2 w'.heap r v := by
  have h1 := hrep.env hkr hE2in
  rcases hflat with hb | hf
  · exact h1.same fun b hb' => ⟨⟨hb', by rintro ⟨k, c, h1, _⟩; rw [hb] at h1; cases h1⟩, rfl⟩
  · exact h1.flat hf.1
 have hok2 : ∀ k c', (k, c') ∈ chs' → dy E2 U2 w'.heap k c' := fun k c' hm => by
  have h1 := (hce.inv.ok k c' hm).env (List.mem_map.2 ⟨_, hm, rfl⟩) (hkc k c' hm) hE2in
  rcases hflat with hb | hf
  · exact h1.same (fun b hb' => ⟨⟨hb', by rintro ⟨k, c, h1, _⟩; rw [hb] at h1; cases h1⟩, rfl⟩) (fun _ _ => rfl)
  · exact h1.flat (hf.2 k c' hm)
 have hkeyOld : ∀ k ∈ ks, k ∉ nk → ∃ c0, (k, c0) ∈ chs := fun k hk hd => by
  obtain ⟨⟨k', c'⟩, h1, h2⟩ := List.mem_map.1 hk
  simp only at h2
  subst h2
  rcases hnew k' c' h1 with h | h
  · exact absurd h hd
  · exact h
 have henv : ∀ k, (az nk chs).lookup k = none → E2 k = E k := fun k hk => by
  obtain ⟨h1, h2⟩ := oz hk
  refine hE2out k fun hm => ?_
  obtain ⟨c0, hc0⟩ := hkeyOld k hm h1
  exact h2 c0 hc0
 have henvI : ∀ k, (az nk chs).lookup k = some .inner → (E2 k).toKE0 = (E k).toKE0 := fun k hk => by
  rcases j0 hk with h | ⟨_, cs, h⟩
  · cases h
  · obtain ⟨cs', hc'⟩ := hold k cs h
    rw [hE2in k (List.mem_map.2 ⟨_, hc', rfl⟩)]
    exact (hce.boxes k cs' hc' ⟨_, h⟩).2
 have hsubv : ∀ k c', (az nk chs).lookup k = some (.c c') → ∀ v, Rep E U w.heap (.own k) v → Rep E2 U2 w'.heap c' v := fun k c' h v _ => by
  rcases j0 h with h | ⟨h, _⟩
  · cases h; exact .d (.any v)
  · cases h
 have hnd2 : ((aD ch chs).map (·.1)).Nodup := hi.nd.sublist ((kK chs ch).map _)
 have hdos : (bz (aD ch chs) nk).Sublist ch := (sy nk _).trans (kK chs ch)
 have hrestm : ∀ k c, (k, c) ∈ bz (aD ch chs) nk → (k, c) ∈ ch ∧ k ∉ nk ∧ ∀ c0, (k, c0) ∉ chs := fun k c hm => by
  obtain ⟨h1, h1'⟩ := sw hnd2 hm
  obtain ⟨h2, h3⟩ := mQ hi.nd h1
  refine ⟨h2, h1', fun c0 hc0 => ?_⟩
  have := List.lookup_eq_none_iff.1 h3 (k, c0) hc0
  simp at this
 have hE2rest : ∀ k c, (k, c) ∈ bz (aD ch chs) nk → E2 k = E k := fun k c hm => by
  obtain ⟨h1, h2, h3⟩ := hrestm k c hm
  refine hE2out k fun hk => ?_
  obtain ⟨c0, hc0⟩ := hkeyOld k hk h2
  exact h3 c0 hc0
 have hks : ∀ k c, (k, c) ∈ chs' → k ∈ ks := fun k c h => List.mem_map.2 ⟨_, h, rfl⟩
 have hnotin : ∀ k c, (k, c) ∈ chs → ∀ c', (k, c') ∉ bz (aD ch chs) nk := fun k c h c' h' => (hrestm k c' h').2.2 c h
 have hcc : ∀ k c, (k, c) ∈ aV ch chs chs' nk ↔ (k, c) ∈ chs' ++ ag (az nk chs) (bz (aD ch chs) nk) := fun k c => by
  unfold aV
  split
  · simp only [List.nil_append, az, aD, bz, List.map_nil]
    rw [nB]
  · exact Iff.rfl
 have hccn : ((aV ch chs chs' nk).map (·.1)).Nodup ∨ True := .inr trivial
 have hgen := Ev.gen (news := chs') (old := bz (aD ch chs) nk) (m := az nk chs) (d := d) (E' := E2) (U' := U2) (w1 := w') hi hce.os hce.tape hce.output hce.size hdos hkeep henv henvI hsubv hE2rest
  (fun k c hm b hb => by
   obtain ⟨h1, h2, h3⟩ := hrestm k c hm
   exact hce.rest b (hi.fpl k c h1 b hb) (fun k' c' h' hb' => hi.sep k' c' k c (hmem k' c' h') h1 (fun e2 => h3 c' (e2 ▸ h')) b hb' hb))
  (fun b hb1 hb2 => hce.rest b hb1 (fun k c h => hb2 k c (hmem k c h))) hce.inv.nd
  (fun k c h c' h' => by
   obtain ⟨h1, h2, h3⟩ := hrestm k c' h'
   obtain ⟨c0, hc0⟩ := hkeyOld k (hks k c h) h2
   exact h3 c0 hc0) hok2
  (fun k c h b hb => by
   rw [hE2in k (hks k c h)] at hb
   rcases hce.live k c h b hb with g | ⟨k0, c0, g1, g2⟩
   · exact .inl g
   · exact .inr ⟨k0, c0, hmem k0 c0 g1, hnotin k0 c0 g1, g2⟩)
  (fun k c h b hb => by rw [hE2in k (hks k c h)] at hb; exact hce.inv.fpl k c h b hb)
  (fun k c k' c' h h' hne b hb => by
   rw [hE2in k (hks k c h)] at hb
   rw [hE2in k' (hks k' c' h')]
   exact hce.inv.sep k c k' c' h h' hne b hb)
  (fun b hb => by
   rcases hce.newU b hb.1 with h | h | ⟨k0, c0, g1, g2⟩
   · rcases h with h | ⟨k', c', g1, g2, g3⟩
     · exact .inl h
     · exact absurd ⟨k', c', g1, g2, g3⟩ hb.2
   · exact .inr (.inl h)
   · exact .inr (.inr ⟨k0, c0, hmem k0 c0 g1, hnotin k0 c0 g1, g2⟩))
  (fun k c h b hb hu => by
   rw [hE2in k (hks k c h)] at hb
   exact hce.inv.out k c h b hb hu.1) (fun b hb => hce.inv.lt b hb.1)
  (fun k cs h => by
   by_cases hk : k ∈ nk
   · exact .inl (.inr (hnkd k cs h hk))
   · right
     obtain ⟨c0, hc0⟩ := hkeyOld k (hks k _ h) hk
     obtain ⟨⟨cs0, h1⟩, h2⟩ := hce.boxes k cs h ⟨c0, hc0⟩
     exact ⟨⟨cs0, hmem k _ h1⟩, by rw [hE2in k (hks k _ h)]; exact h2⟩)
 refine hK v E2 U2 w' hr2 (hgen.chs (fun k c h => (hcc k c).1 h) ?_) (fun k c h1 h3 b hb => hce.rest b (hi.fpl k c h1 b hb) (fun k' c' h' hb' => hi.sep k' c' k c (hmem k' c' h') h1 (fun e2 => h3 c' (e2 ▸ h')) b hb' hb))
 have hn := hgen.inv.nd
 unfold aV
 split
 · exact hi.nd
 · exact hn
variable [Glob P] in
theorem vZ {ro : Option Nat} {a : Act} {o : Oper} {fo : Operand} {aS : Array Operand} {ts : Array TypeId} {ρ : Operand → C} {r : C} {chs chs' : Chs} (hi : Inv E U w.heap ch) (hg : gm P U w.heap) (hρ : ∀ x, Rep E U w.heap (ρ x) (a.eval x))
 (ho : o.op = .call { callee := .value fo, args := aS, argTypes := ts }) {nk : List Nat} (hc : CallR P ρ ch d fo aS.toList r chs chs' nk) {K : Act → World → Prop} {Q : Exit → Act → World → Prop}
 (hK : ∀ v E' U' w', Rep E' U' w'.heap r v → Ev E U w ch (az nk chs) d E' U' w' (aV ch chs chs' nk) → K (a.put o.dst v) w') : o.wpIn (FW ro) 0 P a w K Q :=
 oy hi hg hρ ho hc fun v E' U' w' h1 h2 _ => hK v E' U' w' h1 h2
def mf : C → Bool
 | .s _ => true
 | .sl _ _ => true
 | .ref _ => true
 | .fn _ [] [] => true
 | _ => false
def fF : Chs → Bool
 | [] => true
 | (_, .box cs) :: r => cs.all mf && fF r
 | _ :: _ => false
theorem lP {c : C} (h : mf c = true) : dm [] c ∧ aE c = true := by
 cases c with
 | fn f xs ys =>
  cases xs with
  | nil => cases ys with
   | nil => exact ⟨⟨trivial, trivial⟩, rfl⟩
   | cons => cases h
  | cons => cases h
 | _ => first | exact ⟨trivial, rfl⟩ | cases h
theorem lj : ∀ {chs : Chs} {k : Nat} {c : Ch}, fF chs = true → (k, c) ∈ chs → ∃ cs, c = .box cs ∧ ∀ x ∈ cs, mf x = true
 | [], _, _, _, h => by simp at h
 | (j, c0) :: r, k, c, h, hm => by
  cases c0 with
  | box cs =>
   simp only [fF, Bool.and_eq_true] at h
   rcases List.mem_cons.1 hm with hm | hm
   · cases hm; exact ⟨cs, rfl, List.all_eq_true.1 h.1⟩
   · exact lj h.2 hm
  | _ => cases h
theorem pF {cs : List C} (h : ∀ x ∈ cs, mf x = true) : ff cs = noI := lw fun j c hj => (lP (h c (List.mem_of_getElem? hj))).2
variable [Glob P] in
theorem uF {ro : Option Nat} {a : Act} {o : Oper} {fo : Operand} {aS : Array Operand} {ts : Array TypeId} {ρ : Operand → C} {r : C} {chs : Chs} (hi : Inv E U w.heap ch) (hg : gm P U w.heap) (hρ : ∀ x, Rep E U w.heap (ρ x) (a.eval x))
 (ho : o.op = .call { callee := .value fo, args := aS, argTypes := ts }) (hc : CallR P ρ ch d fo aS.toList r chs chs []) (hp : fF chs = true) (hr : dm [] r) {K : Act → World → Prop} {Q : Exit → Act → World → Prop}
 (hK : ∀ v E' U' w', Rep E' U' w'.heap r v → Ev E U w ch [] d E' U' w' ch → K (a.put o.dst v) w') : o.wpIn (FW ro) 0 P a w K Q :=
 oy hi hg hρ ho hc fun v E' U' w' hrep he hsame => by
  have hmem : ∀ k c, (k, c) ∈ chs → (k, c) ∈ ch := by
   obtain ⟨⟨f, first, caps, bs, hfo, hFC, hvo, hchs, hflat⟩, _⟩ := hc
   exact fun k c h => du (hchs k c h).1
  have hcc : ∀ k c, (k, c) ∈ chs → (k, c) ∈ aV ch chs chs [] := fun k c h => by
   unfold aV
   split
   · simp at h
   · exact List.mem_append.2 (.inl h)
  have hsub : ∀ k c, (k, c) ∈ chs → ∃ cs, c = .box cs ∧ (∀ x ∈ cs, mf x = true) ∧ (E' k).toKE0 = (E k).toKE0 := fun k c h => by
   obtain ⟨cs, rfl, h2⟩ := lj hp h
   refine ⟨cs, rfl, h2, ?_⟩
   rcases he.boxes k cs (hcc k _ h) with _ | ⟨_, h3⟩
   · refine he.envI k ?_
     have : ∀ {l : Chs}, fF l = true → (k, .box cs) ∈ l → (az [] l).lookup k = some .inner := by
      intro l
      induction l with
      | nil => intro _ h; simp at h
      | cons q l ih =>
       intro hl hm
       obtain ⟨j, c0⟩ := q
       cases c0 with
       | box cs0 =>
        simp only [fF, Bool.and_eq_true] at hl
        simp only [az, List.lookup_cons]
        split
        · rfl
        · rename_i hb
          rcases List.mem_cons.1 hm with hm | hm
          · cases hm; simp at hb
          · exact ih hl.2 hm
       | _ => cases hl
     exact this hp h
   · exact h3
  refine hK v E U' w' (hrep.env hr (fun k hk => by simp at hk)) ⟨he.os, he.tape, he.output, he.size, he.keep, fun _ _ => rfl, fun _ _ => rfl, fun k c' h => by simp at h, he.rest, fun k c h b hb => .inr ⟨k, c, h, hb⟩, he.newU, fun k cs h => .inr ⟨⟨cs, h⟩, rfl⟩, hi.nd, fun k c h => ?_, hi.sep, fun k c h b hb hu => ?_, fun k c h b hb => Nat.lt_of_lt_of_le (hi.fpl k c h b hb) he.size, he.inv.lt⟩
  · by_cases hk : ∃ c0, (k, c0) ∈ chs
    · obtain ⟨c0, hc0⟩ := hk
      have e0 : c0 = c := by
       have h1 := e7 hi.nd (hmem k c0 hc0)
       have h2 := e7 hi.nd h
       rw [h1] at h2; exact Option.some.inj h2
      subst e0
      obtain ⟨cs, rfl, hpl, hke⟩ := hsub k c0 hc0
      obtain ⟨⟨b1, arr, ty, b2, b3, b4⟩, _, _⟩ := he.inv.ok k _ (hcc k _ hc0)
      obtain ⟨_, f1, _⟩ := hi.ok k _ h
      have hbI := pF hpl
      simp only [dy]
      refine ⟨⟨by rw [← hke]; exact b1, arr, ty, by rw [← hke]; exact b2, b3, fun j c hj => ?_⟩, f1, fun i n t es h => by rw [hbI] at h; cases h⟩
      have hx := lP (hpl c (List.mem_of_getElem? hj))
      rcases b4 j c hj with b4 | ⟨⟨n, t, es, rfl⟩, _⟩
      · exact .inl ⟨b4.1.env hx.1 (fun k hk => by simp at hk), b4.2⟩
      · cases hx.2
    · exact (hi.ok k c h).same he.keep (hsame k c h (fun c0 h0 => hk ⟨c0, h0⟩))
  · by_cases hk : ∃ c0, (k, c0) ∈ chs
    · obtain ⟨c0, hc0⟩ := hk
      obtain ⟨cs, rfl, hpl, hke⟩ := hsub k c0 hc0
      have hbI := pF hpl
      have g1 := (hi.ok k _ (hmem k _ hc0)).2.1
      have g2 := (he.inv.ok k _ (hcc k _ hc0)).2.1
      rw [hbI] at g1 g2
      refine he.inv.out k _ (hcc k _ hc0) b ((g2.fp b).2 ?_) hu
      rcases (g1.fp b).1 hb with ⟨x1, x2⟩ | ⟨i, q, x, _⟩
      · left; rw [hke]; exact ⟨x1, x2⟩
      · cases x
    · rcases he.newU b hu with g | g | ⟨k0, c0, g1, g2⟩
      · exact hi.out k c h b hb g
      · have := hi.fpl k c h b hb; omega
      · have mdA : ∀ {l t : Chs}, (t.map (·.1)).Nodup → (k, c) ∈ t → (∀ c0, (k, c0) ∉ l) → (k, c) ∈ aD t l := by
         intro l
         induction l with
         | nil => intro t _ h _; exact h
         | cons q l ih =>
          intro t hn ht hl
          obtain ⟨j, c1⟩ := q
          exact ih (gO hn) (kj hn ht (fun e => hl c1 (e ▸ List.mem_cons_self))) (fun c0 h0 => hl c0 (List.mem_cons_of_mem _ h0))
        have hk' : ∀ c0, (k, c0) ∉ chs := fun c0 h0 => hk ⟨c0, h0⟩
        have hnone : (az [] chs).lookup k = none := by
         have : ∀ {l : Chs}, (∀ c0, (k, c0) ∉ l) → (az [] l).lookup k = none := by
          intro l
          induction l with
          | nil => intro _; rfl
          | cons q l ih =>
           intro hl
           obtain ⟨j, c1⟩ := q
           have hb : (k == j) = false := by
            simp only [beq_eq_false_iff_ne]
            intro e; exact hl c1 (e ▸ List.mem_cons_self)
           have := ih (fun c0 h0 => hl c0 (List.mem_cons_of_mem _ h0))
           cases c1 <;> simp only [az, List.lookup_cons, hb] <;> exact this
         exact this hk'
        have hm2 : ∃ c', (k, c') ∈ aV ch chs chs [] := by
         unfold aV
         split
         · exact ⟨c, h⟩
         · refine ⟨_, List.mem_append.2 (.inr (gI _ _ ▸ List.mem_map.2 ⟨(k, c), mdA hi.nd h hk', rfl⟩))⟩
        obtain ⟨c', hm2⟩ := hm2
        exact he.inv.out k c' hm2 b (by rw [he.env k hnone]; exact hb) hu
end Go.Am
end
section
namespace Go.Am
variable {P : Program} {E : Env} {U : Nat → Prop} {w : World} {ch : Chs} {d : Nat}
def aw (P : Program) [Glob P] (t : dz) : Operand → C
 | .tmp i => gt t i
 | .const v => .s v
 | .global g => match lk (Glob.gl P) g with | some cs => .ref cs | none => .s (.pointer (some ⟨g, 0, none⟩))
 | .func f => .fn (.func f) [] []
def AOp.reads : AOp → List Operand
 | .ext _ aS => aS
 | .mv x | .mvs x | .box x | .nilc x | .un _ x | .cvi _ x | .cvs x | .conv _ _ x | .faddr _ x | .field _ _ _ x | .extr x _ | .len _ x | .load _ _ x => [x]
 | .alloc _ => []
 | .pick c a b => [c, a, b]
 | .build _ ps => ps.map (·.2.2)
 | .mkSl _ _ _ _ _ ps => ps.map (·.2)
 | .store _ _ a x | .bin _ _ a x | .beq _ _ a x | .makeSl _ _ _ _ a x | .iaddr _ _ a x | .iarr _ _ a x | .istr a x | .app _ _ _ _ _ a x => [a, x]
 | .mkFn _ xs ys => xs ++ ys
 | .ssl _ x lo hi mx => [x] ++ lo.toList ++ hi.toList ++ mx.toList
 | .sstr x lo hi => [x] ++ lo.toList ++ hi.toList
 | .call f aS => f :: aS
 | .bi _ _ _ aS => aS
 | .opq o _ => o.operands.toList
theorem j9 {ρ ρ' : Operand → C} {o : Option Operand} {n : Int} (h : ∀ x ∈ o.toList, ρ x = ρ' x) : aT ρ o n = aT ρ' o n := by
 cases o with
 | none => rfl
 | some x => simp only [aT]; rw [h x (by simp)]
theorem qT {ρ ρ' : Operand → C} {op : AOp} (h : ∀ x ∈ op.reads, ρ x = ρ' x) : ak ρ ch d op = ak ρ' ch d op := by
 cases op <;> simp only [AOp.reads, List.mem_cons, List.not_mem_nil, or_false, forall_eq_or_imp, forall_eq, List.mem_append, List.cons_append, List.nil_append] at h
 case build z ps =>
  simp only [ak]
  have : (ps.map fun (a, b, x) => (a, b, ρ x)) = ps.map fun (a, b, x) => (a, b, ρ' x) := List.map_congr_left fun p hp => by
   obtain ⟨a, b, x⟩ := p
   simp only [h x (List.mem_map.2 ⟨_, hp, rfl⟩)]
  rw [this]
 case mkSl own ty sz z len ps =>
  simp only [ak]
  have : (ps.map fun (i, x) => (i, ρ x)) = ps.map fun (i, x) => (i, ρ' x) := List.map_congr_left fun p hp => by
   obtain ⟨i, x⟩ := p
   simp only [h x (List.mem_map.2 ⟨_, hp, rfl⟩)]
  simp only at this
  rw [this]
 case ext e aS =>
  simp only [ak]
  rw [List.map_congr_left h]
 case mkFn f xs ys =>
  simp only [ak]
  rw [List.map_congr_left (fun x hx => h x (.inl hx)), List.map_congr_left (fun x hx => h x (.inr hx))]
 case ssl sz x lo hi mx =>
  simp only [ak]
  have h1 : ∀ n, aT ρ lo n = aT ρ' lo n := fun n => j9 fun y hy => h.2 y (.inl (.inl hy))
  have h2 : ∀ n, aT ρ hi n = aT ρ' hi n := fun n => j9 fun y hy => h.2 y (.inl (.inr hy))
  have h3 : ∀ n, aT ρ mx n = aT ρ' mx n := fun n => j9 fun y hy => h.2 y (.inr hy)
  simp only [h.1, h1, h2, h3]
 case sstr x lo hi =>
  simp only [ak]
  have h1 : ∀ n, aT ρ lo n = aT ρ' lo n := fun n => j9 fun y hy => h.2 y (.inl hy)
  have h2 : ∀ n, aT ρ hi n = aT ρ' hi n := fun n => j9 fun y hy => h.2 y (.inr hy)
  simp only [h.1, h1, h2]
 all_goals first | rfl | (simp only [ak, h])
inductive OpR (P : Program) [Glob P] (ρ : Operand → C) (ch : Chs) (d : Nat) : AOp → Eff → Prop
 | f {op : AOp} {ef : Eff} (h : ak ρ ch d op = some ef) (hc : ef.cond) : OpR P ρ ch d op ef
 | call {fo : Operand} {aS : List Operand} {r : C} {chs chs' : Chs} {nk : List Nat} (h : CallR P ρ ch d fo aS r chs chs' nk) : OpR P ρ ch d (.call fo aS) ⟨True, r, aV ch chs chs' nk, az nk chs⟩
 | callK {fo : Operand} {aS : List Operand} {r : C} {chs : Chs} (h : CallR P ρ ch d fo aS r chs chs []) (hp : fF chs = true) (hr : dm [] r) : OpR P ρ ch d (.call fo aS) ⟨True, r, ch, []⟩
def OpM (P : Program) [Glob P] (ro : Option Nat) (ρ : Operand → C) (ch : Chs) (d : Nat) (op : AOp) (outs : List Eff) : Prop :=
 ∀ (own : Bool) (o : Oper) (a : Act) (E : Env) (U : Nat → Prop) (w : World), ib P own o.op o.type = some op → Inv E U w.heap ch → gm P U w.heap → (∀ x ∈ op.reads, Rep E U w.heap (ρ x) (a.eval x)) →
  ∀ (K : Act → World → Prop) (Q : Exit → Act → World → Prop), (∀ ef ∈ outs, ∀ v E' U' w', Rep E' U' w'.heap ef.v v → Ev E U w ch ef.sub d E' U' w' ef.ch → K (a.put o.dst v) w') → o.wpIn (FW ro) 0 P a w K Q
theorem dK.wp {ro : Option Nat} {a : Act} {o : Oper} {ef : Eff} (hnd : ∀ c, o.op ≠ .defer c) (hg : dK P E U w ch d (execOp a.eval o) ef) {K : Act → World → Prop} {Q : Exit → Act → World → Prop}
 (hK : ∀ v E' U' w', Rep E' U' w'.heap ef.v v → Ev E U w ch ef.sub d E' U' w' ef.ch → K (a.put o.dst v) w') : o.wpIn (FW ro) 0 P a w K Q := by
 obtain ⟨v, E', U', w', hr, h1, h2⟩ := hg
 rcases hr with hr | ⟨hr, rfl⟩
 · exact zl hnd hr (hK v E' U' w' h1 h2)
 · exact op_skip hnd hr (hK _ E' U' w' h1 h2)
theorem rr {own : Bool} {op : Op} {ty : TypeId} {fo : Operand} {aS : List Operand} (h : ee P own op ty = some (.call fo aS)) : ∃ args ts, op = .call { callee := .value fo, args := args, argTypes := ts } ∧ args.toList = aS := by
 cases op with
 | call c =>
  obtain ⟨callee, args, argTypes⟩ := c
  cases callee with
  | value f => simp only [ee, Option.some.injEq, AOp.call.injEq] at h; obtain ⟨rfl, rfl⟩ := h; exact ⟨args, argTypes, rfl, rfl⟩
  | invoke r m => simp [ee] at h
  | builtin b =>
   exfalso
   cases b <;> simp only [ee] at h
   case append =>
    split at h
    · split at h
      · simp only [Option.bind_eq_some_iff] at h
        obtain ⟨i, _, z, _, h⟩ := h
        split at h <;> cases h
      · cases h
    · cases h
   case len =>
    split at h
    · split at h <;> cases h
    · cases h
   all_goals cases h
 | buildSlice t len parts =>
  simp only [ee] at h
  split at h
  · simp only [Option.bind_eq_some_iff] at h
    obtain ⟨i, _, z, _, h⟩ := h
    split at h <;> cases h
  · cases h
 | build t parts => simp [ee, Option.bind_eq_some_iff] at h
 | load t x => simp [ee, Option.bind_eq_some_iff] at h
 | binOp b t x y yt =>
  simp only [ee] at h
  split at h <;> cases h
 | convert s t x =>
  simp only [ee] at h
  split at h <;> cases h
 | makeSlice t l c =>
  simp only [ee] at h
  split at h
  · simp only [Option.bind_eq_some_iff] at h
    obtain ⟨i, _, z, _, h⟩ := h
    split at h <;> cases h
  · cases h
 | slice t x lo hi mx =>
  simp only [ee] at h
  split at h <;> simp at h
 | fieldAddr t x f =>
  simp only [ee] at h
  split at h
  · simp only [Option.bind_eq_some_iff] at h
    obtain ⟨i, _, z, _, h⟩ := h
    split at h <;> cases h
  · cases h
 | field t x f =>
  simp only [ee] at h
  split at h
  · simp [Option.bind_eq_some_iff] at h
  · cases h
 | indexAddr t x i =>
  simp only [ee] at h
  split at h
  · simp [Option.bind_eq_some_iff] at h
  · simp at h
  · cases h
 | index t x i =>
  simp only [ee] at h
  split at h <;> cases h
 | move x => cases own <;> simp [ee] at h
 | assign x => cases own <;> simp [ee] at h
 | _ => simp [ee] at h
theorem lc {own : Bool} {op : Op} {ty : TypeId} {fo : Operand} {aS : List Operand} (h : ib P own op ty = some (.call fo aS)) : ∃ args ts, op = .call { callee := .value fo, args := args, argTypes := ts } ∧ args.toList = aS := by
 unfold ib at h
 split at h
 · cases h
 · exact rr h
theorem zP {own : Bool} {op : Op} {ty : TypeId} {aop : AOp} {ρ : Operand → C} {ef : Eff} (h : ib P own op ty = some aop) (hf : ak ρ ch d aop = some ef) : ∀ c, op ≠ .defer c := by
 rintro c rfl
 simp only [ib, n6, ee, Option.some.injEq] at h
 subst h
 simp [ak] at hf
def only (P : Program) [Glob P] (ts : List Operand) (t : dz) : Operand → C
 | .tmp i => if (ts.any fun x => match x with | .tmp j => j == i | _ => false) then gt t i else .any
 | x => aw P t x
variable [Glob P]
theorem ml {ts : List Operand} {t : dz} {x : Operand} (hx : x ∈ ts) : only P ts t x = aw P t x := by
 cases x with
 | tmp i =>
  simp only [only, aw]
  rw [if_pos (List.any_eq_true.2 ⟨.tmp i, hx, by simp⟩)]
 | _ => rfl
theorem tJ {U : Nat → Prop} {h : Array Obj} (hg : gm P U h) (t : dz) (g : Nat) : Rep E U h (aw P t (.global g)) (.pointer (some ⟨g, 0, none⟩)) := by
 simp only [aw]
 cases hl : lk (Glob.gl P) g with
 | none => exact .d (.s _)
 | some cs => exact hg.1 g cs hl E
theorem pf {ts : List Operand} {t : dz} {a : Act} {h : Array Obj} (hg : gm P U h) (hρ : ∀ x ∈ ts, Rep E U h (aw P t x) (a.eval x)) (x : Operand) : Rep E U h (only P ts t x) (a.eval x) := by
 cases x with
 | tmp i =>
  simp only [only]
  split
  · rename_i hm
    obtain ⟨y, hy, h2⟩ := List.any_eq_true.1 hm
    cases y with
    | tmp j =>
     have : j = i := by simpa using h2
     subst this
     exact hρ _ hy
    | _ => simp at h2
  · exact .d (.any _)
 | const v => exact .d (.s v)
 | global g => exact tJ hg t g
 | func f => exact .fn _ _ _ _ _ rfl (fun j c h => by simp at h) rfl (fun j c h => by simp at h)
theorem OpR.sound {ro : Option Nat} {t : dz} {op : AOp} {ef : Eff} (h : OpR P (aw P t) ch d op ef) {own : Bool} {o : Oper} {a : Act} (hc : ib P own o.op o.type = some op) (hi : Inv E U w.heap ch) (hg : gm P U w.heap) (hρ : ∀ x ∈ op.reads, Rep E U w.heap (aw P t x) (a.eval x))
 {K : Act → World → Prop} {Q : Exit → Act → World → Prop} (hK : ∀ v E' U' w', Rep E' U' w'.heap ef.v v → Ev E U w ch ef.sub d E' U' w' ef.ch → K (a.put o.dst v) w') : o.wpIn (FW ro) 0 P a w K Q := by
 cases h with
 | f h hcond =>
  have e : ak (only P op.reads t) ch d op = some ef := by rw [← h]; exact qT fun x hx => ml hx
  exact (wT hi (pf hg hρ) hc e hcond).wp (zP hc h) hK
 | call h =>
  rename_i fo aS r chs chs' nk
  obtain ⟨args, ts, ho, ha⟩ := lc hc
  subst ha
  have e1 : only P (AOp.call fo args.toList).reads t fo = aw P t fo := ml (by simp [AOp.reads])
  have e2 : args.toList.map (only P (AOp.call fo args.toList).reads t) = args.toList.map (aw P t) := List.map_congr_left fun x hx => ml (by simp only [AOp.reads]; exact List.mem_cons_of_mem _ hx)
  refine vZ (ρ := only P (AOp.call fo args.toList).reads t) (r := r) (chs := chs) (chs' := chs') (nk := nk) hi hg (pf hg hρ) ho ⟨?_, h.nd, h.hnk, h.new, h.old, h.kr, h.kc⟩ hK
  rw [e1, e2]; exact h.ex
 | callK h hp hr =>
  rename_i fo aS r chs
  obtain ⟨args, ts, ho, ha⟩ := lc hc
  subst ha
  have e1 : only P (AOp.call fo args.toList).reads t fo = aw P t fo := ml (by simp [AOp.reads])
  have e2 : args.toList.map (only P (AOp.call fo args.toList).reads t) = args.toList.map (aw P t) := List.map_congr_left fun x hx => ml (by simp only [AOp.reads]; exact List.mem_cons_of_mem _ hx)
  refine uF (ρ := only P (AOp.call fo args.toList).reads t) (r := r) (chs := chs) hi hg (pf hg hρ) ho ⟨?_, h.nd, h.hnk, h.new, h.old, h.kr, h.kc⟩ hp hr hK
  rw [e1, e2]; exact h.ex
end Go.Am
end
section
namespace Go.Am
variable {P : Program} [Glob P] {E : Env} {U : Nat → Prop} {w : World}
structure Cx where
 n : Nat
 A0 : Nat → Prop
 w0 : World
 X : Nat → Prop
 E0 : Env
 hn : n ≤ 100000
 ro : Option Nat
 hid : List (Nat × Obj)
 lo : Nat
 hi : Nat
 hlo : 100000 ≤ lo
def Cx.fx (cx : Cx) (k : Nat) : Prop := cx.lo ≤ k ∧ k < cx.hi
theorem Cx.fx_ge {cx : Cx} {k : Nat} (h : cx.fx k) : 100000 ≤ k := Nat.le_trans cx.hlo h.1
def jA (E : Env) (U : Nat → Prop) (h : Array Obj) (ch : Chs) (b : Nat) (o : Obj) : Prop := h[b]? = some o ∧ ¬ U b ∧ ∀ k c, (k, c) ∈ ch → ¬ (E k).fp b
theorem jA.ev {E E' : Env} {U U' : Nat → Prop} {w w' : World} {ch ch' : Chs} {m : List (Nat × Sb)} {d b : Nat} {o : Obj} (hh : jA E U w.heap ch b o) (he : Ev E U w ch m d E' U' w' ch') : jA E' U' w'.heap ch' b o := by
 obtain ⟨h1, h2, h3⟩ := hh
 have hlt := lt_of_getElem? h1
 refine ⟨(he.rest b hlt h3).trans h1, fun hu => ?_, fun k c hm hf => ?_⟩
 · rcases he.newU b hu with g | g | ⟨k0, c0, g1, g2⟩
   · exact h2 g
   · omega
   · exact h3 k0 c0 g1 g2
 · rcases he.live k c hm b hf with g | ⟨k0, c0, g1, g2⟩
   · omega
   · exact h3 k0 c0 g1 g2
def ip (D : Nat) : Deferred := { target := .collected D, args := #[] }
def bB (m : List (Nat × Sb)) (t : dz) : dz :=
 match m with
 | [] => t
 | m => t.map fun p => (p.1, aj m p.2)
def bw (dst : Option Nat) (m : List (Nat × Sb)) (v : C) (t : dz) : dz :=
 match dst with
 | some d => ar (bB m t) d v
 | none => bB m t
theorem mg (m : List (Nat × Sb)) (t : dz) (i : Nat) : gt (bB m t) i = aj m (gt t i) := by
 cases m with
 | nil => simp only [bB, dW]
 | cons x m =>
  simp only [bB]
  induction t with
  | nil => rfl
  | cons p t ih =>
   obtain ⟨j, c⟩ := p
   simp only [List.map_cons, gt, lk] at ih ⊢
   split
   · rfl
   · exact ih
theorem je (t : dz) (i : Nat) (c : C) (j : Nat) : gt (ar t i c) j = if i = j then c else gt t j := by
 simp only [gt, qC]
 split <;> rfl
structure Holds (P : Program) [Glob P] (cx : Cx) (E : Env) (U : Nat → Prop) (a : Act) (w : World) (st : ASt) : Prop where
 sz : a.tmps.size = cx.n
 df : ∃ Ds : List Nat, a.defers = Ds.map ip ∧ Ds.Nodup ∧ ∀ D ∈ Ds, cx.w0.heap.size ≤ D ∧ jA E U w.heap st.ch D (.deferred (some []))
 tok : ∀ i, Rep E U w.heap (gt st.t i) (a.tmps.getD i undef)
 inv : Inv E U w.heap st.ch
 os : w.os = cx.w0.os
 tape : w.tape = cx.w0.tape
 output : w.output = cx.w0.output
 size : cx.w0.heap.size ≤ w.heap.size
 fr : ∀ b, b < cx.w0.heap.size → ¬ cx.X b → w.heap[b]? = cx.w0.heap[b]?
 keepA : ∀ b, cx.A0 b → U b ∧ w.heap[b]? = cx.w0.heap[b]?
 live : ∀ k c, (k, c) ∈ st.ch → ∀ b, (E k).fp b → cx.w0.heap.size ≤ b ∨ cx.X b
 base : ∀ b, U b → cx.A0 b ∨ cx.w0.heap.size ≤ b ∨ cx.X b
 fix : ∀ k cs, cx.fx k → (k, .box cs) ∈ st.ch → (E k).toKE0 = (cx.E0 k).toKE0
 hid : ∀ p ∈ cx.hid, jA E U w.heap st.ch p.1 p.2
 gok : gm P U w.heap
def aA (dst : Option Nat) (ef : Eff) (st : ASt) : ASt := ⟨bw dst ef.sub ef.v st.t, ef.ch⟩
theorem Holds.ev {cx : Cx} {a : Act} {st : ASt} (hh : Holds P cx E U a w st) (x : Operand) : Rep E U w.heap (aw P st.t x) (a.eval x) := by
 cases x with
 | tmp i => exact hh.tok i
 | const v => exact .d (.s v)
 | global g => exact tJ hh.gok st.t g
 | func f => exact .fn _ _ _ _ _ rfl (fun j c h => by simp at h) rfl (fun j c h => by simp at h)
theorem Holds.onDf {cx : Cx} {a : Act} {st : ASt} (hh : Holds P cx E U a w st) {m : List (Nat × Sb)} {d : Nat} {E' : Env} {U' : Nat → Prop} {w' : World} {ch' : Chs} (he : Ev E U w st.ch m d E' U' w' ch') :
 ∃ Ds : List Nat, a.defers = Ds.map ip ∧ Ds.Nodup ∧ ∀ D ∈ Ds, cx.w0.heap.size ≤ D ∧ jA E' U' w'.heap ch' D (.deferred (some [])) := by
 obtain ⟨Ds, h1, h2, h3⟩ := hh.df
 exact ⟨Ds, h1, h2, fun D hD => ⟨(h3 D hD).1, (h3 D hD).2.ev he⟩⟩
theorem Holds.step {cx : Cx} {a : Act} {st : ASt} {dst : Option Nat} {ef : Eff} {vc : Value} {E' : Env} {U' : Nat → Prop} {w' : World} (hh : Holds P cx E U a w st) (hd : ∀ d, dst = some d → d < cx.n)
 (hr : Rep E' U' w'.heap ef.v vc) (he : Ev E U w st.ch ef.sub (dst.getD 0) E' U' w' ef.ch) : Holds P cx E' U' (a.put dst vc) w' (aA dst ef st) where
 sz := by cases dst <;> simp [Act.put, hh.sz]
 df := by
  have := hh.onDf he
  cases dst <;> exact this
 tok := fun i => by
  cases dst with
  | none => simp only [aA, bw, Act.put, mg]; exact he.rep (hh.tok i)
  | some d =>
   simp only [aA, bw, Act.put, je, mg]
   have hdn := hd d rfl
   by_cases hi : d = i
   · subst hi
     rw [if_pos rfl, eF (v := vc) (by rw [Array.getElem?_setIfInBounds]; simp [hh.sz, hdn])]
     exact hr
   · rw [if_neg hi]
     have : (a.tmps.setIfInBounds d vc).getD i undef = a.tmps.getD i undef := by simp [Array.getD_eq_getD_getElem?, Array.getElem?_setIfInBounds_ne hi]
     rw [this]; exact he.rep (hh.tok i)
 inv := he.inv
 os := he.os.trans hh.os
 tape := he.tape.trans hh.tape
 output := he.output.trans hh.output
 size := Nat.le_trans hh.size he.size
 fr := fun b hb hx => (he.rest b (Nat.lt_of_lt_of_le hb hh.size) (fun k c hm e => by
  rcases hh.live k c hm b e with h | h
  · omega
  · exact hx h)).trans (hh.fr b hb hx)
 keepA := fun b hb => ⟨(he.keep b (hh.keepA b hb).1).1, (he.keep b (hh.keepA b hb).1).2.trans (hh.keepA b hb).2⟩
 live := fun k c hm b hn => by
  rcases he.live k c hm b hn with h | ⟨k0, c0, h1, h2⟩
  · exact .inl (Nat.le_trans hh.size h)
  · exact hh.live k0 c0 h1 b h2
 base := fun b hb => by
  rcases he.newU b hb with h | h | ⟨k0, c0, h1, h2⟩
  · exact hh.base b h
  · exact .inr (.inl (Nat.le_trans hh.size h))
  · rcases hh.live k0 c0 h1 b h2 with h | h
    · exact .inr (.inl h)
    · exact .inr (.inr h)
 fix := fun k cs hk hm => by
  rcases he.boxes k cs hm with h | ⟨⟨cs0, h1⟩, h2⟩
  · have : dst.getD 0 < 100000 := by
     cases dst with
     | none => simp
     | some d => have := hd d rfl; have := cx.hn; simp; omega
    have := Cx.fx_ge hk
    omega
  · exact h2.trans (hh.fix k cs0 hk h1)
 hid := fun p hp => (hh.hid p hp).ev he
 gok := hh.gok.mono he.keep
def fU (t : dz) : Option (Nat × Bool) → Option Bool
 | none => some true
 | some (s, want) =>
  match gt t s with
  | .s (.bool b) => some (b == want)
  | .s _ => some false
  | _ => none
inductive StepE (P : Program) [Glob P] (o : AO) (st : ASt) : Eff → Prop
 | yes (ef : Eff) (h : fU st.t o.guard = some true) (hr : OpR P (aw P st.t) st.ch (o.dst.getD 0) o.op ef) : StepE P o st ef
 | no (h : fU st.t o.guard = some false) : StepE P o st ⟨True, .s undef, st.ch, []⟩
def jJ (P : Program) [Glob P] (dr : Bool) : List AO → ASt → ASt → Prop
 | [], s, s' => s' = s
 | o :: os, s, s' => ∃ ef, StepE P o s ef ∧ (dr = true → o.tot = true ∨ (ef.ch = s.ch ∧ ef.sub = [])) ∧ jJ P dr os (aA o.dst ef s) s'
theorem ln {ops : Array Oper} {o : Oper} {ao : AO} {own tot : Bool} {t : dz} {tmps : Array Value} {h : Array Obj} {n : Nat} {b : Bool} (hc : n9 P own tot ops o = some ao) (hsz : tmps.size = n) (hg : ∀ d want, ao.guard = some (d, want) → d < n)
 (htok : ∀ d want, ao.guard = some (d, want) → Rep E U h (gt t d) (tmps.getD d undef)) (hw : fU t ao.guard = some b) : Region.wanted o (yielded ops tmps) = b := by
 simp only [n9, Option.bind_eq_some_iff] at hc
 obtain ⟨aop, h1, h2⟩ := hc
 cases hgd : o.guard with
 | none =>
  simp only [hgd, Option.some.injEq] at h2
  subst h2
  simp only [fU, Option.some.injEq] at hw
  simp [Region.wanted, hgd, ← hw]
 | some jw =>
  obtain ⟨j, want⟩ := jw
  simp only [hgd, Option.map_eq_some_iff] at h2
  obtain ⟨d, hd, rfl⟩ := h2
  have hdn := hg d want rfl
  have hr := htok d want rfl
  simp only [Region.wanted, hgd, yielded, hd, Option.bind_some]
  have ht : tmps[d]? = some (tmps.getD d undef) := by
   have hlt : d < tmps.size := by omega
   simp [Array.getD_eq_getD_getElem?, Array.getElem?_eq_getElem hlt]
  rw [ht]
  simp only [fU] at hw
  split at hw
  · rename_i b' hb
    cases hw
    rw [hb] at hr
    rw [dx hr]
    cases b' <;> cases want <;> rfl
  · rename_i v hnb hv
    cases hw
    rw [hv] at hr
    rw [dx hr]
    cases v <;> first | rfl | exact (hnb _ rfl).elim
  · cases hw
def gM (P : Program) (n : Nat) (ops : Array Oper) (o : Oper) (ao : AO) : Prop :=
 (∃ own, n9 P own ao.tot ops o = some ao) ∧ (∀ d, ao.dst = some d → d < n) ∧ (∀ d want, ao.guard = some (d, want) → d < n)
theorem nq {own tot : Bool} {ops : Array Oper} {o : Oper} {ao : AO} (hc : n9 P own tot ops o = some ao) : ao.dst = o.dst ∧ ib P own o.op o.type = some ao.op := by
 simp only [n9, Option.bind_eq_some_iff] at hc
 obtain ⟨aop, h1, h2⟩ := hc
 cases hgd : o.guard with
 | none => simp only [hgd, Option.some.injEq] at h2; subst h2; exact ⟨rfl, h1⟩
 | some jw =>
  simp only [hgd, Option.map_eq_some_iff] at h2
  obtain ⟨d, hd, rfl⟩ := h2
  exact ⟨rfl, h1⟩
theorem qG {cx : Cx} {a : Act} {st : ASt} {ops : Array Oper} {o : Oper} {ao : AO} {ef : Eff} (hm : gM P cx.n ops o ao) (hs : StepE P ao st ef) (hh : Holds P cx E U a w st) {K : Act → World → Prop} {Q : Exit → Act → World → Prop}
 (hK : ∀ E' U' a' w', Holds P cx E' U' a' w' (aA ao.dst ef st) → K a' w') :
 (Region.wanted o (yielded ops a.tmps) = true ∧ o.wpIn (FW cx.ro) 0 P a w K Q) ∨ (Region.wanted o (yielded ops a.tmps) = false ∧ K (a.put o.dst undef) w) := by
 obtain ⟨⟨own, hc⟩, hd, hg⟩ := hm
 obtain ⟨f1, f2⟩ := nq hc
 cases hs with
 | yes _ h hr =>
  left
  refine ⟨ln hc hh.sz hg (fun d want _ => hh.tok d) h, hr.sound f2 hh.inv hh.gok (fun x _ => hh.ev x) (fun v E' U' w' h1 h2 => ?_)⟩
  rw [← f1]
  exact hK E' U' _ w' (hh.step hd h1 h2)
 | no h =>
  right
  refine ⟨ln hc hh.sz hg (fun d want _ => hh.tok d) h, ?_⟩
  rw [← f1]
  exact hK E U _ w (hh.step (ef := ⟨True, .s undef, st.ch, []⟩) hd (.d (.s undef)) (Ev.refl hh.inv _))
def eP (P : Program) [Glob P] (cx : Cx) (s s' : ASt) : Prop := ∀ E U a w, Holds P cx E U a w s → ∃ E' U', Holds P cx E' U' a w s'
def kx (P : Program) [Glob P] (cx : Cx) (G : ASt → Prop) : List AO → ASt → Prop
 | [], s => G s
 | o :: os, s => (fU s.t o.guard = some false ∧ kx P cx G os (aA o.dst ⟨True, .s undef, s.ch, []⟩ s)) ∨
  (fU s.t o.guard = some true ∧ ∃ s1, eP P cx s s1 ∧ ((∃ ef, OpR P (aw P s1.t) s1.ch (o.dst.getD 0) o.op ef ∧ kx P cx G os (aA o.dst ef s1)) ∨
   (∃ outs, OpM P cx.ro (aw P s1.t) s1.ch (o.dst.getD 0) o.op outs ∧ ∀ ef ∈ outs, kx P cx G os (aA o.dst ef s1))))
theorem rh {cx : Cx} {ops : Array Oper} {Q : Exit → Act → World → Prop} {G : ASt → Prop} (hQ : ∀ st', G st' → ∀ E' U' a' w', Holds P cx E' U' a' w' st' → Q .normal a' w') : ∀ (l : List Oper) (aos : List AO) (st : ASt) (E : Env) (U : Nat → Prop) (a : Act) (w : World),
 l.length = aos.length → (∀ (j : Nat) o ao, l[j]? = some o → aos[j]? = some ao → gM P cx.n ops o ao) → kx P cx G aos st → Holds P cx E U a w st → wpListIn (FW cx.ro) 0 P ops Q l a w
 | [], aos, st, E, U, a, w, hl, _, hc, hh => by
  have : aos = [] := by cases aos <;> simp_all
  subst this
  simp only [kx] at hc
  exact hQ st hc E U a w hh
 | o :: l, [], st, E, U, a, w, hl, _, hc, hh => by simp at hl
 | o :: l, ao :: aos, st, E, U, a, w, hl, hm, hc, hh => by
  have rec_ : ∀ s1 ef, kx P cx G aos (aA ao.dst ef s1) → ∀ E' U' a' w', Holds P cx E' U' a' w' (aA ao.dst ef s1) → wpListIn (FW cx.ro) 0 P ops Q l a' w' := fun s1 ef h2 E' U' a' w' hh' =>
   rh hQ l aos _ E' U' a' w' (by simpa using hl) (fun j o ao h1 h2 => hm (j + 1) o ao (by simpa using h1) (by simpa using h2)) h2 hh'
  obtain ⟨⟨own, hc'⟩, hd, hg⟩ := hm 0 o ao rfl rfl
  obtain ⟨f1, f2⟩ := nq hc'
  unfold wpListIn
  rcases hc with ⟨h1, h2⟩ | ⟨h1, s1, hgh, h2⟩
  · rw [if_neg (by rw [ln hc' hh.sz hg (fun d want _ => hh.tok d) h1]; simp)]
    refine ⟨fun _ _ => trivial, ?_⟩
    rw [← f1]
    exact rec_ st ⟨True, .s undef, st.ch, []⟩ h2 E U _ w (hh.step (ef := ⟨True, .s undef, st.ch, []⟩) hd (.d (.s undef)) (Ev.refl hh.inv _))
  · rw [if_pos (ln hc' hh.sz hg (fun d want _ => hh.tok d) h1)]
    obtain ⟨E1, U1, hh1⟩ := hgh E U a w hh
    rcases h2 with ⟨ef, g1, g2⟩ | ⟨outs, g1, g2⟩
    · refine g1.sound f2 hh1.inv hh1.gok (fun x _ => hh1.ev x) (fun v E' U' w' r1 r2 => ?_)
      rw [← f1]
      exact rec_ s1 ef g2 E' U' _ w' (hh1.step hd r1 r2)
    · refine g1 own o a E1 U1 w f2 hh1.inv hh1.gok (fun x _ => hh1.ev x) _ _ (fun ef hef v E' U' w' r1 r2 => ?_)
      rw [← f1]
      exact rec_ s1 ef (g2 ef hef) E' U' _ w' (hh1.step hd r1 r2)
end Go.Am
end
section
namespace Go.Am
variable {P : Program} {E : Env} {U : Nat → Prop} {w : World}
section folds
variable {α : Type}
def dC : List (α → α) → (Nat → Bool) → Nat → α → α
 | [], _, _, a => a
 | f :: r, S, i, a => dC r S (i + 1) (if S i then f a else a)
theorem dR : ∀ (fs : List (α → α)) (S S' : Nat → Bool) (i : Nat) (a : α), (∀ k f, fs[k]? = some f → S (i + k) = S' (i + k) ∨ ∀ a, f a = a) → dC fs S i a = dC fs S' i a
 | [], _, _, _, _, _ => rfl
 | f :: r, S, S', i, a, h => by
  simp only [dC]
  have h0 := h 0 f rfl
  have e : (if S i then f a else a) = if S' i then f a else a := by
   rcases h0 with h0 | h0
   · rw [Nat.add_zero] at h0; rw [h0]
   · rw [h0 a]; split <;> split <;> rfl
  rw [e]
  exact dR r S S' (i + 1) _ (fun k g hk => by have := h (k + 1) g (by simpa using hk); rwa [show i + (k + 1) = i + 1 + k from by omega] at this)
theorem iw (fs : List (α → α)) (S : Nat → Bool) (i : Nat) (a : α) (h : ∀ k f, fs[k]? = some f → S (i + k) = true → ∀ a, f a = a) : dC fs S i a = a := by
 have : dC fs S i a = dC fs (fun _ => false) i a := dR fs S _ i a (fun k f hk => by
  cases hs : S (i + k) with
  | false => exact .inl rfl
  | true => exact .inr (h k f hk hs))
 rw [this]
 clear this h
 induction fs generalizing i with
 | nil => rfl
 | cons f r ih => simp only [dC, Bool.false_eq_true, if_false]; exact ih (i + 1)
theorem ni : ∀ (fs : List (α → α)) (S : Nat → Bool) (i : Nat) (a : α) (k : Nat) (f : α → α), fs[k]? = some f → S (i + k) = false → (∀ k' g, k < k' → fs[k']? = some g → S (i + k') = true → ∀ a, g a = a) →
 dC fs (fun n => n == i + k || S n) i a = f (dC fs S i a)
 | [], _, _, _, k, f, h, _, _ => by simp at h
 | g :: r, S, i, a, 0, f, h, hs, hl => by
  simp at h
  subst h
  rw [Nat.add_zero] at hs
  simp only [dC, Nat.add_zero, beq_self_eq_true, Bool.true_or, if_true, hs, Bool.false_eq_true, if_false]
  have l1 : ∀ a, dC r (fun n => n == i || S n) (i + 1) a = a := fun a => iw r _ (i + 1) a (fun k f hk hs' => by
   refine hl (k + 1) f (by omega) (by simpa using hk) ?_
   have hne : (i + 1 + k == i) = false := by simp; omega
   simp only [hne, Bool.false_or] at hs'
   rwa [show i + (k + 1) = i + 1 + k from by omega])
  have l2 : ∀ a, dC r S (i + 1) a = a := fun a => iw r _ (i + 1) a (fun k f hk hs' => hl (k + 1) f (by omega) (by simpa using hk) (by rwa [show i + (k + 1) = i + 1 + k from by omega]))
  rw [l1, l2]
 | g :: r, S, i, a, k + 1, f, h, hs, hl => by
  have hne : (i == i + (k + 1)) = false := by simp
  simp only [dC, hne, Bool.false_or]
  have := ni r S (i + 1) (if S i then g a else a) k f (by simpa using h) (by rwa [show i + 1 + k = i + (k + 1) from by omega]) (fun k' g' hk hg hs' => hl (k' + 1) g' (by omega) (by simpa using hg) (by rwa [show i + (k' + 1) = i + 1 + k' from by omega]))
  rwa [show i + 1 + k = i + (k + 1) from by omega] at this
theorem nF {β : Type} (π : α → β) : ∀ (fs : List (α → α)) (gs : List (β → β)) (S : Nat → Bool) (i : Nat) (a : α), fs.length = gs.length → (∀ (k : Nat) f g, fs[k]? = some f → gs[k]? = some g → ∀ a, π (f a) = g (π a)) → π (dC fs S i a) = dC gs S i (π a)
 | [], gs, _, _, _, hl, _ => by
  have : gs = [] := by cases gs <;> simp_all
  subst this; rfl
 | f :: fs, [], _, _, _, hl, _ => by simp at hl
 | f :: fs, g :: gs, S, i, a, hl, h => by
  simp only [dC]
  rw [nF π fs gs S (i + 1) _ (by simpa using hl) (fun k f' g' h1 h2 => h (k + 1) f' g' (by simpa using h1) (by simpa using h2))]
  have := h 0 f g rfl rfl a
  cases hs : S i <;> simp [this]
theorem qi : ∀ (fs : List (α → α)) (S : Nat → Bool) (i : Nat) (c : α), (∀ k f, fs[k]? = some f → S (i + k) = true → f c = c) → dC fs S i c = c
 | [], _, _, _, _ => rfl
 | f :: r, S, i, c, h => by
  simp only [dC]
  have e : (if S i then f c else c) = c := by
   cases hs : S i with
   | false => rfl
   | true => exact h 0 f rfl (by simpa using hs)
  rw [e]
  exact qi r S (i + 1) c (fun k g hk hs => h (k + 1) g (by simpa using hk) (by rwa [show i + (k + 1) = i + 1 + k from by omega]))
theorem kD : ∀ (fs : List (α → α)) (S : Nat → Bool) (i : Nat) (a c : α) (j : Nat), (∀ k f, fs[k]? = some f → i + k < j → S (i + k) = true ∨ ∀ a, f a = a) → (∀ k f, fs[k]? = some f → j ≤ i + k → S (i + k) = true → f c = c) →
 dC fs (fun n => decide (n < j)) i a = c → dC fs S i a = c
 | [], _, _, _, _, _, _, _, h => h
 | f :: r, S, i, a, c, j, h1, h2, h3 => by
  have n1 : ∀ k g, r[k]? = some g → i + 1 + k < j → S (i + 1 + k) = true ∨ ∀ a, g a = a := fun k g hk hj => by
   have := h1 (k + 1) g (by simpa using hk) (by omega)
   rwa [show i + (k + 1) = i + 1 + k from by omega] at this
  have n2 : ∀ k g, r[k]? = some g → j ≤ i + 1 + k → S (i + 1 + k) = true → g c = c := fun k g hk hj hs => h2 (k + 1) g (by simpa using hk) (by omega) (by rwa [show i + (k + 1) = i + 1 + k from by omega])
  simp only [dC] at h3 ⊢
  by_cases hij : i < j
  · simp only [hij, decide_true, if_true] at h3
    have e : (if S i then f a else a) = f a := by
     rcases h1 0 f rfl (by omega) with h | h
     · rw [Nat.add_zero] at h; rw [h]; rfl
     · rw [h a]; split <;> rfl
    rw [e]
    exact kD r S (i + 1) (f a) c j n1 n2 h3
  · simp only [hij, decide_false, Bool.false_eq_true, if_false] at h3
    have hk : dC r (fun n => decide (n < j)) (i + 1) a = a := iw r _ (i + 1) a (fun k g _ hs => by simp at hs; omega)
    have hac : a = c := hk.symm.trans h3
    subst hac
    have e : (if S i then f a else a) = a := by
     cases hs : S i with
     | false => rfl
     | true => exact h2 0 f rfl (by omega) (by simpa using hs)
    rw [e]
    exact kD r S (i + 1) a a j n1 n2 hk
theorem lr : ∀ (fs : List (α → α)) (S : Nat → Bool) (i : Nat) (a c : α) (k : Nat) (f : α → α), fs[k]? = some f → S (i + k) = true → (∀ a, f a = c) → (∀ k' g, k < k' → fs[k']? = some g → S (i + k') = true → g c = c) → dC fs S i a = c
 | [], _, _, _, _, k, f, h, _, _, _ => by simp at h
 | g :: r, S, i, a, c, 0, f, h, hs, hc, hl => by
  simp at h
  subst h
  rw [Nat.add_zero] at hs
  simp only [dC, hs, if_true, hc]
  exact qi r S (i + 1) c (fun k f' hk hs' => hl (k + 1) f' (by omega) (by simpa using hk) (by rwa [show i + (k + 1) = i + 1 + k from by omega]))
 | g :: r, S, i, a, c, k + 1, f, h, hs, hc, hl => by
  simp only [dC]
  exact lr r S (i + 1) _ c k f (by simpa using h) (by rwa [show i + 1 + k = i + (k + 1) from by omega]) hc (fun k' g' hk hg hs' => hl (k' + 1) g' (by omega) (by simpa using hg) (by rwa [show i + (k' + 1) = i + 1 + k' from by omega]))
end folds
def dv (o : Oper) : List Nat := (o.after.toList.filter (Region.binds .any)).map (·.on)
def j8 : List (List Nat) → List Nat → List Nat
 | [], acc => acc
 | p :: r, acc => j8 r (acc ++ [p.foldl (fun m i => m ||| 2 ^ i ||| acc.getD i 0) 0])
theorem q8 (acc : List Nat) (i : Nat) : ∀ (p : List Nat) (m : Nat), (p.foldl (fun m i => m ||| 2 ^ i ||| acc.getD i 0) m).testBit i = true → m.testBit i = true ∨ ∃ q ∈ p, q = i ∨ (acc.getD q 0).testBit i = true
 | [], m, h => .inl h
 | q :: p, m, h => by
  simp only [List.foldl_cons] at h
  rcases q8 acc i p _ h with h | ⟨q', h1, h2⟩
  · simp only [Nat.testBit_or, Bool.or_eq_true, Nat.testBit_two_pow, decide_eq_true_eq] at h
    rcases h with (h | h) | h
    · exact .inl h
    · exact .inr ⟨q, List.mem_cons_self, .inl h⟩
    · exact .inr ⟨q, List.mem_cons_self, .inr h⟩
  · exact .inr ⟨q', List.mem_cons_of_mem _ h1, h2⟩
theorem ir {all : List (List Nat)} {S : Nat → Bool} (hS : ∀ (j : Nat) l, all[j]? = some l → S j = true → ∀ p ∈ l, S p = true) (hlt : ∀ (j : Nat) l, all[j]? = some l → ∀ p ∈ l, p < j) :
 ∀ (ps : List (List Nat)) (acc : List Nat), ps = all.drop acc.length → (∀ j i, j < acc.length → (acc.getD j 0).testBit i = true → ∀ l, all[j]? = some l → (∀ p ∈ l, S p = true) → S i = true) →
  ∀ j i, ((j8 ps acc).getD j 0).testBit i = true → ∀ l, all[j]? = some l → (∀ p ∈ l, S p = true) → S i = true
 | [], acc, hp, ha, j, i, h, l, hl, hall => by
  simp only [j8] at h
  by_cases hj : j < acc.length
  · exact ha j i hj h l hl hall
  · have : acc.getD j 0 = 0 := by simp [List.getD_eq_getElem?_getD, List.getElem?_eq_none (Nat.le_of_not_lt hj)]
    rw [this] at h; simp at h
 | p :: r, acc, hp, ha, j, i, h, l, hl, hall => by
  have hp0 : all[acc.length]? = some p := by
   have : (all.drop acc.length)[0]? = some p := by rw [← hp]; rfl
   simpa using this
  have hr : r = all.drop (acc ++ [p.foldl (fun m i => m ||| 2 ^ i ||| acc.getD i 0) 0]).length := by
   have : (all.drop acc.length).drop 1 = r := by rw [← hp]; rfl
   rw [← this]; simp
  refine ir hS hlt r _ hr (fun j i hj hb l hl hall => ?_) j i (by simpa only [j8] using h) l hl hall
  simp only [List.length_append, List.length_cons, List.length_nil, Nat.zero_add] at hj
  by_cases hj2 : j < acc.length
  · rw [List.getD_eq_getElem?_getD, List.getElem?_append_left hj2, ← List.getD_eq_getElem?_getD] at hb
    exact ha j i hj2 hb l hl hall
  · have hje : j = acc.length := by omega
    subst hje
    rw [List.getD_eq_getElem?_getD, List.getElem?_append_right (Nat.le_refl _)] at hb
    simp only [Nat.sub_self, List.getElem?_cons_zero, Option.getD_some] at hb
    rw [hp0] at hl; cases hl
    rcases q8 acc i p 0 hb with h0 | ⟨q, hq, rfl | hq2⟩
    · simp at h0
    · exact hall _ hq
    · have hql : q < acc.length := hlt _ _ hp0 q hq
      cases hlq : all[q]? with
      | none =>
       have := List.getElem?_eq_none_iff.1 hlq
       have := (List.getElem?_eq_some_iff.1 hp0).1
       omega
      | some lq => exact ha q i hql hq2 lq hlq (hS q lq hlq (hall q hq))
def AO.slots (o : AO) : List Nat :=
 (o.op.reads.filterMap fun x => match x with | .tmp t => some t | _ => none) ++ (match o.guard with | some (g, _) => [g] | none => [])
def AO.apart (x y : AO) : Bool :=
 (match x.dst with
  | some d => !(y.slots.contains d) && y.dst != some d
  | none => true) &&
 (match y.dst with
  | some d => !(x.slots.contains d)
  | none => true)
def AO.mvs (x : AO) : Bool :=
 match x.op, x.guard with
 | .mvs _, none => !x.tot
 | _, _ => false
def pV (ops : Array Oper) (aos : List AO) : Bool :=
 let ps := ops.toList.map dv
 let ms := j8 ps []
 (ps.zipIdx.all fun p => p.1.all (· < p.2)) &&
 (aos.zipIdx.all fun y => aos.zipIdx.all fun x => !(decide (x.2 < y.2)) || (ms.getD y.2 0).testBit x.2 || (x.1.apart y.1 && !x.1.tot && (!y.1.tot || x.1.mvs)))
def nP (e : Nat) (rb : List Nat) (ops : Array Oper) (aos : List AO) : Bool :=
 if e = 999 then
  ((ops.toList.map dv).zipIdx.all fun p => p.1.all (· < p.2)) && rb.all fun c => decide (c % 100 < ops.size) && ((j8 (ops.toList.map dv) []).getD (c % 100) 0).testBit (c / 100)
 else
 let ps := ops.toList.map dv
 let ms := j8 ps []
 (ps.zipIdx.all fun p => p.1.all (· < p.2)) && ((aos[e]?).any fun x => x.tot) && !(rb.contains e) &&
 (aos.zipIdx.all fun y => aos.zipIdx.all fun x => !(decide (x.2 < y.2)) || (ms.getD y.2 0).testBit x.2 ||
  (x.1.apart y.1 && ((!x.1.tot && !y.1.tot) || (y.2 == e && !x.1.tot && rb.contains x.2) || (x.2 == e && !y.1.tot && rb.contains y.2))))
theorem gd {x y : AO} (h : x.apart y = true) : (∀ d, x.dst = some d → d ∉ y.slots ∧ y.dst ≠ some d) ∧ (∀ d, y.dst = some d → d ∉ x.slots) := by
 simp only [AO.apart, Bool.and_eq_true] at h
 refine ⟨fun d hd => ?_, fun d hd => ?_⟩
 · rw [hd] at h
   simp at h
   exact ⟨h.1.1, h.1.2⟩
 · rw [hd] at h
   simp at h
   exact h.2
variable [Glob P]
theorem wt {t t' : dz} {o : AO} (h : ∀ i ∈ o.slots, gt t i = gt t' i) : ∀ x ∈ o.op.reads, aw P t x = aw P t' x := fun x hx => by
 cases x with
 | tmp i => exact h i (List.mem_append.2 (.inl (List.mem_filterMap.2 ⟨.tmp i, hx, rfl⟩)))
 | _ => rfl
theorem OpR.congr {ρ ρ' : Operand → C} {ch : Chs} {d : Nat} {op : AOp} {ef : Eff} (h : OpR P ρ ch d op ef) (he : ∀ x ∈ op.reads, ρ x = ρ' x) : OpR P ρ' ch d op ef := by
 cases h with
 | f h hc => exact .f (by rw [← h]; exact (qT he).symm) hc
 | call h =>
  rename_i fo aS r chs chs' od
  have e1 : ρ fo = ρ' fo := he fo (by simp [AOp.reads])
  have e2 : aS.map ρ = aS.map ρ' := List.map_congr_left fun x hx => he x (by simp only [AOp.reads]; exact List.mem_cons_of_mem _ hx)
  have hx := h.ex
  rw [e1, e2] at hx
  exact .call ⟨hx, h.nd, h.hnk, h.new, h.old, h.kr, h.kc⟩
 | callK h hp hr =>
  rename_i fo aS r chs
  have e1 : ρ fo = ρ' fo := he fo (by simp [AOp.reads])
  have e2 : aS.map ρ = aS.map ρ' := List.map_congr_left fun x hx => he x (by simp only [AOp.reads]; exact List.mem_cons_of_mem _ hx)
  have hx := h.ex
  rw [e1, e2] at hx
  exact .callK ⟨hx, h.nd, h.hnk, h.new, h.old, h.kr, h.kc⟩ hp hr
theorem StepE.congr {o : AO} {st st' : ASt} {ef : Eff} (h : StepE P o st ef) (hs : ∀ i ∈ o.slots, gt st.t i = gt st'.t i) (hc : st.ch = st'.ch) : StepE P o st' ef := by
 have hw : fU st.t o.guard = fU st'.t o.guard := by
  cases hg : o.guard with
  | none => rfl
  | some g =>
   obtain ⟨g, want⟩ := g
   simp only [fU, hs g (List.mem_append.2 (.inr (by simp [hg])))]
 cases h with
 | yes _ h hr => exact .yes ef (hw ▸ h) (hc ▸ hr.congr (wt hs))
 | no h => rw [hc]; exact .no (hw ▸ h)
theorem Holds.ext {cx : Cx} {a : Act} {st st' : ASt} (h : Holds P cx E U a w st) (ht : ∀ i, gt st.t i = gt st'.t i) (hc : st.ch = st'.ch) : Holds P cx E U a w st' :=
 ⟨h.sz, hc ▸ h.df, fun i => ht i ▸ h.tok i, hc ▸ h.inv, h.os, h.tape, h.output, h.size, h.fr, h.keepA, hc ▸ h.live, h.base, hc ▸ h.fix, hc ▸ h.hid, h.gok⟩
end Go.Am
end
section
namespace Go.Am
variable {P : Program} [Glob P]
def ei (x : Nat) (p : AO × Eff) (c : C) : C := if p.1.dst = some x then p.2.v else aj p.2.sub c
def chF (p : AO × Eff) (h : Chs) : Chs := if p.1.tot then p.2.ch else h
def stF (p : AO × Eff) (s : ASt) : ASt := ⟨bw p.1.dst p.2.sub p.2.v s.t, chF p s.ch⟩
theorem iH (dst : Option Nat) (m : List (Nat × Sb)) (v : C) (t : dz) (x : Nat) : gt (bw dst m v t) x = if dst = some x then v else aj m (gt t x) := by
 cases dst with
 | none => simp [bw, mg]
 | some d => simp [bw, je, mg]
def stS (ps : List (AO × Eff)) (S : Nat → Bool) (s : ASt) : ASt := dC (ps.map stF) S 0 s
theorem fl (ps : List (AO × Eff)) (S : Nat → Bool) (s : ASt) (x : Nat) : gt (stS ps S s).t x = dC (ps.map (ei x)) S 0 (gt s.t x) :=
 nF (fun s : ASt => gt s.t x) (ps.map stF) (ps.map (ei x)) S 0 s (by simp) (fun k f g h1 h2 a => by
  simp only [List.getElem?_map, Option.map_eq_some_iff] at h1 h2
  obtain ⟨p, hp, rfl⟩ := h1
  obtain ⟨q, hq, rfl⟩ := h2
  rw [hp] at hq; cases hq
  simp only [stF, ei, iH])
theorem fZ (ps : List (AO × Eff)) (S : Nat → Bool) (s : ASt) : (stS ps S s).ch = dC (ps.map chF) S 0 s.ch :=
 nF (fun s : ASt => s.ch) (ps.map stF) (ps.map chF) S 0 s (by simp) (fun k f g h1 h2 a => by
  simp only [List.getElem?_map, Option.map_eq_some_iff] at h1 h2
  obtain ⟨p, hp, rfl⟩ := h1
  obtain ⟨q, hq, rfl⟩ := h2
  rw [hp] at hq; cases hq
  rfl)
theorem pL : ∀ (aos : List AO) (s s' : ASt), jJ P true aos s s' → ∃ efs : List Eff, efs.length = aos.length ∧
 (∀ (j : Nat) ao ef, aos[j]? = some ao → efs[j]? = some ef → StepE P ao (stS (aos.zip efs) (fun i => decide (i < j)) s) ef ∧ (ao.tot = true ∨ (ef.ch = (stS (aos.zip efs) (fun i => decide (i < j)) s).ch ∧ ef.sub = []))) ∧
 s' = stS (aos.zip efs) (fun i => decide (i < aos.length)) s
 | [], s, s', h => by
  simp only [jJ] at h
  subst h
  exact ⟨[], rfl, fun j ao ef h => by simp at h, rfl⟩
 | o :: os, s, s', h => by
  obtain ⟨ef, h1, h2, h3⟩ := h
  have hp : aA o.dst ef s = stF (o, ef) s := by
   simp only [aA, stF, chF]
   rcases h2 rfl with h | ⟨h, _⟩
   · rw [if_pos h]
   · by_cases ht : o.tot = true
     · rw [if_pos ht]
     · rw [if_neg ht, h]
  rw [hp] at h3
  obtain ⟨efs, l1, l2, l3⟩ := pL os _ s' h3
  have shift : ∀ j, stS (os.zip efs) (fun i => decide (i < j)) (stF (o, ef) s) = stS ((o :: os).zip (ef :: efs)) (fun i => decide (i < j + 1)) s := fun j => by
   simp only [stS, List.zip_cons_cons, List.map_cons, dC, Nat.zero_lt_succ, decide_true, if_true]
   have : ∀ (fs : List (ASt → ASt)) (k : Nat) (a : ASt), dC fs (fun i => decide (i < j)) k a = dC fs (fun i => decide (i < j + 1)) (k + 1) a := by
    intro fs
    induction fs with
    | nil => intro k a; rfl
    | cons f r ih =>
     intro k a
     simp only [dC]
     rw [ih]
     by_cases hk : k < j
     · simp [hk]
     · simp [hk]
   exact this _ 0 _
  refine ⟨ef :: efs, by simp [l1], fun j ao e hj he => ?_, ?_⟩
  · cases j with
    | zero =>
     simp at hj he
     subst hj he
     have e0 : stS ((o :: os).zip (ef :: efs)) (fun i => decide (i < 0)) s = s := iw _ _ 0 s (fun k f _ hs => by simp at hs)
     rw [e0]
     exact ⟨h1, h2 rfl⟩
    | succ j =>
     simp at hj he
     rw [← shift j]
     exact l2 j ao e hj he
  · rw [l3, shift]; rfl
theorem eZ (l : Array Bool) (j i : Nat) (hj : j < l.size) : (l.setIfInBounds j true).getD i false = (i == j || l.getD i false) := by
 simp only [Array.getD_eq_getD_getElem?, Array.getElem?_setIfInBounds]
 by_cases h : j = i
 · subst h; simp [hj]
 · rw [if_neg h]
   have : (i == j) = false := by simp; exact fun e => h e.symm
   simp [this]
theorem kU {m : Nat} {f : Nat → Bool} (h : ∃ i, i < m ∧ f i = false) : ∃ i, i < m ∧ f i = false ∧ ∀ k, k < i → f k = true := by
 induction m with
 | zero => obtain ⟨i, hi, _⟩ := h; omega
 | succ m ih =>
  by_cases h2 : ∃ i, i < m ∧ f i = false
  · obtain ⟨i, h3, h4, h5⟩ := ih h2
    exact ⟨i, by omega, h4, h5⟩
  · obtain ⟨i, h3, h4⟩ := h
    have hi : i = m := by
     by_cases hlt : i < m
     · exact absurd ⟨i, hlt, h4⟩ h2
     · omega
    subst hi
    refine ⟨i, h3, h4, fun k hk => ?_⟩
    cases hf : f k with
    | true => rfl
    | false => exact absurd ⟨k, hk, hf⟩ h2
section draw
variable {cx : Cx} {ops : Array Oper} {aos : List AO} {st st' : ASt} {efs : List Eff} {Q : Exit → Act → World → Prop}
theorem mZ {m : Nat} {S : Nat → Bool} {j : Nat} (hj : j < m) (hs : S j = false) : ((List.range m).countP fun i => !(i == j || S i)) + 1 = (List.range m).countP fun i => !(S i) := by
 induction m with
 | zero => omega
 | succ m ih =>
  simp only [List.range_succ, List.countP_append, List.countP_cons, List.countP_nil, Nat.zero_add]
  by_cases h : j = m
  · subst h
    have e : ((List.range j).countP fun i => !(i == j || S i)) = (List.range j).countP fun i => !(S i) := by
     apply List.countP_congr
     intro i hi
     have : i ≠ j := by have := List.mem_range.1 hi; omega
     simp [this]
    rw [e]; simp [hs]
  · have := ih (by omega)
    have hb : (m == j) = false := by simp; omega
    rw [hb]
    simp only [Bool.false_or]
    omega
theorem yL (hops : ops.size = aos.length) (hef : efs.length = aos.length) (hm : ∀ (j : Nat) o ao, ops[j]? = some o → aos[j]? = some ao → gM P cx.n ops o ao) (hok : pV ops aos = true)
 (hch : ∀ (j : Nat) ao ef, aos[j]? = some ao → efs[j]? = some ef → StepE P ao (stS (aos.zip efs) (fun i => decide (i < j)) st) ef ∧ (ao.tot = true ∨ (ef.ch = (stS (aos.zip efs) (fun i => decide (i < j)) st).ch ∧ ef.sub = [])))
 (hfin : st' = stS (aos.zip efs) (fun i => decide (i < aos.length)) st) (hQ : ∀ E' U' a' w', Holds P cx E' U' a' w' st' → Q .normal a' w') :
 ∀ (fuel : Nat) (listed : Array Bool) (E : Env) (U : Nat → Prop) (a : Act) (w : World), listed.size = ops.size → ((List.range ops.size).countP fun i => !(listed.getD i false)) = fuel →
  (∀ (j : Nat) o, ops[j]? = some o → listed.getD j false = true → ∀ p ∈ dv o, listed.getD p false = true) →
  Holds P cx E U a w (stS (aos.zip efs) (fun i => listed.getD i false) st) → wpAnyIn (FW cx.ro) 0 P .any ops Q fuel listed a w := by
 simp only [pV, Bool.and_eq_true] at hok
 obtain ⟨hok1, hok2⟩ := hok
 have hlt : ∀ (j : Nat) l, (ops.toList.map dv)[j]? = some l → ∀ p ∈ l, p < j := fun j l hj p hp => by
  have hz : (l, j) ∈ (ops.toList.map dv).zipIdx := by
   rw [List.mk_mem_zipIdx_iff_getElem?]; exact hj
  have := List.all_eq_true.1 hok1 (l, j) hz
  simpa using List.all_eq_true.1 this p hp
 have hpair : ∀ (i j : Nat) x y, aos[i]? = some x → aos[j]? = some y → i < j → ((j8 (ops.toList.map dv) []).getD j 0).testBit i = true ∨ (x.apart y = true ∧ x.tot = false ∧ (y.tot = false ∨ x.mvs = true)) := fun i j x y hx hy hij => by
  have h1 := List.all_eq_true.1 hok2 (y, j) (by rw [List.mk_mem_zipIdx_iff_getElem?]; exact hy)
  have h2 := List.all_eq_true.1 h1 (x, i) (by rw [List.mk_mem_zipIdx_iff_getElem?]; exact hx)
  simp only [hij, decide_true, Bool.not_true, Bool.false_or, Bool.or_eq_true, Bool.and_eq_true] at h2
  rcases h2 with h2 | ⟨⟨h3, h4⟩, h5⟩
  · exact .inl h2
  · exact .inr ⟨h3, by simpa using h4, by simpa using h5⟩
 have hmv : ∀ (j : Nat) ao ef, aos[j]? = some ao → efs[j]? = some ef → ao.mvs = true → ao.tot = false ∧ (∀ x ∈ ao.slots, ∃ v, gt (stS (aos.zip efs) (fun i => decide (i < j)) st).t x = .s v) ∧ (∃ v, ef.v = .s v) ∧
  ∀ s : ASt, (∀ x ∈ ao.slots, gt s.t x = gt (stS (aos.zip efs) (fun i => decide (i < j)) st).t x) → StepE P ao s ⟨ef.cond, ef.v, s.ch, []⟩ := fun j ao ef hao hefj hm => by
  obtain ⟨hs, _⟩ := hch j ao ef hao hefj
  obtain ⟨dst, guard, op, tot⟩ := ao
  unfold AO.mvs at hm
  split at hm
  · rename_i x0 hop hgd
    simp only at hop hgd
    subst hop hgd
    have ht : tot = false := by simpa using hm
    subst ht
    cases hs with
    | no h => simp [fU] at h
    | yes _ h hr =>
     cases hr with
     | f hf hc =>
      simp only [ak] at hf
      split at hf
      · rename_i v hv
        cases hf
        refine ⟨rfl, fun x hx => ?_, ⟨v, rfl⟩, fun s hsl => .yes _ rfl (.f ?_ trivial)⟩
        · simp only [AO.slots, AOp.reads, List.append_nil, List.mem_filterMap, List.mem_singleton] at hx
          obtain ⟨y, rfl, hy⟩ := hx
          cases y with
          | tmp t => simp only [Option.some.injEq] at hy; subst hy; exact ⟨v, hv⟩
          | _ => cases hy
        · have e : aw P s.t x0 = .s v := by
           cases x0 with
           | tmp t =>
            have := hsl t (by simp [AO.slots, AOp.reads])
            exact this.trans hv
           | _ => exact hv
          simp only [ak, e]
      · cases hf
  · cases hm
 have hz : ∀ (j : Nat) ao ef, aos[j]? = some ao → efs[j]? = some ef → (aos.zip efs)[j]? = some (ao, ef) := fun j ao ef h1 h2 => by
  rw [List.getElem?_zip_eq_some]; exact ⟨h1, h2⟩
 have hz' : ∀ (j : Nat) p, (aos.zip efs)[j]? = some p → aos[j]? = some p.1 ∧ efs[j]? = some p.2 := fun j p h => by
  obtain ⟨x, y⟩ := p
  rw [List.getElem?_zip_eq_some] at h; exact h
 have hpure : ∀ (j : Nat) p, (aos.zip efs)[j]? = some p → p.1.tot = false → p.2.sub = [] := fun j p h ht => by
  obtain ⟨h1, h2⟩ := hz' j p h
  rcases (hch j p.1 p.2 h1 h2).2 with h | h
  · rw [ht] at h; cases h
  · exact h.2
 have atEnd : ∀ (listed : Array Bool) (E : Env) (U : Nat → Prop) (a : Act) (w : World), (∀ i, i < ops.size → listed.getD i false = true) → Holds P cx E U a w (stS (aos.zip efs) (fun i => listed.getD i false) st) → Q .normal a w := fun listed E U a w hall hh => by
  have hag : ∀ {α : Type} (g : AO × Eff → α → α) (c : α), dC ((aos.zip efs).map g) (fun i => listed.getD i false) 0 c = dC ((aos.zip efs).map g) (fun i => decide (i < aos.length)) 0 c := fun g c =>
   dR _ _ _ 0 c (fun k f hk => by
    have hk' := (List.getElem?_eq_some_iff.1 hk).1
    simp only [List.length_map, List.length_zip, hef, Nat.min_self] at hk'
    left
    simp only [Nat.zero_add, hall k (by omega), hk', decide_true])
  refine hQ E U a w (hh.ext (fun i => ?_) ?_)
  · rw [hfin, fl, fl]; exact hag _ _
  · rw [hfin, fZ, fZ]; exact hag _ _
 intro fuel
 induction fuel with
 | zero =>
  intro listed E U a w hls hcnt hcl hh
  have hall : ∀ i, i < ops.size → listed.getD i false = true := fun i hi => by
   have := List.countP_eq_zero.1 hcnt i (List.mem_range.2 hi)
   simpa using this
  refine ⟨?_, atEnd listed E U a w hall hh⟩
  apply List.filter_eq_nil_iff.2
  intro i hi hf
  simp only [Bool.and_eq_true] at hf
  have hi' := List.mem_range.1 hi
  have h1 := hall i hi'
  have h2 : listed.getD i true = listed.getD i false := by
   have hlt : i < listed.size := by omega
   simp [Array.getD_eq_getD_getElem?, Array.getElem?_eq_getElem hlt]
  rw [h2, h1] at hf
  simp at hf
 | succ fuel ih =>
  intro listed E U a w hls hcnt hcl hh
  have hsome : ∃ i, i < ops.size ∧ listed.getD i false = false := by
   rcases Classical.em (∃ i, i < ops.size ∧ listed.getD i false = false) with h | h
   · exact h
   · exfalso
     have : ((List.range ops.size).countP fun i => !(listed.getD i false)) = 0 := List.countP_eq_zero.2 (fun i hi => by
      cases hf : listed.getD i false with
      | true => simp
      | false => exact absurd ⟨i, List.mem_range.1 hi, hf⟩ h)
     omega
  have hgd : ∀ i, i < ops.size → listed.getD i true = listed.getD i false := fun i hi => by
   have hlt : i < listed.size := by omega
   simp [Array.getD_eq_getD_getElem?, Array.getElem?_eq_getElem hlt]
  refine ⟨fun hnil => ?_, fun j hj => ?_⟩
  · exfalso
    obtain ⟨i, h1, h2, h3⟩ := kU hsome
    have hnot := List.filter_eq_nil_iff.1 hnil i (List.mem_range.2 h1)
    apply hnot
    obtain ⟨o, ho⟩ : ∃ o, ops[i]? = some o := ⟨_, Array.getElem?_eq_getElem h1⟩
    simp only [Bool.and_eq_true]
    refine ⟨by rw [hgd i h1, h2]; rfl, ?_⟩
    simp only [ho, Option.map_some, Option.getD_some]
    rw [Array.all_eq_true']
    intro e he
    simp only [Bool.or_eq_true]
    by_cases hb : Region.binds .any e = true
    · right
      have hp : e.on ∈ dv o := List.mem_map.2 ⟨e, List.mem_filter.2 ⟨by simpa using he, hb⟩, rfl⟩
      exact h3 _ (hlt i (dv o) (by simp [ho]) _ hp)
    · left; simpa using hb
  · have hj2 := List.mem_filter.1 hj
    have hjm := List.mem_range.1 hj2.1
    have hjr := hj2.2
    simp only [Bool.and_eq_true] at hjr
    obtain ⟨o, ho⟩ : ∃ o, ops[j]? = some o := ⟨_, Array.getElem?_eq_getElem hjm⟩
    obtain ⟨ao, hao⟩ : ∃ ao, aos[j]? = some ao := ⟨_, List.getElem?_eq_getElem (by omega)⟩
    obtain ⟨ef, hefj⟩ : ∃ ef, efs[j]? = some ef := ⟨_, List.getElem?_eq_getElem (by omega)⟩
    have hSj : listed.getD j false = false := by
     have := hjr.1
     rw [hgd j hjm] at this
     simpa using this
    have hpreds : ∀ p ∈ dv o, listed.getD p false = true := fun p hp => by
     obtain ⟨e, he, rfl⟩ := List.mem_map.1 hp
     obtain ⟨he1, he2⟩ := List.mem_filter.1 he
     have := hjr.2
     simp only [ho, Option.map_some, Option.getD_some] at this
     rw [Array.all_eq_true'] at this
     have := this e (by simpa using he1)
     simpa [he2] using this
    have hclS : ∀ (i : Nat) l, (ops.toList.map dv)[i]? = some l → listed.getD i false = true → ∀ p ∈ l, listed.getD p false = true := fun i l hi hs p hp => by
     simp only [List.getElem?_map, Option.map_eq_some_iff, Array.getElem?_toList] at hi
     obtain ⟨o', ho', rfl⟩ := hi
     exact hcl i o' ho' hs p hp
    have hbef : ∀ i x, aos[i]? = some x → i < j → listed.getD i false = true ∨ (x.apart ao = true ∧ x.tot = false ∧ (ao.tot = false ∨ x.mvs = true)) := fun i x hx hij => by
     rcases hpair i j x ao hx hao hij with h | h
     · left
       exact ir hclS hlt (ops.toList.map dv) [] (by simp) (fun j i h => by simp at h) j i h (dv o) (by simp [ho]) hpreds
     · exact .inr h
    have haft : ∀ i x, aos[i]? = some x → j < i → listed.getD i false = true → (ao.apart x = true ∧ ao.tot = false ∧ (x.tot = false ∨ ao.mvs = true)) := fun i x hx hij hs => by
     rcases hpair j i ao x hao hx hij with h | h
     · exfalso
       obtain ⟨o', ho'⟩ : ∃ o', ops[i]? = some o' := ⟨_, Array.getElem?_eq_getElem (by have := (List.getElem?_eq_some_iff.1 hx).1; omega)⟩
       have := ir hclS hlt (ops.toList.map dv) [] (by simp) (fun j i h => by simp at h) i j h (dv o') (by simp [ho']) (hcl i o' ho' hs)
       rw [hSj] at this; cases this
     · exact h
    obtain ⟨hst, hpu⟩ := hch j ao ef hao hefj
    have hgo : ∃ ef2, StepE P ao (stS (aos.zip efs) (fun i => listed.getD i false) st) ef2 ∧ (∀ E' U' a' w', Holds P cx E' U' a' w' (aA ao.dst ef2 (stS (aos.zip efs) (fun i => listed.getD i false) st)) → Holds P cx E' U' a' w' (stS (aos.zip efs) (fun i => (listed.setIfInBounds j true).getD i false) st)) := by
     cases hmvs : ao.mvs with
     | true =>
      obtain ⟨m1, m2, ⟨v0, m3⟩, m4⟩ := hmv j ao ef hao hefj hmvs
      have hpj : ef.sub = [] := hpure j (ao, ef) (hz j ao ef hao hefj) m1
      have hlate : ∀ (x : Nat) (v : Value) (k : Nat) (p : AO × Eff), (aos.zip efs)[k]? = some p → j < k → listed.getD k false = true → p.1.dst ≠ some x → ei x p (.s v) = .s v := fun x v k p hp hk hs hne => by
       simp only [ei]
       rw [if_neg hne]
       cases hm : p.2.sub <;> simp [aj]
      have hslots : ∀ x ∈ ao.slots, gt (stS (aos.zip efs) (fun i => listed.getD i false) st).t x = gt (stS (aos.zip efs) (fun i => decide (i < j)) st).t x := fun x hx => by
       obtain ⟨v, hv⟩ := m2 x hx
       rw [hv]
       rw [fl] at hv ⊢
       refine kD _ _ 0 _ _ j (fun k f hk hkj => ?_) (fun k f hk hkj hs => ?_) hv
       · simp only [List.getElem?_map, Option.map_eq_some_iff] at hk
         obtain ⟨p, hp, rfl⟩ := hk
         obtain ⟨g1, g2⟩ := hz' k p hp
         simp only [Nat.zero_add] at hkj ⊢
         rcases hbef k p.1 g1 hkj with h1 | ⟨h1, h2, h3⟩
         · exact .inl h1
         · right
           intro c
           have := (gd h1).1
           simp only [ei, hpure k p hp h2, dW]
           rw [if_neg (fun e => (this x e).1 hx)]
       · simp only [List.getElem?_map, Option.map_eq_some_iff] at hk
         obtain ⟨p, hp, rfl⟩ := hk
         obtain ⟨g1, g2⟩ := hz' k p hp
         simp only [Nat.zero_add] at hkj hs
         have hne : k ≠ j := fun e => by rw [e, hSj] at hs; cases hs
         obtain ⟨h1, h2, h3⟩ := haft k p.1 g1 (by omega) hs
         exact hlate x v k p hp (by omega) hs (fun e => (gd h1).2 x e hx)
      refine ⟨_, m4 _ hslots, fun E' U' a' w' h => ?_⟩
      have hS' : (fun i => (listed.setIfInBounds j true).getD i false) = fun i => i == 0 + j || listed.getD i false := by
       funext i
       rw [eZ _ _ _ (by omega), Nat.zero_add]
      rw [hS']
      have hother : ∀ k, k ≠ j → (0 + k == 0 + j) = false := fun k hk => by simp; exact hk
      refine h.ext (fun x => ?_) ?_
      · have hkj : ((aos.zip efs).map (ei x))[j]? = some (ei x (ao, ef)) := by simp [hz j ao ef hao hefj]
        rw [fl]
        by_cases hx : ao.dst = some x
        · have e1 : gt (aA ao.dst ⟨ef.cond, ef.v, (stS (aos.zip efs) (fun i => listed.getD i false) st).ch, []⟩ (stS (aos.zip efs) (fun i => listed.getD i false) st)).t x = .s v0 := by
           simp only [aA, iH, hx, if_true, m3]
          rw [e1]
          refine (lr _ _ 0 _ _ j _ hkj (by simp) (fun a => by simp only [ei, hx, if_true, m3]) (fun k g hk hg hs => ?_)).symm
          simp only [List.getElem?_map, Option.map_eq_some_iff] at hg
          obtain ⟨p, hp, rfl⟩ := hg
          obtain ⟨g1, g2⟩ := hz' k p hp
          rw [hother k (by omega), Bool.false_or, Nat.zero_add] at hs
          obtain ⟨h1, h2, h3⟩ := haft k p.1 g1 hk hs
          exact hlate x v0 k p hp hk hs ((gd h1).1 x hx).2
        · have e1 : gt (aA ao.dst ⟨ef.cond, ef.v, (stS (aos.zip efs) (fun i => listed.getD i false) st).ch, []⟩ (stS (aos.zip efs) (fun i => listed.getD i false) st)).t x = gt (stS (aos.zip efs) (fun i => listed.getD i false) st).t x := by
           simp only [aA, iH, hx, if_false, dW]
          rw [e1, fl]
          refine dR _ _ _ 0 _ (fun k f hk => ?_)
          by_cases hkj2 : k = j
          · subst hkj2
            rw [hkj] at hk; cases hk
            right; intro c
            simp only [ei, hpj, dW, if_neg hx]
          · left
            rw [hother k hkj2, Bool.false_or]
      · show (stS (aos.zip efs) (fun i => listed.getD i false) st).ch = _
        rw [fZ, fZ]
        have hkj : ((aos.zip efs).map chF)[j]? = some (chF (ao, ef)) := by simp [hz j ao ef hao hefj]
        refine dR _ _ _ 0 _ (fun k f hk => ?_)
        by_cases hkj2 : k = j
        · subst hkj2
          rw [hkj] at hk; cases hk
          right; intro c; simp [chF, m1]
        · left
          rw [hother k hkj2, Bool.false_or]
     | false =>
      have haft0 := haft
      have haft : ∀ i x, aos[i]? = some x → j < i → listed.getD i false = true → (ao.apart x = true ∧ ao.tot = false ∧ x.tot = false) := fun i x hx hij hs => by
       obtain ⟨h1, h2, h3⟩ := haft0 i x hx hij hs
       exact ⟨h1, h2, h3.resolve_right (by rw [hmvs]; simp)⟩
      have hslots : ∀ x ∈ ao.slots, gt (stS (aos.zip efs) (fun i => decide (i < j)) st).t x = gt (stS (aos.zip efs) (fun i => listed.getD i false) st).t x := fun x hx => by
       rw [fl, fl]
       refine dR _ _ _ 0 _ (fun k f hk => ?_)
       simp only [List.getElem?_map, Option.map_eq_some_iff] at hk
       obtain ⟨p, hp, rfl⟩ := hk
       obtain ⟨g1, g2⟩ := hz' k p hp
       simp only [Nat.zero_add]
       rcases Nat.lt_trichotomy k j with h | h | h
       · rcases hbef k p.1 g1 h with h1 | ⟨h1, h2, h3⟩
         · left; simp [h, h1]
         · right
           intro c
           have := (gd h1).1
           simp only [ei, hpure k p hp h2, dW]
           rw [if_neg (fun e => (this x e).1 hx)]
       · subst h; left; simp [hSj]
       · cases hs : listed.getD k false with
         | false => left; simp; omega
         | true =>
          right
          obtain ⟨h1, h2, h3⟩ := haft k p.1 g1 h hs
          intro c
          have := (gd h1).2
          simp only [ei, hpure k p hp h3, dW]
          rw [if_neg (fun e => this x e hx)]
      have hchs : (stS (aos.zip efs) (fun i => decide (i < j)) st).ch = (stS (aos.zip efs) (fun i => listed.getD i false) st).ch := by
       rw [fZ, fZ]
       refine dR _ _ _ 0 _ (fun k f hk => ?_)
       simp only [List.getElem?_map, Option.map_eq_some_iff] at hk
       obtain ⟨p, hp, rfl⟩ := hk
       obtain ⟨g1, g2⟩ := hz' k p hp
       simp only [Nat.zero_add]
       rcases Nat.lt_trichotomy k j with h | h | h
       · rcases hbef k p.1 g1 h with h1 | ⟨h1, h2, h3⟩
         · left; simp [h, h1]
         · right; intro c; simp [chF, h2]
       · subst h; left; simp [hSj]
       · cases hs : listed.getD k false with
         | false => left; simp; omega
         | true =>
          right
          obtain ⟨h1, h2, h3⟩ := haft k p.1 g1 h hs
          intro c; simp [chF, h3]
      have hst2 := hst.congr hslots hchs
      have hnext : ∀ E' U' a' w', Holds P cx E' U' a' w' (aA ao.dst ef (stS (aos.zip efs) (fun i => listed.getD i false) st)) → Holds P cx E' U' a' w' (stS (aos.zip efs) (fun i => (listed.setIfInBounds j true).getD i false) st) := fun E' U' a' w' h => by
       have hS' : (fun i => (listed.setIfInBounds j true).getD i false) = fun i => i == 0 + j || listed.getD i false := by
        funext i
        rw [eZ _ _ _ (by omega), Nat.zero_add]
       rw [hS']
       refine h.ext (fun x => ?_) ?_
       · have e1 : gt (aA ao.dst ef (stS (aos.zip efs) (fun i => listed.getD i false) st)).t x = ei x (ao, ef) (gt (stS (aos.zip efs) (fun i => listed.getD i false) st).t x) := by
          simp only [aA, iH, ei]
         rw [e1, fl, fl]
         have hkj : ((aos.zip efs).map (ei x))[j]? = some (ei x (ao, ef)) := by simp [hz j ao ef hao hefj]
         by_cases hx : ao.dst = some x ∨ ao.tot = true
         · refine (ni _ (fun i => listed.getD i false) 0 _ j _ hkj (by simpa using hSj) (fun k g hk hg hs => ?_)).symm
           simp only [List.getElem?_map, Option.map_eq_some_iff] at hg
           obtain ⟨p, hp, rfl⟩ := hg
           obtain ⟨g1, g2⟩ := hz' k p hp
           obtain ⟨h1, h2, h3⟩ := haft k p.1 g1 hk (by simpa using hs)
           rcases hx with hx | hx
           · intro c
             have := ((gd h1).1 x hx).2
             simp only [ei, hpure k p hp h3, dW, if_neg this]
           · rw [hx] at h2; cases h2
         · have hx1 : ao.dst ≠ some x := fun e => hx (.inl e)
           have hx2 : ao.tot = false := by cases ht : ao.tot with | false => rfl | true => exact absurd (.inr ht) hx
           have hid : ∀ c, ei x (ao, ef) c = c := fun c => by
            have := hpure j (ao, ef) (hz j ao ef hao hefj) hx2
            simp only at this
            simp only [ei, this, dW, if_neg hx1]
           rw [hid]
           refine dR _ _ _ 0 _ (fun k f hk => ?_)
           by_cases hkj2 : k = j
           · subst hkj2
             rw [hkj] at hk; cases hk
             exact .inr hid
           · left
             have : (0 + k == 0 + j) = false := by simp; exact hkj2
             simp only [this, Bool.false_or]
       · rw [fZ]
         simp only [aA]
         have hkj : ((aos.zip efs).map chF)[j]? = some (chF (ao, ef)) := by simp [hz j ao ef hao hefj]
         cases ht : ao.tot with
         | true =>
          have := ni ((aos.zip efs).map chF) (fun i => listed.getD i false) 0 st.ch j _ hkj (by simpa using hSj) (fun k g hk hg hs => by
           simp only [List.getElem?_map, Option.map_eq_some_iff] at hg
           obtain ⟨p, hp, rfl⟩ := hg
           obtain ⟨g1, g2⟩ := hz' k p hp
           obtain ⟨h1, h2, h3⟩ := haft k p.1 g1 hk (by simpa using hs)
           rw [ht] at h2; cases h2)
          rw [this]
          simp [chF, ht]
         | false =>
          have hp : ef.ch = (stS (aos.zip efs) (fun i => decide (i < j)) st).ch := by
           rcases hpu with h | h
           · rw [ht] at h; cases h
           · exact h.1
          rw [hp, hchs, fZ]
          refine dR _ _ _ 0 _ (fun k f hk => ?_)
          by_cases hkj2 : k = j
          · subst hkj2
            rw [hkj] at hk; cases hk
            right; intro c; simp [chF, ht]
          · left
            have : (0 + k == 0 + j) = false := by simp; exact hkj2
            simp only [this, Bool.false_or]
      exact ⟨ef, hst2, hnext⟩
    obtain ⟨ef2, hst2, hnext⟩ := hgo
    have hstep := qG (Q := Q) (K := wpAnyIn (FW cx.ro) 0 P .any ops Q fuel (listed.setIfInBounds j true)) (hm j o ao ho hao) hst2 hh (fun E' U' a' w' h =>
     ih (listed.setIfInBounds j true) E' U' a' w' (by simpa using hls)
      (by
       have e : (fun i => !((listed.setIfInBounds j true).getD i false)) = fun i => !(i == j || listed.getD i false) := by
        funext i; rw [eZ _ _ _ (by omega)]
       rw [e]
       have := mZ (S := fun i => listed.getD i false) hjm hSj
       omega)
      (fun i o' ho' hs p hp => by
       rw [eZ _ _ _ (by omega)] at hs ⊢
       simp only [Bool.or_eq_true, beq_iff_eq] at hs ⊢
       right
       rcases hs with rfl | hs
       · rw [ho] at ho'; cases ho'; exact hpreds p hp
       · exact hcl i o' ho' hs p hp)
      (hnext E' U' a' w' h))
    unfold wpOpIn
    rw [ho]
    rcases hstep with ⟨e, h⟩ | ⟨e, h⟩
    · simp only [e, if_true]; exact h
    · simp only [e, Bool.false_eq_true, if_false]; exact ⟨fun _ _ => trivial, h⟩
end draw
theorem uu {cx : Cx} {ops : Array Oper} {aos : List AO} {st st' : ASt} {id : Nat} {E : Env} {U : Nat → Prop} {a : Act} {w : World} {Q : Exit → Act → World → Prop} (hmix : P.follows .mixedOrders = true) (hops : ops.size = aos.length)
 (hm : ∀ (j : Nat) o ao, ops[j]? = some o → aos[j]? = some ao → gM P cx.n ops o ao) (hok : pV ops aos = true) (hc : jJ P true aos st st') (hh : Holds P cx E U a w st) (hQ : ∀ E' U' a' w', Holds P cx E' U' a' w' st' → Q .normal a' w') :
 (Code.region id ops true).wpIn (FW cx.ro) 0 P Q a w := by
 obtain ⟨efs, l1, l2, l3⟩ := pL aos st st' hc
 refine wpIn_region_any hmix (yL hops l1 hm hok l2 l3 hQ ops.size _ E U a _ (by simp) ?_ (fun j o ho hs => ?_) ?_)
 · have : ((List.range ops.size).countP fun i => !((Array.replicate ops.size false).getD i false)) = (List.range ops.size).length := List.countP_eq_length.2 (fun i hi => by
    have := List.mem_range.1 hi
    simp [Array.getD_eq_getD_getElem?, this])
   simpa using this
 · exfalso
   by_cases h : j < ops.size <;> simp [Array.getD_eq_getD_getElem?, h] at hs
 · have e : stS (aos.zip efs) (fun i => (Array.replicate ops.size false).getD i false) st = st := iw _ _ 0 st (fun k f _ hs => by
    exfalso
    by_cases h : k < ops.size <;> simp [Array.getD_eq_getD_getElem?, h] at hs)
   rw [e]
   exact ⟨hh.sz, hh.df, hh.tok, hh.inv, hh.os, hh.tape, hh.output, hh.size, hh.fr, hh.keepA, hh.live, hh.base, hh.fix, hh.hid, hh.gok⟩
end Go.Am
end
section
namespace Go.Am
variable {P : Program} [Glob P]
section folds
variable {α : Type}
theorem qX : ∀ (fs : List (α → α)) (S : Nat → Bool) (i : Nat) (a b : α) (k : Nat) (f : α → α), fs[k]? = some f → S (i + k) = false → dC fs (fun n => decide (n < i + k) && S n) i a = b → f b = b →
 dC fs (fun n => n == i + k || S n) i a = dC fs S i a
 | [], _, _, _, _, k, f, h, _, _, _ => by simp at h
 | g :: r, S, i, a, b, 0, f, h, hs, hb, hf => by
  simp at h
  subst h
  rw [Nat.add_zero] at hs
  have hab : a = b := by
   rw [← hb]
   refine (iw _ _ _ _ (fun k f _ hs' => ?_)).symm
   exfalso
   simp at hs'
   omega
  subst hab
  simp only [dC, Nat.add_zero, beq_self_eq_true, Bool.true_or, if_true, hs, Bool.false_eq_true, if_false, hf]
  refine dR _ _ _ _ _ (fun k f hk => .inl ?_)
  have hne : (i + 1 + k == i) = false := by simp; omega
  simp [hne]
 | g :: r, S, i, a, b, k + 1, f, h, hs, hb, hf => by
  have hne : (i == i + (k + 1)) = false := by simp
  simp only [dC, hne, Bool.false_or]
  simp only [dC] at hb
  have hlt : (decide (i < i + (k + 1)) && S i) = S i := by simp
  simp only [hlt] at hb
  have e1 : i + 1 + k = i + (k + 1) := by omega
  have := qX r S (i + 1) (if S i then g a else a) b k f (by simpa using h) (by rw [e1]; exact hs) (by rw [e1]; exact hb) hf
  rwa [e1] at this
theorem qc : ∀ (fs : List (α → α)) (S : Nat → Bool) (i : Nat) (a : α) (k : Nat) (f : α → α), fs[k]? = some f → S (i + k) = false → (∀ k' g, k < k' → fs[k']? = some g → S (i + k') = true → ∀ a, f (g a) = g (f a)) →
 dC fs (fun n => n == i + k || S n) i a = f (dC fs S i a)
 | [], _, _, _, k, f, h, _, _ => by simp at h
 | g :: r, S, i, a, 0, f, h, hs, hl => by
  simp at h
  subst h
  rw [Nat.add_zero] at hs
  simp only [dC, Nat.add_zero, beq_self_eq_true, Bool.true_or, if_true, hs, Bool.false_eq_true, if_false]
  have e : dC r (fun n => n == i || S n) (i + 1) (g a) = dC r S (i + 1) (g a) := dR _ _ _ _ _ (fun k f hk => .inl (by
   have hne : (i + 1 + k == i) = false := by simp; omega
   simp [hne]))
  rw [e]
  have com : ∀ (r' : List (α → α)) (j : Nat) (b : α), (∀ k' f', r'[k']? = some f' → S (j + k') = true → ∀ a, g (f' a) = f' (g a)) → dC r' S j (g b) = g (dC r' S j b) := by
   intro r'
   induction r' with
   | nil => intro j b _; rfl
   | cons f' r' ih =>
    intro j b h
    simp only [dC]
    have h0 : (if S j then f' (g b) else g b) = g (if S j then f' b else b) := by
     cases hs : S j with
     | false => rfl
     | true => simp only [if_true]; exact (h 0 f' rfl (by simpa using hs) b).symm
    rw [h0]
    exact ih (j + 1) _ (fun k' f'' hk hs' => h (k' + 1) f'' (by simpa using hk) (by rwa [show j + (k' + 1) = j + 1 + k' from by omega]))
  exact com r (i + 1) a (fun k' f' hk hs' => hl (k' + 1) f' (by omega) (by simpa using hk) (by rwa [show i + (k' + 1) = i + 1 + k' from by omega]))
 | g :: r, S, i, a, k + 1, f, h, hs, hl => by
  have hne : (i == i + (k + 1)) = false := by simp
  simp only [dC, hne, Bool.false_or]
  have e1 : i + 1 + k = i + (k + 1) := by omega
  have := qc r S (i + 1) (if S i then g a else a) k f (by simpa using h) (by rw [e1]; exact hs) (fun k' g' hk hg hs' => hl (k' + 1) g' (by omega) (by simpa using hg) (by rwa [show i + (k' + 1) = i + 1 + k' from by omega]))
  rwa [e1] at this
end folds
section core
variable {cx : Cx} {ops : Array Oper} {aos : List AO} {st st' : ASt} {efs : List Eff} {Q : Exit → Act → World → Prop}
theorem wU (hops : ops.size = aos.length) (hef : efs.length = aos.length) (hm : ∀ (j : Nat) o ao, ops[j]? = some o → aos[j]? = some ao → gM P cx.n ops o ao)
 (hlt : ∀ (j : Nat) l, (ops.toList.map dv)[j]? = some l → ∀ p ∈ l, p < j)
 (hgo : ∀ (S : Nat → Bool) (j : Nat) o ao, ops[j]? = some o → aos[j]? = some ao → S j = false → (∀ p ∈ dv o, S p = true) → (∀ (i : Nat) l, (ops.toList.map dv)[i]? = some l → S i = true → ∀ p ∈ l, S p = true) →
  ∃ ef2, StepE P ao (stS (aos.zip efs) S st) ef2 ∧ (∀ E' U' a' w', Holds P cx E' U' a' w' (aA ao.dst ef2 (stS (aos.zip efs) S st)) → Holds P cx E' U' a' w' (stS (aos.zip efs) (fun i => i == 0 + j || S i) st)))
 (hfin : st' = stS (aos.zip efs) (fun i => decide (i < aos.length)) st) (hQ : ∀ E' U' a' w', Holds P cx E' U' a' w' st' → Q .normal a' w') :
 ∀ (fuel : Nat) (listed : Array Bool) (E : Env) (U : Nat → Prop) (a : Act) (w : World), listed.size = ops.size → ((List.range ops.size).countP fun i => !(listed.getD i false)) = fuel →
  (∀ (j : Nat) o, ops[j]? = some o → listed.getD j false = true → ∀ p ∈ dv o, listed.getD p false = true) →
  Holds P cx E U a w (stS (aos.zip efs) (fun i => listed.getD i false) st) → wpAnyIn (FW cx.ro) 0 P .any ops Q fuel listed a w := by
 have atEnd : ∀ (listed : Array Bool) (E : Env) (U : Nat → Prop) (a : Act) (w : World), (∀ i, i < ops.size → listed.getD i false = true) → Holds P cx E U a w (stS (aos.zip efs) (fun i => listed.getD i false) st) → Q .normal a w := fun listed E U a w hall hh => by
  have hag : ∀ {α : Type} (g : AO × Eff → α → α) (c : α), dC ((aos.zip efs).map g) (fun i => listed.getD i false) 0 c = dC ((aos.zip efs).map g) (fun i => decide (i < aos.length)) 0 c := fun g c =>
   dR _ _ _ 0 c (fun k f hk => by
    have hk' := (List.getElem?_eq_some_iff.1 hk).1
    simp only [List.length_map, List.length_zip, hef, Nat.min_self] at hk'
    left
    simp only [Nat.zero_add, hall k (by omega), hk', decide_true])
  refine hQ E U a w (hh.ext (fun i => ?_) ?_)
  · rw [hfin, fl, fl]; exact hag _ _
  · rw [hfin, fZ, fZ]; exact hag _ _
 intro fuel
 induction fuel with
 | zero =>
  intro listed E U a w hls hcnt hcl hh
  have hall : ∀ i, i < ops.size → listed.getD i false = true := fun i hi => by
   have := List.countP_eq_zero.1 hcnt i (List.mem_range.2 hi)
   simpa using this
  refine ⟨?_, atEnd listed E U a w hall hh⟩
  apply List.filter_eq_nil_iff.2
  intro i hi hf
  simp only [Bool.and_eq_true] at hf
  have hi' := List.mem_range.1 hi
  have h1 := hall i hi'
  have h2 : listed.getD i true = listed.getD i false := by
   have hlt : i < listed.size := by omega
   simp [Array.getD_eq_getD_getElem?, Array.getElem?_eq_getElem hlt]
  rw [h2, h1] at hf
  simp at hf
 | succ fuel ih =>
  intro listed E U a w hls hcnt hcl hh
  have hsome : ∃ i, i < ops.size ∧ listed.getD i false = false := by
   rcases Classical.em (∃ i, i < ops.size ∧ listed.getD i false = false) with h | h
   · exact h
   · exfalso
     have : ((List.range ops.size).countP fun i => !(listed.getD i false)) = 0 := List.countP_eq_zero.2 (fun i hi => by
      cases hf : listed.getD i false with
      | true => simp
      | false => exact absurd ⟨i, List.mem_range.1 hi, hf⟩ h)
     omega
  have hgd : ∀ i, i < ops.size → listed.getD i true = listed.getD i false := fun i hi => by
   have hlt : i < listed.size := by omega
   simp [Array.getD_eq_getD_getElem?, Array.getElem?_eq_getElem hlt]
  refine ⟨fun hnil => ?_, fun j hj => ?_⟩
  · exfalso
    obtain ⟨i, h1, h2, h3⟩ := kU hsome
    have hnot := List.filter_eq_nil_iff.1 hnil i (List.mem_range.2 h1)
    apply hnot
    obtain ⟨o, ho⟩ : ∃ o, ops[i]? = some o := ⟨_, Array.getElem?_eq_getElem h1⟩
    simp only [Bool.and_eq_true]
    refine ⟨by rw [hgd i h1, h2]; rfl, ?_⟩
    simp only [ho, Option.map_some, Option.getD_some]
    rw [Array.all_eq_true']
    intro e he
    simp only [Bool.or_eq_true]
    by_cases hb : Region.binds .any e = true
    · right
      have hp : e.on ∈ dv o := List.mem_map.2 ⟨e, List.mem_filter.2 ⟨by simpa using he, hb⟩, rfl⟩
      exact h3 _ (hlt i (dv o) (by simp [ho]) _ hp)
    · left; simpa using hb
  · have hj2 := List.mem_filter.1 hj
    have hjm := List.mem_range.1 hj2.1
    have hjr := hj2.2
    simp only [Bool.and_eq_true] at hjr
    obtain ⟨o, ho⟩ : ∃ o, ops[j]? = some o := ⟨_, Array.getElem?_eq_getElem hjm⟩
    obtain ⟨ao, hao⟩ : ∃ ao, aos[j]? = some ao := ⟨_, List.getElem?_eq_getElem (by omega)⟩
    have hSj : listed.getD j false = false := by
     have := hjr.1
     rw [hgd j hjm] at this
     simpa using this
    have hpreds : ∀ p ∈ dv o, listed.getD p false = true := fun p hp => by
     obtain ⟨e, he, rfl⟩ := List.mem_map.1 hp
     obtain ⟨he1, he2⟩ := List.mem_filter.1 he
     have := hjr.2
     simp only [ho, Option.map_some, Option.getD_some] at this
     rw [Array.all_eq_true'] at this
     have := this e (by simpa using he1)
     simpa [he2] using this
    have hclS : ∀ (i : Nat) l, (ops.toList.map dv)[i]? = some l → listed.getD i false = true → ∀ p ∈ l, listed.getD p false = true := fun i l hi hs p hp => by
     simp only [List.getElem?_map, Option.map_eq_some_iff, Array.getElem?_toList] at hi
     obtain ⟨o', ho', rfl⟩ := hi
     exact hcl i o' ho' hs p hp
    obtain ⟨ef2, hst2, hnext⟩ := hgo (fun i => listed.getD i false) j o ao ho hao hSj hpreds hclS
    have hS' : (fun i => (listed.setIfInBounds j true).getD i false) = fun i => i == 0 + j || listed.getD i false := by
     funext i
     rw [eZ _ _ _ (by omega), Nat.zero_add]
    have hstep := qG (Q := Q) (K := wpAnyIn (FW cx.ro) 0 P .any ops Q fuel (listed.setIfInBounds j true)) (hm j o ao ho hao) hst2 hh (fun E' U' a' w' h =>
     ih (listed.setIfInBounds j true) E' U' a' w' (by simpa using hls)
      (by
       have e : (fun i => !((listed.setIfInBounds j true).getD i false)) = fun i => !(i == j || listed.getD i false) := by
        funext i; rw [eZ _ _ _ (by omega)]
       rw [e]
       have := mZ (S := fun i => listed.getD i false) hjm hSj
       omega)
      (fun i o' ho' hs p hp => by
       rw [eZ _ _ _ (by omega)] at hs ⊢
       simp only [Bool.or_eq_true, beq_iff_eq] at hs ⊢
       right
       rcases hs with rfl | hs
       · rw [ho] at ho'; cases ho'; exact hpreds p hp
       · exact hcl i o' ho' hs p hp)
      (by rw [hS']; exact hnext E' U' a' w' h))
    unfold wpOpIn
    rw [ho]
    rcases hstep with ⟨e, h⟩ | ⟨e, h⟩
    · simp only [e, if_true]; exact h
    · simp only [e, Bool.false_eq_true, if_false]; exact ⟨fun _ _ => trivial, h⟩
end core
end Go.Am
end
section
namespace Go.Am
variable {P : Program} [Glob P] {cx : Cx} {ops : Array Oper} {aos : List AO} {st st' : ASt} {efs : List Eff} {Q : Exit → Act → World → Prop}
def RobAt (P : Program) [Glob P] (aos : List AO) (efs : List Eff) (st : ASt) (e j : Nat) : Prop :=
 ∀ ao ef aoe efe, aos[j]? = some ao → efs[j]? = some ef → aos[e]? = some aoe → efs[e]? = some efe →
  aj efe.sub ef.v = ef.v ∧ (∀ x ∈ ao.slots, aj efe.sub (gt (stS (aos.zip efs) (fun i => decide (i < min j e)) st).t x) = gt (stS (aos.zip efs) (fun i => decide (i < min j e)) st).t x) ∧
  ∃ ef2, StepE P ao ⟨(stS (aos.zip efs) (fun i => decide (i < j)) st).t, if j < e then efe.ch else (stS (aos.zip efs) (fun i => decide (i < e)) st).ch⟩ ef2 ∧ ef2.v = ef.v ∧
   ef2.ch = (if j < e then efe.ch else (stS (aos.zip efs) (fun i => decide (i < e)) st).ch) ∧ ef2.sub = []
theorem zB {e : Nat} {rb : List Nat} (hops : ops.size = aos.length) (hef : efs.length = aos.length) (hm : ∀ (j : Nat) o ao, ops[j]? = some o → aos[j]? = some ao → gM P cx.n ops o ao) (he9 : e ≠ 999) (hok : nP e rb ops aos = true)
 (hch : ∀ (j : Nat) ao ef, aos[j]? = some ao → efs[j]? = some ef → StepE P ao (stS (aos.zip efs) (fun i => decide (i < j)) st) ef ∧ (ao.tot = true ∨ (ef.ch = (stS (aos.zip efs) (fun i => decide (i < j)) st).ch ∧ ef.sub = [])))
 (hrob : ∀ j ∈ rb, RobAt P aos efs st e j)
 (hfin : st' = stS (aos.zip efs) (fun i => decide (i < aos.length)) st) (hQ : ∀ E' U' a' w', Holds P cx E' U' a' w' st' → Q .normal a' w') :
 ∀ (fuel : Nat) (listed : Array Bool) (E : Env) (U : Nat → Prop) (a : Act) (w : World), listed.size = ops.size → ((List.range ops.size).countP fun i => !(listed.getD i false)) = fuel →
  (∀ (j : Nat) o, ops[j]? = some o → listed.getD j false = true → ∀ p ∈ dv o, listed.getD p false = true) →
  Holds P cx E U a w (stS (aos.zip efs) (fun i => listed.getD i false) st) → wpAnyIn (FW cx.ro) 0 P .any ops Q fuel listed a w := by
 simp only [nP, if_neg he9, Bool.and_eq_true] at hok
 obtain ⟨⟨⟨ok1, ok2⟩, ok3⟩, ok4⟩ := hok
 have hlt : ∀ (j : Nat) l, (ops.toList.map dv)[j]? = some l → ∀ p ∈ l, p < j := fun j l hj p hp => by
  have hz : (l, j) ∈ (ops.toList.map dv).zipIdx := by
   rw [List.mk_mem_zipIdx_iff_getElem?]; exact hj
  have := List.all_eq_true.1 ok1 (l, j) hz
  simpa using List.all_eq_true.1 this p hp
 obtain ⟨aoe, haoe, hte⟩ : ∃ aoe, aos[e]? = some aoe ∧ aoe.tot = true := by
  cases h : aos[e]? with
  | none => rw [h] at ok2; cases ok2
  | some x => rw [h] at ok2; exact ⟨x, rfl, by simpa using ok2⟩
 have hner : e ∉ rb := fun h => by simp [h] at ok3
 have hpair : ∀ (i k : Nat) x y, aos[i]? = some x → aos[k]? = some y → i < k → ((j8 (ops.toList.map dv) []).getD k 0).testBit i = true ∨ (x.apart y = true ∧ ((x.tot = false ∧ y.tot = false) ∨ (k = e ∧ x.tot = false ∧ i ∈ rb) ∨ (i = e ∧ y.tot = false ∧ k ∈ rb))) := fun i k x y hx hy hik => by
  have h1 := List.all_eq_true.1 ok4 (y, k) (by rw [List.mk_mem_zipIdx_iff_getElem?]; exact hy)
  have h2 := List.all_eq_true.1 h1 (x, i) (by rw [List.mk_mem_zipIdx_iff_getElem?]; exact hx)
  simp only [hik, decide_true, Bool.not_true, Bool.false_or, Bool.or_eq_true, Bool.and_eq_true, Bool.not_eq_true', beq_iff_eq, List.contains_iff_mem] at h2
  rcases h2 with h2 | ⟨h3, h4⟩
  · exact .inl h2
  · refine .inr ⟨h3, ?_⟩
    rcases h4 with (h4 | ⟨⟨h4, h5⟩, h6⟩) | ⟨⟨h4, h5⟩, h6⟩
    · exact .inl h4
    · exact .inr (.inl ⟨h4, h5, h6⟩)
    · exact .inr (.inr ⟨h4, h5, h6⟩)
 have hz : ∀ (j : Nat) ao ef, aos[j]? = some ao → efs[j]? = some ef → (aos.zip efs)[j]? = some (ao, ef) := fun j ao ef h1 h2 => by
  rw [List.getElem?_zip_eq_some]; exact ⟨h1, h2⟩
 have hz' : ∀ (j : Nat) p, (aos.zip efs)[j]? = some p → aos[j]? = some p.1 ∧ efs[j]? = some p.2 := fun j p h => by
  obtain ⟨x, y⟩ := p
  rw [List.getElem?_zip_eq_some] at h; exact h
 have hpure : ∀ (j : Nat) p, (aos.zip efs)[j]? = some p → p.1.tot = false → p.2.sub = [] := fun j p h ht => by
  obtain ⟨h1, h2⟩ := hz' j p h
  rcases (hch j p.1 p.2 h1 h2).2 with h | h
  · rw [ht] at h; cases h
  · exact h.2
 obtain ⟨efe, hefe⟩ : ∃ efe, efs[e]? = some efe := ⟨_, List.getElem?_eq_getElem (by have := (List.getElem?_eq_some_iff.1 haoe).1; omega)⟩
 refine wU hops hef hm hlt (fun S j o ao ho hao hSj hpreds hcl => ?_) hfin hQ
 obtain ⟨ef, hefj⟩ : ∃ ef, efs[j]? = some ef := ⟨_, List.getElem?_eq_getElem (by have := (List.getElem?_eq_some_iff.1 hao).1; omega)⟩
 obtain ⟨hst, hpu⟩ := hch j ao ef hao hefj
 have hsw : ∀ k x, aos[k]? = some x → (k < j ∧ S k = false ∨ j < k ∧ S k = true) → (∀ d, x.dst = some d → d ∉ ao.slots ∧ ao.dst ≠ some d) ∧ (k ≠ e → x.tot = false) ∧ (k = e → j ∈ rb ∧ ao.tot = false) ∧ (ao.tot = true → j = e ∧ k ∈ rb) := fun k x hx hs => by
  have hje : j = e → ao.tot = true := fun h => by subst h; rw [hao] at haoe; cases haoe; exact hte
  have hke : k = e → x.tot = true := fun h => by subst h; rw [hx] at haoe; cases haoe; exact hte
  rcases hs with ⟨hkj, hs⟩ | ⟨hjk, hs⟩
  · rcases hpair k j x ao hx hao hkj with h | ⟨h, hC⟩
    · exfalso
      have := ir hcl hlt (ops.toList.map dv) [] (by simp) (fun j i h => by simp at h) j k h (dv o) (by simp [ho]) hpreds
      rw [hs] at this; cases this
    · refine ⟨(gd h).1, fun hne => ?_, fun he => ?_, fun ht => ?_⟩
      · rcases hC with ⟨h1, _⟩ | ⟨_, h1, _⟩ | ⟨h1, _⟩
        · exact h1
        · exact h1
        · exact absurd h1 hne
      · have hxt := hke he
        rcases hC with ⟨h1, _⟩ | ⟨_, h1, _⟩ | ⟨_, h1, h2⟩
        · rw [hxt] at h1; cases h1
        · rw [hxt] at h1; cases h1
        · exact ⟨h2, h1⟩
      · rcases hC with ⟨_, h1⟩ | ⟨h1, _, h2⟩ | ⟨_, h1, _⟩
        · rw [ht] at h1; cases h1
        · exact ⟨h1, h2⟩
        · rw [ht] at h1; cases h1
  · rcases hpair j k ao x hao hx hjk with h | ⟨h, hC⟩
    · exfalso
      obtain ⟨o', ho'⟩ : ∃ o', ops[k]? = some o' := ⟨_, Array.getElem?_eq_getElem (by have := (List.getElem?_eq_some_iff.1 hx).1; omega)⟩
      have := ir hcl hlt (ops.toList.map dv) [] (by simp) (fun j i h => by simp at h) k j h (dv o') (by simp [ho']) (hcl k (dv o') (by simp [ho']) hs)
      rw [hSj] at this; cases this
    · refine ⟨fun d hd => ⟨(gd h).2 d hd, fun h2 => ((gd h).1 d h2).2 hd⟩, fun hne => ?_, fun he => ?_, fun ht => ?_⟩
      · rcases hC with ⟨_, h1⟩ | ⟨h1, _⟩ | ⟨_, h1, _⟩
        · exact h1
        · exact absurd h1 hne
        · exact h1
      · have hxt := hke he
        rcases hC with ⟨_, h1⟩ | ⟨_, h1, h2⟩ | ⟨_, h1, _⟩
        · rw [hxt] at h1; cases h1
        · exact ⟨h2, h1⟩
        · rw [hxt] at h1; cases h1
      · rcases hC with ⟨h1, _⟩ | ⟨_, h1, _⟩ | ⟨h1, _, h2⟩
        · rw [ht] at h1; cases h1
        · rw [ht] at h1; cases h1
        · exact ⟨h1, h2⟩
 have hidS : ∀ k x p, aos[k]? = some p.1 → (aos.zip efs)[k]? = some p → (k < j ∧ S k = false ∨ j < k ∧ S k = true) → k ≠ e → x ∈ ao.slots → ∀ c, ei x p c = c := fun k x p hk hp hs hne hx c => by
  obtain ⟨h1, h2, _, _⟩ := hsw k p.1 hk hs
  simp only [ei, hpure k p hp (h2 hne), dW]
  rw [if_neg (fun e => (h1 x e).1 hx)]
 have hidC : ∀ k p, aos[k]? = some p.1 → (k < j ∧ S k = false ∨ j < k ∧ S k = true) → k ≠ e → ∀ c, chF p c = c := fun k p hk hs hne c => by
  obtain ⟨_, h2, _, _⟩ := hsw k p.1 hk hs
  simp [chF, h2 hne]
 have hmapS : ∀ x k f, ((aos.zip efs).map (ei x))[k]? = some f → ∃ p, (aos.zip efs)[k]? = some p ∧ ei x p = f := fun x k f h => by
  rw [List.getElem?_map, Option.map_eq_some_iff] at h; exact h
 have hmapC : ∀ k f, ((aos.zip efs).map chF)[k]? = some f → ∃ p, (aos.zip efs)[k]? = some p ∧ chF p = f := fun k f h => by
  rw [List.getElem?_map, Option.map_eq_some_iff] at h; exact h
 have hmain : ∃ ef2, StepE P ao (stS (aos.zip efs) S st) ef2 ∧ ef2.v = ef.v ∧ ef2.sub = ef.sub ∧ ((ao.tot = true ∧ ef2.ch = ef.ch) ∨ (ao.tot = false ∧ ef2.ch = (stS (aos.zip efs) S st).ch)) := by
  by_cases hA : j ≠ e ∧ (e < j ∧ S e = false ∨ j < e ∧ S e = true)
  · obtain ⟨hje, hse⟩ := hA
    obtain ⟨s1, _, s3, _⟩ := hsw e aoe haoe hse
    obtain ⟨hjr, htj⟩ := s3 rfl
    obtain ⟨r1, r2, ef2, r3, r4, r5, r6⟩ := hrob j hjr ao ef aoe efe hao hefj haoe hefe
    have hslots : ∀ x ∈ ao.slots, gt (stS (aos.zip efs) (fun i => decide (i < j)) st).t x = gt (stS (aos.zip efs) S st).t x := fun x hx => by
     have hFe : ((aos.zip efs).map (ei x))[e]? = some (ei x (aoe, efe)) := by simp [hz e aoe efe haoe hefe]
     have hdx : ¬ aoe.dst = some x := fun h => (s1 x h).1 hx
     rcases hse with ⟨hej, hs⟩ | ⟨hje2, hs⟩
     · rw [Nat.min_eq_right (Nat.le_of_lt hej)] at r2
       have hc := r2 x hx
       rw [fl, fl]
       have e1 : dC ((aos.zip efs).map (ei x)) (fun n => n == 0 + e || S n) 0 (gt st.t x) = dC ((aos.zip efs).map (ei x)) (fun i => decide (i < j)) 0 (gt st.t x) := dR _ _ _ 0 _ (fun k f hk => by
        obtain ⟨p, hp, rfl⟩ := hmapS x k f hk
        obtain ⟨g1, g2⟩ := hz' k p hp
        simp only [Nat.zero_add]
        by_cases hke : k = e
        · left; subst hke; simp [hej]
        · have hb : (k == e) = false := by simpa using hke
          rcases Nat.lt_trichotomy k j with h | h | h
          · cases hsk : S k with
            | true => left; simp [h]
            | false => right; exact hidS k x p g1 hp (.inl ⟨h, hsk⟩) hke hx
          · left; subst h; simp [hSj, hb]
          · cases hsk : S k with
            | false => left; simp [hb]; omega
            | true => right; exact hidS k x p g1 hp (.inr ⟨h, hsk⟩) hke hx)
       rw [← e1]
       refine qX _ S 0 _ (gt (stS (aos.zip efs) (fun i => decide (i < e)) st).t x) e _ hFe (by simpa using hs) ?_ (by simp only [ei, if_neg hdx]; exact hc)
       rw [fl]
       refine dR _ _ _ 0 _ (fun k f hk => ?_)
       obtain ⟨p, hp, rfl⟩ := hmapS x k f hk
       obtain ⟨g1, g2⟩ := hz' k p hp
       simp only [Nat.zero_add]
       by_cases hke : k < e
       · cases hsk : S k with
         | true => left; simp [hke]
         | false => right; exact hidS k x p g1 hp (.inl ⟨by omega, hsk⟩) (by omega) hx
       · left; simp [hke]
     · rw [Nat.min_eq_left (Nat.le_of_lt hje2)] at r2
       have hc := r2 x hx
       rw [fl] at hc ⊢
       rw [fl]
       refine (kD _ S 0 _ _ j (fun k f hk hkj => ?_) (fun k f hk hkj hs' => ?_) rfl).symm
       · obtain ⟨p, hp, rfl⟩ := hmapS x k f hk
         obtain ⟨g1, g2⟩ := hz' k p hp
         simp only [Nat.zero_add] at hkj ⊢
         cases hsk : S k with
         | true => exact .inl rfl
         | false => exact .inr (hidS k x p g1 hp (.inl ⟨hkj, hsk⟩) (by omega) hx)
       · obtain ⟨p, hp, rfl⟩ := hmapS x k f hk
         obtain ⟨g1, g2⟩ := hz' k p hp
         simp only [Nat.zero_add] at hkj hs'
         have hkj2 : j < k := by
          rcases Nat.lt_or_ge j k with h | h
          · exact h
          · have : k = j := by omega
            subst this; rw [hSj] at hs'; cases hs'
         by_cases hke : k = e
         · subst hke
           rw [haoe] at g1; cases g1
           rw [hefe] at g2; cases g2
           simp only [ei, if_neg hdx]
           exact hc
         · exact hidS k x p g1 hp (.inr ⟨hkj2, hs'⟩) hke hx _
    have hchs : (if j < e then efe.ch else (stS (aos.zip efs) (fun i => decide (i < e)) st).ch) = (stS (aos.zip efs) S st).ch := by
     rw [fZ (aos.zip efs) S st]
     rcases hse with ⟨hej, hs⟩ | ⟨hje2, hs⟩
     · rw [if_neg (by omega), fZ]
       refine dR _ _ _ 0 _ (fun k f hk => ?_)
       obtain ⟨p, hp, rfl⟩ := hmapC k f hk
       obtain ⟨g1, g2⟩ := hz' k p hp
       simp only [Nat.zero_add]
       rcases Nat.lt_trichotomy k e with h | h | h
       · cases hsk : S k with
         | true => left; simp [h]
         | false => right; exact hidC k p g1 (.inl ⟨by omega, hsk⟩) (by omega)
       · left; subst h; simp [hs]
       · cases hsk : S k with
         | false => left; simp; omega
         | true =>
          right
          have htk : p.1.tot = false := by
           rcases hpair e k aoe p.1 haoe g1 h with h2 | ⟨_, hC⟩
           · exfalso
             obtain ⟨o', ho'⟩ : ∃ o', ops[k]? = some o' := ⟨_, Array.getElem?_eq_getElem (by have := (List.getElem?_eq_some_iff.1 g1).1; omega)⟩
             have := ir hcl hlt (ops.toList.map dv) [] (by simp) (fun j i h => by simp at h) k e h2 (dv o') (by simp [ho']) (hcl k (dv o') (by simp [ho']) hsk)
             rw [hs] at this; cases this
           · rcases hC with ⟨_, h1⟩ | ⟨h1, _⟩ | ⟨_, h1, _⟩
             · exact h1
             · omega
             · exact h1
          intro c; simp [chF, htk]
     · rw [if_pos hje2]
       have hFe : ((aos.zip efs).map chF)[e]? = some (chF (aoe, efe)) := by simp [hz e aoe efe haoe hefe]
       refine (lr _ S 0 _ _ e _ hFe (by simpa using hs) (fun a => by simp [chF, hte]) (fun k g hk hg hs' => ?_)).symm
       obtain ⟨p, hp, rfl⟩ := hmapC k g hg
       obtain ⟨g1, g2⟩ := hz' k p hp
       simp only [Nat.zero_add] at hs'
       exact hidC k p g1 (.inr ⟨by omega, hs'⟩) (by omega) _
    refine ⟨ef2, r3.congr hslots hchs, r4, ?_, .inr ⟨htj, ?_⟩⟩
    · rw [r6]; exact (hpure j (ao, ef) (hz j ao ef hao hefj) htj).symm
    · rw [r5]; exact hchs
  · have hne : ∀ k, (k < j ∧ S k = false ∨ j < k ∧ S k = true) → k ≠ e := fun k hk hke => by
     subst hke
     exact hA ⟨by omega, hk⟩
    have hslots : ∀ x ∈ ao.slots, gt (stS (aos.zip efs) (fun i => decide (i < j)) st).t x = gt (stS (aos.zip efs) S st).t x := fun x hx => by
     rw [fl, fl]
     refine dR _ _ _ 0 _ (fun k f hk => ?_)
     obtain ⟨p, hp, rfl⟩ := hmapS x k f hk
     obtain ⟨g1, g2⟩ := hz' k p hp
     simp only [Nat.zero_add]
     rcases Nat.lt_trichotomy k j with h | h | h
     · cases hsk : S k with
       | true => left; simp [h]
       | false => right; exact hidS k x p g1 hp (.inl ⟨h, hsk⟩) (hne k (.inl ⟨h, hsk⟩)) hx
     · left; subst h; simp [hSj]
     · cases hsk : S k with
       | false => left; simp; omega
       | true => right; exact hidS k x p g1 hp (.inr ⟨h, hsk⟩) (hne k (.inr ⟨h, hsk⟩)) hx
    have hchs : (stS (aos.zip efs) (fun i => decide (i < j)) st).ch = (stS (aos.zip efs) S st).ch := by
     rw [fZ, fZ]
     refine dR _ _ _ 0 _ (fun k f hk => ?_)
     obtain ⟨p, hp, rfl⟩ := hmapC k f hk
     obtain ⟨g1, g2⟩ := hz' k p hp
     simp only [Nat.zero_add]
     rcases Nat.lt_trichotomy k j with h | h | h
     · cases hsk : S k with
       | true => left; simp [h]
       | false => right; exact hidC k p g1 (.inl ⟨h, hsk⟩) (hne k (.inl ⟨h, hsk⟩))
     · left; subst h; simp [hSj]
     · cases hsk : S k with
       | false => left; simp; omega
       | true => right; exact hidC k p g1 (.inr ⟨h, hsk⟩) (hne k (.inr ⟨h, hsk⟩))
    refine ⟨ef, hst.congr hslots hchs, rfl, rfl, ?_⟩
    cases ht : ao.tot with
    | true => exact .inl ⟨rfl, rfl⟩
    | false =>
     refine .inr ⟨rfl, ?_⟩
     rcases hpu with h | h
     · rw [ht] at h; cases h
     · rw [h.1]; exact hchs
 obtain ⟨ef2, m1, m2, m3, m4⟩ := hmain
 refine ⟨ef2, m1, fun E' U' a' w' h => h.ext (fun x => ?_) ?_⟩
 · have e1 : gt (aA ao.dst ef2 (stS (aos.zip efs) S st)).t x = ei x (ao, ef) (gt (stS (aos.zip efs) S st).t x) := by
    simp only [aA, iH, ei, m2, m3]
   rw [e1, fl, fl]
   have hkj : ((aos.zip efs).map (ei x))[j]? = some (ei x (ao, ef)) := by simp [hz j ao ef hao hefj]
   refine (qc _ S 0 _ j _ hkj (by simpa using hSj) (fun k g hk hg hs c => ?_)).symm
   obtain ⟨p, hp, rfl⟩ := hmapS x k g hg
   obtain ⟨g1, g2⟩ := hz' k p hp
   simp only [Nat.zero_add] at hs
   obtain ⟨w1, w2, w3, w4⟩ := hsw k p.1 g1 (.inr ⟨hk, hs⟩)
   by_cases hke : k = e
   · obtain ⟨hjr, htj⟩ := w3 hke
     subst hke
     have hsub : ef.sub = [] := hpure j (ao, ef) (hz j ao ef hao hefj) htj
     obtain ⟨r1, _⟩ := hrob j hjr ao ef p.1 p.2 hao hefj g1 g2
     simp only [ei, hsub, dW]
     by_cases h1 : p.1.dst = some x
     · rw [if_pos h1, if_neg (w1 x h1).2, if_pos h1]
     · rw [if_neg h1]
       by_cases h2 : ao.dst = some x
       · rw [if_pos h2, if_neg h1, if_pos h2]; exact r1.symm
       · rw [if_neg h2, if_neg h1, if_neg h2]
   · have hsk : p.2.sub = [] := hpure k p hp (w2 hke)
     simp only [ei, hsk, dW]
     by_cases h1 : p.1.dst = some x
     · rw [if_pos h1, if_pos h1, if_neg (w1 x h1).2]
       cases ht : ao.tot with
       | false => rw [hpure j (ao, ef) (hz j ao ef hao hefj) ht, dW]
       | true =>
        obtain ⟨hje, hkr⟩ := w4 ht
        subst hje
        exact (hrob k hkr p.1 p.2 ao ef g1 g2 hao hefj).1
     · rw [if_neg h1, if_neg h1]
 · rw [fZ]
   simp only [aA]
   have hkj : ((aos.zip efs).map chF)[j]? = some (chF (ao, ef)) := by simp [hz j ao ef hao hefj]
   rcases m4 with ⟨ht, hc⟩ | ⟨ht, hc⟩
   · rw [hc]
     refine (lr _ _ 0 _ _ j _ hkj (by simp) (fun a => by simp [chF, ht]) (fun k g hk hg hs => ?_)).symm
     obtain ⟨p, hp, rfl⟩ := hmapC k g hg
     obtain ⟨g1, g2⟩ := hz' k p hp
     have hkb : (k == j) = false := by simp; omega
     simp only [Nat.zero_add, hkb, Bool.false_or] at hs
     obtain ⟨_, _, w3, w4⟩ := hsw k p.1 g1 (.inr ⟨hk, hs⟩)
     have hje := (w4 ht).1
     exact hidC k p g1 (.inr ⟨hk, hs⟩) (by omega) _
   · rw [hc, fZ]
     refine dR _ _ _ 0 _ (fun k f hk => ?_)
     by_cases hkj2 : k = j
     · subst hkj2
       rw [hkj] at hk; cases hk
       right; intro c; simp [chF, ht]
     · left
       have : (0 + k == 0 + j) = false := by simp; exact hkj2
       simp only [this, Bool.false_or]
end Go.Am
end
section
namespace Go.Am
variable {P : Program} [Glob P]
def ownFlag (h : AO) : Bool := match h.op with | .mkSl own _ _ _ _ _ => own | .store own _ _ _ => own | .mvs _ => true | _ => false
def inB (n : Nat) (ao : AO) : Bool :=
 (match ao.dst with | some d => decide (d < n) | none => true) && (match ao.guard with | some (g, _) => decide (g < n) | none => true)
def kg (P : Program) (n : Nat) (ops : Array Oper) : List AO → List Oper → Option (List AO)
 | [], [] => some []
 | h :: hs, o :: os => (n9 P (ownFlag h) h.tot ops o).bind fun ao => if inB n ao && (ao.tot == h.tot) then (kg P n ops hs os).map (ao :: ·) else none
 | _, _ => none
def dN (P : Program) (n : Nat) : AC → Code → Option AC
 | .keep l x, c => (dN P n x c).map (.keep l)
 | .cut x, c => (dN P n x c).map .cut
 | .nilrow i sz ty x, c => (dN P n x c).map (.nilrow i sz ty)
 | .fz l x, c => (dN P n x c).map (.fz l)
 | .deepen i isz ity x, c => (dN P n x c).map (.deepen i isz ity)
 | .rangeFunc _ _ a b, .rangeFunc g ps x y => if ps.all (fun p => decide (p < n)) then (dN P n a x).bind fun a' => (dN P n b y).map fun b' => .rangeFunc g ps.toList a' b' else none
 | .skip, .skip => some .skip
 | .ret, .ret => some .ret
 | .seq a b, .seq c d => (dN P n a c).bind fun a' => (dN P n b d).map fun b' => .seq a' b'
 | .region dr hs, .region _ ops draw =>
  if draw = dr then (kg P n ops hs ops.toList).bind fun r => if !dr || (pV ops r && P.follows .mixedOrders) then some (.region dr r) else none else none
 | .draw e rb hs, .region _ ops true =>
  (kg P n ops hs ops.toList).bind fun r => if nP e rb ops r && P.follows .mixedOrders then some (.draw e rb r) else none
 | .cond _ a b, .cond c x y => (dN P n a x).bind fun a' => (dN P n b y).map fun b' => .cond c a' b'
 | .block _ a, .block id x => (dN P n a x).map (.block id)
 | .loop a, .loop x => (dN P n a x).map .loop
 | .exit _, .exit id => some (.exit id)
 | _, _ => none
inductive It where
 | c (x : AC)
 | blk (id : Nat)
 | post (Q : ASt → Prop)
 | rnd (N : ASt → Prop) (R : Code → ASt → Prop)
 | lp (x : AC)
def RnH (P : Program) [Glob P] (cx : Cx) (Q : ASt → Prop) (a : Act) (w : World) : Prop := ∃ E U st, Holds P cx E U a w st ∧ Q st
def xi (P : Program) (ro : Option Nat) (Q : Exit → Act → World → Prop) (c : Code) (a : Act) (w : World) : Prop :=
 ∀ (b : Frame) (kk : List Item) (cs : List Frame), b.roundOf = (FW ro).round → (FW ro).fn b.fn → (FW ro).room (cs.length + 1 + 0) →
  ∃ e a' w', Q e a' w' ∧ ArrivesIn (Machine.fenced P (FW ro)) P (lone (b.atR a (.code c :: .inLoop c :: kk)) cs w) b kk cs e a' w'
def WE (P : Program) [Glob P] (cx : Cx) (Q : ASt → Prop) : List It → Exit → Act → World → Prop
 | [], .normal, a, w => RnH P cx Q a w
 | [], .ret, a, w => RnH P cx Q a w
 | [], _, _, _ => False
 | .c x :: k, .normal, a, w => ∀ code, dN P cx.n x code = some x → code.wpIn (FW cx.ro) 0 P (WE P cx Q k) a w
 | .c _ :: k, e, a, w => WE P cx Q k e a w
 | .blk _ :: k, .normal, a, w => WE P cx Q k .normal a w
 | .blk id :: k, .exit j, a, w => if j = id then WE P cx Q k .normal a w else WE P cx Q k (.exit j) a w
 | .blk _ :: k, e, a, w => WE P cx Q k e a w
 | .post R :: _, .normal, a, w => RnH P cx R a w
 | .post _ :: k, e, a, w => WE P cx Q k e a w
 | .lp x :: k, .normal, a, w => ∀ code, dN P cx.n x code = some x → xi P cx.ro (WE P cx Q k) code a w
 | .lp _ :: k, e, a, w => WE P cx Q k e a w
 | .rnd N _ :: _, .normal, a, w => RnH P cx N a w
 | .rnd _ R :: _, .ret, a, w => RnH P cx (R .ret) a w
 | .rnd _ R :: _, .exit j, a, w => RnH P cx (R (.exit j)) a w
 | .rnd _ _ :: _, _, _, _ => False
def SG (P : Program) [Glob P] (cx : Cx) (Q : ASt → Prop) (k : List It) (st : ASt) : Prop :=
 ∀ E U a w, Holds P cx E U a w st → WE P cx Q k .normal a w
def DG (P : Program) [Glob P] (cx : Cx) (Q : ASt → Prop) (dr : Bool) (k : List It) (os : List AO) (st : ASt) : Prop :=
 match dr with
 | true => ∃ st', jJ P true os st st' ∧ SG P cx Q k st'
 | false => kx P cx (SG P cx Q k) os st
variable {cx : Cx} {Q : ASt → Prop} {k : List It} {st : ASt}
def bu (Q : ASt → Prop) : List It → ASt → Prop
 | [], st => Q st
 | .rnd _ R :: _, st => R .ret st
 | .c _ :: k, st => bu Q k st
 | .blk _ :: k, st => bu Q k st
 | .post _ :: k, st => bu Q k st
 | .lp _ :: k, st => bu Q k st
theorem lW : ∀ (k : List It) (a : Act) (w : World), RnH P cx (bu Q k) a w → WE P cx Q k .ret a w
 | [], _, _, h => h
 | .c _ :: k, a, w, h => lW k a w h
 | .blk _ :: k, a, w, h => lW k a w h
 | .post _ :: k, a, w, h => lW k a w h
 | .lp _ :: k, a, w, h => lW k a w h
 | .rnd _ _ :: _, _, _, h => h
inductive ER where
 | cont (k : List It)
 | out (p : ASt → Prop)
 | none
def aI (id : Nat) : List It → ER
 | [] => .none
 | .blk j :: k => if j = id then .cont k else aI id k
 | .rnd _ R :: _ => .out (R (.exit id))
 | .c _ :: k => aI id k
 | .post _ :: k => aI id k
 | .lp _ :: k => aI id k
theorem kQ {id : Nat} : ∀ (k k' : List It) (a : Act) (w : World), aI id k = .cont k' → WE P cx Q k' .normal a w → WE P cx Q k (.exit id) a w
 | [], k', a, w, h, _ => by simp [aI] at h
 | .c _ :: k, k', a, w, h, h2 => kQ k k' a w (by simpa only [aI] using h) h2
 | .post _ :: k, k', a, w, h, h2 => kQ k k' a w (by simpa only [aI] using h) h2
 | .lp _ :: k, k', a, w, h, h2 => kQ k k' a w (by simpa only [aI] using h) h2
 | .rnd _ _ :: k, k', a, w, h, h2 => by simp [aI] at h
 | .blk j :: k, k', a, w, h, h2 => by
  simp only [aI] at h
  simp only [WE]
  by_cases hj : j = id
  · subst hj; simp at h; subst h; simpa using h2
  · rw [if_neg hj] at h
    rw [if_neg (fun e => hj e.symm)]
    exact kQ k k' a w h h2
theorem mj {id : Nat} : ∀ (k : List It) (p : ASt → Prop) (a : Act) (w : World), aI id k = .out p → RnH P cx p a w → WE P cx Q k (.exit id) a w
 | [], p, a, w, h, _ => by simp [aI] at h
 | .c _ :: k, p, a, w, h, h2 => mj k p a w (by simpa only [aI] using h) h2
 | .post _ :: k, p, a, w, h, h2 => mj k p a w (by simpa only [aI] using h) h2
 | .lp _ :: k, p, a, w, h, h2 => mj k p a w (by simpa only [aI] using h) h2
 | .rnd _ R :: k, p, a, w, h, h2 => by simp only [aI, ER.out.injEq] at h; subst h; exact h2
 | .blk j :: k, p, a, w, h, h2 => by
  simp only [aI] at h
  simp only [WE]
  by_cases hj : j = id
  · subst hj; simp at h
  · rw [if_neg hj] at h
    rw [if_neg (fun e => hj e.symm)]
    exact mj k p a w h h2
theorem S_nil (h : Q st) : SG P cx Q [] st := fun E U a w hh => ⟨E, U, st, hh, h⟩
theorem S_post {R : ASt → Prop} (h : R st) : SG P cx Q (.post R :: k) st := fun E U a w hh => ⟨E, U, st, hh, h⟩
theorem S_blk {id : Nat} (h : SG P cx Q k st) : SG P cx Q (.blk id :: k) st := fun E U a w hh => h E U a w hh
theorem fC {x : AC} (h : ∀ code, dN P cx.n x code = some x → ∀ E U a w, Holds P cx E U a w st → code.wpIn (FW cx.ro) 0 P (WE P cx Q k) a w) : SG P cx Q (.c x :: k) st :=
 fun E U a w hh code hc => h code hc E U a w hh
theorem q7 {x : AC} {c : Code} {E : Env} {U : Nat → Prop} {a : Act} {w : World} (h : SG P cx Q (.c x :: .lp x :: k) st) (hh : Holds P cx E U a w st) (hc : dN P cx.n x c = some x) : xi P cx.ro (WE P cx Q k) c a w := by
 intro b kk cs hro hF hroom
 obtain ⟨e, a1, w1, hq, harr⟩ := h E U a w hh c hc b (.inLoop c :: kk) cs hro hF hroom
 cases e with
 | normal =>
  obtain ⟨e2, a2, w2, hq2, harr2⟩ := hq c hc b kk cs hro hF hroom
  exact ⟨e2, a2, w2, hq2, .of_steps (StepsIn.trans harr (.one (fenced_calm hF hroom rfl) stepR_inLoop)) harr2⟩
 | exit id => exact ⟨_, a1, w1, hq, .pass (x := .inLoop c) rfl (fun _ _ => .inl (by simp)) harr⟩
 | goto l => exact ⟨_, a1, w1, hq, .pass (x := .inLoop c) rfl (fun _ _ => .inl (by simp)) harr⟩
 | ret => exact ⟨_, a1, w1, hq, .pass (x := .inLoop c) rfl (fun _ _ => .inl (by simp)) harr⟩
 | panic ch => exact ⟨_, a1, w1, hq, .pass (x := .inLoop c) rfl (fun _ _ => .inl (by simp)) harr⟩
 | outgrown => exact ⟨_, a1, w1, hq, .pass (x := .inLoop c) rfl (fun _ _ => .inl (by simp)) harr⟩
theorem S_lp {x : AC} (h : SG P cx Q (.c x :: .lp x :: k) st) : SG P cx Q (.lp x :: k) st := fun _ _ _ _ hh _ hc => q7 h hh hc
theorem S_lp0 {x : AC} (h : SG P cx Q (.c x :: .lp x :: k) st) : SG P cx Q (.c (.loop x) :: k) st := fC fun code hc E U a w hh => by
 cases code <;> simp [dN] at hc
 rename_i c
 intro b kk cs hro hF hroom
 obtain ⟨e, a', w', hq, harr⟩ := q7 h hh hc b kk cs hro hF hroom
 exact ⟨e, a', w', hq, .of_steps (.one (fenced_calm hF hroom rfl) stepR_loop) harr⟩
theorem S_skip (h : SG P cx Q k st) : SG P cx Q (.c .skip :: k) st := fC fun code hc E U a w hh => by
 cases code <;> simp [dN] at hc
 exact wpIn_skip (h E U a w hh)
theorem S_ret (h : bu Q k st) : SG P cx Q (.c .ret :: k) st := fC fun code hc E U a w hh => by
 cases code <;> simp [dN] at hc
 exact wpIn_ret (lW k a w ⟨E, U, st, hh, h⟩)
theorem S_out {id : Nat} {p : ASt → Prop} (hk : aI id k = .out p) (h : p st) : SG P cx Q (.c (.exit id) :: k) st := fC fun code hc E U a w hh => by
 cases code <;> simp [dN] at hc
 subst hc
 exact wpIn_exit (mj k p a w hk ⟨E, U, st, hh, h⟩)
theorem S_exit {id : Nat} {k' : List It} (hk : aI id k = .cont k') (h : SG P cx Q k' st) : SG P cx Q (.c (.exit id) :: k) st := fC fun code hc E U a w hh => by
 cases code <;> simp [dN] at hc
 subst hc
 exact wpIn_exit (kQ k k' a w hk (h E U a w hh))
theorem sk {x y : AC} (h : SG P cx Q (.c x :: .c y :: k) st) : SG P cx Q (.c (.seq x y) :: k) st := fC fun code hc E U a w hh => by
 cases code <;> simp only [dN, Option.bind_eq_some_iff, Option.map_eq_some_iff, reduceCtorEq] at hc
 rename_i c d
 obtain ⟨a', h1, b', h2, h3⟩ := hc
 cases h3
 refine wpIn_seq (wpIn_mono (h E U a w hh c h1) (fun e a w he => ?_))
 cases e <;> first | exact he | exact he d h2
theorem S_keep {l : List Nat} {x : AC} (h : SG P cx Q (.c x :: k) st) : SG P cx Q (.c (.keep l x) :: k) st := fC fun code hc E U a w hh => by
 simp only [dN, Option.map_eq_some_iff] at hc
 obtain ⟨x', h1, h2⟩ := hc
 cases h2
 exact h E U a w hh code h1
theorem wS {i sz : Nat} {ty : TypeId} {x : AC} (h : SG P cx Q (.c x :: k) st) : SG P cx Q (.c (.nilrow i sz ty x) :: k) st := fC fun code hc E U a w hh => by
 simp only [dN, Option.map_eq_some_iff] at hc
 obtain ⟨x', h1, h2⟩ := hc
 cases h2
 exact h E U a w hh code h1
theorem S_fz0 {l : List Nat} {x : AC} (h : SG P cx Q (.c x :: k) st) : SG P cx Q (.c (.fz l x) :: k) st := fC fun code hc E U a w hh => by
 simp only [dN, Option.map_eq_some_iff] at hc
 obtain ⟨x', h1, h2⟩ := hc
 cases h2
 exact h E U a w hh code h1
theorem wy {i isz : Nat} {ity : TypeId} {x : AC} (h : SG P cx Q (.c x :: k) st) : SG P cx Q (.c (.deepen i isz ity x) :: k) st := fC fun code hc E U a w hh => by
 simp only [dN, Option.map_eq_some_iff] at hc
 obtain ⟨x', h1, h2⟩ := hc
 cases h2
 exact h E U a w hh code h1
theorem S_block {id : Nat} {x : AC} (h : SG P cx Q (.c x :: .blk id :: k) st) : SG P cx Q (.c (.block id x) :: k) st := fC fun code hc E U a w hh => by
 cases code <;> simp [dN] at hc
 rename_i id' c
 obtain ⟨h1, rfl⟩ := hc
 refine wpIn_block (wpIn_mono (h E U a w hh c h1) (fun e a w he => ?_))
 cases e <;> exact he
theorem S_cond {c : Operand} {x y : AC} {b : Bool} (hb : aw P st.t c = .s (.bool b)) (h1 : b = true → SG P cx Q (.c x :: k) st) (h2 : b = false → SG P cx Q (.c y :: k) st) : SG P cx Q (.c (.cond c x y) :: k) st := fC fun code hc E U a w hh => by
 cases code <;> simp only [dN, Option.bind_eq_some_iff, Option.map_eq_some_iff, reduceCtorEq] at hc
 rename_i c' p q
 obtain ⟨a', g1, b', g2, g3⟩ := hc
 cases g3
 have he := dx (hb ▸ hh.ev c)
 exact wpIn_cond_split he (fun e => h1 e E U a w hh p g1) (fun e => h2 e E U a w hh q g2)
theorem jt {n : Nat} {ops : Array Oper} : ∀ {hs : List AO} {os : List Oper} {r : List AO}, kg P n ops hs os = some r → r.length = os.length ∧ ∀ (j : Nat) o ao, os[j]? = some o → r[j]? = some ao → gM P n ops o ao
 | [], [], r, h => by simp [kg] at h; subst h; exact ⟨rfl, fun j o ao h => by simp at h⟩
 | [], o :: os, r, h => by simp [kg] at h
 | x :: hs, [], r, h => by simp [kg] at h
 | x :: hs, o :: os, r, h => by
  simp only [kg, Option.bind_eq_some_iff] at h
  obtain ⟨ao, h1, h2⟩ := h
  split at h2
  · rename_i hb
    simp only [Option.map_eq_some_iff] at h2
    obtain ⟨r', h3, rfl⟩ := h2
    obtain ⟨g1, g2⟩ := jt h3
    refine ⟨by simp [g1], fun j o' ao' ho ha => ?_⟩
    cases j with
    | zero =>
     simp at ho ha
     subst ho ha
     simp only [Bool.and_eq_true, inB, beq_iff_eq] at hb
     obtain ⟨⟨b1, b2⟩, b3⟩ := hb
     refine ⟨⟨_, by rw [b3]; exact h1⟩, fun d hd => ?_, fun d want hd => ?_⟩
     · rw [hd] at b1; simpa using b1
     · rw [hd] at b2; simpa using b2
    | succ j => simp at ho ha; exact g2 j o' ao' ho ha
  · cases h2
theorem o9 {dr : Bool} {os : List AO} (h : DG P cx Q dr k os st) : SG P cx Q (.c (.region dr os) :: k) st := fC fun code hc E U a w hh => by
 cases code <;> simp only [dN, reduceCtorEq] at hc
 rename_i id ops draw
 split at hc
 · rename_i hd
   subst hd
   simp only [Option.bind_eq_some_iff] at hc
   obtain ⟨r, h3, h4⟩ := hc
   split at h4
   · rename_i hok
     simp only [Option.some.injEq, AC.region.injEq, true_and] at h4
     subst h4
     obtain ⟨g1, g2⟩ := jt h3
     have g2' : ∀ (j : Nat) o ao, ops[j]? = some o → r[j]? = some ao → gM P cx.n ops o ao := fun j o ao ho ha => g2 j o ao (by simpa using ho) ha
     cases draw with
     | false =>
      exact wpIn_region_list (rh (cx := cx) (Q := WE P cx Q k) (G := SG P cx Q k) (fun st' h2 E' U' a' w' h => h2 E' U' a' w' h) ops.toList r st E U a w g1.symm g2 h hh)
     | true =>
      obtain ⟨st', h1, h2⟩ := h
      simp only [Bool.not_true, Bool.false_or, Bool.and_eq_true] at hok
      exact uu hok.2 (by simpa using g1.symm) g2' hok.1 h1 hh (fun E' U' a' w' h => h2 E' U' a' w' h)
   · cases h4
 · cases hc
def LeS (s s' : ASt) : Prop := (∀ i, gt s'.t i = .any ∨ gt s.t i = gt s'.t i) ∧ ((s'.ch.map (·.1)).Nodup ∧ ∀ p ∈ s'.ch, lk s.ch p.1 = some p.2)
theorem jA.less {E : Env} {U : Nat → Prop} {h : Array Obj} {ch ch' : Chs} {b : Nat} {o : Obj} (hh : jA E U h ch b o) (hs : ∀ k c, (k, c) ∈ ch' → (k, c) ∈ ch) : jA E U h ch' b o := ⟨hh.1, hh.2.1, fun k c hm => hh.2.2 k c (hs k c hm)⟩
theorem Holds.le {cx : Cx} {E : Env} {U : Nat → Prop} {a : Act} {w : World} {s s' : ASt} (hh : Holds P cx E U a w s) (h : LeS s s') : Holds P cx E U a w s' := by
 have hs : ∀ k c, (k, c) ∈ s'.ch → (k, c) ∈ s.ch := fun k c hm => du (h.2.2 (k, c) hm)
 refine ⟨hh.sz, ?_, fun i => ?_, hh.inv.sub hs h.2.1, hh.os, hh.tape, hh.output, hh.size, hh.fr, hh.keepA, fun k c hm => hh.live k c (hs k c hm), hh.base, fun k cs hk hm => hh.fix k cs hk (hs k _ hm), fun p hp => (hh.hid p hp).less hs, hh.gok⟩
 · obtain ⟨Ds, h1, h2, h3⟩ := hh.df
   exact ⟨Ds, h1, h2, fun D hD => ⟨(h3 D hD).1, (h3 D hD).2.less hs⟩⟩
 · rcases h.1 i with e | e
   · rw [e]; exact .d (.any _)
   · rw [← e]; exact hh.tok i
end Go.Am
end
section
namespace Go.Am
variable {P : Program} [Glob P] {cx : Cx} {Q : ASt → Prop} {k : List It} {st : ASt}
def aq : List Nat → Nat → Bool
 | [], _ => false
 | j :: l, i => if j = i then true else aq l i
def bv (l : List Nat) : dz → dz
 | [] => []
 | (i, c) :: t => if aq l i = true then (i, c) :: bv l t else bv l t
theorem zg (l : List Nat) (t : dz) (i : Nat) : gt (bv l t) i = .any ∨ gt t i = gt (bv l t) i := by
 induction t with
 | nil => exact .inl rfl
 | cons p t ih =>
  obtain ⟨j, c⟩ := p
  simp only [bv]
  by_cases hj : j = i
  · subst hj
    by_cases hl : aq l j = true
    · rw [if_pos hl]; exact .inr (by simp [gt, lk])
    · rw [if_neg hl]
      left
      have : ∀ t : dz, gt (bv l t) j = .any := by
       intro t
       induction t with
       | nil => rfl
       | cons q t ih2 =>
        obtain ⟨m, c'⟩ := q
        simp only [bv]
        by_cases hm : aq l m = true
        · rw [if_pos hm]
          have hne : m ≠ j := fun e => hl (e ▸ hm)
          simp only [gt, lk, if_neg hne] at ih2 ⊢
          exact ih2
        · rw [if_neg hm]; exact ih2
      exact this t
  · by_cases hl : aq l j = true
    · rw [if_pos hl]
      simp only [gt, lk, if_neg hj] at ih ⊢
      exact ih
    · rw [if_neg hl]
      simp only [gt, lk, if_neg hj] at ih ⊢
      exact ih
theorem Holds.slots {E : Env} {U : Nat → Prop} {a : Act} {w : World} {t : dz} (hh : Holds P cx E U a w st) (ht : ∀ i, Rep E U w.heap (gt t i) (a.tmps.getD i undef)) : Holds P cx E U a w ⟨t, st.ch⟩ :=
 ⟨hh.sz, hh.df, ht, hh.inv, hh.os, hh.tape, hh.output, hh.size, hh.fr, hh.keepA, hh.live, hh.base, hh.fix, hh.hid, hh.gok⟩
theorem S_keepT {l : List Nat} (h : SG P cx Q k ⟨bv l st.t, st.ch⟩) : SG P cx Q k st := fun E U a w hh =>
 h E U a w (hh.slots fun i => by
  rcases zg l st.t i with e | e
  · rw [e]; exact .d (.any _)
  · rw [← e]; exact hh.tok i)
theorem eP.refl : eP P cx st st := fun E U _ _ hh => ⟨E, U, hh⟩
theorem kN {s' : ASt} (hg : eP P cx st s') (h : SG P cx Q k s') : SG P cx Q k st := fun E U a w hh => by
 obtain ⟨E', U', h'⟩ := hg E U a w hh
 exact h E' U' a w h'
theorem Holds.ghost {E : Env} {U : Nat → Prop} {a : Act} {w : World} (hh : Holds P cx E U a w st) {m : List (Nat × Sb)} {d : Nat} {E' : Env} {U' : Nat → Prop} {ch' : Chs} (hd : d < 100000) (he : Ev E U w st.ch m d E' U' w ch') : Holds P cx E' U' a w ⟨bB m st.t, ch'⟩ := by
 refine ⟨hh.sz, hh.onDf he, fun i => by rw [mg]; exact he.rep (hh.tok i), he.inv, hh.os, hh.tape, hh.output, hh.size, hh.fr, fun b hb => ⟨(he.keep b (hh.keepA b hb).1).1, (hh.keepA b hb).2⟩, fun k c hm b hb => ?_, fun b hb => ?_, fun k cs hk hm => ?_, fun p hp => (hh.hid p hp).ev he, hh.gok.mono he.keep⟩
 · rcases he.live k c hm b hb with h | ⟨k0, c0, h1, h2⟩
   · exact .inl (Nat.le_trans hh.size h)
   · exact hh.live k0 c0 h1 b h2
 · rcases he.newU b hb with h | h | ⟨k0, c0, h1, h2⟩
   · exact hh.base b h
   · exact .inr (.inl (Nat.le_trans hh.size h))
   · rcases hh.live k0 c0 h1 b h2 with h | h
     · exact .inr (.inl h)
     · exact .inr (.inr h)
 · rcases he.boxes k cs hm with h | ⟨⟨cs0, h1⟩, h2⟩
   · have := Cx.fx_ge hk; omega
   · exact h2.trans (hh.fix k cs0 hk h1)
def bp (ch : Chs) : List Nat → List (Nat × Sb)
 | [] => []
 | k :: ks =>
  match (lk ch k).bind bI with
  | some x => (k, .c x) :: bp ch ks
  | none => bp ch ks
theorem kz {ch : Chs} : ∀ ks : List Nat, t5 ch (bp ch ks)
 | [] => fun k c h => by simp [bp] at h
 | k :: ks => by
  simp only [bp]
  cases hl : (lk ch k).bind bI with
  | none => exact kz ks
  | some x =>
   simp only [Option.bind_eq_some_iff] at hl
   obtain ⟨c0, hl, hx⟩ := hl
   intro k' c' h
   simp only [List.lookup_cons] at h
   by_cases hk : k' = k
   · subst hk; simp at h; exact ⟨c0, x, hl, hx, h.symm⟩
   · have hb : (k' == k) = false := by simp [hk]
     rw [hb] at h
     exact kz ks k' c' h
def cu (ks : List Nat) (s : ASt) : ASt := ⟨bB (bp s.ch ks) s.t, ag (bp s.ch ks) (aD s.ch (bp s.ch ks))⟩
theorem Holds.fz {E : Env} {U : Nat → Prop} {a : Act} {w : World} (hh : Holds P cx E U a w st) (ks : List Nat) : ∃ U', Holds P cx E U' a w (cu ks st) := by
 have he := Ev.freeze (w1 := w) hh.inv (kz ks) rfl rfl rfl (Nat.le_refl _) (fun _ _ => rfl) (fun _ => False) (fun b h => h.elim) 0
 exact ⟨_, hh.ghost (by decide) he⟩
theorem eP.fz (ks : List Nat) : eP P cx st (cu ks st) := fun E U a w hh => by
 obtain ⟨U', h⟩ := hh.fz ks
 exact ⟨E, U', h⟩
theorem S_fz (ks : List Nat) (h : SG P cx Q k (cu ks st)) : SG P cx Q k st := kN (eP.fz ks) h
def dc (i sz : Nat) (ty : TypeId) (s : ASt) : ASt := ⟨ar (bB [(i, .c .any)] s.t) i (.own i), (i, .row sz ty []) :: ag [(i, .c .any)] (af s.ch i)⟩
theorem eP.nilrow {i sz : Nat} {ty : TypeId} (hi : i < 100000) (hn : gt st.t i = .s (.slice none 0 0)) : eP P cx st (dc i sz ty st) := fun E U a w hh => by
 let x : KE := ke0 ⟨0, 0, 0, 0, sz, true⟩
 have hx : dy (dB E i x) U w.heap i (.row sz ty []) := by
  rw [dy, updE_same]
  exact ⟨⟨rfl, rfl, (fun n el h => by simp at h), .inl ⟨rfl, rfl⟩⟩, jz _⟩
 have he := Ev.freshNil hh.inv i x (.row sz ty []) (fun b hb => by cases hb.1) hx
 have hv : a.tmps.getD i undef = .slice none 0 0 := dx (hn ▸ hh.tok i)
 have h1 := hh.ghost hi he
 refine ⟨_, U, h1.slots fun j => ?_⟩
 by_cases hj : i = j
 · subst hj
   simp only [je, if_true]
   have := Rep.own (E := dB E i x) (U := U) (h := w.heap) i
   rw [updE_same] at this
   rw [hv]; exact this
 · have := h1.tok j
   simp only [je, if_neg hj]
   exact this
theorem zI {i sz : Nat} {ty : TypeId} (hi : i < 100000) (hn : gt st.t i = .s (.slice none 0 0)) (h : SG P cx Q k (dc i sz ty st)) : SG P cx Q k st := kN (eP.nilrow hi hn) h
def cU (kk isz : Nat) (ity ty : TypeId) (es : List (List C)) (s : ASt) : ASt := ⟨bB [(kk, .inner)] s.t, (kk, .deep isz ity ty none (es.map fun _ => [])) :: ag [(kk, .inner)] (af s.ch kk)⟩
theorem eP.deepen {kk isz : Nat} {ity ty : TypeId} {es : List (List C)} (hl : lk st.ch kk = some (.row 1 ty es)) (hes : ∀ e ∈ es, e = [.s (.slice none 0 0)]) : eP P cx st (cU kk isz ity ty es st) := fun E U a w hh => by
 have hkm := du hl
 obtain ⟨⟨h1, h2, h3, h4⟩, hf⟩ := hh.inv.ok kk _ hkm
 let y0 : KE0 := ⟨0, 0, 0, 0, isz, true⟩
 let x : KE := mkK (E kk).toKE0 (fun _ => y0) (ey isz ity none (es.map fun _ => []))
 have hx : FpOk x (ey isz ity none (es.map fun _ => [])) := pO (fun i q _ h => by cases h) (fun i j q q' _ _ _ h => by cases h)
 have he := Ev.write (w1 := w) (k := kk) (c1 := .deep isz ity ty none (es.map fun _ => [])) (x := x) hh.inv hl rfl rfl rfl (Nat.le_refl _) (fun _ _ _ => rfl) rfl (fun b hb => by
  rcases hb with h | ⟨i, q, _, h, _⟩
  · exact (hf.fp b).2 (.inl h)
  · cases h) (fun ⟨cs, h⟩ => by cases h) (fun _ _ => by
  simp only [dy, updE_same]
  refine ⟨⟨by rw [List.length_map]; exact h1, h2, ?_⟩, hx, fun i n t es' h => ?_⟩
  · rcases h4 with ⟨g1, rfl⟩ | ⟨g1, g2, g3, arr, g4, g5, g6⟩
    · exact .inl ⟨g1, rfl⟩
    · refine .inr ⟨g1, by rw [List.length_map]; exact g2, g3, arr, g4, by rw [Nat.mul_one] at g5; exact g5, fun i hi => ?_⟩
      have hi' : i < es.length := by simpa using hi
      have e1 := hes es[i] (List.getElem_mem hi')
      have e2 : es[i]? = some [.s (.slice none 0 0)] := by rw [List.getElem?_eq_getElem hi', e1]
      obtain ⟨r1, r2⟩ := g6 i _ 0 _ e2 rfl
      rw [Nat.mul_one, Nat.add_zero] at r1 r2
      exact ⟨r2, fun _ => sH r1⟩
  · simp only [ey, reduceCtorEq, if_false, List.getElem?_map, Option.map_map, Option.map_eq_some_iff] at h
    obtain ⟨e, _, h⟩ := h
    simp only [Function.comp, Prod.mk.injEq] at h
    obtain ⟨rfl, rfl, rfl⟩ := h
    exact ⟨rfl, rfl, (fun n el h => by simp at h), .inl ⟨rfl, rfl⟩⟩) 0
 exact ⟨_, U, hh.ghost (by decide) he⟩
variable {dr : Bool} {o : AO} {os : List AO}
def bM (dr : Bool) (o : AO) (ef : Eff) (s : ASt) : Prop :=
 match dr, o.tot with
 | true, false => ef.ch = s.ch ∧ ef.sub = []
 | _, _ => True
theorem o6 {ef : Eff} {s : ASt} (h : bM dr o ef s) : dr = true → o.tot = true ∨ (ef.ch = s.ch ∧ ef.sub = []) := fun hd => by
 subst hd
 cases ht : o.tot with
 | true => exact .inl rfl
 | false => simp only [bM, ht] at h; exact .inr h
theorem D_nil (h : SG P cx Q k st) : DG P cx Q dr k [] st := by
 cases dr with
 | true => exact ⟨st, rfl, h⟩
 | false => exact h
theorem nO {ef : Eff} (hs : StepE P o st ef) (hd : bM dr o ef st) (h : DG P cx Q dr k os (aA o.dst ef st)) : DG P cx Q dr k (o :: os) st := by
 cases dr with
 | true =>
  obtain ⟨st', h1, h2⟩ := h
  exact ⟨st', ⟨ef, hs, o6 hd, h1⟩, h2⟩
 | false =>
  cases hs with
  | yes _ hw hr => exact .inr ⟨hw, st, eP.refl, .inl ⟨ef, hr, h⟩⟩
  | no hw => exact .inl ⟨hw, h⟩
theorem D_ghost {s' : ASt} (hno : o.guard = none) (hg : eP P cx st s') (h : DG P cx Q false k (o :: os) s') : DG P cx Q false k (o :: os) st := by
 rcases h with ⟨h1, _⟩ | ⟨h1, s1, g1, g2⟩
 · rw [hno] at h1; cases h1
 · refine .inr ⟨by rw [hno]; rfl, s1, fun E U a w hh => ?_, g2⟩
   obtain ⟨E', U', h'⟩ := hg E U a w hh
   exact g1 E' U' a w h'
theorem m8 {outs : List Eff} (hg : o.guard = none) (ho : OpM P cx.ro (aw P st.t) st.ch (o.dst.getD 0) o.op outs) (h : ∀ ef ∈ outs, DG P cx Q false k os (aA o.dst ef st)) : DG P cx Q false k (o :: os) st :=
 .inr ⟨by rw [hg]; rfl, st, eP.refl, .inr ⟨outs, ho, h⟩⟩
def EqS (s s' : ASt) : Prop := (∀ i, gt s.t i = gt s'.t i) ∧ s.ch = s'.ch
theorem jJ.eqS : ∀ (os : List AO) (s s2 s' : ASt), EqS s s2 → jJ P dr os s s' → ∃ s2', EqS s' s2' ∧ jJ P dr os s2 s2'
 | [], s, s2, s', he, h => by simp only [jJ] at h; subst h; exact ⟨s2, he, rfl⟩
 | o :: os, s, s2, s', he, h => by
  obtain ⟨ef, h1, h2, h3⟩ := h
  have he2 : EqS (aA o.dst ef s) (aA o.dst ef s2) := ⟨fun i => by simp only [aA, iH, he.1 i], rfl⟩
  obtain ⟨s2', g1, g2⟩ := jJ.eqS os _ _ s' he2 h3
  exact ⟨s2', g1, ef, h1.congr (fun i _ => he.1 i) he.2, fun hd => by rw [← he.2]; exact h2 hd, g2⟩
theorem SG.eqS {s2 : ASt} (he : EqS s2 st) (h : SG P cx Q k s2) : SG P cx Q k st := fun E U a w hh => h E U a w (hh.ext (fun i => (he.1 i).symm) he.2.symm)
theorem eP.eqS {s s' : ASt} (he : EqS s s') : eP P cx s' s := fun E U _ _ hh => ⟨E, U, hh.ext (fun i => (he.1 i).symm) he.2.symm⟩
theorem kx.eqS {G : ASt → Prop} (hG : ∀ s s2, EqS s2 s → G s2 → G s) : ∀ (os : List AO) (s s2 : ASt), EqS s2 s → kx P cx G os s2 → kx P cx G os s
 | [], s, s2, he, h => hG s s2 he h
 | o :: os, s, s2, he, h => by
  have hw : fU s2.t o.guard = fU s.t o.guard := by
   cases hg : o.guard with
   | none => rfl
   | some g => obtain ⟨g, want⟩ := g; simp only [fU, he.1 g]
  rcases h with ⟨h1, h2⟩ | ⟨h1, s1, g1, g2⟩
  · refine .inl ⟨hw ▸ h1, kx.eqS hG os _ (aA o.dst ⟨True, .s undef, s2.ch, []⟩ s2) ⟨fun i => by simp only [aA, iH, he.1 i], he.2⟩ h2⟩
  · refine .inr ⟨hw ▸ h1, s1, fun E U a w hh => ?_, g2⟩
    obtain ⟨E', U', h'⟩ := eP.eqS he E U a w hh
    exact g1 E' U' a w h'
theorem DG.eqS {s2 : ASt} (he : EqS s2 st) (h : DG P cx Q dr k os s2) : DG P cx Q dr k os st := by
 cases dr with
 | true =>
  obtain ⟨s', h1, h2⟩ := h
  obtain ⟨s2', g1, g2⟩ := jJ.eqS os _ _ s' he h1
  exact ⟨s2', g2, h2.eqS g1⟩
 | false => exact kx.eqS (fun s s2 he h => SG.eqS he h) os _ _ he h
theorem vd {g : Nat} {c : C} (h : gt st.t g = c) : EqS ⟨ar st.t g c, st.ch⟩ st := ⟨fun i => by
 simp only [je]
 split
 · rename_i e; subst e; exact h.symm
 · rfl, rfl⟩
structure WfR (chs : Chs) (r : C) (chs' : Chs) (nk : List Nat) : Prop where
 new : ∀ k c, (k, c) ∈ chs' → k ∈ nk ∨ ∃ c0, (k, c0) ∈ chs
 old : ∀ k cs, (k, .box cs) ∈ chs → ∃ cs', (k, .box cs') ∈ chs'
 kr : dm (chs'.map (·.1)) r
 kc : ∀ k c, (k, c) ∈ chs' → iR (chs'.map (·.1)) c
structure Ent (P : Program) [Glob P] where
 id : FuncId
 sp : List C → Chs → Option (Prop × C × Chs × List Nat)
 ok : ∀ args chs p r chs' nk, sp args chs = some (p, r, chs', nk) → p → FC P id args chs r chs' ∧ WfR chs r chs' nk
 kp : List C → Chs → Option (Prop × C) := fun _ _ => none
 kpok : ∀ args chs p r, kp args chs = some (p, r) → p → FC P id args chs r chs ∧ fF chs = true ∧ dm [] r := by intro _ _ _ _ h; cases h
def Ent.mk3 (id : FuncId) (sp : List C → Chs → Option (Prop × C × Chs × List Nat)) (ok : ∀ args chs p r chs' nk, sp args chs = some (p, r, chs', nk) → p → FC P id args chs r chs' ∧ WfR chs r chs' nk) : Ent P := { id := id, sp := sp, ok := ok }
def cI : List (Ent P) → FuncId → List C → Chs → Option (Prop × C)
 | [], _, _, _ => none
 | e :: L, f, args, chs => if e.id = f then e.kp args chs else cI L f args chs
theorem tK : ∀ {L : List (Ent P)} {f : FuncId} {args : List C} {chs : Chs} {p : Prop} {r : C}, cI L f args chs = some (p, r) → p → FC P f args chs r chs ∧ fF chs = true ∧ dm [] r
 | [], _, _, _, _, _, h, _ => by cases h
 | e :: L, f, args, chs, p, r, h, hp => by
  simp only [cI] at h
  split at h
  · rename_i hf; subst hf; exact e.kpok args chs p r h hp
  · exact tK h hp
def cq : List (Ent P) → FuncId → List C → Chs → Option (Prop × C × Chs × List Nat)
 | [], _, _, _ => none
 | e :: L, f, args, chs => if e.id = f then e.sp args chs else cq L f args chs
theorem tY : ∀ {L : List (Ent P)} {f : FuncId} {args : List C} {chs : Chs} {p : Prop} {r : C} {chs' : Chs} {nk : List Nat}, cq L f args chs = some (p, r, chs', nk) → p → FC P f args chs r chs' ∧ WfR chs r chs' nk
 | [], _, _, _, _, _, _, _, h, _ => by cases h
 | e :: L, f, args, chs, p, r, chs', nk, h, hp => by
  simp only [cq] at h
  split at h
  · rename_i hf; subst hf; exact e.ok args chs p r chs' nk h hp
  · exact tY h hp
def bo (l : List Nat) (k : Nat) : List Nat := if aq l k = true then l else l ++ [k]
def aG (l : List Nat) : List C → List Nat
 | [] => l
 | .ptr k _ :: cs => aG (bo l k) cs
 | .eptr k _ _ :: cs => aG (bo l k) cs
 | .iptr k _ _ _ :: cs => aG (bo l k) cs
 | .fn _ xs ys :: cs => aG (passKs (passKs l xs) ys) cs
 | .agg xs :: cs => aG (passKs l xs) cs
 | _ :: cs => aG l cs
where passKs (l : List Nat) : List C → List Nat
 | [] => l
 | .ptr k _ :: cs => passKs (bo l k) cs
 | .eptr k _ _ :: cs => passKs (bo l k) cs
 | .iptr k _ _ _ :: cs => passKs (bo l k) cs
 | _ :: cs => passKs l cs
def aX (l : List Nat) : List C → List Nat
 | [] => l
 | .own k :: cs => aX (bo l k) cs
 | .inn k _ :: cs => aX (bo l k) cs
 | .ptr k _ :: cs => aX (bo l k) cs
 | .eptr k _ _ :: cs => aX (bo l k) cs
 | .iptr k _ _ _ :: cs => aX (bo l k) cs
 | _ :: cs => aX l cs
def bX (ch : Chs) (l : List Nat) : List Nat → List Nat
 | [] => l
 | k :: ks => match lk ch k with | some (.box cs) => bX ch (aX l cs) ks | _ => bX ch l ks
def aL (ps : List Nat) (l : List Nat) : List C → List Nat
 | [] => l
 | .own k :: cs => aL ps (if aq ps k = true then l else bo l k) cs
 | .inn k _ :: cs => aL ps (if aq ps k = true then l else bo l k) cs
 | .agg xs :: cs => aL ps (lendKs ps l xs) cs
 | _ :: cs => aL ps l cs
where lendKs (ps : List Nat) (l : List Nat) : List C → List Nat
 | [] => l
 | .own k :: cs => lendKs ps (if aq ps k = true then l else bo l k) cs
 | .inn k _ :: cs => lendKs ps (if aq ps k = true then l else bo l k) cs
 | _ :: cs => lendKs ps l cs
def cb (ch : Chs) : List Nat → Option Chs
 | [] => some []
 | k :: ks => (lk ch k).bind fun c => (cb ch ks).map ((k, c) :: ·)
def cV (i : Nat) : List Nat → List (Nat × Nat)
 | [] => []
 | k :: ks => (k, 100000 + i) :: cV (i + 1) ks
def bO : List (Nat × Nat) → List (Nat × Nat)
 | [] => []
 | (a, b) :: m => (b, a) :: bO m
def ce (d : Nat) : List Nat → List (Nat × Nat)
 | [] => []
 | k :: ks => (k, d) :: ce (d + 1000) ks
def bD : C → Bool
 | .s _ => true
 | .own _ => true
 | .ptr _ _ => true
 | .agg cs => flatBs cs
 | .tup cs => flatBs cs
 | _ => false
where flatBs : List C → Bool
 | [] => true
 | c :: cs => bD c && flatBs cs
def bY : Chs → Prop
 | [] => True
 | (_, c) :: r => bF c ∧ bY r
def bT (bs : List Nat) (r : C) (chs' : Chs) : Prop :=
 match bs with
 | [] => True
 | _ => aM r ∧ bY chs'
def an : List Nat → Prop
 | [] => True
 | k :: ks => aq ks k = false ∧ an ks
def cc (m mi : List (Nat × Nat)) : List Nat → Prop
 | [] => True
 | k :: ks => rn m (rn mi k) = k ∧ cc m mi ks
def bV : List Nat → List Nat → Prop
 | [], _ => True
 | k :: ks, l => aq l k = true ∧ bV ks l
def bL : List Nat → List Nat → Prop
 | [], _ => True
 | k :: ks, l => aq l k = false ∧ bL ks l
def aJ (ks : List Nat) : C → Bool
 | .own k => aq ks k
 | .ptr k _ => aq ks k
 | .eptr k _ _ => aq ks k
 | .inn k _ => aq ks k
 | .iptr k _ _ _ => aq ks k
 | .agg cs => keysBs ks cs
 | .tup cs => keysBs ks cs
 | .fn _ xs ys => keysBs ks xs && keysBs ks ys
 | _ => true
where keysBs (ks : List Nat) : List C → Bool
 | [] => true
 | c :: cs => aJ ks c && keysBs ks cs
def bU (ks : List Nat) : List C → Bool
 | [] => true
 | c :: cs => aJ ks c && bU ks cs
def aY (ks : List Nat) : Chs → Bool
 | [] => true
 | (_, .box cs) :: r => bU ks cs && aY ks r
 | _ :: r => aY ks r
def ae : Chs → List Nat
 | [] => []
 | (k, _) :: r => k :: ae r
inductive CR where
 | none
 | eff (e : Eff)
 | fz (ks : List Nat)
def cZ (ch : Chs) (ks bs : List Nat) (chs : Chs) (va : List C) (mi m2 : List (Nat × Nat)) (all : List C) (p : Prop) (chs' : Chs) (nk ck : List Nat) (r2 : C) (chs2 : Chs) (nk2 : List Nat) : CR :=
 .eff ⟨p ∧ aQ.viewOks ch bs all ∧ bT bs r2 chs2 ∧ an ((ck ++ nk).map (rn m2)) ∧ bV (ae chs') (ck ++ nk) ∧ cc m2 mi ks ∧ (va.all (aJ ks) = true ∧ aY ks chs = true) ∧ bL ks bs ∧ bL ks nk2 ∧ nk2.all (fun k => decide (k < 100000)) = true, r2, aV ch chs chs2 nk2, az nk2 chs⟩
def co (ch : Chs) (ks bs : List Nat) (chs : Chs) (va : List C) (mi m2 : List (Nat × Nat)) (all : List C) (p : Prop) (r : C) (chs' : Chs) (nk : List Nat) (nk2 : List Nat) : CR :=
 cZ ch ks bs chs va mi m2 all p chs' nk (ae (ap mi chs)) (ai m2 r) (ap m2 chs') nk2
def cp (ch : Chs) (d : Nat) (ks bs : List Nat) (chs : Chs) (va : List C) (mi m : List (Nat × Nat)) (all : List C) (o : Option (Prop × C × Chs × List Nat)) : CR :=
 match o with
 | Option.some (p, r, chs', nk) => co ch ks bs chs va mi (ce d nk ++ m) all p r chs' nk ((ce d nk).map (·.2))
 | Option.none => .none
def cM (ch : Chs) : CR → CR
 | .eff e => .eff ⟨e.cond, e.v, ch, []⟩
 | x => x
def cR (ch : Chs) (d : Nat) (ks bs : List Nat) (chs : Chs) (va : List C) (mi : List (Nat × Nat)) (all : List C) (o : Option (Prop × C)) (alt : Option (Prop × C × Chs × List Nat)) : CR :=
 match o with
 | Option.some (p, r) => cM ch (co ch ks bs chs va mi (bO mi) all p r (ap mi chs) [] [])
 | Option.none => cp ch d ks bs chs va mi (bO mi) all alt
def cz (L : List (Ent P)) (ch : Chs) (d : Nat) (f : FuncId) (all : List C) (ks bs : List Nat) (chs : Option Chs) (va : List C) (mi : List (Nat × Nat)) : CR :=
 match chs with
 | Option.some chs => cR ch d ks bs chs va mi all (cI L f (va.map (ai mi)) (ap mi chs)) (cq L f (va.map (ai mi)) (ap mi chs))
 | Option.none => .none
def cJ (L : List (Ent P)) (ch : Chs) (d : Nat) (f : FuncId) (all : List C) (ks bs : List Nat) : CR :=
 cz L ch d f all ks bs (cb ch ks) (all.map (aC ch bs)) (cV 0 ks)
def cN (ch : Chs) (d : Nat) (all : List C) (bs : List Nat) (va : List C) (o : Option (Prop × C × Chs × List Nat)) : CR :=
 match o with
 | Option.some (p, r, [], _) => match bs.isEmpty || bD r with | true => .eff ⟨p ∧ aQ.viewOks ch bs all ∧ bT bs r [], r, ch, []⟩ | false => .fz bs
 | o => cp ch d [] bs [] va [] [] all o
def cY (L : List (Ent P)) (ch : Chs) (d : Nat) (f : FuncId) (all : List C) (bs : List Nat) (va : List C) : CR := cN ch d all bs va (cq L f va [])
def dd (L : List (Ent P)) (ch : Chs) (d : Nat) (f : FuncId) (all : List C) (bs : List Nat) : CR := cY L ch d f all bs (all.map (aC ch bs))
def cO (L : List (Ent P)) (ch : Chs) (d : Nat) (f : FuncId) (all : List C) (ks : List Nat) : CR := cJ L ch d f all ks (aL ks [] all)
def cn (L : List (Ent P)) (ch : Chs) (d : Nat) (f : FuncId) (all : List C) (ks : List Nat) : CR := cO L ch d f all (bX ch ks ks)
def cK (L : List (Ent P)) (ch : Chs) (d : Nat) (f : FuncId) (all : List C) (ks : List Nat) : CR :=
 match ks with
 | [] => dd L ch d f all (aL [] [] all)
 | k :: ks => cn L ch d f all (bX ch (k :: ks) (k :: ks))
def da (L : List (Ent P)) (ch : Chs) (d : Nat) (f : FuncId) (all : List C) : CR := cK L ch d f all (aG [] all)
def bZ (L : List (Ent P)) (ch : Chs) (d : Nat) (c : Option (FuncId × List C × List C)) (aS : List C) : CR :=
 match c with
 | Option.some (f, first, caps) => da L ch d f (first ++ aS ++ caps)
 | Option.none => .none
end Go.Am
end
section
namespace Go.Am
variable {P : Program} [Glob P] {ch : Chs} {d : Nat}
theorem eK {k : Nat} : ∀ {l : List Nat}, aq l k = true ↔ k ∈ l
 | [] => by simp [aq]
 | j :: l => by
  simp only [aq, List.mem_cons]
  by_cases h : j = k
  · rw [if_pos h]; exact ⟨fun _ => .inl h.symm, fun _ => rfl⟩
  · rw [if_neg h, eK]
    exact ⟨.inr, fun g => g.resolve_left (fun e => h e.symm)⟩
theorem eS : ∀ {ks : List Nat}, an ks → ks.Nodup
 | [], _ => List.nodup_nil
 | k :: ks, h => List.nodup_cons.2 ⟨(fun hm => by have := eK.2 hm; rw [h.1] at this; cases this), eS h.2⟩
theorem jo : ∀ {ks l : List Nat}, bV ks l → ∀ k ∈ ks, k ∈ l
 | [], _, _, k, h => by simp at h
 | j :: ks, l, h, k, hk => by
  rcases List.mem_cons.1 hk with e | e
  · rw [e]; exact eK.1 h.1
  · exact jo h.2 k e
theorem j3 : ∀ {ks l : List Nat}, bL ks l → ∀ k ∈ ks, k ∉ l
 | [], _, _, k, h => by simp at h
 | j :: ks, l, h, k, hk => by
  rcases List.mem_cons.1 hk with e | e
  · rw [e]; intro hm; have := eK.2 hm; rw [h.1] at this; cases this
  · exact j3 h.2 k e
theorem oI {m mi : List (Nat × Nat)} : ∀ {ks : List Nat}, cc m mi ks → ∀ k ∈ ks, rn m (rn mi k) = k
 | [], _, k, h => by simp at h
 | j :: ks, h, k, hk => by
  rcases List.mem_cons.1 hk with e | e
  · rw [e]; exact h.1
  · exact oI h.2 k e
theorem dU : ∀ ch : Chs, ae ch = ch.map (·.1)
 | [] => rfl
 | (k, _) :: r => by simp [ae, dU r]
theorem pq {ks : List Nat} : ∀ {cs : List C}, bU ks cs = true → ∀ c ∈ cs, aJ ks c = true
 | [], _, c, h => by simp at h
 | x :: cs, h, c, hc => by
  simp only [bU, Bool.and_eq_true] at h
  rcases List.mem_cons.1 hc with e | e
  · rw [e]; exact h.1
  · exact pq h.2 c e
theorem j4 {ks : List Nat} : ∀ {ch : Chs}, aY ks ch = true → ∀ k cs, (k, .box cs) ∈ ch → ∀ c ∈ cs, aJ ks c = true
 | [], _, k, cs, h => by simp at h
 | (j, .box cs0) :: r, h, k, cs, hm => by
  simp only [aY, Bool.and_eq_true] at h
  rcases List.mem_cons.1 hm with e | e
  · cases e; exact pq h.1
  · exact j4 h.2 k cs e
 | (j, .row _ _ _) :: r, h, k, cs, hm | (j, .deep _ _ _ _ _) :: r, h, k, cs, hm | (j, .res _) :: r, h, k, cs, hm => by
  rcases List.mem_cons.1 hm with e | e
  · cases e
  · exact j4 (by simpa only [aY] using h) k cs e
theorem rc {m mi : List (Nat × Nat)} {ks : List Nat} (hb : ∀ k ∈ ks, rn m (rn mi k) = k) : ∀ c : C, aJ ks c = true → ai m (ai mi c) = c := by
 intro c
 have h : ∀ (n : Nat) (c : C), SizeOf.sizeOf c ≤ n → aJ ks c = true → ai m (ai mi c) = c := by
  intro n
  induction n with
  | zero => intro c hc; cases c <;> simp at hc
  | succ n ih =>
   intro c hc hk
   have hl : ∀ cs : List C, SizeOf.sizeOf cs ≤ n → aJ.keysBs ks cs = true → (cs.map (ai mi)).map (ai m) = cs := by
    intro cs
    induction cs with
    | nil => intro _ _; rfl
    | cons x xs ihx =>
     intro hx hkx
     simp at hx
     simp only [aJ.keysBs, Bool.and_eq_true] at hkx
     simp only [List.map_cons]
     rw [ih x (by omega) hkx.1, ihx (by omega) hkx.2]
   cases c with
   | agg cs => simp only [ai, fI]; simp at hc; rw [hl cs (by omega) hk]
   | tup cs => simp only [ai, fI]; simp at hc; rw [hl cs (by omega) hk]
   | fn f xs ys =>
    simp only [aJ, Bool.and_eq_true] at hk
    simp only [ai, fI]; simp at hc; rw [hl xs (by omega) hk.1, hl ys (by omega) hk.2]
   | own k => simp only [ai]; rw [hb k (eK.1 hk)]
   | ptr k off => simp only [ai]; rw [hb k (eK.1 hk)]
   | eptr k i j => simp only [ai]; rw [hb k (eK.1 hk)]
   | inn k i => simp only [ai]; rw [hb k (eK.1 hk)]
   | iptr k i n j => simp only [ai]; rw [hb k (eK.1 hk)]
   | _ => simp [ai]
 exact h _ c (Nat.le_refl _)
theorem jW {ks ks' : List Nat} (hs : ∀ k ∈ ks, k ∈ ks') : ∀ c : C, dm ks c → dm ks' c := by
 intro c
 have h : ∀ (n : Nat) (c : C), SizeOf.sizeOf c ≤ n → dm ks c → dm ks' c := by
  intro n
  induction n with
  | zero => intro c hc; cases c <;> simp at hc
  | succ n ih =>
   intro c hc hk
   have hl : ∀ cs : List C, SizeOf.sizeOf cs ≤ n → dm.keysIns ks cs → dm.keysIns ks' cs := by
    intro cs
    induction cs with
    | nil => intro _ _; trivial
    | cons x xs ihx =>
     intro hx hkx
     simp at hx
     exact ⟨ih x (by omega) hkx.1, ihx (by omega) hkx.2⟩
   cases c with
   | agg cs => simp at hc; exact hl cs (by omega) hk
   | tup cs => simp at hc; exact hl cs (by omega) hk
   | fn f xs ys => simp at hc; exact ⟨hl xs (by omega) hk.1, hl ys (by omega) hk.2⟩
   | own k => exact hs k hk
   | ptr k off => exact hs k hk
   | eptr k i j => exact hs k hk
   | inn k i => exact hs k hk
   | iptr k i n j => exact hs k hk
   | _ => trivial
 exact h _ c (Nat.le_refl _)
theorem mm {ks : List Nat} {m : List (Nat × Nat)} : ∀ c : C, dm ks c → dm (ks.map (rn m)) (ai m c) := by
 intro c
 have mem : ∀ k, k ∈ ks → rn m k ∈ ks.map (rn m) := fun k hk => List.mem_map.2 ⟨k, hk, rfl⟩
 have h : ∀ (n : Nat) (c : C), SizeOf.sizeOf c ≤ n → dm ks c → dm (ks.map (rn m)) (ai m c) := by
  intro n
  induction n with
  | zero => intro c hc; cases c <;> simp at hc
  | succ n ih =>
   intro c hc hk
   have hl : ∀ cs : List C, SizeOf.sizeOf cs ≤ n → dm.keysIns ks cs → dm.keysIns (ks.map (rn m)) (ai.renCs m cs) := by
    intro cs
    induction cs with
    | nil => intro _ _; trivial
    | cons x xs ihx =>
     intro hx hkx
     simp at hx
     exact ⟨ih x (by omega) hkx.1, ihx (by omega) hkx.2⟩
   cases c with
   | agg cs => simp at hc; exact hl cs (by omega) hk
   | tup cs => simp at hc; exact hl cs (by omega) hk
   | fn f xs ys => simp at hc; exact ⟨hl xs (by omega) hk.1, hl ys (by omega) hk.2⟩
   | own k => exact mem k hk
   | ptr k off => exact mem k hk
   | eptr k i j => exact mem k hk
   | inn k i => exact mem k hk
   | iptr k i n j => exact mem k hk
   | _ => trivial
 exact h _ c (Nat.le_refl _)
theorem uo {ks : List Nat} {m : List (Nat × Nat)} {cs : List C} (h : dm.keysIns ks cs) : dm.keysIns (ks.map (rn m)) (cs.map (ai m)) :=
 jr fun c hc => by
  obtain ⟨c0, h0, rfl⟩ := List.mem_map.1 hc
  exact mm c0 (eJ h c0 h0)
theorem mH : ∀ {ks : List Nat} {chs : Chs}, cb ch ks = some chs → ae chs = ks ∧ ∀ k c, (k, c) ∈ chs → lk ch k = some c
 | [], chs, h => by simp [cb] at h; subst h; exact ⟨rfl, fun k c h => by simp at h⟩
 | k :: ks, chs, h => by
  simp only [cb, Option.bind_eq_some_iff, Option.map_eq_some_iff] at h
  obtain ⟨c, h1, r, h2, rfl⟩ := h
  obtain ⟨g1, g2⟩ := mH h2
  refine ⟨by simp [ae, g1], fun k' c' hm => ?_⟩
  rcases List.mem_cons.1 hm with e | e
  · cases e; exact h1
  · exact g2 k' c' e
theorem uT {m : List (Nat × Nat)} : ∀ {nk : List Nat} {d k : Nat}, k ∈ nk → ∃ v, v ∈ (ce d nk).map (·.2) ∧ lk (ce d nk ++ m) k = some v
 | [], d, k, h => by simp at h
 | j :: nk, d, k, h => by
  simp only [ce, List.cons_append, lk, List.map_cons]
  by_cases hj : j = k
  · rw [if_pos hj]; exact ⟨d, List.mem_cons_self, rfl⟩
  · rw [if_neg hj]
    rcases List.mem_cons.1 h with e | e
    · exact absurd e.symm hj
    · obtain ⟨v, h1, h2⟩ := uT (d := d + 1000) e
      exact ⟨v, List.mem_cons_of_mem _ h1, h2⟩
theorem ox {bs : List Nat} {l : List C} (h : aQ.viewOks ch bs l) : ∀ c ∈ l, aQ ch bs c := lH h
theorem ou : ∀ {chs : Chs}, bY chs → ∀ k c, (k, c) ∈ chs → bF c
 | [], _, k, c, h => by simp at h
 | (j, c0) :: r, h, k, c, hm => by
  rcases List.mem_cons.1 hm with e | e
  · cases e; exact h.1
  · exact ou h.2 k c e
theorem ow {bs : List Nat} {r : C} {chs' : Chs} (h : bT bs r chs') : bs = [] ∨ (aM r ∧ ∀ k c, (k, c) ∈ chs' → bF c) := by
 unfold bT at h
 split at h
 · exact .inl rfl
 · exact .inr ⟨h.1, ou h.2⟩
theorem oE {ρ : Operand → C} {fo : Operand} {aS : List Operand} {f : FuncId} {first caps : List C} {ks bs : List Nat} {chs : Chs} {mi m2 : List (Nat × Nat)} {args' : List C} {chs0 : Chs} {p : Prop} {r : C} {chs' : Chs} {nk nk2 : List Nat} {e : Eff}
 (hfo : bj (ρ fo) = some (f, first, caps)) (hks : ae chs = ks) (hlk : ∀ k c, (k, c) ∈ chs → lk ch k = some c) (ha : args' = ((first ++ aS.map ρ ++ caps).map (aC ch bs)).map (ai mi)) (hc0 : chs0 = ap mi chs)
 (hF : p → FC P f args' chs0 r chs' ∧ WfR chs0 r chs' nk) (hn2 : ∀ k ∈ nk, rn m2 k ∈ nk2)
 (h : co ch ks bs chs ((first ++ aS.map ρ ++ caps).map (aC ch bs)) mi m2 (first ++ aS.map ρ ++ caps) p r chs' nk nk2 = .eff e) (hcond : e.cond) :
 p ∧ e.v = ai m2 r ∧ e.ch = aV ch chs (ap m2 chs') nk2 ∧ e.sub = az nk2 chs ∧ (chs' = chs0 → ap m2 chs' = chs) ∧ CallR P ρ ch d fo aS (ai m2 r) chs (ap m2 chs') nk2 := by
 simp only [co, cZ, CR.eff.injEq] at h
 subst h
 obtain ⟨hp, hvo, hlend, hnd, hsub, hback, ⟨hkb, hkc⟩, hab, han, hsmall⟩ := hcond
 obtain ⟨hFC, hwf⟩ := hF hp
 subst ha hc0
 have hb := oI hback
 have hinks : ∀ k c, (k, c) ∈ chs → k ∈ ks := fun k c h => by rw [← hks, dU]; exact List.mem_map.2 ⟨_, h, rfl⟩
 have hndl := eS hnd
 have hren := hFC.ren m2 (ae (ap mi chs) ++ nk) hndl (fun k c h => List.mem_append.2 (.inl (by rw [dU]; exact List.mem_map.2 ⟨_, h, rfl⟩)))
  (fun k c h => ⟨jo hsub k (by rw [dU]; exact List.mem_map.2 ⟨_, h, rfl⟩), by
   have := hwf.kc k c h
   cases c with
   | box cs => exact jr fun c hc => jW (fun k hk => jo hsub k (by rw [dU]; exact hk)) c (eJ this c hc)
   | _ => trivial⟩) (jW (fun k hk => jo hsub k (by rw [dU]; exact hk)) r hwf.kr)
 have e1 : ((((first ++ aS.map ρ ++ caps).map (aC ch bs)).map (ai mi)).map (ai m2)) = (first ++ aS.map ρ ++ caps).map (aC ch bs) := by
  generalize (first ++ aS.map ρ ++ caps).map (aC ch bs) = va at hkb
  rw [List.map_map]
  exact (List.map_congr_left (fun c hc => rc hb c (List.all_eq_true.1 hkb c hc))).trans (List.map_id _)
 have e2 : ap m2 (ap mi chs) = chs := by
  rw [gB, gB, List.map_map]
  refine (List.map_congr_left (fun p hp => ?_)).trans (List.map_id _)
  obtain ⟨k, c⟩ := p
  have hk := hinks k c hp
  show (rn m2 (rn mi k), aH m2 (aH mi c)) = (k, c)
  rw [hb k hk]
  congr 1
  cases c with
  | box cs =>
   simp only [aH, List.map_map]
   congr 1
   exact (List.map_congr_left (fun c hc => rc hb c (j4 hkc k cs hp c hc))).trans (List.map_id _)
  | _ => rfl
 rw [e1, e2] at hren
 have hkeys2 : ∀ (l : Chs), (ap m2 l).map (·.1) = (l.map (·.1)).map (rn m2) := fun l => by rw [gB, List.map_map, List.map_map]; rfl
 have hcan : (ae (ap mi chs)).map (rn m2) = ks := by
  rw [dU, ← hkeys2, e2, ← dU, hks]
 have hksnd : ks.Nodup := by
  rw [List.map_append, hcan] at hndl
  exact (List.nodup_append.1 hndl).1
 refine ⟨hp, rfl, rfl, rfl, fun e3 => by rw [e3, e2], ⟨⟨f, first, caps, bs, hfo, hren, ox hvo, fun k c h => ⟨hlk k c h, j3 hab k (hinks k c h), j3 han k (hinks k c h)⟩, ow hlend⟩,
  by rw [← dU, hks]; exact hksnd, fun k cs hm hk => ?_, fun k c hm => ?_, fun k cs hm => ?_, ?_, fun k c hm => ?_⟩⟩
 · simpa using List.all_eq_true.1 hsmall k hk
 · obtain ⟨k0, c0, h0, rfl, rfl⟩ := fd hm
   rcases hwf.new k0 _ h0 with hn | ⟨c1, h1⟩
   · exact .inl (hn2 k0 hn)
   · right
     obtain ⟨k1, c2, h2, rfl, _⟩ := fd h1
     rw [hb k1 (hinks k1 c2 h2)]
     exact ⟨c2, h2⟩
 · obtain ⟨cs', g⟩ := hwf.old _ _ (fu (m := mi) hm)
   have := fu (m := m2) g
   rw [hb k (hinks k _ hm)] at this
   exact ⟨_, this⟩
 · rw [hkeys2]; exact mm r hwf.kr
 · obtain ⟨k0, c0, h0, rfl, rfl⟩ := fd hm
   have := hwf.kc k0 c0 h0
   rw [hkeys2]
   cases c0 with
   | box cs => exact uo this
   | _ => trivial
theorem oj {ρ : Operand → C} {fo : Operand} {aS : List Operand} {f : FuncId} {first caps : List C} {ks bs : List Nat} {chs : Chs} {mi m : List (Nat × Nat)} {args' : List C} {chs0 : Chs} {L : List (Ent P)} {e : Eff}
 (hfo : bj (ρ fo) = some (f, first, caps)) (hks : ae chs = ks) (hlk : ∀ k c, (k, c) ∈ chs → lk ch k = some c) (ha : args' = ((first ++ aS.map ρ ++ caps).map (aC ch bs)).map (ai mi)) (hc0 : chs0 = ap mi chs)
 (h : cp ch d ks bs chs ((first ++ aS.map ρ ++ caps).map (aC ch bs)) mi m (first ++ aS.map ρ ++ caps) (cq L f args' chs0) = .eff e) (hcond : e.cond) : OpR P ρ ch d (.call fo aS) ⟨True, e.v, e.ch, e.sub⟩ := by
 cases ho : cq L f args' chs0 with
 | none => rw [ho] at h; cases h
 | some q =>
  obtain ⟨p, r, chs', nk⟩ := q
  rw [ho] at h
  simp only [cp] at h
  obtain ⟨_, g1, g2, g3, _, g4⟩ := oE (d := d) hfo hks hlk ha hc0 (tY ho) (fun k hk => by
   obtain ⟨v, h1, h2⟩ := uT (d := d) (m := m) hk
   simp only [rn, h2, Option.getD_some]
   exact h1) h hcond
  rw [g1, g2, g3]
  exact .call g4
theorem pJ {ρ : Operand → C} {fo : Operand} {aS : List Operand} {f : FuncId} {first caps : List C} {ks bs : List Nat} {chs : Chs} {mi : List (Nat × Nat)} {L : List (Ent P)} {e : Eff}
 (hfo : bj (ρ fo) = some (f, first, caps)) (hks : ae chs = ks) (hlk : ∀ k c, (k, c) ∈ chs → lk ch k = some c)
 (h : cR ch d ks bs chs ((first ++ aS.map ρ ++ caps).map (aC ch bs)) mi (first ++ aS.map ρ ++ caps) (cI L f (((first ++ aS.map ρ ++ caps).map (aC ch bs)).map (ai mi)) (ap mi chs)) (cq L f (((first ++ aS.map ρ ++ caps).map (aC ch bs)).map (ai mi)) (ap mi chs)) = .eff e) (hcond : e.cond) : OpR P ρ ch d (.call fo aS) ⟨True, e.v, e.ch, e.sub⟩ := by
 cases ho : cI L f (((first ++ aS.map ρ ++ caps).map (aC ch bs)).map (ai mi)) (ap mi chs) with
 | none =>
  rw [ho] at h
  exact oj (L := L) hfo hks hlk rfl rfl h hcond
 | some q =>
  obtain ⟨p, r⟩ := q
  rw [ho] at h
  simp only [cR] at h
  cases hq : co ch ks bs chs ((first ++ aS.map ρ ++ caps).map (aC ch bs)) mi (bO mi) (first ++ aS.map ρ ++ caps) p r (ap mi chs) [] [] with
  | none => rw [hq] at h; cases h
  | fz l => rw [hq] at h; cases h
  | eff e0 =>
   rw [hq] at h
   simp only [cM, CR.eff.injEq] at h
   subst h
   have hF : p → FC P f (((first ++ aS.map ρ ++ caps).map (aC ch bs)).map (ai mi)) (ap mi chs) r (ap mi chs) ∧ WfR (ap mi chs) r (ap mi chs) [] := fun hp => by
    obtain ⟨h1, h2, h3⟩ := tK ho hp
    refine ⟨h1, fun k c h => .inr ⟨c, h⟩, fun k cs h => ⟨cs, h⟩, jW (fun k hk => by simp at hk) r h3, fun k c h => ?_⟩
    obtain ⟨cs, rfl, hpl⟩ := lj h2 h
    exact jr fun c hc => jW (fun k hk => by simp at hk) c (lP (hpl c hc)).1
   obtain ⟨hp, g1, _, _, g2, g3⟩ := oE (d := d) hfo hks hlk rfl rfl hF (fun k hk => by simp at hk) hq hcond
   obtain ⟨_, h2, h3⟩ := tK ho hp
   rw [g2 rfl] at g3
   rw [g1]
   have hr : dm [] (ai (bO mi) r) := by
    have := mm (m := bO mi) (ks := []) r h3
    simpa using this
   refine .callK g3 ?_ hr
   have : ∀ {l : Chs}, fF (ap mi l) = true → fF l = true := by
    intro l
    induction l with
    | nil => intro _; rfl
    | cons q l ih =>
     intro h
     obtain ⟨k, c⟩ := q
     cases c with
     | box cs =>
      simp only [ap, aH, fF, Bool.and_eq_true, List.all_eq_true, List.mem_map, forall_exists_index, and_imp, forall_apply_eq_imp_iff₂] at h ⊢
      refine ⟨fun x hx => ?_, ih h.2⟩
      have := h.1 x hx
      cases x with
      | fn f xs ys => cases xs <;> cases ys <;> simp [ai, ai.renCs, mf] at this ⊢
      | _ => first | exact this | cases this
     | _ => simp [ap, aH, fF] at h
   exact this h2
theorem vR (c : Ch) : aH [] c = c := by
 have hr : ∀ c : C, ai [] c = c := by
  intro c
  have h : ∀ (n : Nat) (c : C), SizeOf.sizeOf c ≤ n → ai [] c = c := by
   intro n
   induction n with
   | zero => intro c hc; cases c <;> simp at hc
   | succ n ih =>
    intro c hc
    have hl : ∀ cs : List C, SizeOf.sizeOf cs ≤ n → cs.map (ai []) = cs := by
     intro cs
     induction cs with
     | nil => intro _; rfl
     | cons x xs ihx =>
      intro hx
      simp at hx
      simp only [List.map_cons]
      rw [ih x (by omega), ihx (by omega)]
    cases c with
    | agg cs => simp only [ai, fI]; simp at hc; rw [hl cs (by omega)]
    | tup cs => simp only [ai, fI]; simp at hc; rw [hl cs (by omega)]
    | fn f xs ys => simp only [ai, fI]; simp at hc; rw [hl xs (by omega), hl ys (by omega)]
    | _ => simp [ai, rn, lk]
  exact h _ c (Nat.le_refl _)
 cases c with
 | box cs => simp only [aH]; congr 1; exact (List.map_congr_left (fun c _ => hr c)).trans (List.map_id _)
 | _ => rfl
theorem x8 (c : C) : ai [] c = c := by
 have := vR (.box [c])
 simpa [aH] using this
theorem kB {ρ : Operand → C} {fo : Operand} {aS : List Operand} {L : List (Ent P)} {e : Eff} (h : bZ L ch d (bj (ρ fo)) (aS.map ρ) = .eff e) (hcond : e.cond) : OpR P ρ ch d (.call fo aS) ⟨True, e.v, e.ch, e.sub⟩ := by
 unfold bZ at h
 split at h
 · rename_i f first caps hfo
   unfold da cK at h
   split at h
   · unfold dd cY cN at h
     split at h
     · rename_i p r nk ho
       split at h
       · cases h
         obtain ⟨hp, hvo, hl⟩ := hcond
         obtain ⟨hFC, hwf⟩ := tY ho hp
         exact .call (chs := []) (chs' := []) (nk := []) ⟨⟨f, first, caps, _, hfo, hFC, ox hvo, fun k c h => by simp at h, ow hl⟩, by simp, fun k cs h => by simp at h, fun k c h => by simp at h, fun k cs h => by simp at h, hwf.kr, fun k c h => by simp at h⟩
       · cases h
     · refine oj (L := L) (args' := (first ++ aS.map ρ ++ caps).map (aC ch (aL [] [] (first ++ aS.map ρ ++ caps)))) (chs0 := []) hfo rfl (fun k c h => by simp at h) ?_ rfl h hcond
       exact ((List.map_congr_left (fun c _ => x8 c)).trans (List.map_id _)).symm
   · unfold cn cO cJ cz at h
     split at h
     · rename_i chs hg
       obtain ⟨g1, g2⟩ := mH hg
       exact pJ (L := L) hfo g1 g2 h hcond
     · cases h
 · cases h
end Go.Am
end
section
namespace Go.Am
variable {P : Program} [Glob P] {cx : Cx} {Q : ASt → Prop} {k : List It} {st : ASt} {dr : Bool} {o : AO} {os : List AO}
def bS (t : dz) : List Nat → List Nat
 | [] => []
 | i :: l => match gt t i with | .own k => k :: bS t l | _ => bS t l
inductive Md where
 | run
 | eff (o : Option Eff)
 | grd (c : C) (want : Bool)
 | cnd (c : C) (x : Operand) (a b : AC)
 | ext (o : ER) (id : Nat)
 | cal (r : CR)
 | nl (c : C) (i sz : Nat) (ty : TypeId) (a : AC)
 | dp (c : C) (i isz : Nat) (ity : TypeId) (a : AC)
 | dq (kk : Nat) (o : Option Ch) (i isz : Nat) (ity : TypeId) (a : AC)
def bl (L : List (Ent P)) (ρ : Operand → C) (ch : Chs) (d : Nat) : AOp → Md
 | .call fo aS => .cal (bZ L ch d (bj (ρ fo)) (aS.map ρ))
 | _ => .cal .none
def bJ (P : Program) [Glob P] (cx : Cx) (Q : ASt → Prop) (m : Md) (q : Option (Bool × List AO)) (k : List It) (st : ASt) : Prop :=
 match q with
 | some (dr, os) => DG P cx Q dr k os st
 | none =>
  match m with
  | .cnd _ x a b => SG P cx Q (.c (.cond x a b) :: k) st
  | .ext _ id => SG P cx Q (.c (.exit id) :: k) st
  | .nl _ i sz ty a => SG P cx Q (.c (.nilrow i sz ty a) :: k) st
  | .dp _ i isz ity a => SG P cx Q (.c (.deepen i isz ity a) :: k) st
  | .dq _ _ i isz ity a => SG P cx Q (.c (.deepen i isz ity a) :: k) st
  | _ => SG P cx Q k st
def okM (P : Program) [Glob P] (L : List (Ent P)) (m : Md) (q : Option (Bool × List AO)) (k : List It) (st : ASt) : Prop :=
 match m, q with
 | .cnd c x _ _, none => c = aw P st.t x
 | .ext o id, none => o = aI id k
 | .nl c i _ _ _, none => c = gt st.t i
 | .dp c i _ _ _, none => c = gt st.t i
 | .dq kk o i _ _ _, none => gt st.t i = .own kk ∧ o = lk st.ch kk
 | .eff o, some (_, ⟨dst, none, op, _⟩ :: _) => o = ak (aw P st.t) st.ch (dst.getD 0) op
 | .cal r, some (_, ⟨dst, none, op, _⟩ :: _) => bl L (aw P st.t) st.ch (dst.getD 0) op = .cal r
 | .grd c w, some (_, ⟨_, some (g, want), _, _⟩ :: _) => c = gt st.t g ∧ w = want
 | _, _ => True
def am (P : Program) [Glob P] (L : List (Ent P)) (u : Bool) (cx : Cx) (Q : ASt → Prop) : Nat → Md → Option (Bool × List AO) → List It → ASt → Prop
 | _ + 1, .run, none, [], st => Q st
 | n + 1, .run, none, .blk _ :: k, st => am P L u cx Q n .run none k st
 | _ + 1, .run, none, .post R :: _, st => R st
 | _ + 1, .run, none, .rnd N _ :: _, st => N st
 | n + 1, .run, none, .c .skip :: k, st => am P L u cx Q n .run none k st
 | _ + 1, .run, none, .c .ret :: k, st => bu Q k st
 | n + 1, .run, none, .c (.seq a b) :: k, st => am P L u cx Q n .run none (.c a :: .c b :: k) st
 | n + 1, .run, none, .c (.region dr os) :: k, st => am P L u cx Q n .run (some (dr, os)) k st
 | n + 1, .run, none, .c (.cond c a b) :: k, st => am P L u cx Q n (.cnd (aw P st.t c) c a b) none k st
 | n + 1, .run, none, .c (.block id a) :: k, st => am P L u cx Q n .run none (.c a :: .blk id :: k) st
 | n + 1, .run, none, .c (.exit id) :: k, st => am P L u cx Q n (.ext (aI id k) id) none k st
 | n + 1, .run, none, .c (.keep l a) :: k, st => am P L u cx Q n .run none (.c a :: k) ⟨bv l st.t, st.ch⟩
 | n + 1, .run, none, .c (.loop a) :: k, st => match u with | true => am P L u cx Q n .run none (.c a :: .lp a :: k) st | false => SG P cx Q (.c (.loop a) :: k) st
 | n + 1, .run, none, .lp a :: k, st => match u with | true => am P L u cx Q n .run none (.c a :: .lp a :: k) st | false => SG P cx Q (.lp a :: k) st
 | _ + 1, .run, none, .c (.rangeFunc g ps a b) :: k, st => SG P cx Q (.c (.rangeFunc g ps a b) :: k) st
 | _ + 1, .run, none, .c (.cut a) :: k, st => SG P cx Q (.c (.cut a) :: k) st
 | _ + 1, .run, none, .c (.draw e rb a) :: k, st => SG P cx Q (.c (.draw e rb a) :: k) st
 | n + 1, .run, none, .c (.nilrow i sz ty a) :: k, st => am P L u cx Q n (.nl (gt st.t i) i sz ty a) none k st
 | n + 1, .run, none, .c (.deepen i isz ity a) :: k, st => am P L u cx Q n (.dp (gt st.t i) i isz ity a) none k st
 | n + 1, .run, none, .c (.fz l a) :: k, st => am P L u cx Q n .run none (.c a :: k) (cu (bS st.t l) st)
 | n + 1, .run, some (_, []), k, st => am P L u cx Q n .run none k st
 | n + 1, .run, some (dr, ⟨dst, none, op, tot⟩ :: os), k, st => am P L u cx Q n (.eff (ak (aw P st.t) st.ch (dst.getD 0) op)) (some (dr, ⟨dst, none, op, tot⟩ :: os)) k st
 | n + 1, .run, some (dr, ⟨dst, some (g, want), op, tot⟩ :: os), k, st => am P L u cx Q n (.grd (gt st.t g) want) (some (dr, ⟨dst, some (g, want), op, tot⟩ :: os)) k st
 | n + 1, .eff (some ef), some (dr, ⟨dst, none, op, tot⟩ :: os), k, st => ef.cond ∧ bM dr ⟨dst, none, op, tot⟩ ef st ∧ am P L u cx Q n .run (some (dr, os)) k (aA dst ef st)
 | n + 1, .eff none, some (dr, ⟨dst, none, op, tot⟩ :: os), k, st => am P L u cx Q n (bl L (aw P st.t) st.ch (dst.getD 0) op) (some (dr, ⟨dst, none, op, tot⟩ :: os)) k st
 | n + 1, .cal (.eff ef), some (dr, ⟨dst, none, op, tot⟩ :: os), k, st => ef.cond ∧ bM dr ⟨dst, none, op, tot⟩ ef st ∧ am P L u cx Q n .run (some (dr, os)) k (aA dst ef st)
 | n + 1, .cal (.fz ks), some (false, ⟨dst, none, op, tot⟩ :: os), k, st => am P L u cx Q n .run (some (false, ⟨dst, none, op, tot⟩ :: os)) k (cu ks st)
 | n + 1, .grd (.s (.bool b)) want, some (dr, ⟨dst, some (g, _), op, tot⟩ :: os), k, st =>
  if b = want then am P L u cx Q n .run (some (dr, ⟨dst, none, op, tot⟩ :: os)) k ⟨ar st.t g (.s (.bool want)), st.ch⟩
  else am P L u cx Q n .run (some (dr, os)) k ⟨bw dst [] (.s undef) (ar st.t g (.s (.bool (!want)))), st.ch⟩
 | n + 1, .grd (.s (.tuple _)) _, some (dr, ⟨dst, some _, _, _⟩ :: os), k, st => am P L u cx Q n .run (some (dr, os)) k ⟨bw dst [] (.s undef) st.t, st.ch⟩
 | n + 1, .cnd (.s (.bool x)) _ a b, none, k, st => if x = true then am P L u cx Q n .run none (.c a :: k) st else am P L u cx Q n .run none (.c b :: k) st
 | n + 1, .ext (.cont k') _, none, _, st => am P L u cx Q n .run none k' st
 | _ + 1, .ext (.out p) _, none, _, st => p st
 | n + 1, .nl (.s (.slice none 0 0)) i sz ty a, none, k, st => i < 100000 ∧ am P L u cx Q n .run none (.c a :: k) (dc i sz ty st)
 | n + 1, .dp (.own kk) i isz ity a, none, k, st => am P L u cx Q n (.dq kk (lk st.ch kk) i isz ity a) none k st
 | n + 1, .dq kk (some (.row sz ty es)) _ isz ity a, none, k, st => sz = 1 ∧ (∀ e ∈ es, e = [.s (.slice none 0 0)]) ∧ am P L u cx Q n .run none (.c a :: k) (cU kk isz ity ty es st)
 | _, m, q, k, st => bJ P cx Q m q k st
theorem StepE.unguard {s : ASt} {ef : Eff} (h : StepE P { o with guard := none } s ef) (hw : fU s.t o.guard = some true) : StepE P o s ef := by
 cases h with
 | yes _ _ hr => exact .yes ef hw hr
 | no h => simp [fU] at h
theorem jf {L : List (Ent P)} {k : List It} {st : ASt} (q : Option (Bool × List AO)) (_ : Unit) : okM P L .run q k st := by
 unfold okM; split <;> first | trivial | (rename_i h; cases h)
theorem wd {dst : Option Nat} {g : Nat} {w0 : Bool} {op : AOp} {tot : Bool} (hw : fU st.t (some (g, w0)) = some true) (h : DG P cx Q dr k (⟨dst, none, op, tot⟩ :: os) st) : DG P cx Q dr k (⟨dst, some (g, w0), op, tot⟩ :: os) st := by
 cases dr with
 | true =>
  obtain ⟨s', ⟨ef, g1, g2, g3⟩, g4⟩ := h
  exact ⟨s', ⟨ef, StepE.unguard (o := ⟨dst, some (g, w0), op, tot⟩) g1 hw, g2, g3⟩, g4⟩
 | false =>
  rcases h with ⟨h1, _⟩ | ⟨_, h2⟩
  · cases h1
  · exact .inr ⟨hw, h2⟩
theorem mq {L : List (Ent P)} {u : Bool} (n : Nat) (m : Md) (q : Option (Bool × List AO)) (k : List It) (st : ASt) (h : am P L u cx Q n m q k st) (hm : okM P L m q k st) : bJ P cx Q m q k st := by
 induction n generalizing m q k st with
 | zero => unfold am at h; exact h
 | succ n ih =>
  generalize hN : n + 1 = N at h
  unfold am at h
  split at h
  all_goals (try cases hN)
  · exact S_nil h
  · exact S_blk (ih _ _ _ _ h trivial)
  · exact S_post h
  · exact fun E U a w hh => ⟨E, U, _, hh, h⟩
  · exact S_skip (ih _ _ _ _ h trivial)
  · exact S_ret h
  · exact sk (ih _ _ _ _ h trivial)
  · rename_i dr os
    exact o9 (ih _ _ _ _ h (jf _ ()))
  · have h1 := ih _ _ _ _ h rfl
    exact h1
  · exact S_block (ih _ _ _ _ h trivial)
  · have h1 := ih _ _ _ _ h rfl
    exact h1
  · exact S_keepT (S_keep (ih _ _ _ _ h trivial))
  · split at h
    · exact S_lp0 (ih _ _ _ _ h trivial)
    · exact h
  · split at h
    · exact S_lp (ih _ _ _ _ h trivial)
    · exact h
  · exact h
  · exact h
  · exact h
  · have h1 := ih _ _ _ _ h rfl
    exact h1
  · have h1 := ih _ _ _ _ h rfl
    exact h1
  · exact S_fz _ (S_fz0 (ih _ _ _ _ h trivial))
  · exact D_nil (ih _ _ _ _ h trivial)
  · have h1 := ih _ _ _ _ h rfl
    exact h1
  · have h1 := ih _ _ _ _ h ⟨rfl, rfl⟩
    exact h1
  · rename_i ef dr dst op tot os
    exact nO (.yes ef rfl (.f hm.symm h.1)) h.2.1 (ih _ _ _ _ h.2.2 (jf _ ()))
  · rename_i dr dst op tot os
    have hmd : ∃ r, bl L (aw P st.t) st.ch (dst.getD 0) op = .cal r := by unfold bl; split <;> exact ⟨_, rfl⟩
    obtain ⟨r, hr⟩ := hmd
    rw [hr] at h
    have h1 := ih _ _ _ _ h hr
    exact h1
  · rename_i ef dr dst op tot os
    have hop : OpR P (aw P st.t) st.ch (dst.getD 0) op ⟨True, ef.v, ef.ch, ef.sub⟩ := by
     simp only [okM] at hm
     unfold bl at hm
     split at hm
     · cases hm' : bZ L st.ch (dst.getD 0) (bj (aw P st.t ‹Operand›)) (List.map (aw P st.t) ‹List Operand›) with
       | eff e =>
        rw [hm'] at hm
        cases hm
        exact kB hm' h.1
       | _ => rw [hm'] at hm; cases hm
     · cases hm
    exact nO (ef := ⟨True, ef.v, ef.ch, ef.sub⟩) (.yes _ rfl hop) (by have := h.2.1; unfold bM at this ⊢; exact this) (ih _ _ _ _ h.2.2 (jf _ ()))
  · rename_i ks dst op tot os
    exact D_ghost rfl (eP.fz ks) (ih _ _ _ _ h (jf _ ()))
  · rename_i b want dr dst g w0 op tot os
    obtain ⟨hb, hw⟩ := hm
    subst hw
    have hb := hb.symm
    split at h
    · rename_i hbw
      subst hbw
      have h1 := ih _ _ _ _ h (jf _ ())
      have h2 := DG.eqS (vd hb) h1
      exact wd (by simp [fU, hb]) h2
    · rename_i hbw
      have h1 := ih _ _ _ _ h (jf _ ())
      have hb2 : gt st.t g = .s (.bool (!want)) := by rw [hb]; cases b <;> cases want <;> simp_all
      have he : EqS ⟨bw dst [] (.s undef) (ar st.t g (.s (.bool (!want)))), st.ch⟩ ⟨bw dst [] (.s undef) st.t, st.ch⟩ := ⟨fun i => by
       simp only [iH, (vd hb2).1 i], rfl⟩
      have h2 := DG.eqS he h1
      refine nO (ef := ⟨True, .s undef, st.ch, []⟩) (.no (by simp only [fU, hb]; cases b <;> cases want <;> simp_all)) ?_ h2
      unfold bM; split <;> simp
  · rename_i xs want dr dst gw op tot os
    obtain ⟨g, w0⟩ := gw
    obtain ⟨hb, hw⟩ := hm
    have h1 := ih _ _ _ _ h (jf _ ())
    refine nO (ef := ⟨True, .s undef, st.ch, []⟩) (.no (by simp only [fU, ← hb])) ?_ h1
    unfold bM; split <;> simp
  · rename_i x c a b
    refine S_cond (Eq.symm hm) (fun e => ?_) (fun e => ?_)
    · rw [if_pos e] at h; exact ih _ _ _ _ h trivial
    · rw [if_neg (by rw [e]; simp)] at h; exact ih _ _ _ _ h trivial
  · exact S_exit (Eq.symm hm) (ih _ _ _ _ h trivial)
  · exact S_out (Eq.symm hm) h
  · exact wS (zI h.1 (Eq.symm hm) (ih _ _ _ _ h.2 trivial))
  · have h1 := ih _ _ _ _ h ⟨Eq.symm hm, rfl⟩
    exact h1
  · obtain ⟨hm1, hm2⟩ := hm
    obtain ⟨rfl, h1, h2⟩ := h
    exact wy (kN (eP.deepen hm2.symm h1) (ih _ _ _ _ h2 trivial))
  · exact h
theorem dj (L : List (Ent P)) (n : Nat) (h : am P L false cx Q n .run none k st) : SG P cx Q k st := mq n .run none k st h trivial
theorem gK (L : List (Ent P)) (n : Nat) (h : am P L true cx Q n .run none k st) : SG P cx Q k st := mq n .run none k st h trivial
theorem iC (L : List (Ent P)) (n : Nat) (h : am P L false cx Q n .run (some (dr, os)) k st) : DG P cx Q dr k os st := mq n .run (some (dr, os)) k st h (jf _ ())
end Go.Am
end
section
namespace Go.Am
variable {P : Program} [Glob P] {cx : Cx} {Q : ASt → Prop} {k : List It} {st : ASt}
inductive RV where
 | tmp (t : Nat)
 | cell (a : Nat) (agg : Bool) (sz : Nat)
def pj (P : Program) : ResultVar → Option RV
 | .tmp t => some (.tmp t)
 | .cell a t => (kd P t).bind fun b => (ez P t).map fun n => .cell a b n
def dg (s : ASt) : RV → Option C
 | .tmp t => some (gt s.t t)
 | .cell a agg sz =>
  match gt s.t a with
  | .ptr k off =>
   match lk s.ch k with
   | some (.box cs) => if off + sz ≤ cs.length ∧ (agg = false → sz = 1) ∧ ((cs.drop off).take sz).all aE = true then some (au agg sz cs off) else none
   | _ => none
  | _ => none
def cm (s : ASt) : List RV → Option (List C)
 | [] => some []
 | r :: rs => (dg s r).bind fun c => (cm s rs).map (c :: ·)
def cF : List C → C
 | [c] => c
 | l => .tup l
def bA : C → C → Prop
 | _, .any => True
 | .s (.slice none 0 0), .sl _ [] => True
 | a, b => a = b
def bH : List C → List C → Prop
 | [], [] => True
 | a :: l, b :: m => bA a b ∧ bH l m
 | _, _ => False
def leC : C → C → Prop
 | _, .any => True
 | .s (.slice none 0 0), .sl _ [] => True
 | .tup a, .tup b => bH a b
 | .agg a, .agg b => bH a b
 | a, b => a = b
theorem yw {E : Env} {U : Nat → Prop} {h : Array Obj} {c r : C} {v : Value} (hl : bA c r) (hr : Rep E U h c v) : Rep E U h r v := by
 unfold bA at hl
 split at hl
 · exact .d (.any v)
 · rw [dx hr]; exact .d (.sl0 _ _ _ (by decide))
 · rw [← hl]; exact hr
theorem mT {E : Env} {U : Nat → Prop} {h : Array Obj} : ∀ {cs rs : List C}, bH cs rs → rs.length = cs.length ∧ ∀ (vf : Nat → Value), (∀ (j : Nat) c, cs[j]? = some c → Rep E U h c (vf j)) → ∀ (j : Nat) r, rs[j]? = some r → Rep E U h r (vf j)
 | [], [], _ => ⟨rfl, fun vf _ j r h => by simp at h⟩
 | [], _ :: _, h => by simp [bH] at h
 | _ :: _, [], h => by simp [bH] at h
 | a :: l, b :: m, h => by
  simp only [bH] at h
  obtain ⟨h1, h2⟩ := mT h.2
  refine ⟨by simp [h1], fun vf hv j r hj => ?_⟩
  cases j with
  | zero => simp at hj; subst hj; exact yw h.1 (hv 0 a rfl)
  | succ j => exact h2 (fun j => vf (j + 1)) (fun j c hc => hv (j + 1) c (by simpa using hc)) j r (by simpa using hj)
theorem uU {E : Env} {U : Nat → Prop} {h : Array Obj} {c r : C} {v : Value} (hl : leC c r) (hr : Rep E U h c v) : Rep E U h r v := by
 unfold leC at hl
 split at hl
 · exact .d (.any v)
 · rw [dx hr]; exact .d (.sl0 _ _ _ (by decide))
 · obtain ⟨vs, h1, h2, h3⟩ := uO hr
   subst h1
   obtain ⟨g1, g2⟩ := mT (E := E) (U := U) (h := h) hl
   exact .tup _ vs (by rw [g1]; exact h2) (g2 _ h3)
 · obtain ⟨vs, h1, h2, h3, h4⟩ := lU hr
   subst h1
   obtain ⟨g1, g2⟩ := mT (E := E) (U := U) (h := h) hl
   exact .agg _ vs (by rw [g1]; exact h2) (g2 _ h3) h4
 · rw [← hl]; exact hr
def aO : Chs → List Nat
 | [] => []
 | (k, .row _ _ _) :: r => k :: aO r
 | (k, .deep _ _ _ Option.none _) :: r => k :: aO r
 | (_, .deep _ _ _ (Option.some _) _) :: r => aO r
 | (_, .box _) :: r => aO r
 | (_, .res _) :: r => aO r
def bG : List Nat → List Nat → List Nat
 | [], _ => []
 | j :: l, ks => if aq ks j = true then bG l ks else j :: bG l ks
def bq : Chs → Chs → Prop
 | [], _ => True
 | (k, c) :: r, ch => lk ch k = some c ∧ bq r ch
theorem gH : ∀ {c1 ch : Chs}, bq c1 ch → ∀ p ∈ c1, lk ch p.1 = some p.2
 | [], _, _, p, h => by simp at h
 | (k, c) :: r, ch, hs, p, h => by
  rcases List.mem_cons.1 h with h | h
  · rw [h]; exact hs.1
  · exact gH hs.2 p h
def br (rvs : List RV) (kp : List Nat) (r : C) (chs' : Chs) (s : ASt) : Prop :=
 (match cm (cu (bG (aO s.ch) kp) s) rvs with | some l => leC (cF l) r | none => False) ∧ bq chs' (cu (bG (aO s.ch) kp) s).ch
def argS : Nat → List C → dz
 | _, [] => []
 | i, c :: cs => (i, c) :: argS (i + 1) cs
theorem uN : ∀ (cs : List C) (i j : Nat), gt (argS i cs) j = if i ≤ j then (cs[j - i]?).getD .any else .any
 | [], i, j => by simp [argS, gt, lk]
 | c :: cs, i, j => by
  simp only [argS, gt, lk]
  by_cases h : i = j
  · subst h; simp
  · rw [if_neg h]
    have := uN cs (i + 1) j
    simp only [gt] at this
    rw [this]
    by_cases h2 : i + 1 ≤ j
    · rw [if_pos h2, if_pos (by omega)]
      have : j - i = (j - (i + 1)) + 1 := by omega
      rw [this, List.getElem?_cons_succ]
    · rw [if_neg h2, if_neg (by omega)]
def l8 (tmps : Array Value) : ResultVar → Sem Value
 | .tmp t => pure (tmps.getD t undef)
 | .cell x t => do loadVar t (← asAddr (tmps.getD x undef))
theorem v6 (fn : Func) (tmps : Array Value) : results fn tmps = (do let vs ← fn.results.mapM (l8 tmps); pure (if h : vs.size = 1 then vs[0] else .tuple vs)) := rfl
theorem oq {E : Env} {U : Nat → Prop} {a : Act} {w : World} {s : ASt} (hh : Holds P cx E U a w s) : ∀ {l : List ResultVar} {rvs : List RV} {cs : List C}, l.mapM (pj P) = some rvs → cm s rvs = some cs →
 ∃ vs : List Value, (l.mapM (l8 a.tmps)).run P w = .ok vs w ∧ vs.length = cs.length ∧ ∀ (j : Nat) c v, cs[j]? = some c → vs[j]? = some v → Rep E U w.heap c v
 | [], rvs, cs, h, hr => by
  simp at h; subst h
  simp [cm] at hr; subst hr
  exact ⟨[], by simp, rfl, fun j c v h => by simp at h⟩
 | r :: l, rvs, cs, h, hr => by
  simp only [List.mapM_cons, Option.pure_def, Option.bind_eq_bind, Option.bind_eq_some_iff, Option.some.injEq] at h
  obtain ⟨rv, h1, rvs', h2, rfl⟩ := h
  simp only [cm, Option.bind_eq_some_iff, Option.map_eq_some_iff] at hr
  obtain ⟨c, h3, cs', h4, rfl⟩ := hr
  obtain ⟨vs, g1, g2, g3⟩ := oq hh h2 h4
  have head : ∃ v, ((l8 a.tmps) r).run P w = .ok v w ∧ Rep E U w.heap c v := by
   cases r with
   | tmp t =>
    simp only [pj, Option.some.injEq] at h1
    subst h1
    simp only [dg, Option.some.injEq] at h3
    subst h3
    exact ⟨_, by simp [l8], hh.tok t⟩
   | cell x t =>
    simp only [pj, Option.bind_eq_some_iff, Option.map_eq_some_iff] at h1
    obtain ⟨b, hb, n, hn, rfl⟩ := h1
    simp only [dg] at h3
    split at h3
    · rename_i kk off hx
      split at h3
      · rename_i bcs hl
        split at h3
        · rename_i hcond
          cases h3
          have hv := ii (hx ▸ hh.tok x)
          have hcells : au b n bcs off = au b n ((bcs.drop off).take n) 0 := by
           cases b with
           | true => simp [au, List.take_take]
           | false =>
            have hn1 := hcond.2.1 rfl
            subst hn1
            have hlt : off < bcs.length := by omega
            simp only [au, Bool.false_eq_true, if_false]
            rw [List.drop_eq_getElem_cons hlt]; rfl
          obtain ⟨v, e1, e2⟩ := jG hb hn (u0 (hh.inv.ok kk _ (du hl)) off n (fun j c hj => kP hcond.2.2 hj)) 0 (by simp; omega) hcond.2.1
          rw [← hcells] at e2
          refine ⟨v, ?_, e2⟩
          simp only [Instr.loadAt, Instr.sureAddr, Sem.run_bind, Sem.run_pure, Result.andThen_ok, Nat.add_zero] at e1
          simp only [l8, hv, asAddr, Sem.run_bind, Sem.run_pure, Result.andThen_ok, e1]
        · cases h3
      · cases h3
    · cases h3
  obtain ⟨v, e1, e2⟩ := head
  refine ⟨v :: vs, ?_, by simp [g2], fun j c' v' hc hv => ?_⟩
  · simp only [List.mapM_cons, Sem.run_bind, Sem.run_pure]
    rw [e1]
    simp only [Result.andThen_ok]
    rw [g1]
    rfl
  · cases j with
    | zero => simp at hc hv; subst hc hv; exact e2
    | succ j => simp at hc hv; exact g3 j c' v' hc hv
theorem Holds.shut {E : Env} {U : Nat → Prop} {a : Act} {w : World} {s : ASt} {D : Nat} {Ds : List Nat} (hh : Holds P cx E U a w s) (hd : a.defers = (D :: Ds).map ip) (hc : cx.hid = []) :
 Holds P cx E U { a with defers := Ds.map ip } (w.putObj D (.deferred none)) s := by
 obtain ⟨Ds', h1, h2, h3⟩ := hh.df
 have he : Ds' = D :: Ds := by
  have : Ds'.map ip = (D :: Ds).map ip := by rw [← h1, hd]
  exact (List.map_inj_right (fun x y e => by simpa [ip] using e)).1 this
 subst he
 obtain ⟨⟨g1, g2, g3, g4⟩⟩ : Nonempty (_ ∧ _ ∧ _ ∧ _) := ⟨(h3 D List.mem_cons_self).1, (h3 D List.mem_cons_self).2.1, (h3 D List.mem_cons_self).2.2.1, (h3 D List.mem_cons_self).2.2.2⟩
 have hne : ∀ b, b ≠ D → (w.putObj D (.deferred none)).heap[b]? = w.heap[b]? := fun b hb => by
  simp [World.putObj, Array.getElem?_setIfInBounds, Ne.symm hb]
 have hsz : (w.putObj D (.deferred none)).heap.size = w.heap.size := by simp [World.putObj]
 have hU : ∀ b, U b → U b ∧ (w.putObj D (.deferred none)).heap[b]? = w.heap[b]? := fun b hb => ⟨hb, hne b (fun e => g3 (e ▸ hb))⟩
 have hF : ∀ k c, (k, c) ∈ s.ch → ∀ b, (E k).fp b → (w.putObj D (.deferred none)).heap[b]? = w.heap[b]? := fun k c hm b hb => hne b (fun e => g4 k c hm (e ▸ hb))
 refine ⟨hh.sz, ⟨Ds, rfl, (List.nodup_cons.1 h2).2, fun D' hD' => ?_⟩, fun i => (hh.tok i).same hU, ⟨hh.inv.nd, fun k c hm => (hh.inv.ok k c hm).same hU (hF k c hm), hh.inv.sep, hh.inv.out, fun k c hm b hb => by rw [hsz]; exact hh.inv.fpl k c hm b hb, fun b hb => by rw [hsz]; exact hh.inv.lt b hb⟩,
  hh.os, hh.tape, hh.output, by rw [hsz]; exact hh.size, fun b hb hx => (hne b (by omega)).trans (hh.fr b hb hx), fun b hb => ⟨(hh.keepA b hb).1, (hU b (hh.keepA b hb).1).2.trans (hh.keepA b hb).2⟩, hh.live, hh.base, hh.fix, fun p hp => by rw [hc] at hp; simp at hp, hh.gok.mono hU⟩
 obtain ⟨q1, q2, q3, q4⟩ := h3 D' (List.mem_cons_of_mem _ hD')
 refine ⟨q1, ?_, q3, q4⟩
 rw [hne D' (fun e => (List.nodup_cons.1 h2).1 (e ▸ hD'))]; exact q2
theorem oH {E : Env} {U : Nat → Prop} {s : ASt} {fn : Func} {R : Ending → World → Prop} (hc : cx.hid = []) : ∀ (Ds : List Nat) (a : Act) (w : World), a.defers = Ds.map ip → Holds P cx E U a w s →
 (∀ w', Holds P cx E U { a with defers := [] } w' s → ∃ v, (results fn a.tmps).run P w' = .ok v w' ∧ R (.returned v) w') → LeavesInM (FW none) 0 P fn a.tmps R a.defers .returning w
 | [], a, w, hd, hh, hf => by
  rw [hd]
  obtain ⟨t, d⟩ := a
  simp only at hd; subst hd
  exact hf w hh
 | D :: Ds, a, w, hd, hh, hf => by
  have h1 := hh.shut hd hc
  have h2 := oH (fn := fn) (R := R) hc Ds { a with defers := Ds.map ip } _ rfl h1 hf
  rw [hd]
  simp only [List.map_cons, LeavesInM]
  refine ⟨by simp, .inl ⟨D, _, rfl, run_takeDeferred ?_, h2⟩⟩
  obtain ⟨Ds', e1, _, e3⟩ := hh.df
  have he : Ds' = D :: Ds := by
   have : Ds'.map ip = (D :: Ds).map ip := by rw [← e1, hd]
   exact (List.map_inj_right (fun x y e => by simpa [ip] using e)).1 this
  subst he
  exact (e3 D List.mem_cons_self).2.1
structure FnIs (P : Program) (f : FuncId) (n : Nat) (ac : AC) (rvs : List RV) : Prop where
 ex : ∃ fn code, P.funcs[f]? = some fn ∧ (fn.name == "runtime.NumGoroutine") = false ∧ fn.body = some code ∧ fn.ntmps = n ∧ dN P n ac code = some ac ∧ fn.results.toList.mapM (pj P) = some rvs
 hn : n ≤ 100000
def FCo (P : Program) [Glob P] (f : FuncId) (args : List C) (chs : Chs) (outs : List (C × Chs)) : Prop :=
 FnOk P f ∧ ∀ (E : Env) (U : Nat → Prop) (vs : Array Value) (w : World), gm P U w.heap → mE E U w.heap args vs → Inv E U w.heap chs →
  Calls P f vs w fun e w' => ∃ o ∈ outs, ∃ v E' U', e = .returned v ∧ Rep E' U' w'.heap o.1 v ∧ CEv E U w chs E' U' w' o.2
def cQ (rvs : List RV) (kp : List Nat) (outs : List (C × Chs)) (s : ASt) : Prop := ∃ o ∈ outs, br rvs kp o.1 o.2 s
theorem kn {f : FuncId} {n : Nat} {ac : AC} {rvs : List RV} {args : List C} {chs : Chs} {outs : List (C × Chs)} (kp : List Nat) (hf : FnIs P f n ac rvs) (hargs : args.length ≤ n) (hnd : ∀ o ∈ outs, (o.2.map (·.1)).Nodup)
 (hkinds : ∀ o ∈ outs, ∀ k cs, (k, .box cs) ∈ o.2 → (∃ c, (k, c) ∈ chs) → (∃ cs0, (k, .box cs0) ∈ chs) ∧ 100000 ≤ k ∧ k < 200000)
 (h : ∀ cx : Cx, cx.n = n → cx.ro = none → cx.hi = 200000 → SG P cx (cQ rvs kp outs) [.c ac] ⟨argS 0 args, chs⟩) : FCo P f args chs outs := by
 obtain ⟨⟨fn, code, h1, h2, h3, h4, h5, h6⟩, hn⟩ := hf
 refine ⟨⟨fn, h1, h2, by rw [h3]; rfl⟩, fun E U vs w hg ha hi => ?_⟩
 let cx : Cx := { n := n, A0 := U, w0 := w, X := fun b => ∃ k c, (k, c) ∈ chs ∧ (E k).fp b, E0 := E, hn := hn, ro := none, hid := [], lo := 100000, hi := 200000, hlo := Nat.le_refl _ }
 have hsz : vs.size = args.length := ha.1
 have hh : Holds P cx E U { tmps := vs ++ Array.replicate (fn.ntmps - vs.size) undef, defers := [] } w ⟨argS 0 args, chs⟩ := by
  refine ⟨by simp [cx, h4]; omega, ⟨[], rfl, .nil, fun D hD => by simp at hD⟩, fun i => ?_, hi, rfl, rfl, rfl, Nat.le_refl _, fun _ _ _ => rfl, fun b hb => ⟨hb, rfl⟩, fun k c hm b hb => .inr ⟨k, c, hm, hb⟩, fun b hb => .inl hb, fun k cs _ _ => rfl, fun p hp => by simp [cx] at hp, hg⟩
  simp only [uN, Nat.zero_le, if_true, Nat.sub_zero]
  cases hc : args[i]? with
  | none => exact .d (.any _)
  | some c =>
   have hlt : i < vs.size := by rw [hsz]; exact (List.getElem?_eq_some_iff.1 hc).1
   have e : (vs ++ Array.replicate (fn.ntmps - vs.size) undef).getD i undef = vs.getD i undef := by
    simp only [Array.getD_eq_getD_getElem?, Array.getElem?_append]
    rw [if_pos hlt]
   rw [e]; exact ha.2 i c hc
 refine y9 (ro := none) (n := 0) (callsIn_of_wp_marks h1 h3 trivial (wpIn_mono (h cx rfl rfl rfl E U _ w hh code h5) (fun e a w' he => ?_)) rfl)
 have fin : RnH P cx (cQ rvs kp outs) a w' → LeavesInM (FW none) 0 P fn a.tmps (fun e w' => ∃ o ∈ outs, ∃ v E' U', e = .returned v ∧ Rep E' U' w'.heap o.1 v ∧ CEv E U w chs E' U' w' o.2) a.defers .returning w' := by
  rintro ⟨E', U0, s, hs, ⟨r, chs'⟩, ho, hr1, hr2⟩
  obtain ⟨U', hs'⟩ := hs.fz (bG (aO s.ch) kp)
  generalize cu (bG (aO s.ch) kp) s = s' at hs' hr1 hr2
  obtain ⟨cs, hcs, hr1⟩ : ∃ cs, cm s' rvs = some cs ∧ leC (cF cs) r := by
   split at hr1
   · exact ⟨_, by assumption, hr1⟩
   · exact hr1.elim
  obtain ⟨Ds, hds, _⟩ := hs'.df
  refine oH rfl Ds a w' hds hs' (fun w'' hs'' => ?_)
  obtain ⟨l, g1, g2, g3⟩ := oq hs'' h6 hcs
  refine ⟨(if hsz : l.toArray.size = 1 then l.toArray[0] else .tuple l.toArray), ?_, (r, chs'), ho, _, E', U', rfl, uU hr1 ?_, ?_⟩
  · have hm : (fn.results.mapM (l8 a.tmps)).run P w'' = .ok l.toArray w'' := by
     rw [Array.mapM_eq_mapM_toList]
     simp only [Sem.run_map]
     rw [g1]; rfl
    rw [v6]
    simp only [Sem.run_bind]
    rw [hm]
    rfl
  · match l, cs, g2, g3 with
    | [], [], _, _ => exact .tup [] #[] rfl (fun j c h => by simp at h)
    | [v], [c], _, g3 => simpa [cF] using g3 0 c v rfl rfl
    | v1 :: v2 :: vs', [], g2, _ => simp at g2
    | v1 :: v2 :: vs', [c], g2, _ => simp at g2
    | v1 :: v2 :: vs', c1 :: c2 :: cs', g2, g3 =>
     have e1 : ¬ ((v1 :: v2 :: vs').toArray.size = 1) := by simp
     rw [dif_neg e1]
     simp only [cF]
     refine .tup _ _ (by simpa using g2) (fun j c hj => ?_)
     have hlt : j < (v1 :: v2 :: vs').length := by rw [g2]; exact (List.getElem?_eq_some_iff.1 hj).1
     have := g3 j c _ hj (List.getElem?_eq_getElem hlt)
     rw [eF (v := (v1 :: v2 :: vs')[j]) (by simp)]
     exact this
  · have hmem : ∀ k c, (k, c) ∈ chs' → lk s'.ch k = some c := fun k c hm => gH hr2 (k, c) hm
    refine ⟨hs''.os, hs''.tape, hs''.output, hs''.size, fun b hb => hs''.keepA b hb, fun b hb1 hb2 => hs''.fr b hb1 (fun ⟨k, c, g1, g2⟩ => hb2 k c g1 g2), fun k c hm b hb => hs''.live k c (du (hmem k c hm)) b hb, fun b hb => hs''.base b hb, fun k cs hm hex => ?_, hs''.inv.sub (fun k c hm => du (hmem k c hm)) (hnd _ ho)⟩
    obtain ⟨c, hc⟩ := hex
    obtain ⟨g1, g2⟩ := hkinds _ ho k cs hm ⟨c, hc⟩
    exact ⟨g1, hs''.fix k cs g2 (du (hmem k _ hm))⟩
 cases e with
 | normal => exact fin he
 | ret => exact fin he
 | _ => exact he.elim
theorem tG {f : FuncId} {n : Nat} {ac : AC} {rvs : List RV} {args : List C} {chs : Chs} {r : C} {chs' : Chs} (kp : List Nat) (hf : FnIs P f n ac rvs) (hargs : args.length ≤ n) (hkeys : ∀ p ∈ chs, 100000 ≤ p.1 ∧ p.1 < 200000) (hnd : (chs'.map (·.1)).Nodup)
 (hkinds : ∀ k cs, (k, .box cs) ∈ chs' → (∃ c, (k, c) ∈ chs) → ∃ cs0, (k, .box cs0) ∈ chs)
 (h : ∀ cx : Cx, cx.n = n → cx.ro = none → cx.hi = 200000 → SG P cx (br rvs kp r chs') [.c ac] ⟨argS 0 args, chs⟩) : FC P f args chs r chs' := by
 have hq : ∀ o ∈ [(r, chs')], o = (r, chs') := fun o ho => by simpa using ho
 have hf2 := kn (outs := [(r, chs')]) kp hf hargs (fun o ho => by rw [hq o ho]; exact hnd) (fun o ho => by rw [hq o ho]; exact fun k cs hm ⟨c, hc⟩ => ⟨hkinds k cs hm ⟨c, hc⟩, hkeys _ hc⟩) (fun cx h1 h2 h3 => by
  refine fun E U a w hh code hc => wpIn_mono (h cx h1 h2 h3 E U a w hh code hc) (fun e a w he => ?_)
  cases e with
  | normal => obtain ⟨E', U', s, g1, g2⟩ := he; exact ⟨E', U', s, g1, _, List.mem_cons_self, g2⟩
  | ret => obtain ⟨E', U', s, g1, g2⟩ := he; exact ⟨E', U', s, g1, _, List.mem_cons_self, g2⟩
  | _ => exact he.elim)
 refine ⟨hf2.1, fun E U vs w hg ha hi => (hf2.2 E U vs w hg ha hi).mono fun e w' h => ?_⟩
 obtain ⟨o, ho, h⟩ := h
 rw [hq o ho] at h
 exact h
end Go.Am
end
section
namespace Go.Am
variable {P : Program} [Glob P] {cx : Cx} {Q : ASt → Prop} {k : List It} {st : ASt}
def kI (c : C) : Prop := ∃ U h v, RepD U h c v
theorem kI.sl {sz : Nat} {es : List (List C)} (h : kI (.sl sz es)) : es.length ≤ 9223372036854775807 ∧ ∀ e ∈ es, ∀ c ∈ e, kI c := by
 obtain ⟨U, hp, v, hr⟩ := h
 cases hr with
 | sl0 sz a cap hc => exact ⟨by simp, fun e he => by simp at he⟩
 | sl es b off cap sz arr ty fz vf hU hb hcap hmax hsz hv hr =>
  refine ⟨?_, fun e he c hc => ?_⟩
  · have : cap ≤ 9223372036854775807 := hmax
    omega
  · obtain ⟨i, hi⟩ := List.mem_iff_getElem?.1 he
    obtain ⟨j, hj⟩ := List.mem_iff_getElem?.1 hc
    exact ⟨_, _, _, hr i e j c hi hj⟩
def aR : List C → Prop
 | [] => True
 | .sl sz es :: r => kI (.sl sz es) ∧ aR r
 | .agg cs :: r => LensOks cs ∧ aR r
 | _ :: r => aR r
where LensOks : List C → Prop
 | [] => True
 | .sl sz es :: r => kI (.sl sz es) ∧ LensOks r
 | _ :: r => LensOks r
theorem po {E : Env} {U : Nat → Prop} {h : Array Obj} : ∀ {cs : List C}, (∀ c ∈ cs, ∃ v, Rep E U h c v) → aR.LensOks cs
 | [], _ => trivial
 | c :: r, hc => by
  have hr := po (cs := r) fun c hm => hc c (List.mem_cons_of_mem _ hm)
  cases c <;> simp only [aR.LensOks] <;> try exact hr
  obtain ⟨v, hv⟩ := hc _ List.mem_cons_self
  exact ⟨⟨_, _, v, kt hv⟩, hr⟩
theorem qZ {E : Env} {U : Nat → Prop} {h : Array Obj} : ∀ {cs : List C}, (∀ c ∈ cs, ∃ v, Rep E U h c v) → aR cs
 | [], _ => trivial
 | c :: r, hc => by
  have hr := qZ (cs := r) fun c hm => hc c (List.mem_cons_of_mem _ hm)
  cases c <;> simp only [aR] <;> try exact hr
  · obtain ⟨v, hv⟩ := hc _ List.mem_cons_self
    exact ⟨⟨_, _, v, kt hv⟩, hr⟩
  · obtain ⟨v, hv⟩ := hc _ List.mem_cons_self
    obtain ⟨vs, _, h2, h3, _⟩ := lU hv
    refine ⟨po (E := E) (U := U) (h := h) fun c hm => ?_, hr⟩
    obtain ⟨j, hj⟩ := List.mem_iff_getElem?.1 hm
    exact ⟨_, h3 j c hj⟩
def bg : Chs → Prop
 | [] => True
 | (_, .row _ _ es) :: r => es.length ≤ 9223372036854775807 ∧ bg r
 | (_, .deep _ _ _ _ rows) :: r => rows.length ≤ 9223372036854775807 ∧ bg r
 | (_, .box _) :: r => bg r
 | (_, .res _) :: r => bg r
theorem qQ {E : Env} {U : Nat → Prop} {h : Array Obj} : ∀ {ch : Chs}, (∀ k c, (k, c) ∈ ch → dy E U h k c) → bg ch
 | [], _ => trivial
 | (k, c) :: r, hc => by
  have hr := qQ (ch := r) fun k c hm => hc k c (List.mem_cons_of_mem _ hm)
  have h0 := hc k c List.mem_cons_self
  cases c with
  | box cs => exact hr
  | res R => exact hr
  | row sz ty es =>
   refine ⟨?_, hr⟩
   rcases h0.1.2.2.2 with ⟨_, rfl⟩ | ⟨_, h5, h6, _⟩
   · simp
   · have : (E k).cap ≤ 9223372036854775807 := h6
     omega
  | deep isz ity ty hole rows =>
   refine ⟨?_, hr⟩
   rcases h0.1.2.2 with ⟨_, rfl⟩ | ⟨_, h5, h6, _⟩
   · simp
   · have : (E k).cap ≤ 9223372036854775807 := h6
     omega
theorem FC.lens {f : FuncId} {args : List C} {chs : Chs} {r : C} {chs' : Chs} (hf : FnOk P f) (h : aR args → bg chs → FC P f args chs r chs') : FC P f args chs r chs' :=
 ⟨hf, fun E U vs w hg ha hi => (h (qZ (E := E) (U := U) (h := w.heap) fun c hm => by
  obtain ⟨j, hj⟩ := List.mem_iff_getElem?.1 hm
  exact ⟨_, ha.2 j c hj⟩) (qQ hi.ok)).2 E U vs w hg ha hi⟩
theorem Holds.leC {E : Env} {U : Nat → Prop} {a : Act} {w : World} {s s' : ASt} (hh : Holds P cx E U a w s) (h1 : ∀ i, gt s'.t i = .any ∨ leC (gt s.t i) (gt s'.t i)) (h2 : (s'.ch.map (·.1)).Nodup ∧ ∀ p ∈ s'.ch, lk s.ch p.1 = some p.2) : Holds P cx E U a w s' := by
 have hs : ∀ k c, (k, c) ∈ s'.ch → (k, c) ∈ s.ch := fun k c hm => du (h2.2 (k, c) hm)
 refine ⟨hh.sz, ?_, fun i => ?_, hh.inv.sub hs h2.1, hh.os, hh.tape, hh.output, hh.size, hh.fr, hh.keepA, fun k c hm => hh.live k c (hs k c hm), hh.base, fun k cs hk hm => hh.fix k cs hk (hs k _ hm), fun p hp => (hh.hid p hp).less hs, hh.gok⟩
 · obtain ⟨Ds, h1, h2, h3⟩ := hh.df
   exact ⟨Ds, h1, h2, fun D hD => ⟨(h3 D hD).1, (h3 D hD).2.less hs⟩⟩
 · rcases h1 i with e | e
   · rw [e]; exact .d (.any _)
   · exact uU e (hh.tok i)
def cS (t : dz) : dz → Prop
 | [] => True
 | (i, c) :: r => leC (gt t i) c ∧ cS t r
def cG (s s' : ASt) : Prop := cS s.t s'.t ∧ an (ae s'.ch) ∧ bq s'.ch s.ch
theorem ng {t : dz} : ∀ {t' : dz} (i : Nat), cS t t' → gt t' i = .any ∨ leC (gt t i) (gt t' i)
 | [], i, _ => .inl rfl
 | (j, c) :: r, i, h => by
  simp only [gt, lk]
  by_cases hj : j = i
  · subst hj; rw [if_pos rfl]; exact .inr h.1
  · rw [if_neg hj]; exact ng (t' := r) i h.2
theorem S_leS {s' : ASt} (h : cG st s') (h2 : SG P cx Q k s') : SG P cx Q k st := fun E U a w hh =>
 h2 E U a w (hh.leC (fun i => ng i h.1) ⟨by rw [← dU]; exact eS h.2.1, gH h.2.2⟩)
def cW {α : Type} (sh : α → ASt) (inv : α → Prop) (μ : α → Nat) (v : α) (s : ASt) : Prop := ∃ v', inv v' ∧ μ v' < μ v ∧ cG s (sh v')
def dh (n : Nat) (sh : Nat → ASt) (inv : Nat → Prop) (i : Nat) (s : ASt) : Prop := i < n ∧ inv (i + 1) ∧ cG s (sh (i + 1))
theorem uX {x : AC} {α : Type} (sh : α → ASt) (inv : α → Prop) (μ : α → Nat) (v0 : α) (h0 : inv v0) (hs : cG st (sh v0))
 (hr : ∀ v, inv v → SG P cx Q (.c x :: .post (cW sh inv μ v) :: k) (sh v)) : SG P cx Q (.c (.loop x) :: k) st := by
 refine S_leS hs ?_
 refine fC fun code hc E U a w hh => ?_
 cases code <;> simp [dN] at hc
 rename_i c
 intro b kk cs hro hF hroom
 have key : ∀ n v, μ v ≤ n → inv v → ∀ E U a w, Holds P cx E U a w (sh v) →
  ∃ e a' w', WE P cx Q k e a' w' ∧ ArrivesIn (Machine.fenced P (FW cx.ro)) P (lone (b.atR a (.code c :: .inLoop c :: kk)) cs w) b kk cs e a' w' := by
  intro n
  induction n using Nat.strongRecOn with
  | _ n ih =>
   intro v hn hv E U a w hh
   have hbody := hr v hv E U a w hh c hc
   obtain ⟨e, a₁, w₁, hq, harr⟩ := hbody b (.inLoop c :: kk) cs hro hF hroom
   cases e with
   | normal =>
    obtain ⟨E', U', s, g1, v', g2, g3, g4⟩ := hq
    have g5 := g1.leC (fun i => ng i g4.1) ⟨by rw [← dU]; exact eS g4.2.1, gH g4.2.2⟩
    obtain ⟨e₂, a₂, w₂, hq₂, harr₂⟩ := ih (μ v') (by omega) v' (Nat.le_refl _) g2 E' U' a₁ w₁ g5
    exact ⟨e₂, a₂, w₂, hq₂, .of_steps (StepsIn.trans harr (.one (fenced_calm hF hroom rfl) stepR_inLoop)) harr₂⟩
   | exit id => exact ⟨_, a₁, w₁, hq, .pass (x := .inLoop c) rfl (fun _ _ => .inl (by simp)) harr⟩
   | goto l => exact ⟨_, a₁, w₁, hq, .pass (x := .inLoop c) rfl (fun _ _ => .inl (by simp)) harr⟩
   | ret => exact ⟨_, a₁, w₁, hq, .pass (x := .inLoop c) rfl (fun _ _ => .inl (by simp)) harr⟩
   | panic ch => exact ⟨_, a₁, w₁, hq, .pass (x := .inLoop c) rfl (fun _ _ => .inl (by simp)) harr⟩
   | outgrown => exact ⟨_, a₁, w₁, hq, .pass (x := .inLoop c) rfl (fun _ _ => .inl (by simp)) harr⟩
 obtain ⟨e, a', w', hq, harr⟩ := key _ v0 (Nat.le_refl _) h0 E U a w hh
 exact ⟨e, a', w', hq, .of_steps (.one (fenced_calm hF hroom rfl) stepR_loop) harr⟩
def db (t : dz) : dz → dz
 | [] => t
 | (i, c) :: r => db (ar t i c) r
def cL (ch : Chs) : Chs → Chs
 | [] => ch
 | (i, c) :: r => cL (ar ch i c) r
def b0 (st : ASt) (ts : dz) (cs : Chs) : ASt := ⟨db st.t ts, cL st.ch cs⟩
theorem iD {x : AC} {α : Type} (ts : α → dz) (cs : α → Chs) (inv : α → Prop) (μ : α → Nat) (v0 : α) (h0 : inv v0) (hs : cG st (b0 st (ts v0) (cs v0)))
 (hr : ∀ v, inv v → SG P cx Q (.c x :: .post (cW (fun v => b0 st (ts v) (cs v)) inv μ v) :: k) (b0 st (ts v) (cs v))) : SG P cx Q (.c (.loop x) :: k) st :=
 uX (fun v => b0 st (ts v) (cs v)) inv μ v0 h0 hs hr
theorem hM {x : AC} (n : Nat) (sh : Nat → ASt) (inv : Nat → Prop) (h0 : inv 0) (hs : cG st (sh 0))
 (hr : ∀ i, i ≤ n → inv i → SG P cx Q (.c x :: .post (dh n sh inv i) :: k) (sh i)) : SG P cx Q (.c (.loop x) :: k) st := by
 refine uX sh (fun i => i ≤ n ∧ inv i) (fun i => n - i) 0 ⟨Nat.zero_le _, h0⟩ hs (fun i hi => ?_)
 have h := hr i hi.1 hi.2
 refine fun E U a w hh code hc => wpIn_mono (h E U a w hh code hc) (fun e a w he => ?_)
 cases e <;> first | exact he | skip
 obtain ⟨E', U', s, g1, g2, g3, g4⟩ := he
 exact ⟨E', U', s, g1, i + 1, ⟨g2, g3⟩, (by show n - (i + 1) < n - i; omega), g4⟩
theorem dE {x : AC} (n : Nat) (ts : Nat → dz) (cs : Nat → Chs) (inv : Nat → Prop) (h0 : inv 0) (hs : cG st (b0 st (ts 0) (cs 0)))
 (hr : ∀ i, i ≤ n → inv i → SG P cx Q (.c x :: .post (dh n (fun i => b0 st (ts i) (cs i)) inv i) :: k) (b0 st (ts i) (cs i))) : SG P cx Q (.c (.loop x) :: k) st :=
 hM n (fun i => b0 st (ts i) (cs i)) inv h0 hs hr
theorem dk {f : FuncId} {n : Nat} {ac : AC} {rvs : List RV} {args : List C} {r : C} (hf : FnIs P f n ac rvs) (hargs : args.length ≤ n)
 (h : ∀ cx : Cx, aR args → SG P cx (br rvs [] r []) [.c ac] ⟨argS 0 args, []⟩) : FC P f args [] r [] := by
 have hf' := hf
 obtain ⟨⟨fn, code, h1, h2, h3, _⟩, _⟩ := hf'
 exact FC.lens ⟨fn, h1, h2, by rw [h3]; rfl⟩ fun hl _ => tG [] hf hargs (fun p hp => by simp at hp) (by simp) (fun k cs hm => by simp at hm) (fun cx _ _ _ => h cx hl)
def aF (chs : Chs) : Chs → Prop
 | [] => True
 | (k, .box _) :: r => (match lk chs k with | some (.box _) => True | some _ => False | none => True) ∧ aF chs r
 | _ :: r => aF chs r
theorem m7 {chs : Chs} (hn : (chs.map (·.1)).Nodup) : ∀ {l : Chs}, aF chs l → ∀ k cs, (k, .box cs) ∈ l → (∃ c, (k, c) ∈ chs) → ∃ cs0, (k, .box cs0) ∈ chs
 | [], _, k, cs, hm, _ => by simp at hm
 | (j, c0) :: r, h, k, cs, hm, hex => by
  have hr : aF chs r := by cases c0 <;> first | exact h | exact h.2
  rcases List.mem_cons.1 hm with e | e
  · cases e
    obtain ⟨c, hc⟩ := hex
    have hl := e7 hn hc
    have h1 := h.1
    rw [hl] at h1
    cases c with
    | box cs0 => exact ⟨cs0, hc⟩
    | _ => exact h1.elim
  · exact m7 hn hr k cs e hex
def bf : Chs → Prop
 | [] => True
 | (k, _) :: r => (100000 ≤ k ∧ k < 200000) ∧ bf r
theorem qV : ∀ {l : Chs}, bf l → ∀ p ∈ l, 100000 ≤ p.1 ∧ p.1 < 200000
 | [], _, p, h => by simp at h
 | (k, c) :: r, h, p, hp => by
  rcases List.mem_cons.1 hp with e | e
  · rw [e]; exact h.1
  · exact qV h.2 p e
theorem dF {f : FuncId} {n : Nat} {ac : AC} {rvs : List RV} {args : List C} {chs : Chs} {r : C} {chs' : Chs} (kp : List Nat) (hf : FnIs P f n ac rvs) (hargs : args.length ≤ n) (hks : bf chs) (hn0 : an (ae chs)) (hn1 : an (ae chs')) (hkd : aF chs chs')
 (h : ∀ cx : Cx, cx.n = n ∧ cx.ro = none ∧ cx.hi = 200000 → aR args → bg chs → SG P cx (br rvs kp r chs') [.c ac] ⟨argS 0 args, chs⟩) : FC P f args chs r chs' := by
 have hf' := hf
 obtain ⟨⟨fn, code, h1, h2, h3, _⟩, _⟩ := hf'
 exact FC.lens ⟨fn, h1, h2, by rw [h3]; rfl⟩ fun hl hc => tG kp hf hargs (qV hks) (by rw [← dU]; exact eS hn1) (m7 (by rw [← dU]; exact eS hn0) hkd) (fun cx h1 h2 h3 => h cx ⟨h1, h2, h3⟩ hl hc)
end Go.Am
end
section
namespace Go.Am
variable {P : Program} [Glob P]
class Dat (α : Type) where
 sz : Nat
 agg : Bool
 cells : α → List C
 dec : List C → Option α
 ok : ∀ {l a}, dec l = some a → l = cells a
 data : ∀ a, (cells a).all (fun c => match c with | .s _ => true | .sl _ _ => true | _ => false) = true
 one : agg = false → ∀ a, (cells a).length = 1
 nilv : Option α := none
 nil_ok : ∀ a, nilv = some a → agg = false ∧ ∃ n, cells a = [.sl n []] := by intro a h; cases h
open Dat (cells)
def enc {α : Type} [Dat α] (a : α) : C := if Dat.agg α = true then .agg (cells a) else (cells a).headD .any
def eo {α : Type} [Dat α] : List (List C) → Option (List α)
 | [] => some []
 | l :: ls => (Dat.dec l).bind fun a => (eo ls).map (a :: ·)
theorem dV {α : Type} [Dat α] : ∀ {ls : List (List C)} {aS : List α}, eo ls = some aS → ls = aS.map cells
 | [], aS, h => by simp [eo] at h; subst h; rfl
 | l :: ls, aS, h => by
  simp only [eo, Option.bind_eq_some_iff, Option.map_eq_some_iff] at h
  obtain ⟨a, h1, bs, h2, rfl⟩ := h
  rw [List.map_cons, ← Dat.ok h1, ← dV h2]
class DatL (α : Type) extends Dat α where
 dec_cells : ∀ a : α, Dat.dec (cells a) = some a
theorem g0 {α : Type} [DatL α] : ∀ aS : List α, eo (aS.map cells) = some aS
 | [] => rfl
 | a :: aS => by simp [eo, DatL.dec_cells, g0 aS]
instance : DatL Int where
 sz := 1
 agg := false
 cells n := [.s (.int .i64 n)]
 dec | [.s (.int .i64 n)] => some n | _ => none
 ok := by intro l a h; split at h <;> cases h; rfl
 data := fun a => rfl
 one := fun _ a => rfl
 dec_cells := fun a => rfl
end Go.Am
end
