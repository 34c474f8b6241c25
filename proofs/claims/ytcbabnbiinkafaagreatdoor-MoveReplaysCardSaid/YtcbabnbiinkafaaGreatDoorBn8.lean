/- Part 8 of the proof of: the statements about chapter 8 -/
import Derived.Maps.RangeWalk
import Derived.Test.YtcbabnbiinkafaaGreatDoorBn7
set_option linter.all false
section
namespace Go.Am
open Dat (cells)
variable {P : Program}
theorem ReadsP.list {t e:TypeId} {α:Type} [DatL α] {p:α→Prop} (he:ReadsP P e α p) (ht:P.underlying t=some (.slice e)) (hc:P.cellsOf t=1):ReadsP P t (List α) (fun l=>∀ a∈l,p a):=by
 refine ⟨hc,(by show 0 < 1; decide),fun en w sp fuel cs x h=>?_⟩
 rcases DataW.trod_slice ht h with ⟨rfl,_⟩ | ⟨a,len,cap,elems,rest,n,_,rfl,_,_,hl,hm,hlen,hel,_,_⟩
 · refine ⟨[],fun a h=>(by cases h),rfl,rfl,fun j c hj=>?_⟩
   cases j with
   | zero=>
    simp only [cells,List.getElem?_cons_zero,Option.some.injEq] at hj
    subst hj
    exact ⟨.sl0 _ _ _ (by simp [maxLen]),rfl⟩
   | succ j=>simp [cells] at hj
 · have hpos:=he.pos
   rcases Nat.eq_zero_or_pos len with h0 | h0
   · subst h0
     refine ⟨[],fun a h=>(by cases h),rfl,rfl,fun j c hj=>?_⟩
     cases j with
     | zero=>
      simp only [cells,List.getElem?_cons_zero,Option.some.injEq] at hj
      subst hj
      exact ⟨.sl0 _ _ _ hm,rfl⟩
     | succ j=>simp [cells] at hj
   · have hget:∀ i,i < len→∃ q:α×List Value,p q.1∧w.cells? 0 (a.add (i*Dat.sz α)) (Dat.sz α)=some q.2∧(cells q.1).length=Dat.sz α∧∀ (j:Nat) (c:C),(cells q.1)[j]? = some c→RepD (fun b=>b < w.heap.size) w.heap c (q.2.getD j undef)∧(q.2.getD j undef).oneCell'=true:=fun i hi=>by
      have h1:=hel i hi
      rw [List.getElem?_eq_getElem (by omega),Option.bind_eq_some_iff] at h1
      obtain ⟨ci,h2,h3⟩:=h1
      obtain ⟨q,h0,h4,h5,h6⟩:=he.rd en w sp n ci _ h3
      exact ⟨(q,ci),h0,by rw [← he.sz]; exact h2,h4,h6⟩
     have hex:∀ i:Nat,∃ q:α×List Value,i < len→p q.1∧w.cells? 0 (a.add (i*Dat.sz α)) (Dat.sz α)=some q.2∧(cells q.1).length=Dat.sz α∧∀ (j:Nat) (c:C),(cells q.1)[j]? = some c→RepD (fun b=>b < w.heap.size) w.heap c (q.2.getD j undef)∧(q.2.getD j undef).oneCell'=true:=fun i=>by
      by_cases hi:i < len
      · obtain ⟨q,hq⟩:=hget i hi; exact ⟨q,fun _=>hq⟩
      · obtain ⟨q,_⟩:=hget 0 h0; exact ⟨q,fun h=>absurd h hi⟩
     obtain ⟨f,hf⟩:=Classical.axiomOfChoice hex
     let l:List α:=(List.range len).map fun i=>(f i).1
     have hll:l.length=len:=by simp [l]
     have hli:∀ (i:Nat) (e:List C),(l.map cells)[i]? = some e→i < len∧e=cells (f i).1:=fun i e h=>by
      rw [List.getElem?_map,List.getElem?_map,Option.map_map,Option.map_eq_some_iff] at h
      obtain ⟨k,h1,rfl⟩:=h
      have hi:=(List.getElem?_eq_some_iff.1 h1).1
      simp only [List.length_range] at hi
      rw [List.getElem?_range hi] at h1
      cases h1
      exact ⟨hi,rfl⟩
     have hcell:∀ i,i < len→∀ j,j < Dat.sz α→w.cell? ((a.add (i*Dat.sz α)).add j)=some ((f i).2.getD j undef):=fun i hi j hj=>by
      obtain ⟨_,h1,h2,h3⟩:=hf i hi
      obtain ⟨g1,g2⟩:=cells?_get h1
      rw [g2 j hj,List.getD_eq_getElem?_getD,List.getElem?_eq_getElem (by omega)]; rfl
     obtain ⟨hsp,arr,ty,fz,hh,_⟩:=cell?_inv (hcell 0 h0 0 hpos)
     have hsp':a.spot=none:=by simpa [Addr.add] using hsp
     rw [(iY a _ _).1] at hh
     obtain ⟨b,off,spot⟩:=a
     simp only at hsp'
     subst hsp'
     have hb:b < w.heap.size:=by
      rcases Nat.lt_or_ge b w.heap.size with h | h
      · exact h
      · have hh':w.heap[b]? = some (.cells arr ty fz):=hh
        rw [Array.getElem?_eq_none h] at hh'; cases hh'
     refine ⟨l,fun a ha=>(by obtain ⟨i,hi,rfl⟩:=List.mem_map.1 ha; exact (hf i (List.mem_range.1 hi)).1),rfl,rfl,fun j c hj=>?_⟩
     cases j with
     | succ j=>simp [cells] at hj
     | zero=>
      simp only [cells,List.getElem?_cons_zero,Option.some.injEq] at hj
      subst hj
      refine ⟨?_,rfl⟩
      have hmain:RepD (fun b=>b < w.heap.size) w.heap (.sl (Dat.sz α) (l.map cells)) (.slice (some ⟨b,off,none⟩) (l.map cells).length cap):=by
       refine .sl (l.map cells) b off cap (Dat.sz α) arr ty fz (fun i j=>(f i).2.getD j undef) hb hh (by simpa [hll] using hl) hm (fun i e h=>?_) (fun i e j c h1 h2=>?_) (fun i e j c h1 h2=>?_)
       · obtain ⟨g1,rfl⟩:=hli i e h
         exact (hf i g1).2.2.1
       · obtain ⟨g1,rfl⟩:=hli i e h1
         obtain ⟨_,q1,q2,q3⟩:=hf i g1
         have hj:j < Dat.sz α:=by have:=(List.getElem?_eq_some_iff.1 h2).1; omega
         obtain ⟨_,arr2,ty2,fz2,hh2,hg⟩:=cell?_inv (hcell i g1 j hj)
         rw [(iY _ _ _).1] at hh2
         rw [(iY _ _ _).2] at hg
         have hh2':w.heap[b]? = some (.cells arr2 ty2 fz2):=hh2
         have hh':w.heap[b]? = some (.cells arr ty fz):=hh
         rw [hh'] at hh2'
         cases hh2'
         exact ⟨hg,(q3 j c h2).2⟩
       · obtain ⟨g1,rfl⟩:=hli i e h1
         exact ((hf i g1).2.2.2 j c h2).1
      simpa [hll] using hmain
theorem lX {t tf:TypeId} {fs:Array Field} {β:Type} [DatL β] {p:β→Prop} (hf:ReadsP P tf β p) (ht:P.underlying t=some (.struct fs)) {H:Type} {en:TypeId×Value→H} {w:World} {sp:Nat→Bool} {fuel:Nat} {cs:List Value} {x:DataW H×List MemPlace}
 (h:DataW.trod en P w 0 sp true fuel t cs=some x) (i:Nat) {f:Field} (hi:fs[i]? = some f) (hft:f.type=tf):cs.length=P.cellsOf t∧∃ b:β,p b∧(cells b).length=Dat.sz β ∧
  ∀ (j:Nat) (c:C),(cells b)[j]? = some c→RepD (fun b=>b < w.heap.size) w.heap c (cs.getD (f.offset+j) undef)∧(cs.getD (f.offset+j) undef).oneCell'=true:=by
 obtain ⟨xs,n,_,_,hl,hxs,hx⟩:=DataW.trod_struct ht h
 refine ⟨hl,?_⟩
 have h1:=hx i f hi
 have hi':i < xs.length:=by rw [hxs]; exact (Array.getElem?_eq_some_iff.1 hi).1
 rw [List.getElem?_eq_getElem hi',hft] at h1
 obtain ⟨b,h1',h2,h3,h4⟩:=hf.rd en w sp n _ _ h1
 refine ⟨b,h1',h2,fun j c hj=>?_⟩
 have hj':j < Dat.sz β:=by have:=(List.getElem?_eq_some_iff.1 hj).1; omega
 have h5:=h4 j c hj
 have e:((cs.drop f.offset).take (P.cellsOf tf)).getD j undef=cs.getD (f.offset+j) undef:=by
  rw [hf.sz]
  simp only [List.getD_eq_getElem?_getD,List.getElem?_take,List.getElem?_drop,if_pos hj']
 rw [e] at h5
 exact h5
theorem ReadsP.argS {t:TypeId} {fs:Array Field} {α:Type} [DatL α] {p:α→Prop} (h:ReadsP P t α p) (hag:Dat.agg α=true) (ht:P.underlying t=some (.struct fs)) {H:Type} {en:TypeId×Value→H} {W:World} {r:Reach} {base:Nat} {sp:Nat→Bool} {v:Value} {d:DataW H} {ps:List MemPlace}
 (hval:Value.okWide P W r base t v) (hd:DataW.Trod en P W 0 sp true t v d ps):∃ a:α,p a∧∀ E,Rep E (fun b=>b < W.heap.size) W.heap (enc a) v:=by
 obtain ⟨vs,rfl,_⟩:=WideShapes.okWide_struct ht hval
 obtain ⟨fuel,hf⟩:=hd
 obtain ⟨a,h0,h1,h2,h3⟩:=h.rd en W sp fuel _ _ hf
 have hc:(Value.agg vs).cells=vs:=by simp [Value.cells]
 rw [hc] at h2 h3
 have e:∀ j,vs.toList.getD j undef=vs.getD j undef:=fun j=>by simp [List.getD_eq_getElem?_getD,Array.getD_eq_getD_getElem?]
 refine ⟨a,h0,fun E=>?_⟩
 rw [enc,if_pos hag]
 refine .agg _ vs (by simpa [h1] using h2) (fun j c hj=>.d (by have:=(h3 j c hj).1; rwa [e] at this)) (fun j hj=>?_)
 have hj':j < (cells a).length:=by rw [h1,← h2]; simpa using hj
 have:=(h3 j _ (List.getElem?_eq_getElem hj')).2
 rwa [e] at this
theorem rN {n:String} {cs:Array Value} {W:World} {g:Nat} (h:W.var? P n=some cs) (hg:P.globalNamed n=some g):∃ ty fz,W.heap[g]? = some (.cells cs ty fz):=by
 unfold World.var? at h
 rw [hg] at h
 simp only [Option.bind_some] at h
 split at h
 · rename_i cs ty fz hh
   cases h
   exact ⟨ty,fz,hh⟩
 · cases h
end Go.Am
end
section
namespace Go.Am
open Dat (cells)
def w0 := And.intro @ap.eq_1 <| And.intro @ap.eq_2 <| And.intro @ap.eq_3 <| And.intro @ap.eq_4 <| And.intro @ap.eq_5 <| And.intro @ap.eq_6 <| And.intro @ap.eq_7 <| And.intro @ap.eq_8 <| And.intro @ap.eq_9 <| And.intro @ap.eq_10 <| And.intro @ap.eq_11 <| And.intro @ap.eq_12 <| And.intro @ap.eq_13 <| And.intro @ap.eq_14 <| And.intro @ap.eq_15 <| And.intro @ap.eq_16 <| And.intro @ap.eq_17 <| And.intro @ap.eq_18 <| And.intro @ap.eq_19 <| And.intro @ap.eq_20 <| And.intro @ap.eq_21 <| And.intro @ap.eq_22 <| And.intro @ap.eq_23 <| And.intro @ap.eq_24 <| And.intro @ap.eq_25 <| And.intro @ap.eq_26 <| And.intro @ap.eq_27 <| And.intro @ap.eq_28 <| And.intro @ap.eq_29 <| And.intro @ap.eq_30 <| And.intro @ap.eq_31 <| And.intro @ap.eq_32 <| And.intro @ap.eq_33 <| And.intro @ap.eq_34 <| And.intro @ap.eq_35 <| And.intro @ap.eq_36 <| And.intro @ap.eq_37 <| And.intro @ap.eq_38 <| And.intro @ap.eq_39 <| @ap.eq_40
def w1 := And.intro @ap.eq_41 <| And.intro @bF.eq_1 <| And.intro @bF.eq_2 <| And.intro @bF.eq_3 <| And.intro @bF.eq_4 <| And.intro @bF.eq_5 <| And.intro @bF.eq_6 <| And.intro @bF.eq_7 <| And.intro @aF.eq_1 <| And.intro @aF.eq_2 <| And.intro @bY.eq_1 <| And.intro @bY.eq_2 <| And.intro @ai.eq_1 <| And.intro @ai.eq_2 <| And.intro @ai.eq_3 <| And.intro @ai.eq_4 <| And.intro @ai.eq_5 <| And.intro @ai.eq_6 <| And.intro @ai.eq_7 <| And.intro @ai.eq_8 <| And.intro @ai.eq_9 <| And.intro @ai.eq_10 <| And.intro @ai.eq_11 <| And.intro @ai.eq_12 <| And.intro @ai.eq_13 <| And.intro @ai.eq_14 <| And.intro @ai.eq_18 <| And.intro @ai.eq_19 <| And.intro @ai.eq_20 <| And.intro @ai.eq_21 <| And.intro @ai.eq_24 <| And.intro @ai.eq_25 <| And.intro @ai.eq_26 <| And.intro @ai.eq_27 <| And.intro @ai.eq_28 <| And.intro @ai.eq_29 <| And.intro @ai.eq_30 <| And.intro @ai.eq_31 <| And.intro @ai.eq_33 <| @ai.eq_34
def w2 := And.intro @aq.eq_1 <| And.intro @aq.eq_2 <| And.intro @aq.eq_3 <| And.intro @aq.eq_4 <| And.intro @gt.eq_1 <| And.intro @lk.eq_1 <| And.intro @lk.eq_2 <| And.intro @am.eq_1 <| And.intro @am.eq_2 <| And.intro @af.eq_1 <| And.intro @af.eq_2 <| And.intro @aT.eq_1 <| And.intro @aT.eq_2 <| And.intro @aw.eq_1 <| And.intro @bo.eq_1 <| And.intro @bo.eq_2 <| And.intro @ah.eq_1 <| And.intro @ah.eq_2 <| And.intro @ah.eq_3 <| And.intro @ah.eq_4 <| And.intro @ah.eq_5 <| And.intro @ah.eq_6 <| And.intro @ah.eq_7 <| And.intro @ah.eq_8 <| And.intro @ah.eq_9 <| And.intro @ah.subCs.eq_1 <| And.intro @ah.subCs.eq_2 <| And.intro @bJ.eq_1 <| And.intro @bJ.eq_2 <| And.intro @aJ.eq_1 <| And.intro @aJ.eq_2 <| And.intro @aJ.eq_3 <| And.intro @aJ.eq_4 <| And.intro @aJ.eq_5 <| And.intro @aJ.eq_6 <| And.intro @bu.eq_1 <| And.intro @bu.eq_2 <| And.intro @av.eq_1 <| And.intro @av.eq_2 <| @aj.eq_1
def w3 := And.intro @aj.eq_2 <| And.intro @aQ.eq_1 <| And.intro @aQ.eq_2 <| And.intro @aQ.eq_3 <| And.intro @aQ.eq_4 <| And.intro @aQ.eq_5 <| And.intro @aQ.eq_6 <| And.intro @aQ.eq_7 <| And.intro @aQ.eq_8 <| And.intro @aQ.eq_9 <| And.intro @aQ.eq_10 <| And.intro @a7.eq_1 <| And.intro @a7.eq_2 <| And.intro @a7.eq_3 <| And.intro @aI.eq_1 <| And.intro @bM.eq_1 <| And.intro @bM.eq_2 <| And.intro @bl.eq_1 <| And.intro @bl.eq_2 <| And.intro @ay.eq_1 <| And.intro @ay.eq_2 <| And.intro @ay.eq_3 <| And.intro @ae.eq_1 <| And.intro @ae.eq_2 <| And.intro @ae.eq_3 <| And.intro @aC.eq_1 <| And.intro @aC.eq_2 <| And.intro @aA.eq_1 <| And.intro @aA.eq_2 <| And.intro @aA.eq_3 <| And.intro @aA.eq_4 <| And.intro @aA.eq_5 <| And.intro @aA.eq_6 <| And.intro @aA.eq_7 <| And.intro @aA.eq_8 <| And.intro @aA.eq_9 <| And.intro @aA.eq_10 <| And.intro @aA.eq_11 <| And.intro @aA.eq_12 <| @aA.eq_13
def w4 := And.intro @aA.eq_14 <| And.intro @aA.eq_15 <| And.intro @aA.eq_16 <| And.intro @aA.eq_17 <| And.intro @aA.eq_18 <| And.intro @aA.eq_19 <| And.intro @aA.eq_20 <| And.intro @aA.eq_21 <| And.intro @aA.eq_22 <| And.intro @aA.eq_23 <| And.intro @aA.eq_24 <| And.intro @aA.eq_25 <| And.intro @aA.eq_26 <| And.intro @cI.eq_1 <| And.intro @cI.eq_2 <| And.intro @cI.eq_3 <| And.intro @dz.eq_1 <| And.intro @aP.eq_1 <| And.intro @aP.eq_2 <| And.intro @aP.eq_3 <| And.intro @aP.eq_4 <| And.intro @aP.eq_5 <| And.intro @bI.eq_1 <| And.intro @bI.eq_2 <| And.intro @bI.eq_3 <| And.intro @bI.eq_4 <| And.intro @cm.eq_1 <| And.intro @cm.eq_2 <| And.intro @cm.eq_3 <| And.intro @cm.eq_4 <| And.intro @cm.eq_5 <| And.intro @bf.eq_1 <| And.intro @bf.eq_2 <| And.intro @bf.eq_3 <| And.intro @bf.eq_4 <| And.intro @bf.eq_5 <| And.intro @bf.eq_6 <| And.intro @bf.eq_7 <| And.intro @bf.eq_8 <| @bf.eq_9
def w5 := And.intro @bf.eq_10 <| And.intro @bf.eq_11 <| And.intro @bf.eq_12 <| And.intro @bf.eq_13 <| And.intro @bf.eq_14 <| And.intro @bf.eq_15 <| And.intro @bf.eq_16 <| And.intro @cD.eq_1 <| And.intro @cD.eq_2 <| And.intro @cD.eq_3 <| And.intro @cD.eq_4 <| And.intro @cC.eq_1 <| And.intro @cC.eq_2 <| And.intro @aY.eq_1 <| And.intro @aY.eq_2 <| And.intro @au.eq_1 <| And.intro @aU.eq_1 <| And.intro @aU.eq_2 <| And.intro @aU.eq_3 <| And.intro @aU.eq_4 <| And.intro @cb.eq_1 <| And.intro @cb.eq_2 <| And.intro @cb.eq_3 <| And.intro @cb.eq_4 <| And.intro @cb.eq_5 <| And.intro @cN.eq_1 <| And.intro @cN.eq_2 <| And.intro @zC.eq_1 <| And.intro @zC.eq_2 <| And.intro @argS.eq_1 <| And.intro @argS.eq_2 <| And.intro @cz.eq_1 <| And.intro @co.eq_1 <| And.intro @co.eq_2 <| And.intro @du.eq_1 <| And.intro @du.eq_2 <| And.intro @ce.eq_1 <| And.intro @aV.eq_1 <| And.intro @aV.eq_2 <| @aV.eq_3
def w6 := And.intro @aV.eq_4 <| And.intro @aV.eq_5 <| And.intro @aV.eq_6 <| And.intro @bD.eq_1 <| And.intro @bD.eq_2 <| And.intro @be.eq_1 <| And.intro @be.eq_2 <| And.intro @bq.eq_1 <| And.intro @bq.eq_2 <| And.intro @cF.eq_1 <| And.intro @cF.eq_2 <| And.intro @leC.eq_1 <| And.intro @leC.eq_2 <| And.intro @leC.eq_3 <| And.intro @leC.eq_4 <| And.intro @leC.eq_5 <| And.intro @bK.eq_1 <| And.intro @bK.eq_2 <| And.intro @bK.eq_3 <| And.intro @bA.eq_1 <| And.intro @bA.eq_2 <| And.intro @bA.eq_3 <| And.intro @bA.eq_4 <| And.intro @ca.eq_1 <| And.intro @ca.eq_2 <| And.intro @ca.eq_3 <| And.intro @br.eq_1 <| And.intro @br.eq_2 <| And.intro @br.eq_3 <| And.intro @dw.eq_1 <| And.intro @cG.eq_1 <| And.intro @cU.eq_1 <| And.intro @cU.eq_2 <| And.intro @an.eq_1 <| And.intro @an.eq_2 <| And.intro @ag.eq_1 <| And.intro @ag.eq_2 <| And.intro @cu.eq_1 <| And.intro @cu.eq_2 <| @bW.eq_1
def w7 := And.intro @bW.eq_2 <| And.intro @dm.eq_1 <| And.intro @aD.eq_1 <| And.intro @aD.eq_2 <| And.intro @aD.eq_3 <| And.intro @aD.eq_4 <| And.intro @aD.viewCs.eq_1 <| And.intro @aD.viewCs.eq_2 <| And.intro @aO.eq_1 <| And.intro @aO.eq_2 <| And.intro @aO.eq_3 <| And.intro @aO.eq_4 <| And.intro @aO.eq_5 <| And.intro @aO.eq_6 <| And.intro @aO.eq_7 <| And.intro @aO.flatCs.eq_1 <| And.intro @aO.flatCs.eq_2 <| And.intro @aW.eq_1 <| And.intro @aW.eq_2 <| And.intro @aW.eq_3 <| And.intro @aW.eq_4 <| And.intro @aW.LensOks.eq_1 <| And.intro @aW.LensOks.eq_2 <| And.intro @aW.LensOks.eq_3 <| And.intro @Value.oneCell'.eq_1 <| And.intro @Value.oneCell'.eq_2 <| And.intro @Value.oneCell'.eq_3 <| And.intro @de.eq_1 <| And.intro @Ent.mk3.eq_1 <| And.intro @cK.eq_1 <| And.intro @cK.eq_2 <| And.intro @db.eq_1 <| And.intro @dc.eq_1 <| And.intro @cL.eq_1 <| And.intro @cL.eq_2 <| And.intro @dg.eq_1 <| And.intro @dh.eq_1 <| And.intro @dd.eq_1 <| And.intro @cM.eq_1 <| @cM.eq_2
def w8 := And.intro @cq.eq_1 <| And.intro @cq.eq_2 <| And.intro @di.eq_1 <| And.intro @cr.eq_1 <| And.intro @cS.eq_1 <| And.intro @cS.eq_2 <| And.intro @cO.eq_1 <| And.intro @cO.eq_2 <| And.intro @cH.eq_1 <| And.intro @cH.eq_2 <| And.intro @rn.eq_1 <| And.intro @ak.eq_1 <| And.intro @ak.eq_2 <| And.intro @ak.eq_3 <| And.intro @ak.eq_4 <| And.intro @ak.eq_5 <| And.intro @ak.eq_6 <| And.intro @ak.eq_7 <| And.intro @ak.eq_8 <| And.intro @ak.eq_9 <| And.intro @ak.renCs.eq_1 <| And.intro @ak.renCs.eq_2 <| And.intro @aG.eq_1 <| And.intro @aG.eq_2 <| And.intro @ar.eq_1 <| And.intro @ar.eq_2 <| And.intro @aX.eq_1 <| And.intro @aX.eq_2 <| And.intro @aX.eq_3 <| And.intro @aX.viewOks.eq_1 <| And.intro @aX.viewOks.eq_2 <| And.intro @bV.eq_1 <| And.intro @bV.eq_2 <| And.intro @bB.eq_1 <| And.intro @bB.eq_2 <| And.intro @bB.eq_3 <| And.intro @bB.eq_4 <| And.intro @bB.eq_5 <| And.intro @bB.eq_6 <| @bB.flatBs.eq_1
def w9 := And.intro @bB.flatBs.eq_2 <| And.intro @bC.eq_1 <| And.intro @bC.eq_2 <| And.intro @bC.eq_3 <| And.intro @bS.eq_1 <| And.intro @bS.eq_2 <| And.intro @cj.eq_1 <| And.intro @cj.eq_2 <| And.intro @bX.eq_1 <| And.intro @bX.eq_2 <| And.intro @bH.eq_1 <| And.intro @bH.eq_2 <| And.intro @aK.eq_1 <| And.intro @aK.eq_2 <| And.intro @aK.eq_3 <| And.intro @aK.eq_4 <| And.intro @aK.eq_5 <| And.intro @aK.eq_6 <| And.intro @aK.eq_7 <| And.intro @aK.eq_8 <| And.intro @aK.eq_9 <| And.intro @aK.keysBs.eq_1 <| And.intro @aK.keysBs.eq_2 <| And.intro @bU.eq_1 <| And.intro @bU.eq_2 <| And.intro @a8.eq_1 <| And.intro @a8.eq_2 <| And.intro @a8.eq_3 <| And.intro @bZ.eq_1 <| And.intro @bZ.eq_2 <| And.intro @dj.eq_1 <| And.intro @dj.eq_2 <| And.intro @bN.eq_1 <| And.intro @bN.eq_2 <| And.intro @cn.eq_1 <| And.intro @cn.eq_2 <| And.intro @aH.eq_1 <| And.intro @aH.eq_2 <| And.intro @aH.eq_3 <| @aH.eq_4
def w10 := And.intro @aH.eq_5 <| And.intro @aH.eq_6 <| And.intro @aH.eq_7 <| And.intro @aH.passKs.eq_1 <| And.intro @aH.passKs.eq_2 <| And.intro @aH.passKs.eq_3 <| And.intro @aH.passKs.eq_4 <| And.intro @aH.passKs.eq_5 <| And.intro @ba.eq_1 <| And.intro @ba.eq_2 <| And.intro @ba.eq_3 <| And.intro @ba.eq_4 <| And.intro @ba.eq_5 <| And.intro @ba.eq_6 <| And.intro @ba.eq_7 <| And.intro @bR.eq_1 <| And.intro @bR.eq_2 <| And.intro @aN.eq_1 <| And.intro @aN.eq_2 <| And.intro @aN.eq_3 <| And.intro @aN.eq_4 <| And.intro @aN.eq_5 <| And.intro @aN.lendKs.eq_1 <| And.intro @aN.lendKs.eq_2 <| And.intro @aN.lendKs.eq_3 <| And.intro @aN.lendKs.eq_4 <| And.intro @bm.eq_1 <| And.intro @bk.eq_1 <| And.intro @bk.eq_2 <| And.intro @bk.eq_3 <| And.intro @bk.eq_4 <| And.intro @cT.eq_1 <| And.intro @aM.eq_1 <| And.intro @setInn.eq_1 <| And.intro @aL.eq_1 <| And.intro @bw.eq_1 <| And.intro @bw.eq_2 <| And.intro @bw.eq_3 <| And.intro @cZ.eq_1 <| @aE.eq_1
def w11 := And.intro @aE.eq_2 <| And.intro @cB.eq_1 <| And.intro @bv.eq_1 <| And.intro @bv.eq_2 <| And.intro @bv.eq_3 <| And.intro @bv.eq_4 <| And.intro @bv.eq_5 <| And.intro @bv.eq_6 <| And.intro @bz.eq_1 <| And.intro @bz.eq_2 <| And.intro @az.eq_1 <| And.intro @az.eq_2 <| And.intro @az.eq_3 <| And.intro @a6.eq_1 <| And.intro @a6.eq_2 <| And.intro @Glob.gl.eq_1 <| And.intro @bg.eq_1 <| And.intro @bg.eq_2 <| And.intro @bg.eq_3 <| And.intro @bg.eq_4 <| And.intro @bg.eq_5 <| And.intro @dn.eq_1 <| And.intro @dn.eq_2 <| And.intro @cQ.eq_1 <| And.intro @cQ.eq_2 <| And.intro @cc.eq_1 <| And.intro @dl.eq_1 <| And.intro @aB.eq_1 <| And.intro @aB.eq_2 <| And.intro @aB.eq_3 <| And.intro @bj.eq_1 <| And.intro @bj.eq_2 <| And.intro @cJ.eq_1 <| And.intro @cJ.eq_2 <| And.intro @bt.eq_1 <| And.intro @bt.eq_2 <| And.intro @dv.eq_1 <| And.intro @bn.eq_1 <| And.intro @bn.eq_2 <| @ax.eq_1
def w12 := And.intro @ax.eq_2 <| And.intro @ax.eq_3 <| And.intro @ax.eq_4 <| And.intro @ax.eq_5 <| And.intro @ax.eq_6 <| And.intro @ax.eq_7 <| And.intro @ax.eq_8 <| And.intro @ax.eq_9 <| And.intro @ax.ptrOnlys.eq_1 <| And.intro @ax.ptrOnlys.eq_2 <| And.intro @bQ.eq_1 <| And.intro @bQ.eq_2 <| And.intro @bh.eq_1 <| And.intro @bh.eq_2 <| And.intro @bh.eq_3 <| And.intro @bh.eq_4 <| And.intro @bh.eq_5 <| And.intro @bP.eq_1 <| And.intro @bT.eq_1 <| And.intro @bT.eq_2 <| And.intro @bT.eq_3 <| And.intro @bG.eq_1 <| And.intro @bG.eq_2 <| And.intro @cd.eq_1 <| And.intro @cd.eq_2 <| And.intro @cp.eq_1 <| And.intro @cR.eq_1 <| And.intro @bO.eq_1 <| And.intro @bO.eq_2 <| And.intro @dx.eq_1 <| And.intro @cP.eq_1 <| And.intro @cP.eq_2 <| And.intro @dy.eq_1 <| And.intro @dy.eq_2 <| And.intro @cV.eq_1 <| And.intro @cV.eq_2 <| And.intro @cV.eq_3 <| And.intro @cg.eq_1 <| And.intro @cg.eq_2 <| @cg.eq_3
def w13 := And.intro @cY.eq_1 <| And.intro @cY.eq_2 <| And.intro @da.eq_1 <| And.intro @da.eq_2 <| And.intro @dA.eq_1 <| And.intro @dA.eq_2 <| And.intro @dt.eq_1 <| And.intro @dt.eq_2 <| And.intro @cW.eq_1 <| And.intro @cW.eq_2 <| And.intro @cW.eq_3 <| And.intro @aR.eq_1 <| And.intro @bL.eq_1 <| And.intro @aZ.eq_1 <| And.intro @bE.eq_1 <| And.intro @bE.eq_2 <| @undef.eq_1
def W := And.intro @w0 <| And.intro @w1 <| And.intro @w2 <| And.intro @w3 <| And.intro @w4 <| And.intro @w5 <| And.intro @w6 <| And.intro @w7 <| And.intro @w8 <| And.intro @w9 <| And.intro @w10 <| And.intro @w11 <| And.intro @w12 <| @w13
end Go.Am
end
section
namespace Go.Am
open Dat (cells)
variable {P : Program} [Glob P] {cx : Cx} {Q : ASt → Prop} {k : List It} {st : ASt} {ch : Chs} {d : Nat}
def refS (i kk:Nat) (cs:List C) (s:ASt):ASt:=⟨am (bo [(kk,.c .any)] s.t) i (.ref cs),ae [(kk,.c .any)] (af s.ch kk)⟩
theorem dW.refB {i kk:Nat} {cs:List C} (hl:lk st.ch kk=some (.box cs)) (hd:cs.all a7=true) (hp:gt st.t i=.ptr kk 0):dW P cx st (refS i kk cs st):=fun E U a w hh=>by
 have hkm:=dG hl
 have hi:=hh.inv
 obtain ⟨⟨hnil,arr,ty,b1,b2,b3⟩,hf,hin⟩:=hi.ok kk _ hkm
 let U':Nat→Prop:=fun b=>U b∨b=(E kk).blk
 have hown:(E kk).fp (E kk).blk:=(hf.fp _).2 (.inl ⟨hnil,rfl⟩)
 have hkeep:∀ b,U b→U' b∧w.heap[b]? = w.heap[b]?:=fun b hb=>⟨.inl hb,rfl⟩
 have hdd:∀ c,(kk,c)∉af st.ch kk:=fun c=>dZ hi.nd
 have hsub:∀ k' c',[(kk,Sb.c .any)].lookup k'=some (.c c')→∀ v,Rep E U w.heap (.own k') v→Rep E U' w.heap c' v:=fun k' c' h v _=>by
  rw [fk] at h
  split at h
  · cases h; exact .d (.any _)
  · cases h
 have he:=Ev.gen (w1:=w) (E':=E) (U':=U') (news:=[]) (old:=af st.ch kk) (m:=[(kk,.c .any)]) (d:=0) hi rfl rfl rfl (Nat.le_refl _) (eu st.ch kk) hkeep (fun _ _=>rfl) (fun _ _=>rfl) hsub (fun _ _ _=>rfl)
  (fun _ _ _ _ _=>rfl) (fun _ _ _=>rfl) (by simp) (fun k' c h=>(by cases h)) (fun k' c h=>(by cases h)) (fun k' c h b hb=>(by cases h)) (fun k' c h b hb=>(by cases h))
  (fun k1 x1 k2 x2 h1 h2 hne=>(by cases h1)) (fun b hb=>?_) (fun k' c h b hb hu=>(by cases h)) (fun b hb=>?_) (fun k' cs' h=>(by cases h))
 · have h1:=hh.ghost (by decide) he
   refine ⟨_,_,h1.slots fun j=>?_⟩
   by_cases hj:i=j
   · subst hj
     simp only [fQ,if_true]
     have hv:=fG (hp ▸ hh.tok i)
     rw [hv]
     refine .ref cs _ 0 arr ty (0,0) (fun j=>arr.getD j undef) (.inr rfl) b1 (fun j c hj=>?_) (fun j c hj=>?_)
     · have hjl:j < arr.size:=by rw [b2]; exact (List.getElem?_eq_some_iff.1 hj).1
       have hda:=List.all_eq_true.1 hd c (List.mem_of_getElem? hj)
       refine ⟨by simp [Array.getD_eq_getD_getElem?,Array.getElem?_eq_getElem hjl],?_⟩
       rcases b3 j c hj with ⟨_,r2⟩ | ⟨⟨n,t,es,rfl⟩,_⟩
       · exact r2
       · cases hda
     · have hda:=List.all_eq_true.1 hd c (List.mem_of_getElem? hj)
       rcases b3 j c hj with ⟨r1,_⟩ | ⟨⟨n,t,es,rfl⟩,_⟩
       · have r3:RepD U w.heap c (arr.getD j undef):=by
          cases c with
          | s v=>cases r1 with | d h=>exact h
          | sl n es=>cases r1 with | d h=>exact h
          | _=>cases hda
         exact r3.mono hkeep
       · cases hda
   · have:=h1.tok j
     simp only [fQ,if_neg hj]
     exact this
 · rcases hb with hb | rfl
   · exact .inl hb
   · exact .inr (.inr ⟨_,_,hkm,hdd,hown⟩)
 · rcases hb with hb | rfl
   · exact hi.lt b hb
   · exact hi.fpl _ _ hkm _ hown
theorem nC (i kk:Nat) {cs:List C} (hl:lk st.ch kk=some (.box cs)) (hd:cs.all a7=true) (hp:gt st.t i=.ptr kk 0) (h:SG P cx Q k (refS i kk cs st)):SG P cx Q k st:=fD (dW.refB hl hd hp) h
end Go.Am
end
section
namespace Go.Am
open Dat (cells)
theorem opF_un (ρ:Operand→C) (ch:Chs) (d:Nat) (op:UnOp) (x:Operand):ai ρ ch d (.un op x)=(
 match op,ρ x with
 | .neg,.s (.int k n)=>some ⟨InR k (-n),.s (.int k (-n)),ch,[]⟩
 | .not,.s (.bool b)=>some ⟨True,.s (.bool (!b)),ch,[]⟩
 | _,_=>none:Option Eff):=rfl
theorem opF_ssl (ρ:Operand→C) (ch:Chs) (d:Nat) (sz:Nat) (x:Operand) (lo hi mx:Option Operand):ai ρ ch d (.ssl sz x lo hi mx)=(
 match ρ x with
 | .sl n es=>
  if n=sz then
   match aY ρ lo 0,aY ρ hi es.length,aY ρ mx es.length with
   | some l,some h,some m=>some ⟨0≤l∧l≤h∧h≤es.length∧(mx.isSome=true→hi.isSome=true∧h≤m∧m≤es.length),.sl sz ((es.take h.toNat).drop l.toNat),ch,[]⟩
   | _,_,_=>none
  else none
 | .own k=>
  match lk ch k,mx with
  | some (.row n ty es),none=>
   if n=sz then
    match aY ρ lo 0,aY ρ hi es.length with
    | some l,some h=>some ⟨0≤l∧l≤h∧h≤es.length,.own k,am (ae [(k,.c .any)] ch) k (.row n ty ((es.take h.toNat).drop l.toNat)),[(k,.c .any)]⟩
    | _,_=>none
   else none
  | _,_=>none
 | .s (.slice none 0 0)=>
  match aY ρ lo 0,aY ρ hi 0,mx with
  | some l,some h,none=>some ⟨0≤l∧l≤h∧h≤0,.s (.slice none 0 0),ch,[]⟩
  | _,_,_=>none
 | _=>none:Option Eff):=rfl
theorem opF_len (ρ:Operand→C) (ch:Chs) (d:Nat) (str:Bool) (x:Operand):ai ρ ch d (.len str x)=(
 match ρ x,str with
 | .inn k i,false=>
  match aM ch k i with
  | some (p,_,_,es)=>some ⟨p,.s (.int .i64 (es.length:Int)),ch,[]⟩
  | _=>none
 | c,str=>(cb ch str c).map fun (n:Nat)=>⟨True,.s (.int .i64 (n:Int)),ch,[]⟩:Option Eff):=rfl
def W3 := And.intro @opF_un <| And.intro @opF_ssl <| And.intro @opF_len <| And.intro @W <| And.intro @ite_true.{1} <| And.intro @ite_false.{1} <| And.intro @if_true.{1} <| And.intro @if_false.{1} <| And.intro @forall_const.{0} <| And.intro @forall_const.{1} <| And.intro @implies_true.{0} @implies_true.{1}
def WU := And.intro @Int.cast_ofNat_Int <| And.intro @Int.natCast_one <| And.intro @Int.natCast_zero <| And.intro @ne_eq.{1} not_false_eq_true
end Go.Am
end
section
namespace Go.Am
open Dat (cells)
variable {P : Program} {E : Env} {U : Nat → Prop} {w : World} {ch : Chs} {d : Nat}
def renS (m:List (Nat×Nat)) (s:ASt):ASt:=⟨bt (ag s.ch) m s.t,ar m s.ch⟩
def jm (m:List (Nat×Nat)):Chs→Prop
 | []=>True
 | (k,.box _) :: r=>(rn m k=k∨rn m k < 100000)∧jm m r
 | _ :: r=>jm m r
theorem kL {m:List (Nat×Nat)}:∀ {ch:Chs},jm m ch→∀ k cs,(k,.box cs)∈ch→rn m k=k∨rn m k < 100000
 | [],_,k,cs,h=>by simp at h
 | (j,c) :: r,h,k,cs,hm=>by
  rcases List.mem_cons.1 hm with e | e
  · cases e; exact h.1
  · exact kL (ch:=r) (by cases c <;> first | exact h | exact h.2) k cs e
theorem l6 {α β:Type} {f:α→β}:∀ {l:List α},(l.map f).Nodup→∀ x∈l,∀ y∈l,f x=f y→x=y
 | [],_,x,hx,_,_,_=>by simp at hx
 | a :: l,h,x,hx,y,hy,e=>by
  simp only [List.map_cons,List.nodup_cons,List.mem_map,not_exists,not_and] at h
  rcases List.mem_cons.1 hx with h1 | h1 <;> rcases List.mem_cons.1 hy with h2 | h2
  · rw [h1,h2]
  · subst h1; exact absurd e.symm (h.1 y h2)
  · subst h2; exact absurd e (h.1 x h1)
  · exact l6 h.2 x h1 y h2 e
theorem dW.ren [Glob P] {cx:Cx} {st:ASt} (m:List (Nat×Nat)) (hk:a8 (ag st.ch) st.ch=true) (hnd:an ((ag st.ch).map (rn m))) (hbs:jm m st.ch):dW P cx st (renS m st):=fun E U a w hh=>by
 obtain ⟨ks,hks⟩:∃ ks,ag st.ch=ks:=⟨_,rfl⟩
 have hinj:∀ x∈ks,∀ y∈ks,rn m x=rn m y→x=y:=l6 (by rw [← hks]; exact d8 hnd)
 have hin:∀ k c,(k,c)∈st.ch→k∈ks:=fun k c h=>by rw [← hks,dU]; exact List.mem_map.2 ⟨_,h,rfl⟩
 let E':Env:=fun j=>match ks.find? (fun k=>rn m k == j) with | some k=>E k | none=>E j
 have hE:∀ k∈ks,E' (rn m k)=E k:=fun k hk=>by
  simp only [E']
  cases hfnd:ks.find? (fun k'=>rn m k' == rn m k) with
  | none=>
   have:=List.find?_eq_none.1 hfnd k hk
   simp at this
  | some k'=>
   have h1:=List.find?_some hfnd
   have h2:=List.mem_of_find?_eq_some hfnd
   have h3:rn m k'=rn m k:=by simpa using h1
   have:k'=k:=hinj k' h2 k hk h3
   rw [this]
 have hch:∀ k c,(k,c)∈ar m st.ch→∃ k0 c0,(k0,c0)∈st.ch∧k=rn m k0∧c=aG m c0∧E' k=E k0:=fun k c h=>by
  obtain ⟨k0,c0,h0,rfl,rfl⟩:=eN h
  exact ⟨k0,c0,h0,rfl,rfl,hE k0 (hin k0 c0 h0)⟩
 have hkc:∀ k c,(k,c)∈st.ch→gk ks c:=fun k c h=>by
  cases c with
  | box cs=>exact gY fun c hc=>lm c (by rw [← hks]; exact ie hk k cs h c hc)
  | _=>trivial
 have hid:∀ D o,gG E U w.heap st.ch D o→gG E' U w.heap (ar m st.ch) D o:=fun D o ⟨h1,h2,h3⟩=>⟨h1,h2,fun k c h hf=>by
  obtain ⟨k0,c0,h0,_,_,e⟩:=hch k c h
  rw [e] at hf
  exact h3 k0 c0 h0 hf⟩
 have e1:renS m st=⟨bt ks m st.t,ar m st.ch⟩:=by simp only [renS,hks]
 rw [e1]
 refine ⟨E',U,hh.sz,?_,fun i=>?_,⟨?_,fun k c h=>?_,fun k c k' c' h h' hne x hx hx'=>?_,fun k c h x hx=>?_,fun k c h x hx=>?_,hh.inv.lt⟩,hh.os,hh.tape,hh.output,hh.size,hh.fr,hh.keepA,fun k c h x hx=>?_,hh.base,fun k cs hk1 h=>?_,fun p hp=>hid _ _ (hh.hid p hp),hh.gok⟩
 · obtain ⟨Ds,h1,h2,h3⟩:=hh.df
   exact ⟨Ds,h1,h2,fun D hD=>⟨(h3 D hD).1,hid _ _ (h3 D hD).2⟩⟩
 · rcases ph ks m st.t i with e | ⟨e,ek⟩
   · show Rep _ _ _ (gt (bt ks m st.t) i) _
     rw [e]; exact .d (.any _)
   · show Rep _ _ _ (gt (bt ks m st.t) i) _
     rw [e]; exact (hh.tok i).ren (lm _ ek) hE
 · have e2:(ar m st.ch).map (·.1)=ks.map (rn m):=by rw [fC,← hks,dU,List.map_map,List.map_map]; rfl
   rw [e2]
   refine iT (by rw [← hks,dU]; exact hh.inv.nd) (fun x hx y hy e=>hinj x hx y hy e)
 · obtain ⟨k0,c0,h0,rfl,rfl,e⟩:=hch k c h
   exact (hh.inv.ok k0 c0 h0).ren (hin k0 c0 h0) (hkc k0 c0 h0) hE
 · obtain ⟨k0,c0,h0,rfl,rfl,e⟩:=hch k c h
   obtain ⟨k1,c1,h1,rfl,rfl,e'⟩:=hch k' c' h'
   rw [e] at hx; rw [e'] at hx'
   exact hh.inv.sep k0 c0 k1 c1 h0 h1 (fun e=>hne (by rw [e])) x hx hx'
 · obtain ⟨k0,c0,h0,rfl,rfl,e⟩:=hch k c h
   rw [e] at hx; exact hh.inv.out k0 c0 h0 x hx
 · obtain ⟨k0,c0,h0,rfl,rfl,e⟩:=hch k c h
   rw [e] at hx; exact hh.inv.fpl k0 c0 h0 x hx
 · obtain ⟨k0,c0,h0,rfl,rfl,e⟩:=hch k c h
   rw [e] at hx; exact hh.live k0 c0 h0 x hx
 · obtain ⟨k0,c0,h0,rfl,hc0,e⟩:=hch k _ h
   have hge:=Cx.fx_ge hk1
   cases c0 with
   | box cs0=>
    rcases kL hbs k0 cs0 h0 with g | g
    · rw [e,g]
      rw [g] at hk1
      exact hh.fix k0 cs0 hk1 h0
    · omega
   | _=>simp [aG] at hc0
end Go.Am
end
section
namespace Go.Am
open Dat (cells)
variable {P : Program} [Glob P] {cx : Cx} {Q : ASt → Prop} {k : List It} {st : ASt}
def qr : Ch→Bool
 | .row _ _ []=>true
 | .deep _ _ _ none []=>true
 | _=>false
def qt : Ch→Nat
 | .row sz _ _=>sz
 | _=>1
theorem wj {E:Env} {U:Nat→Prop} {h:Array Obj} {d:Nat} {c0:Ch} (hc:qr c0=true):dM (dN E d (ke0 ⟨0,0,0,0,qt c0,true⟩)) U h d c0:=by
 unfold qr at hc
 split at hc
 · rw [dM,updE_same]
   exact ⟨⟨rfl,rfl,(fun n el h=>by simp at h),.inl ⟨rfl,rfl⟩⟩,gA _⟩
 · rw [dM,updE_same]
   refine ⟨⟨rfl,rfl,.inl ⟨rfl,rfl⟩⟩,⟨fun b=>⟨fun hb=>(by cases hb.1),fun hb=>?_⟩,fun i q h=>by simp [ej] at h,fun i j q q' _ h=>by simp [ej] at h⟩,fun i n t es h=>by simp [ej] at h⟩
   rcases hb with hb | ⟨i,q,h,_⟩
   · cases hb.1
   · simp [ej] at h
 · cases hc
theorem rm {c:C} (h:aE c=true):jH (some c)=none:=by cases c <;> first | rfl | cases h
theorem Holds.recell {E:Env} {U:Nat→Prop} {a:Act} {w:World} (hh:Holds P cx E U a w st) {kk:Nat} {cs cs':List C} (hl:lk st.ch kk=some (.box cs)) (hlen:cs'.length=cs.length)
 (hc:∀ (j:Nat) c',cs'[j]? = some c'→∃ c,cs[j]? = some c∧(c'=c∨(aE c=true∧aE c'=true∧∀ v,Rep E U w.heap c v→Rep E U w.heap c' v))):Holds P cx E U a w ⟨st.t,am st.ch kk (.box cs')⟩:=by
 have hkm:=dG hl
 have hmem:∀ k c,(k,c)∈am st.ch kk (.box cs')→(k=kk∧c=.box cs')∨((k,c)∈st.ch∧k≠kk):=fun k c hm=>by
  by_cases hk:k=kk
  · subst hk
    have h1:=eT (by rw [fh hl]; exact hh.inv.nd) hm
    rw [mA,if_pos rfl] at h1
    cases h1; exact .inl ⟨rfl,rfl⟩
  · rcases fB hh.inv.nd hm with g | g
    · exact absurd (congrArg Prod.fst g) hk
    · exact .inr ⟨eK g,hk⟩
 have hex:∀ k c,(k,c)∈am st.ch kk (.box cs')→∃ c0,(k,c0)∈st.ch:=fun k c hm=>by
  rcases hmem k c hm with ⟨rfl,_⟩ | ⟨h,_⟩
  · exact ⟨_,hkm⟩
  · exact ⟨_,h⟩
 have hhid:∀ b o,gG E U w.heap st.ch b o→gG E U w.heap (am st.ch kk (.box cs')) b o:=fun b o h=>⟨h.1,h.2.1,fun k c hm=>by
  obtain ⟨c0,h0⟩:=hex k c hm
  exact h.2.2 k c0 h0⟩
 have hI:eG cs'=eG cs:=by
  funext j
  simp only [eG]
  cases hj:cs'[j]? with
  | none=>
   have:cs[j]? = none:=by
    rw [List.getElem?_eq_none_iff] at hj ⊢; omega
   rw [this]
  | some c'=>
   obtain ⟨c,h1,h2⟩:=hc j c' hj
   rw [h1]
   rcases h2 with rfl | ⟨g1,g2,_⟩
   · rfl
   · rw [rm g1,rm g2]
 refine ⟨hh.sz,?_,hh.tok,⟨by rw [fh hl]; exact hh.inv.nd,fun k c hm=>?_,fun k c k' c' h h' hne b hb hb'=>?_,fun k c h b hb=>?_,fun k c h b hb=>?_,hh.inv.lt⟩,hh.os,hh.tape,hh.output,hh.size,hh.fr,hh.keepA,fun k c h b hb=>?_,hh.base,fun k cs1 hk hm=>?_,fun p hp=>hhid _ _ (hh.hid p hp),hh.gok⟩
 · obtain ⟨Ds,h1,h2,h3⟩:=hh.df
   exact ⟨Ds,h1,h2,fun D hD=>⟨(h3 D hD).1,hhid _ _ (h3 D hD).2⟩⟩
 · rcases hmem k c hm with ⟨rfl,rfl⟩ | ⟨h,_⟩
   · obtain ⟨⟨g1,arr,ty,g2,g3,g4⟩,g5,g6⟩:=hh.inv.ok k _ hkm
     refine ⟨⟨g1,arr,ty,g2,by rw [hlen]; exact g3,fun j c' hj=>?_⟩,by rw [hI]; exact g5,by rw [hI]; exact g6⟩
     obtain ⟨c,h1,h2⟩:=hc j c' hj
     rcases h2 with rfl | ⟨q1,q2,q3⟩
     · exact g4 j _ h1
     · rcases g4 j c h1 with ⟨r1,r2⟩ | ⟨⟨n,t,es,rfl⟩,_⟩
       · exact .inl ⟨q3 _ r1,r2⟩
       · simp [aE] at q1
   · exact hh.inv.ok k c h
 · obtain ⟨c0,h0⟩:=hex k c h
   obtain ⟨c1,h1⟩:=hex k' c' h'
   exact hh.inv.sep k c0 k' c1 h0 h1 hne b hb hb'
 · obtain ⟨c0,h0⟩:=hex k c h
   exact hh.inv.out k c0 h0 b hb
 · obtain ⟨c0,h0⟩:=hex k c h
   exact hh.inv.fpl k c0 h0 b hb
 · obtain ⟨c0,h0⟩:=hex k c h
   exact hh.live k c0 h0 b hb
 · rcases hmem k _ hm with ⟨rfl,_⟩ | ⟨h,_⟩
   · exact hh.fix k cs hk hkm
   · exact hh.fix k cs1 hk h
def ow (d kk off:Nat) (cs:List C) (c0:Ch) (s:ASt):ASt:=⟨bo [(d,.c .any)] s.t,(d,c0) :: am (ae [(d,.c .any)] (af s.ch d)) kk (.box ((cs.map (ah [(d,.c .any)])).set off (.own d)))⟩
theorem ma {m:List (Nat×Sb)} {kk:Nat} {cs:List C}:∀ {ch:Chs},lk ch kk=some (.box cs)→lk (ae m ch) kk=some (.box (cs.map (ah m)))
 | [],h=>by simp [lk] at h
 | (j,c) :: r,h=>by
  simp only [lk] at h
  by_cases hj:j=kk
  · rw [if_pos hj] at h; cases h; simp [ae,lk,hj]
  · rw [if_neg hj] at h
    have:=ma (m:=m) h
    cases c <;> simpa only [ae,lk,if_neg hj] using this
theorem oq {α:Type} {d kk:Nat} (hne:kk≠d):∀ {t:List (Nat×α)},lk (af t d) kk=lk t kk
 | []=>rfl
 | (j,c) :: r=>by
  simp only [af]
  by_cases hj:j=d
  · rw [if_pos hj]
    simp only [lk]
    rw [if_neg (fun e=>hne (by omega))]
  · rw [if_neg hj]
    simp only [lk]
    rw [oq hne]
theorem dW.nilcell (d kk off:Nat) {cs:List C} {c0:Ch} (hd:d < 100000) (hne:kk≠d) (h0:qr c0=true) (hl:lk st.ch kk=some (.box cs)) (hc:cs[off]? = some (.s (.slice none 0 0))):dW P cx st (ow d kk off cs c0 st):=fun E U a w hh=>by
 have he:=Ev.freshNil hh.inv d (ke0 ⟨0,0,0,0,qt c0,true⟩) c0 (fun b hb=>by cases hb.1) (wj h0)
 have h1:=hh.ghost hd he
 have hl1:lk ((d,c0) :: ae [(d,.c .any)] (af st.ch d)) kk=some (.box (cs.map (ah [(d,.c .any)]))):=by
  simp only [lk]
  rw [if_neg (fun e=>hne e.symm)]
  exact ma (by rw [oq hne]; exact hl)
 have h2:=Holds.recell (cs':=(cs.map (ah [(d,.c .any)])).set off (.own d)) h1 hl1 (by simp) (fun j c' hj=>by
  rw [List.getElem?_set] at hj
  split at hj
  · rename_i e; subst e
    split at hj
    · cases hj
      refine ⟨.s (.slice none 0 0),by simp [hc,ah],.inr ⟨rfl,rfl,fun v hv=>?_⟩⟩
      rw [dJ hv]
      have:=Rep.own (E:=dN E d (ke0 ⟨0,0,0,0,qt c0,true⟩)) (U:=U) (h:=w.heap) d
      rw [updE_same] at this
      exact this
    · cases hj
  · exact ⟨c',hj,.inl rfl⟩)
 refine ⟨dN E d (ke0 ⟨0,0,0,0,qt c0,true⟩),U,?_⟩
 have e1:am ((d,c0) :: ae [(d,.c .any)] (af st.ch d)) kk (.box ((cs.map (ah [(d,.c .any)])).set off (.own d)))=(d,c0) :: am (ae [(d,.c .any)] (af st.ch d)) kk (.box ((cs.map (ah [(d,.c .any)])).set off (.own d))):=by
  simp only [am]
  rw [if_neg (fun e=>hne e.symm)]
 rw [e1] at h2
 exact h2
theorem tM (d kk off:Nat) {cs:List C} {c0:Ch} (hd:d < 100000) (hne:kk≠d) (h0:qr c0=true) (hl:lk st.ch kk=some (.box cs)) (hc:cs[off]? = some (.s (.slice none 0 0))) (h:SG P cx Q k (ow d kk off cs c0 st)):SG P cx Q k st:=fD (dW.nilcell d kk off hd hne h0 hl hc) h
def absS (kk off t n:Nat) (ty:TypeId) (es:List (List C)) (cs:List C) (s:ASt):ASt:=⟨bo [(t,.c .any),(kk,.inner)] s.t,ae [(t,.c .any),(kk,.inner)] (af (am s.ch kk (.box (cs.set off (.isl n ty es)))) t)⟩
theorem Ev.absorbCell {E:Env} {U:Nat→Prop} {w:World} {ch:Chs} {k t off n:Nat} {ty:TypeId} {es:List (List C)} {cs:List C} (hi:Inv E U w.heap ch) (hl:lk ch k=some (.box cs)) (hlt:lk ch t=some (.row n ty es)) (hc:cs[off]? = some (.own t)) (hkt:k≠t) (d:Nat) :
 ∃ E',Ev E U w ch [(t,.c .any),(k,.inner)] d E' U w (ae [(t,.c .any),(k,.inner)] (af (am ch k (.box (cs.set off (.isl n ty es)))) t)):=by
 have hkm:=dG hl
 have htm:=dG hlt
 have h2:off < cs.length:=(List.getElem?_eq_some_iff.1 hc).1
 obtain ⟨⟨hn,arr,tya,b1,b2,b3⟩,hf,hin⟩:=hi.ok k _ hkm
 obtain ⟨hrow,hft⟩:=hi.ok t _ htm
 have hval:arr.getD off undef=slV (E t).toKE0:=by
  rcases b3 off _ hc with ⟨r1,_⟩ | ⟨⟨_,_,_,h⟩,_⟩
  · exact eU r1
  · cases h
 have hownk:(E k).fp (E k).blk:=(hf.fp _).2 (.inl ⟨hn,rfl⟩)
 have hownt:(E t).nil=false→(E t).fp (E t).blk:=fun h=>(hft.fp _).2 (.inl ⟨h,rfl⟩)
 obtain ⟨f1,f2⟩:=lK (i:=off) (I':=eG (cs.set off (.isl n ty es))) (y:=(E t).toKE0) hf (fun j hj q hq=>by
  simp only [eG,List.getElem?_set] at hq ⊢
  rwa [if_neg (fun e=>hj e.symm)] at hq) (fun b h1 h2 h3=>hi.sep k _ t _ hkm htm hkt b h3 (h2 ▸ hownt h1))
 refine ⟨_,Ev.absorb (w1:=w) (xk:=mkK (E k).toKE0 (fun j=>if j=off then (E t).toKE0 else (E k).inn j) (eG (cs.set off (.isl n ty es)))) hi hl hlt hkt rfl rfl rfl (Nat.le_refl _) (fun b _ _ _=>rfl) rfl
  (fun b hb=>by
   rcases f2 b hb with g | g
   · exact .inl g
   · exact .inr (g.2 ▸ hownt g.1)) (fun _=>⟨cs,rfl⟩) (fun hkeep hrep hno=>?_) d⟩
 simp only [eh,dM,kY hno,updE_same]
 refine ⟨⟨hn,arr,tya,b1,by simpa using b2,fun j c hj=>?_⟩,f1,fun j n' t' es' hj=>?_⟩
 · simp only [List.getElem?_map,Option.map_eq_some_iff] at hj
   obtain ⟨c1,hj,rfl⟩:=hj
   rw [List.getElem?_set] at hj
   split at hj
   · rename_i e; subst e
     cases hj
     exact .inr ⟨⟨_,_,_,rfl⟩,by rw [hval]; simp [mkK]⟩
   · rename_i e
     rcases b3 j c1 hj with ⟨r1,r2⟩ | ⟨⟨n',t',es',rfl⟩,r2⟩
     · exact .inl ⟨hrep _ _ r1,r2⟩
     · exact .inr ⟨⟨n',t',es',rfl⟩,by rw [r2]; simp only [mkK]; rw [if_neg (fun e'=>e e'.symm)]⟩
 · simp only [eG,List.getElem?_set] at hj
   simp only [mkK]
   split at hj
   · rename_i e; subst e
     cases hj
     rw [if_pos rfl]
     exact hrow.mono hkeep (fun h=>rfl)
   · rename_i e
     rw [if_neg (fun e'=>e e'.symm)]
     exact (hin j n' t' es' hj).mono hkeep (fun h=>rfl)
theorem dW.absorb (kk off t:Nat) {n:Nat} {ty:TypeId} {es:List (List C)} {cs:List C} (hl:lk st.ch kk=some (.box cs)) (hlt:lk st.ch t=some (.row n ty es)) (hc:cs[off]? = some (.own t)) (hkt:kk≠t):dW P cx st (absS kk off t n ty es cs st):=fun E U a w hh=>by
 obtain ⟨E',he⟩:=Ev.absorbCell (d:=0) hh.inv hl hlt hc hkt
 exact ⟨_,U,hh.ghost (by decide) he⟩
theorem qF (kk off t:Nat) {n:Nat} {ty:TypeId} {es:List (List C)} {cs:List C} (hl:lk st.ch kk=some (.box cs)) (hlt:lk st.ch t=some (.row n ty es)) (hc:cs[off]? = some (.own t)) (hkt:kk≠t) (h:SG P cx Q k (absS kk off t n ty es cs st)):SG P cx Q k st:=fD (dW.absorb kk off t hl hlt hc hkt) h
end Go.Am
end
section
namespace Go.Am
open Dat (cells)
variable {P : Program}
structure MapTy (P:Program) (t k e:TypeId):Prop where
 ht:P.underlying t=some (.map k e)
 hk:P.underlying k=some (.int .i64)
 he:P.underlying e=some (.int .i64)
 hz:∀ w,(zeroValue e).run P w=.ok (.int .i64 0) w
end Go.Am
end
section
namespace Go.Am
open Dat (cells)
variable {P : Program}
variable [Glob P] {ro : Option Nat} {ρ : Operand → C} {ch : Chs} {d : Nat}
def Ent.of4 {α β γ δ:Type} [Dat α] [Dat β] [Dat γ] [Dat δ] (id:FuncId) (pre:α→β→γ→δ→Prop) (res:α→β→γ→δ→C) (hk:∀ a b c d,dE [] (res a b c d)) (h:∀ a b c d,pre a b c d→FC P id [enc a,enc b,enc c,enc d] [] (res a b c d) []):Ent P where
 id:=id
 sp:=fun args chs=>match args,chs with
  | [x,y,z,u],[]=>(fw x).bind fun a=>(fw y).bind fun b=>(fw z).bind fun c=>(fw u).bind fun d=>some (pre a b c d,res a b c d,[],[])
  | _,_=>none
 ok:=by
  intro args chs p r chs' nk hs hp
  split at hs
  · simp only [Option.bind_eq_some_iff,Option.some.injEq,Prod.mk.injEq] at hs
    obtain ⟨a,ha,b,hb,c,hc,d,hd,rfl,rfl,rfl,rfl⟩:=hs
    exact ⟨(h a b c d hp).le (args':=[_,_,_,_]) ⟨gD ha,gD hb,gD hc,gD hd,trivial⟩,.plain (hk a b c d)⟩
  · cases hs
end Go.Am
end
section
namespace Go.Am
open Dat (cells)
variable {P : Program} [Glob P]
section core
variable {cx : Cx} {ops : Array Oper} {aos : List AO} {Q : Exit → Act → World → Prop}
theorem s6 {T:(Nat→Bool)→ASt} (hops:ops.size=aos.length) (hm:∀ (j:Nat) o ao,ops[j]? = some o→aos[j]? = some ao→gf P cx.n ops o ao)
 (hlt:∀ (j:Nat) l,(ops.toList.map dK)[j]? = some l→∀ p∈l,p < j)
 (hgo:∀ (S:Nat→Bool) (j:Nat) o ao,ops[j]? = some o→aos[j]? = some ao→S j=false→(∀ p∈dK o,S p=true)→(∀ (i:Nat) l,(ops.toList.map dK)[i]? = some l→S i=true→∀ p∈l,S p=true) →
  ∃ ef2,StepE P ao (T S) ef2∧dW P cx (aw ao.dst ef2 (T S)) (T (fun i=>i == j || S i)))
 (hend:∀ S:Nat→Bool,(∀ i,i < ops.size→S i=true)→∀ E' U' a' w',Holds P cx E' U' a' w' (T S)→Q .normal a' w') :
 ∀ (fuel:Nat) (listed:Array Bool) (E:Env) (U:Nat→Prop) (a:Act) (w:World),listed.size=ops.size→((List.range ops.size).countP fun i=>!(listed.getD i false))=fuel →
  (∀ (j:Nat) o,ops[j]? = some o→listed.getD j false=true→∀ p∈dK o,listed.getD p false=true) →
  Holds P cx E U a w (T (fun i=>listed.getD i false))→wpAnyIn (FW cx.ro) 0 P .any ops Q fuel listed a w:=by
 have atEnd:∀ (listed:Array Bool) (E:Env) (U:Nat→Prop) (a:Act) (w:World),(∀ i,i < ops.size→listed.getD i false=true)→Holds P cx E U a w (T (fun i=>listed.getD i false))→Q .normal a w:=fun listed E U a w hall hh=>hend _ hall E U a w hh
 intro fuel
 induction fuel with
 | zero=>
  intro listed E U a w hls hcnt hcl hh
  have hall:∀ i,i < ops.size→listed.getD i false=true:=fun i hi=>by
   have:=List.countP_eq_zero.1 hcnt i (List.mem_range.2 hi)
   simpa using this
  refine ⟨?_,atEnd listed E U a w hall hh⟩
  apply List.filter_eq_nil_iff.2
  intro i hi hf
  simp only [Bool.and_eq_true] at hf
  have hi':=List.mem_range.1 hi
  have h1:=hall i hi'
  have h2:listed.getD i true=listed.getD i false:=by
   have hlt:i < listed.size:=by omega
   simp [Array.getD_eq_getD_getElem?,Array.getElem?_eq_getElem hlt]
  rw [h2,h1] at hf
  simp at hf
 | succ fuel ih=>
  intro listed E U a w hls hcnt hcl hh
  have hsome:∃ i,i < ops.size∧listed.getD i false=false:=by
   rcases Classical.em (∃ i,i < ops.size∧listed.getD i false=false) with h | h
   · exact h
   · exfalso
     have:((List.range ops.size).countP fun i=>!(listed.getD i false))=0:=List.countP_eq_zero.2 (fun i hi=>by
      cases hf:listed.getD i false with
      | true=>simp
      | false=>exact absurd ⟨i,List.mem_range.1 hi,hf⟩ h)
     omega
  have hgd:∀ i,i < ops.size→listed.getD i true=listed.getD i false:=fun i hi=>by
   have hlt:i < listed.size:=by omega
   simp [Array.getD_eq_getD_getElem?,Array.getElem?_eq_getElem hlt]
  refine ⟨fun hnil=>?_,fun j hj=>?_⟩
  · exfalso
    obtain ⟨i,h1,h2,h3⟩:=jV hsome
    have hnot:=List.filter_eq_nil_iff.1 hnil i (List.mem_range.2 h1)
    apply hnot
    obtain ⟨o,ho⟩:∃ o,ops[i]? = some o:=⟨_,Array.getElem?_eq_getElem h1⟩
    simp only [Bool.and_eq_true]
    refine ⟨by rw [hgd i h1,h2]; rfl,?_⟩
    simp only [ho,Option.map_some,Option.getD_some]
    rw [Array.all_eq_true']
    intro e he
    simp only [Bool.or_eq_true]
    by_cases hb:Region.binds .any e=true
    · right
      have hp:e.on∈dK o:=List.mem_map.2 ⟨e,List.mem_filter.2 ⟨by simpa using he,hb⟩,rfl⟩
      exact h3 _ (hlt i (dK o) (by simp [ho]) _ hp)
    · left; simpa using hb
  · have hj2:=List.mem_filter.1 hj
    have hjm:=List.mem_range.1 hj2.1
    have hjr:=hj2.2
    simp only [Bool.and_eq_true] at hjr
    obtain ⟨o,ho⟩:∃ o,ops[j]? = some o:=⟨_,Array.getElem?_eq_getElem hjm⟩
    obtain ⟨ao,hao⟩:∃ ao,aos[j]? = some ao:=⟨_,List.getElem?_eq_getElem (by omega)⟩
    have hSj:listed.getD j false=false:=by
     have:=hjr.1
     rw [hgd j hjm] at this
     simpa using this
    have hpreds:∀ p∈dK o,listed.getD p false=true:=fun p hp=>by
     obtain ⟨e,he,rfl⟩:=List.mem_map.1 hp
     obtain ⟨he1,he2⟩:=List.mem_filter.1 he
     have:=hjr.2
     simp only [ho,Option.map_some,Option.getD_some] at this
     rw [Array.all_eq_true'] at this
     have:=this e (by simpa using he1)
     simpa [he2] using this
    have hclS:∀ (i:Nat) l,(ops.toList.map dK)[i]? = some l→listed.getD i false=true→∀ p∈l,listed.getD p false=true:=fun i l hi hs p hp=>by
     simp only [List.getElem?_map,Option.map_eq_some_iff,Array.getElem?_toList] at hi
     obtain ⟨o',ho',rfl⟩:=hi
     exact hcl i o' ho' hs p hp
    obtain ⟨ef2,hst2,hnext⟩:=hgo (fun i=>listed.getD i false) j o ao ho hao hSj hpreds hclS
    have hS':(fun i=>(listed.setIfInBounds j true).getD i false)=fun i=>i == j || listed.getD i false:=by
     funext i
     rw [fW _ _ _ (by omega)]
    have hstep:=pq (Q:=Q) (K:=wpAnyIn (FW cx.ro) 0 P .any ops Q fuel (listed.setIfInBounds j true)) (hm j o ao ho hao) hst2 hh (fun E1 U1 a' w' h1=>by
     obtain ⟨E',U',h⟩:=hnext E1 U1 a' w' h1
     exact ih (listed.setIfInBounds j true) E' U' a' w' (by simpa using hls)
      (by
       have e:(fun i=>!((listed.setIfInBounds j true).getD i false))=fun i=>!(i == j || listed.getD i false):=by
        funext i; rw [fW _ _ _ (by omega)]
       rw [e]
       have:=lP (S:=fun i=>listed.getD i false) hjm hSj
       omega)
      (fun i o' ho' hs p hp=>by
       rw [fW _ _ _ (by omega)] at hs ⊢
       simp only [Bool.or_eq_true,beq_iff_eq] at hs ⊢
       right
       rcases hs with rfl | hs
       · rw [ho] at ho'; cases ho'; exact hpreds p hp
       · exact hcl i o' ho' hs p hp)
      (by rw [hS']; exact h))
    unfold wpOpIn
    rw [ho]
    rcases hstep with ⟨e,h⟩ | ⟨e,h⟩
    · simp only [e,if_true]; exact h
    · simp only [e,Bool.false_eq_true,if_false]; exact ⟨fun _ _=>trivial,h⟩
end core
end Go.Am
end
section
namespace Go.Am
open Dat (cells)
variable {P : Program} [Glob P]
variable {cx : Cx} {Q : ASt → Prop} {k : List It} {st : ASt}
theorem m7 {rb:List Nat} {os:List AO} {T:(Nat→Bool)→ASt} (h0:LeS st (T fun _=>false))
 (hgo:∀ (S:Nat→Bool) (j:Nat) ao,os[j]? = some ao→S j=false→(∀ c∈rb,c % 100=j→S (c / 100)=true)→lJ rb S→∃ ef2,StepE P ao (T S) ef2∧dW P cx (aw ao.dst ef2 (T S)) (T (fun i=>i == j || S i)))
 (hend:∀ S:Nat→Bool,(∀ i,i < os.length→S i=true)→SG P cx Q k (T S)):SG P cx Q (.c (.draw 999 rb os) :: k) st:=e8 fun code hc E U a w hh=>by
 obtain ⟨id,ops,rfl⟩:∃ id ops,code=.region id ops true:=by
  cases code with
  | region id ops draw=>
   cases draw with
   | false=>simp [d9] at hc
   | true=>exact ⟨id,ops,rfl⟩
  | _=>simp [d9] at hc
 simp only [d9,Option.bind_eq_some_iff] at hc
 obtain ⟨r,h3,h4⟩:=hc
 split at h4
 · rename_i hok
   simp only [Option.some.injEq,AC.draw.injEq,true_and] at h4
   subst h4
   obtain ⟨g1,g2⟩:=iN h3
   have g2':∀ (j:Nat) o ao,ops[j]? = some o→r[j]? = some ao→gf P cx.n ops o ao:=fun j o ao ho ha=>g2 j o ao (by simpa using ho) ha
   simp only [Bool.and_eq_true] at hok
   obtain ⟨hok1,hmix⟩:=hok
   simp only [mt,if_true,Bool.and_eq_true] at hok1
   obtain ⟨ok1,ok2⟩:=hok1
   have hlt:∀ (j:Nat) l,(ops.toList.map dK)[j]? = some l→∀ p∈l,p < j:=fun j l hj p hp=>by
    have hz:(l,j)∈(ops.toList.map dK).zipIdx:=by
     rw [List.mk_mem_zipIdx_iff_getElem?]; exact hj
    have:=List.all_eq_true.1 ok1 (l,j) hz
    simpa using List.all_eq_true.1 this p hp
   have hbit:∀ c∈rb,c % 100 < ops.size∧((ji (ops.toList.map dK) []).getD (c % 100) 0).testBit (c / 100)=true:=fun c hc=>by
    have:=List.all_eq_true.1 ok2 c hc
    simpa using this
   have hcl:∀ S:Nat→Bool,(∀ (i:Nat) l,(ops.toList.map dK)[i]? = some l→S i=true→∀ p∈l,S p=true)→lJ rb S:=fun S hS c hc hs=>by
    obtain ⟨b1,b2⟩:=hbit c hc
    obtain ⟨o',ho'⟩:∃ o',ops[c % 100]? = some o':=⟨_,Array.getElem?_eq_getElem b1⟩
    exact gP hS hlt (ops.toList.map dK) [] (by simp) (fun j i h=>by simp at h) (c % 100) (c / 100) b2 (dK o') (by simp [ho']) (hS (c % 100) (dK o') (by simp [ho']) hs)
   refine wpIn_region_any hmix (s6 (T:=T) (by simpa using g1.symm) g2' hlt (fun S j o ao ho hao hSj hpreds hclS=>hgo S j ao hao hSj (fun c hc hcj=>?_) (hcl S hclS)) (fun S hS E' U' a' w' h=>hend S (fun i hi=>hS i (by have:=g1; simp at this; omega)) E' U' a' w' h) ops.size _ E U a _ (by simp) ?_ (fun j o ho hs=>?_) ?_)
   · obtain ⟨b1,b2⟩:=hbit c hc
     rw [hcj] at b2
     exact gP hclS hlt (ops.toList.map dK) [] (by simp) (fun j i h=>by simp at h) j (c / 100) b2 (dK o) (by simp [ho]) hpreds
   · have:((List.range ops.size).countP fun i=>!((Array.replicate ops.size false).getD i false))=(List.range ops.size).length:=List.countP_eq_length.2 (fun i hi=>by
      have:=List.mem_range.1 hi
      simp [Array.getD_eq_getD_getElem?,this])
     simpa using this
   · exfalso
     by_cases h:j < ops.size <;> simp [Array.getD_eq_getD_getElem?,h] at hs
   · have e0:(fun i=>(Array.replicate ops.size false).getD i false)=fun _=>false:=by
      funext i
      by_cases h:i < ops.size <;> simp [Array.getD_eq_getD_getElem?,h]
     rw [e0]
     have hh:=hh.le h0
     exact ⟨hh.sz,hh.df,hh.tok,hh.inv,hh.os,hh.tape,hh.output,hh.size,hh.fr,hh.keepA,hh.live,hh.base,hh.fix,hh.hid,hh.gok⟩
 · cases h4
theorem dW.of_le {s s':ASt} (h:LeS s s'):dW P cx s s':=fun E U _ _ hh=>⟨E,U,hh.le h⟩
theorem dW.fzle {s s':ASt} (ks:List Nat) (h:LeS (ce ks s) s'):dW P cx s s':=fun E U _ _ hh=>by
 obtain ⟨U',h2⟩:=hh.fz ks
 exact ⟨E,U',h2.le h⟩
end Go.Am
end
section
namespace Go.Am
open Dat (cells)
variable {P : Program} [Glob P] {cx : Cx} {Q : ASt → Prop} {k : List It} {st : ASt}
def isSt : AOp→Bool
 | .store _ _ _ _=>true
 | _=>false
def gH (i:Nat):List AO→List Nat
 | []=>[]
 | o :: os=>if isSt o.op=true then i :: gH (i+1) os else gH (i+1) os
def qn (os:List AO):Bool:=(os.filterMap (·.dst)).Nodup
def u0 (rb:List Nat) (os:List AO):Bool:=os.zipIdx.all fun (o,j)=>o.guard.isNone && (eP o.op.reads).all fun x=>os.zipIdx.all fun (q,i)=>q.dst != some x || rb.contains (100*i+j)
def fY (rb:List Nat):List Nat→Bool
 | e :: e' :: l=>rb.contains (100*e+e') && (decide (e < e') && fY rb (e' :: l))
 | _=>true
def chkM (rb:List Nat) (os:List AO):Bool:=qn os && (u0 rb os && (fY rb (gH 0 os) && decide (os.length≤100)))
def gn (S:Nat→Bool) (t:dI):Nat→List AO→List C→dI
 | i,o :: os,v :: vs=>match o.dst with | some d=>(d,if S i=true then v else .any) :: gn S t (i+1) os vs | none=>gn S t (i+1) os vs
 | _,_,_=>t
def gU (t:dI):List AO→List C→dI
 | o :: os,v :: vs=>match o.dst with | some d=>(d,v) :: gU t os vs | none=>gU t os vs
 | _,_=>t
theorem nu (t:dI) (S:Nat→Bool):∀ (os:List AO) (vs:List C) (i:Nat),(∀ j,j < os.length→S (i+j)=true)→gn S t i os vs=gU t os vs
 | [],_,_,_=>by simp [gn,gU]
 | _ :: _,[],_,_=>by simp [gn,gU]
 | o :: os,v :: vs,i,h=>by
  have ih:=nu t S os vs (i+1) (fun j hj=>by rw [show i+1+j=i+(j+1) by omega]; exact h (j+1) (by simpa using hj))
  have h0:=h 0 (by simp)
  rw [Nat.add_zero] at h0
  cases hd:o.dst <;> simp [gn,gU,hd,h0,ih]
theorem iA (t:dI) (S:Nat→Bool) (x:Nat):∀ (os:List AO) (vs:List C) (i:Nat),os.length=vs.length→(os.filterMap (·.dst)).Nodup →
 (∃ j o v,os[j]? = some o∧vs[j]? = some v∧o.dst=some x∧gt (gn S t i os vs) x=if S (i+j)=true then v else .any)∨((∀ o∈os,o.dst≠some x)∧gt (gn S t i os vs) x=gt t x)
 | [],[],i,_,_=>.inr ⟨by simp,by simp [gn]⟩
 | o :: os,v :: vs,i,hl,hn=>by
  have hn':(os.filterMap (·.dst)).Nodup:=by
   cases hd:o.dst with
   | none=>simpa [hd] using hn
   | some d=>simp [hd] at hn; exact hn.2
  by_cases hd:o.dst=some x
  · exact .inl ⟨0,o,v,rfl,rfl,hd,by simp [gn,hd,gt,lk]⟩
  · have e:gt (gn S t i (o :: os) (v :: vs)) x=gt (gn S t (i+1) os vs) x:=by
     cases hd2:o.dst with
     | none=>simp [gn,hd2]
     | some d=>
      have hne:d≠x:=fun e=>hd (by rw [hd2,e])
      simp [gn,hd2,gt,lk,hne]
    rcases iA t S x os vs (i+1) (by simpa using hl) hn' with ⟨j,o',v',h1,h2,h3,h4⟩ | ⟨h1,h2⟩
    · exact .inl ⟨j+1,o',v',by simpa using h1,by simpa using h2,h3,by rw [e,h4,show i+1+j=i+(j+1) by omega]⟩
    · refine .inr ⟨fun q hq=>?_,by rw [e,h2]⟩
      rcases List.mem_cons.1 hq with rfl | hq
      · exact hd
      · exact h1 q hq
def fK (S:Nat→Bool):List (Nat×Chs)→Chs→Chs
 | [],h=>h
 | (e,h1) :: l,h=>if S e=true then fK S l h1 else h
def gJ : List (Nat×Chs)→Chs→Chs
 | [],h=>h
 | (_,h1) :: l,_=>gJ l h1
def ia (rb:List Nat) (j:Nat):List (Nat×Chs)→Chs→(Chs→Prop)→Prop
 | [],h,K=>K h
 | (e,h1) :: l,h,K=>if e=j then K h else (if av rb (100*e+j)=true then True else K h)∧(if av rb (100*j+e)=true then True else ia rb j l h1 K)
def it (j:Nat):List (Nat×Chs)→Chs→Chs
 | [],h=>h
 | (e,h1) :: l,h=>if e=j then h1 else it j l h
def reM (P:Program) [Glob P] (L:List (Ent P)) (t:dI) (h h':Chs) (o:AO) (v:C):Option Eff→Prop
 | some e2=>e2.cond∧e2.v=v∧e2.ch=h'∧e2.sub=[]
 | none=>match aF L (aq P t) h (o.dst.getD 0) o.op with
  | .cal (.eff e2)=>e2.cond∧e2.v=v∧e2.ch=h'∧e2.sub=[]
  | _=>False
def ly (P:Program) [Glob P] (L:List (Ent P)) (rb:List Nat) (t:dI) (E:List (Nat×Chs)) (h0:Chs):Nat→List AO→List C→Prop
 | j,o :: os,v :: vs=>ia rb j E h0 (fun h=>reM P L t h (it j E h) o v (ai (aq P t) h (o.dst.getD 0) o.op))∧ly P L rb t E h0 (j+1) os vs
 | _,[],[]=>True
 | _,_,_=>False
def ndE : List (Nat×Chs)→Prop
 | []=>True
 | (_,h) :: l=>an (ag h)∧ndE l
theorem i7 : ∀ {l:List Nat} {x:Nat},av l x=true↔x∈l
 | [],x=>by simp [av]
 | y :: l,x=>by
  simp only [av]
  by_cases h:y=x
  · simp [h]
  · rw [if_neg h,i7,List.mem_cons]
    exact ⟨.inr,fun q=>q.resolve_left fun e=>h e.symm⟩
theorem nO {rb:List Nat} {S:Nat→Bool} {j:Nat} {K:Chs→Prop} (hj:S j=false) (hp:∀ c∈rb,c % 100=j→S (c / 100)=true) (hs:lJ rb S) (hj1:j < 100):∀ {E:List (Nat×Chs)} {h:Chs},(∀ q∈E,q.1 < 100)→ia rb j E h K→K (fK S E h)
 | [],h,_,hc=>hc
 | (e,h1) :: l,h,hE,hc=>by
  have he:e < 100:=hE (e,h1) List.mem_cons_self
  simp only [ia] at hc
  simp only [fK]
  by_cases hej:e=j
  · subst hej
    rw [if_pos rfl] at hc
    rw [if_neg (by rw [hj]; simp)]; exact hc
  rw [if_neg hej] at hc
  by_cases hse:S e=true
  · rw [if_pos hse]
    have hno:¬ av rb (100*j+e)=true:=fun hm=>by
     have:=hs _ (i7.1 hm)
     rw [show (100*j+e) % 100=e by omega,show (100*j+e) / 100=j by omega] at this
     rw [this hse] at hj; cases hj
    rw [if_neg hno] at hc
    exact nO hj hp hs hj1 (fun q hq=>hE q (List.mem_cons_of_mem _ hq)) hc.2
  · rw [if_neg hse]
    have hno:¬ av rb (100*e+j)=true:=fun hm=>by
     have:=hp _ (i7.1 hm) (by omega)
     rw [show (100*e+j) / 100=e by omega] at this
     exact hse this
    rw [if_neg hno] at hc
    exact hc.1
theorem sq {S:Nat→Bool} {E:List (Nat×Chs)} {h:Chs} (hE:∀ q,E.head? = some q→S q.1=false):fK S E h=h:=by
 cases E with
 | nil=>rfl
 | cons q l=>
  obtain ⟨e,h1⟩:=q
  simp only [fK]
  rw [if_neg (by rw [hE (e,h1) rfl]; simp)]
theorem qU {rb:List Nat} {S:Nat→Bool} {j:Nat} (hj:S j=false) (hp:∀ c∈rb,c % 100=j→S (c / 100)=true) (hs:lJ rb S):∀ {E:List (Nat×Chs)} {h:Chs},(∀ q∈E,q.1 < 100)→fY rb (E.map (·.1))=true→(∀ q∈E,q.1 < j→S q.1=true)→fK (fun i=>i == j || S i) E h=it j E (fK S E h)
 | [],h,_,_,_=>rfl
 | (e,h1) :: l,h,hE,ho,hb=>by
  have he:e < 100:=hE (e,h1) List.mem_cons_self
  have ho':fY rb (l.map (·.1))=true:=by
   cases l with
   | nil=>rfl
   | cons q l=>
    simp only [List.map_cons,fY,Bool.and_eq_true] at ho
    exact ho.2.2
  simp only [fK,it]
  by_cases hej:e=j
  · subst hej
    rw [if_pos (by simp),if_pos rfl]
    refine sq (fun q hq=>?_)
    cases l with
    | nil=>cases hq
    | cons q' l=>
     cases hq
     simp only [List.map_cons,fY,Bool.and_eq_true,decide_eq_true_eq] at ho
     have hq1:=hE q (by simp)
     have hne:¬ q.1=e:=by omega
     cases hsq:S q.1 with
     | false=>simp [hne]
     | true=>
      have hm:=ho.1
      simp only [List.contains_iff_mem] at hm
      have:=hs _ hm
      rw [show (100*e+q.1) % 100=q.1 by omega,show (100*e+q.1) / 100=e by omega] at this
      rw [this hsq] at hj; cases hj
  · have hb1:(e == j)=false:=by simpa using hej
    simp only [hb1,Bool.false_or]
    rw [if_neg hej]
    by_cases hse:S e=true
    · rw [if_pos hse,if_pos hse]
      exact qU hj hp hs (fun q hq=>hE q (List.mem_cons_of_mem _ hq)) ho' (fun q hq=>hb q (List.mem_cons_of_mem _ hq))
    · rw [if_neg hse,if_neg hse]
      have hlt:¬ e < j:=fun h=>hse (hb (e,h1) List.mem_cons_self h)
      have key:∀ (E:List (Nat×Chs)) (e:Nat),fY rb (e :: E.map (·.1))=true→j < e→∀ h,it j E h=h:=by
       intro E
       induction E with
       | nil=>intros; rfl
       | cons q E ih=>
        intro e ho hlt h
        simp only [List.map_cons,fY,Bool.and_eq_true,decide_eq_true_eq] at ho
        obtain ⟨q1,q2⟩:=q
        simp only at ho
        simp only [it]
        rw [if_neg (by omega)]
        exact ih q1 ho.2.2 (by omega) h
      exact (key l e ho (by omega) h).symm
theorem qR {S:Nat→Bool}:∀ {E:List (Nat×Chs)} {h:Chs},(∀ q∈E,S q.1=true)→fK S E h=gJ E h
 | [],h,_=>rfl
 | (e,h1) :: l,h,hE=>by
  simp only [fK,gJ]
  rw [if_pos (hE (e,h1) List.mem_cons_self)]
  exact qR fun q hq=>hE q (List.mem_cons_of_mem _ hq)
theorem qS {S:Nat→Bool}:∀ {E:List (Nat×Chs)} {h:Chs},fK S E h=h∨∃ q∈E,fK S E h=q.2
 | [],h=>.inl rfl
 | (e,h1) :: l,h=>by
  simp only [fK]
  split
  · rcases qS (S:=S) (E:=l) (h:=h1) with q | ⟨q,hq,e'⟩
    · exact .inr ⟨(e,h1),List.mem_cons_self,q⟩
    · exact .inr ⟨q,List.mem_cons_of_mem _ hq,e'⟩
  · exact .inl rfl
theorem sD : ∀ {E:List (Nat×Chs)},ndE E→∀ q∈E,(q.2.map (·.1)).Nodup
 | [],_,q,h=>by cases h
 | (e,h1) :: l,hn,q,h=>by
  rcases List.mem_cons.1 h with rfl | h
  · rw [← dU]; exact d8 hn.1
  · exact sD hn.2 q h
theorem sG {L:List (Ent P)} {rb:List Nat} {t:dI} {E:List (Nat×Chs)} {h0:Chs}:∀ {os:List AO} {vs:List C} {i:Nat},ly P L rb t E h0 i os vs→os.length=vs.length∧∀ (j:Nat) o,os[j]? = some o→∃ v,vs[j]? = some v∧ia rb (i+j) E h0 (fun h=>reM P L t h (it (i+j) E h) o v (ai (aq P t) h (o.dst.getD 0) o.op))
 | [],[],i,_=>⟨rfl,fun j o h=>by simp at h⟩
 | o :: os,v :: vs,i,h=>by
  obtain ⟨h1,h2⟩:=h
  obtain ⟨g1,g2⟩:=sG h2
  refine ⟨by simp [g1],fun j q hq=>?_⟩
  cases j with
  | zero=>
   simp only [List.getElem?_cons_zero,Option.some.injEq] at hq
   subst hq
   exact ⟨v,rfl,h1⟩
  | succ j=>
   obtain ⟨v',e1,e2⟩:=g2 j q (by simpa using hq)
   exact ⟨v',by simpa using e1,by rw [show i+(j+1)=i+1+j by omega]; exact e2⟩
 | [],_ :: _,_,h=>by cases h
 | _ :: _,[],_,h=>by cases h
theorem lF : ∀ {os:List AO} {i e:Nat},e∈gH i os→i≤e∧e < i+os.length
 | [],i,e,h=>by cases h
 | o :: os,i,e,h=>by
  simp only [gH] at h
  split at h
  · rcases List.mem_cons.1 h with rfl | h
    · simp
    · have:=lF h; simp; omega
  · have:=lF h; simp; omega
theorem wu {L:List (Ent P)} {t:dI} {h h':Chs} {o:AO} {v:C} (hg:o.guard=none) (hr:reM P L t h h' o v (ai (aq P t) h (o.dst.getD 0) o.op)):∃ ef2,StepE P o ⟨t,h⟩ ef2∧ef2.v=v∧ef2.ch=h'∧ef2.sub=[]:=by
 cases hq:ai (aq P t) h (o.dst.getD 0) o.op with
 | some e2=>
  rw [hq] at hr
  obtain ⟨h2,h3,h4,h5⟩:=hr
  exact ⟨e2,.yes e2 (by rw [hg]; rfl) (.f hq h2),h3,h4,h5⟩
 | none=>
  rw [hq] at hr
  simp only [reM] at hr
  split at hr
  · rename_i e2 hm
    obtain ⟨h2,h3,h4,h5⟩:=hr
    have hop:OpR P (aq P t) h (o.dst.getD 0) o.op ⟨True,e2.v,e2.ch,e2.sub⟩:=jt hm h2
    exact ⟨⟨True,e2.v,e2.ch,e2.sub⟩,.yes _ (by rw [hg]; rfl) hop,h3,h4,h5⟩
  · cases hr
theorem gQ {os:List AO} (h:(os.filterMap (·.dst)).Nodup):∀ (i j:Nat),i < j→∀ (o q:AO) (x:Nat),os[i]? = some o→os[j]? = some q→o.dst=some x→q.dst=some x→False:=by
 induction os with
 | nil=>intro i j _ o q x h1; simp at h1
 | cons a os ih=>
  intro i j hij o q x h1 h2 h3 h4
  have hn':(os.filterMap (·.dst)).Nodup:=by
   cases hd:a.dst with
   | none=>simpa [hd] using h
   | some d=>simp [hd] at h; exact h.2
  cases j with
  | zero=>omega
  | succ j=>
   cases i with
   | zero=>
    simp only [List.getElem?_cons_zero,Option.some.injEq] at h1
    subst h1
    simp only [List.getElem?_cons_succ] at h2
    rw [List.filterMap_cons,h3] at h
    exact (List.nodup_cons.1 h).1 (List.mem_filterMap.2 ⟨q,List.mem_of_getElem? h2,h4⟩)
   | succ i=>exact ih hn' i j (by omega) o q x (by simpa using h1) (by simpa using h2) h3 h4
theorem qT {S:Nat→Bool} {j:Nat}:∀ {E:List (Nat×Chs)} {h:Chs},j∉E.map (·.1)→fK (fun i=>i == j || S i) E h=fK S E h
 | [],h,_=>rfl
 | (e,h1) :: l,h,hn=>by
  simp only [List.map_cons,List.mem_cons,not_or] at hn
  have hb:(e == j)=false:=by simp; exact fun q=>hn.1 q.symm
  simp only [fK,hb,Bool.false_or]
  split
  · exact qT hn.2
  · rfl
theorem sM {j:Nat}:∀ {E:List (Nat×Chs)} {h:Chs},j∉E.map (·.1)→it j E h=h
 | [],h,_=>rfl
 | (e,h1) :: l,h,hn=>by
  simp only [List.map_cons,List.mem_cons,not_or] at hn
  simp only [it]
  rw [if_neg (fun q=>hn.1 q.symm)]
  exact sM hn.2
theorem lz {rb:List Nat} {S:Nat→Bool} {j:Nat} (hp:∀ c∈rb,c % 100=j→S (c / 100)=true) (hs:lJ rb S) (hj:j < 100):∀ {l:List Nat},(∀ e∈l,e < 100)→fY rb l=true→j∈l→∀ e∈l,e < j→S e=true
 | [],_,_,h,_,_,_=>by cases h
 | [a],_,_,h,e,he,hlt=>by
  simp only [List.mem_singleton] at h he
  omega
 | a :: b :: l,h100,ho,h,e,he,hlt=>by
  simp only [fY,Bool.and_eq_true,decide_eq_true_eq,List.contains_iff_mem] at ho
  obtain ⟨o1,o2,o3⟩:=ho
  have hab:S b=true→S a=true:=fun hb=>by
   have:=hs _ o1
   have ha:=h100 a (by simp)
   have hb1:=h100 b (by simp)
   rw [show (100*a+b) % 100=b by omega,show (100*a+b) / 100=a by omega] at this
   exact this hb
  have asc:∀ (l:List Nat) (x:Nat),fY rb (x :: l)=true→∀ y∈l,x < y:=by
   intro l
   induction l with
   | nil=>intro x _ y hy; cases hy
   | cons z l ih=>
    intro x ho y hy
    simp only [fY,Bool.and_eq_true,decide_eq_true_eq] at ho
    rcases List.mem_cons.1 hy with rfl | hy
    · exact ho.2.1
    · have:=ih z ho.2.2 y hy; omega
  have hja:j≠a→j∈b :: l:=fun hne=>(List.mem_cons.1 h).resolve_left hne
  rcases List.mem_cons.1 he with rfl | he
  · have hjb:=hja (by omega)
    by_cases hbj:b=j
    · subst hbj
      have:=hp _ o1 (by omega)
      rwa [show (100*e+b) / 100=e by omega] at this
    · have hlt2:b < j:=by
       rcases List.mem_cons.1 hjb with q | q
       · exact absurd q.symm hbj
       · exact asc l b o3 j q
      exact hab (lz hp hs hj (fun x hx=>h100 x (List.mem_cons_of_mem _ hx)) o3 hjb b List.mem_cons_self hlt2)
  · have hjb:j∈b :: l:=hja (by
     have h1:=asc (b :: l) a (by simp only [fY,Bool.and_eq_true,decide_eq_true_eq,List.contains_iff_mem]; exact ⟨o1,o2,o3⟩) e he
     omega)
    exact lz hp hs hj (fun x hx=>h100 x (List.mem_cons_of_mem _ hx)) o3 hjb e he hlt
theorem wq {rb:List Nat} {S:Nat→Bool} {j:Nat} {E:List (Nat×Chs)} {os:List AO} (ho:fY rb (gH 0 os)=true) (hE:E.map (·.1)=gH 0 os) (hs:lJ rb S) (hp:∀ c∈rb,c % 100=j→S (c / 100)=true) (_:S j=false) {q:Nat×Chs} (hq:q∈E) (hlt:q.1 < j)
 (hjE:j∈E.map (·.1)) (h100:∀ q∈E,q.1 < 100):S q.1=true:=by
 have hj:j < 100:=by
  obtain ⟨q',hq',rfl⟩:=List.mem_map.1 hjE
  exact h100 q' hq'
 refine lz hp hs hj (l:=E.map (·.1)) (fun e he=>?_) (by rw [hE]; exact ho) hjE q.1 (List.mem_map.2 ⟨q,hq,rfl⟩) hlt
 obtain ⟨q',hq',rfl⟩:=List.mem_map.1 he
 exact h100 q' hq'
theorem S_multi {rb:List Nat} {os:List AO} {L:List (Ent P)} {vs:List C} {E:List (Nat×Chs)} (hchk:chkM rb os=true) (hE:E.map (·.1)=gH 0 os) (hn0:an (ag st.ch)) (hnd:ndE E)
 (hops:ly P L rb (gU st.t os vs) E st.ch 0 os vs) (hend:SG P cx Q k ⟨gU st.t os vs,gJ E st.ch⟩):SG P cx Q (.c (.draw 999 rb os) :: k) st:=by
 simp only [chkM,Bool.and_eq_true,decide_eq_true_eq] at hchk
 obtain ⟨k1,k2,k3,k4⟩:=hchk
 have k1:(os.filterMap (·.dst)).Nodup:=by simpa [qn] using k1
 obtain ⟨l1,l2⟩:=sG hops
 have hE100:∀ q∈E,q.1 < 100:=fun q hq=>by
  have:q.1∈gH 0 os:=by rw [← hE]; exact List.mem_map.2 ⟨q,hq,rfl⟩
  have:=lF this
  omega
 have hread:∀ (j:Nat) o,os[j]? = some o→o.guard=none∧∀ x∈eP o.op.reads,∀ (i:Nat) q,os[i]? = some q→q.dst=some x→100*i+j∈rb:=fun j o ho=>by
  have h1:=List.all_eq_true.1 k2 (o,j) (by rw [List.mk_mem_zipIdx_iff_getElem?]; exact ho)
  simp only [Bool.and_eq_true,Option.isNone_iff_eq_none] at h1
  refine ⟨h1.1,fun x hx i q hq hd=>?_⟩
  have h2:=List.all_eq_true.1 h1.2 x hx
  have h3:=List.all_eq_true.1 h2 (q,i) (by rw [List.mk_mem_zipIdx_iff_getElem?]; exact hq)
  simp only [hd,bne_self_eq_false,Bool.false_or] at h3
  simpa using h3
 have hndc:∀ S,((fK S E st.ch).map (·.1)).Nodup:=fun S=>by
  rcases qS (S:=S) (E:=E) (h:=st.ch) with h | ⟨q,hq,h⟩
  · rw [h,← dU]; exact d8 hn0
  · rw [h]; exact sD hnd q hq
 refine m7 (T:=fun S=>⟨gn S st.t 0 os vs,fK S E st.ch⟩) ⟨fun x=>?_,hndc _,fun p hp=>?_⟩ (fun S j ao hj hSj hp hs=>?_) (fun S hS=>?_)
 · show gt (gn (fun _=>false) st.t 0 os vs) x=.any∨_
   rcases iA st.t (fun _=>false) x os vs 0 l1 k1 with ⟨j,o,v,_,_,_,h⟩ | ⟨_,h⟩
   · exact .inl h
   · exact .inr h.symm
 · have e0:fK (fun _=>false) E st.ch=st.ch:=sq (fun q _=>rfl)
   have hp':p∈fK (fun _=>false) E st.ch:=hp
   rw [e0] at hp'
   exact eT (by rw [← dU]; exact d8 hn0) hp'
 · have hjl:j < os.length:=(List.getElem?_eq_some_iff.1 hj).1
   obtain ⟨hg,hrd⟩:=hread j ao hj
   obtain ⟨v,hv,hc⟩:=l2 j ao hj
   rw [Nat.zero_add] at hc
   have hre:=nO hSj hp hs (by omega) hE100 hc
   obtain ⟨ef2,s1,s2,s3,s4⟩:=wu hg hre
   have hslots:∀ x∈ao.slots,gt (gU st.t os vs) x=gt (gn S st.t 0 os vs) x:=fun x hx=>by
    have hx2:x∈eP ao.op.reads:=by
     simp only [AO.slots,hg,List.append_nil] at hx
     exact jj hx
    rw [← nu st.t (fun _=>true) os vs 0 (fun _ _=>rfl)]
    rcases iA st.t S x os vs 0 l1 k1 with ⟨i,o,w,a1,a2,a3,a4⟩ | ⟨a1,a2⟩
    · have hcd:=hrd x hx2 i o a1 a3
      have hSi:=hp _ hcd (by omega)
      rw [show (100*i+j) / 100=i by omega] at hSi
      rw [Nat.zero_add,if_pos hSi] at a4
      rw [a4]
      rcases iA st.t (fun _=>true) x os vs 0 l1 k1 with ⟨i',o',w',b1,b2,b3,b4⟩ | ⟨b1,_⟩
      · rw [b4,if_pos rfl]
        have hii:i'=i:=by
         rcases Nat.lt_trichotomy i i' with h | h | h
         · exfalso
           exact (gQ k1) i i' h o o' x a1 b1 a3 b3
         · exact h.symm
         · exfalso
           exact (gQ k1) i' i h o' o x b1 a1 b3 a3
        subst hii
        rw [a2] at b2; cases b2; rfl
      · exact absurd a3 (b1 o (List.mem_of_getElem? a1))
    · rw [a2]
      rcases iA st.t (fun _=>true) x os vs 0 l1 k1 with ⟨i',o',w',b1,b2,b3,b4⟩ | ⟨_,b2⟩
      · exact absurd b3 (a1 o' (List.mem_of_getElem? b1))
      · exact b2
   refine ⟨ef2,s1.congr hslots rfl,.of_le ⟨fun x=>?_,hndc _,fun p hp'=>?_⟩⟩
   · show gt (gn (fun i=>i == j || S i) st.t 0 os vs) x=.any∨gt (aT ao.dst ef2.sub ef2.v (gn S st.t 0 os vs)) x=_
     rw [s4,s2,fE,eF]
     right
     rcases iA st.t (fun i=>i == j || S i) x os vs 0 l1 k1 with ⟨i,o,w,a1,a2,a3,a4⟩ | ⟨a1,a2⟩
     · rw [Nat.zero_add] at a4
       by_cases hij:i=j
       · subst hij
         rw [hj] at a1; cases a1
         rw [hv] at a2; cases a2
         rw [a4,if_pos a3]; simp
       · have hne:ao.dst≠some x:=fun e=>by
          rcases Nat.lt_or_gt_of_ne hij with h | h
          · exact (gQ k1) i j h o ao x a1 hj a3 e
          · exact (gQ k1) j i h ao o x hj a1 e a3
         rw [if_neg hne,a4]
         have hb:(i == j)=false:=by simpa using hij
         simp only [hb,Bool.false_or]
         rcases iA st.t S x os vs 0 l1 k1 with ⟨i',o',w',b1,b2,b3,b4⟩ | ⟨b1,_⟩
         · rw [b4,Nat.zero_add]
           have hii:i'=i:=by
            rcases Nat.lt_trichotomy i i' with h | h | h
            · exact absurd b3 (fun h3=>(gQ k1) i i' h o o' x a1 b1 a3 h3)
            · exact h.symm
            · exact absurd b3 (fun h3=>(gQ k1) i' i h o' o x b1 a1 h3 a3)
           subst hii
           rw [a2] at b2; cases b2; rfl
         · exact absurd a3 (b1 o (List.mem_of_getElem? a1))
     · have hne:ao.dst≠some x:=a1 ao (List.mem_of_getElem? hj)
       rw [if_neg hne,a2]
       rcases iA st.t S x os vs 0 l1 k1 with ⟨i',o',w',b1,b2,b3,b4⟩ | ⟨_,b2⟩
       · exact absurd b3 (a1 o' (List.mem_of_getElem? b1))
       · exact b2
   · have hb:∀ q∈E,q.1 < j→S q.1=true∨¬ (j∈E.map (·.1)):=fun q hq hlt=>by
      by_cases hjE:j∈E.map (·.1)
      · left
        have:100*q.1+j∈rb∨True:=.inr trivial
        exact wq k3 hE hs hp hSj hq hlt hjE hE100
      · exact .inr hjE
     have hch:fK (fun i=>i == j || S i) E st.ch=it j E (fK S E st.ch):=by
      by_cases hjE:j∈E.map (·.1)
      · exact qU hSj hp hs hE100 (by rw [hE]; exact k3) (fun q hq hlt=>(hb q hq hlt).resolve_right (fun h=>h hjE))
      · exact (qT hjE).trans (sM hjE).symm
     show lk ef2.ch p.1=some p.2
     rw [s3,← hch]
     exact eT (hndc _) hp'
 · have e1:gn S st.t 0 os vs=gU st.t os vs:=nu st.t S os vs 0 (fun j hj=>by rw [Nat.zero_add]; exact hS j hj)
   have e2:fK S E st.ch=gJ E st.ch:=qR (fun q hq=>hS q.1 (by
    have:q.1∈gH 0 os:=by rw [← hE]; exact List.mem_map.2 ⟨q,hq,rfl⟩
    have:=lF this
    omega))
   simp only [e1,e2]
   exact hend
def kw (op:AOp) (j:Nat) (h:Chs) (E:List (Nat×Chs)):List (Nat×Chs):=
 match op with
 | .store _ _ _ _=>E++[(j,h)]
 | _=>E
def mFin (P:Program) [Glob P] (L:List (Ent P)) (cx:Cx) (Q:ASt→Prop) (k:List It) (rb:List Nat) (all:List AO) (s0:ASt) (vs:List C) (E:List (Nat×Chs)):Prop:=
 an (ag s0.ch)∧ndE E∧ly P L rb (gU s0.t all vs) E s0.ch 0 all vs∧SG P cx Q k ⟨gU s0.t all vs,gJ E s0.ch⟩
def drM (P:Program) [Glob P] (L:List (Ent P)) (cx:Cx) (Q:ASt→Prop) (k:List It) (rb:List Nat) (all:List AO) (s0:ASt):Nat→Md→List AO→ASt→Nat→List C→List (Nat×Chs)→Prop
 | _+1,.run,[],_,_,vs,E=>mFin P L cx Q k rb all s0 vs E
 | n+1,.run,⟨dst,none,op,tot⟩ :: os,s,j,vs,E=>drM P L cx Q k rb all s0 n (.eff (ai (aq P s.t) s.ch (dst.getD 0) op)) (⟨dst,none,op,tot⟩ :: os) s j vs E
 | n+1,.eff (some ef),⟨dst,none,op,_⟩ :: os,s,j,vs,E=>drM P L cx Q k rb all s0 n .run os ⟨aT dst [] ef.v s.t,ef.ch⟩ (j+1) (vs++[ef.v]) (kw op j ef.ch E)
 | n+1,.eff none,⟨dst,none,op,tot⟩ :: os,s,j,vs,E=>drM P L cx Q k rb all s0 n (aF L (aq P s.t) s.ch (dst.getD 0) op) (⟨dst,none,op,tot⟩ :: os) s j vs E
 | n+1,.cal (.eff ef),⟨dst,none,op,_⟩ :: os,s,j,vs,E=>drM P L cx Q k rb all s0 n .run os ⟨aT dst [] ef.v s.t,ef.ch⟩ (j+1) (vs++[ef.v]) (kw op j ef.ch E)
 | _,_,_,_,_,_,_=>False
theorem addE_ix {op:AOp} {j:Nat} {h:Chs} {E:List (Nat×Chs)}:(kw op j h E).map (·.1)=E.map (·.1)++if isSt op=true then [j] else []:=by
 cases op <;> simp [kw,isSt]
theorem tZ {L:List (Ent P)} {rb:List Nat} {all:List AO} {s0:ASt} (hchk:chkM rb all=true):∀ (n:Nat) (m:Md) (os:List AO) (s:ASt) (j:Nat) (vs:List C) (E:List (Nat×Chs)),
 E.map (·.1)++gH j os=gH 0 all→drM P L cx Q k rb all s0 n m os s j vs E→SG P cx Q (.c (.draw 999 rb all) :: k) s0:=by
 intro n
 induction n with
 | zero=>intro m os s j vs E _ h; simp [drM] at h
 | succ n ih=>
  intro m os s j vs E hE h
  have next:∀ (ef:Eff) (o:AO) (os:List AO),E.map (·.1)++gH j (o :: os)=gH 0 all→(kw o.op j ef.ch E).map (·.1)++gH (j+1) os=gH 0 all:=fun ef o os h=>by
   rw [addE_ix,← h,gH,List.append_assoc]
   cases hq:isSt o.op <;> simp [hq]
  cases os with
  | nil=>
   cases m <;> simp only [drM] at h
   obtain ⟨h1,h2,h3,h4⟩:=h
   exact S_multi hchk (by simpa [gH] using hE) h1 h2 h3 h4
  | cons o os=>
   obtain ⟨dst,g,op,tot⟩:=o
   cases g with
   | some g=>cases m <;> simp [drM] at h
   | none=>
    cases m with
    | run=>simp only [drM] at h; exact ih _ _ _ _ _ _ hE h
    | eff o=>
     cases o with
     | none=>simp only [drM] at h; exact ih _ _ _ _ _ _ hE h
     | some ef=>simp only [drM] at h; exact ih _ _ _ _ _ _ (next ef _ os hE) h
    | cal r=>
     cases r with
     | eff ef=>simp only [drM] at h; exact ih _ _ _ _ _ _ (next ef _ os hE) h
     | _=>simp [drM] at h
    | _=>simp [drM] at h
theorem kH {rb:List Nat} {os:List AO} (L:List (Ent P)) (n:Nat) (h:drM P L cx Q k rb os st n .run os st 0 [] []) (hchk:chkM rb os=true:=by rfl):SG P cx Q (.c (.draw 999 rb os) :: k) st:=
 tZ hchk n .run os st 0 [] [] rfl h
end Go.Am
end
section
namespace Go.Am
open Dat (cells)
variable {P : Program} [Glob P] {ro : Option Nat} {ρ : Operand → C} {ch : Chs} {d : Nat}
theorem OpM.calls {f:FuncId} {fo:Operand} {aS:List Operand} {r:C} {ch':Chs} {m:List (Nat×Sb)} (hf:FnOk P f) (hfo:ρ fo=.fn (.func f) [] [])
 (h:∀ (E:Env) (U:Nat→Prop) (w:World) (vs:Array Value),Inv E U w.heap ch→eW P U w.heap→jC E U w.heap (aS.map ρ) vs→Calls P f vs w fun e w'=>∃ v E' U',e=.returned v∧Rep E' U' w'.heap r v∧Ev E U w ch m d E' U' w' ch') :
 OpM P ro ρ ch d (.call fo aS) (fun ef=>ef=⟨True,r,ch',m⟩):=by
 intro own o a E U w hc hi hg hρ K Q hK
 obtain ⟨args,ts,ho,ha⟩:=iL hc
 subst ha
 have hev:a.eval fo=.func (.func f) #[] #[]:=by
  have:=hfo ▸ hρ fo (by simp [AOp.reads])
  generalize a.eval fo=q at this
  cases this with
  | d hd=>cases hd
  | fn _ _ _ vs ws h1 h2 h3 h4=>
   have e1:vs=#[]:=Array.size_eq_zero_iff.1 (by simpa using h1)
   have e2:ws=#[]:=Array.size_eq_zero_iff.1 (by simpa using h3)
   rw [e1,e2]
 have hargs:jC E U w.heap (args.toList.map ρ) (args.map a.eval):=by
  refine ⟨by simp,fun j c hj=>?_⟩
  simp only [List.getElem?_map,Option.map_eq_some_iff,Array.getElem?_toList] at hj
  obtain ⟨x,hx,rfl⟩:=hj
  rw [eA (v:=a.eval x) (by simp [hx])]
  exact hρ x (by simp only [AOp.reads]; exact List.mem_cons_of_mem _ (by simpa using Array.mem_of_getElem? hx))
 have hcall:=h E U w (args.map a.eval) hi hg hargs
 obtain ⟨fn,q1,q2,q3⟩:=hf
 have hrun:(execOp a.eval o).run P w=.ok (.enter f (args.map a.eval)) w:=by
  simp only [execOp,ho,resolve,hev,Deferred.ofValue,Sem.run_bind,Sem.run_pure,Result.andThen_ok,invoke]
  have:=j5 (P:=P) (w:=w) (args:=args.map a.eval) ⟨fn,q1,q2,q3⟩
  simpa using this
 refine ⟨fun _ _=>trivial,?_⟩
 rw [Oper.semAt_eq _ _ _ (by rw [ho]; simp),hrun,Oper.uponIn_enter]
 refine ⟨fun h=>by simp [FW,Fence.wide] at h,kZ (hcall.mono fun e w' h=>?_)⟩
 obtain ⟨v,E',U',rfl,hrep,hce⟩:=h
 exact hK ⟨True,r,ch',m⟩ rfl v E' U' w' hrep hce
end Go.Am
end
section
namespace Go.Am
open Dat (cells)
variable {P : Program} [Glob P] {cx : Cx} {Q : ASt → Prop} {k : List It} {st : ASt}
def fV (m:List (Nat×Sb)):C→Bool
 | .own k=>match m.lookup k with | some (.c _)=>false | _=>true
 | .ptr k _=>match m.lookup k with | some (.c _)=>false | _=>true
 | .eptr k _ _=>match m.lookup k with | some (.c _)=>false | _=>true
 | .inn k _=>!(m.lookup k).isSome
 | .iptr k _ _ _=>!(m.lookup k).isSome
 | .agg cs=>fixBs m cs
 | .tup cs=>fixBs m cs
 | .fn _ xs ys=>fixBs m xs && fixBs m ys
 | _=>true
where fixBs (m:List (Nat×Sb)):List C→Bool
 | []=>true
 | c :: cs=>fV m c && fixBs m cs
mutual
theorem pe {m:List (Nat×Sb)}:∀ (c:C),fV m c=true→ah m c=c
 | .own k,h=>by
  simp only [fV] at h
  simp only [ah]
  cases hm:m.lookup k with
  | none=>rfl
  | some s=>cases s with
   | c x=>rw [hm] at h; cases h
   | inner=>rfl
 | .ptr k o,h=>by
  simp only [fV] at h
  simp only [ah]
  cases hm:m.lookup k with
  | none=>rfl
  | some s=>cases s with
   | c x=>rw [hm] at h; cases h
   | inner=>rfl
 | .eptr k i j,h=>by
  simp only [fV] at h
  simp only [ah]
  cases hm:m.lookup k with
  | none=>rfl
  | some s=>cases s with
   | c x=>rw [hm] at h; cases h
   | inner=>rfl
 | .inn k i,h=>by
  simp only [fV,Bool.not_eq_true',Option.isSome_eq_false_iff,Option.isNone_iff_eq_none] at h
  simp [ah,h]
 | .iptr k i a b,h=>by
  simp only [fV,Bool.not_eq_true',Option.isSome_eq_false_iff,Option.isNone_iff_eq_none] at h
  simp [ah,h]
 | .agg cs,h=>by simp only [fV] at h; simp only [ah]; rw [jW cs h]
 | .tup cs,h=>by simp only [fV] at h; simp only [ah]; rw [jW cs h]
 | .fn f xs ys,h=>by
  simp only [fV,Bool.and_eq_true] at h
  simp only [ah]; rw [jW xs h.1,jW ys h.2]
 | .any,_=>rfl
 | .s v,_=>rfl
 | .sl n es,_=>rfl
 | .ref cs,_=>rfl
 | .isl n t es,_=>rfl
theorem jW {m:List (Nat×Sb)}:∀ (cs:List C),fV.fixBs m cs=true→ah.subCs m cs=cs
 | [],_=>rfl
 | c :: cs,h=>by
  simp only [fV.fixBs,Bool.and_eq_true] at h
  simp only [ah.subCs]
  rw [pe c h.1,jW cs h.2]
end
abbrev EL := List (Nat×List (Nat×Sb)×Chs)
def ixE : EL→List Nat
 | []=>[]
 | (e,_,_) :: l=>e :: ixE l
def dY (S:Nat→Bool):EL→EL
 | []=>[]
 | q :: l=>if S q.1=true then q :: dY S l else []
def gg (rb:List Nat) (i:Nat) (v:C):EL→Bool
 | []=>true
 | (e,m,_) :: D=>(decide (e=i) || (av rb (100*e+i) || fV m v)) && gg rb i v D
def fq (c:C):EL→Bool
 | []=>true
 | (_,m,_) :: D=>fV m c && fq c D
def io (D:EL):dI→dI
 | []=>[]
 | (k,c) :: t=>(k,if fq c D=true then c else .any) :: io D t
def ge (rb:List Nat) (S:Nat→Bool) (D:EL) (t:dI):Nat→List AO→List C→dI
 | i,o :: os,v :: vs=>match o.dst with | some d=>(d,if (S i && gg rb i v D)=true then v else .any) :: ge rb S D t (i+1) os vs | none=>ge rb S D t (i+1) os vs
 | _,_,_=>io D t
def hJ (rb:List Nat) (D:EL) (t:dI):Nat→List AO→List C→dI
 | i,o :: os,v :: vs=>match o.dst with | some d=>(d,if gg rb i v D=true then v else .any) :: hJ rb D t (i+1) os vs | none=>hJ rb D t (i+1) os vs
 | _,_,_=>io D t
theorem nD : ∀ D,fq .any D=true
 | []=>rfl
 | (_,_,_) :: D=>by simp [fq,fV,nD D]
theorem lj (D:EL) (x:Nat):∀ t:dI,gt (io D t) x=if fq (gt t x) D=true then gt t x else .any
 | []=>by
  have:gt [] x=.any:=rfl
  rw [this,nD,if_pos rfl]; rfl
 | (j,c) :: t=>by
  by_cases h:j=x
  · subst h
    have e:gt ((j,c) :: t) j=c:=by simp [gt,lk]
    have e2:gt (io D ((j,c) :: t)) j=if fq c D=true then c else .any:=by simp [io,gt,lk]
    rw [e,e2]
  · have e:gt ((j,c) :: t) x=gt t x:=by simp [gt,lk,h]
    have e2:gt (io D ((j,c) :: t)) x=gt (io D t) x:=by simp [io,gt,lk,h]
    rw [e,e2]
    exact lj D x t
theorem nt (rb:List Nat) (D:EL) (t:dI) (S:Nat→Bool):∀ (os:List AO) (vs:List C) (i:Nat),(∀ j,j < os.length→S (i+j)=true)→ge rb S D t i os vs=hJ rb D t i os vs
 | [],_,_,_=>by simp [ge,hJ]
 | _ :: _,[],_,_=>by simp [ge,hJ]
 | o :: os,v :: vs,i,h=>by
  have ih:=nt rb D t S os vs (i+1) (fun j hj=>by rw [show i+1+j=i+(j+1) by omega]; exact h (j+1) (by simpa using hj))
  have h0:=h 0 (by simp)
  rw [Nat.add_zero] at h0
  cases hd:o.dst <;> simp [ge,hJ,hd,h0,ih]
theorem iz (rb:List Nat) (D:EL) (t:dI) (S:Nat→Bool) (x:Nat):∀ (os:List AO) (vs:List C) (i:Nat),os.length=vs.length→(os.filterMap (·.dst)).Nodup →
 (∃ j o v,os[j]? = some o∧vs[j]? = some v∧o.dst=some x∧gt (ge rb S D t i os vs) x=if (S (i+j) && gg rb (i+j) v D)=true then v else .any)∨((∀ o∈os,o.dst≠some x)∧gt (ge rb S D t i os vs) x=gt (io D t) x)
 | [],[],i,_,_=>.inr ⟨by simp,by simp [ge]⟩
 | o :: os,v :: vs,i,hl,hn=>by
  have hn':(os.filterMap (·.dst)).Nodup:=by
   cases hd:o.dst with
   | none=>simpa [hd] using hn
   | some d=>simp [hd] at hn; exact hn.2
  by_cases hd:o.dst=some x
  · exact .inl ⟨0,o,v,rfl,rfl,hd,by simp [ge,hd,gt,lk]⟩
  · have e:gt (ge rb S D t i (o :: os) (v :: vs)) x=gt (ge rb S D t (i+1) os vs) x:=by
     cases hd2:o.dst with
     | none=>simp [ge,hd2]
     | some d=>
      have hne:d≠x:=fun e=>hd (by rw [hd2,e])
      simp [ge,hd2,gt,lk,hne]
    rcases iz rb D t S x os vs (i+1) (by simpa using hl) hn' with ⟨j,o',v',h1,h2,h3,h4⟩ | ⟨h1,h2⟩
    · exact .inl ⟨j+1,o',v',by simpa using h1,by simpa using h2,h3,by rw [e,h4,show i+1+j=i+(j+1) by omega]⟩
    · refine .inr ⟨fun q hq=>?_,by rw [e,h2]⟩
      rcases List.mem_cons.1 hq with rfl | hq
      · exact hd
      · exact h1 q hq
def fU : EL→Chs→Chs
 | [],h=>h
 | (_,_,h1) :: l,_=>fU l h1
def jn (rb:List Nat) (j:Nat) (D:EL):EL→Chs→(EL→Chs→Prop)→Prop
 | [],h,K=>K D h
 | (e,m,h1) :: l,h,K=>if e=j then K D h else (if av rb (100*e+j)=true then True else K D h)∧(if av rb (100*j+e)=true then True else jn rb j (D++[(e,m,h1)]) l h1 K)
def kD (j:Nat):EL→Chs→List (Nat×Sb)×Chs
 | [],h=>([],h)
 | (e,m,h1) :: l,h=>if e=j then (m,h1) else kD j l h
def finM (q:List (Nat×Sb)×Chs) (v:C) (pre:List (Nat×Sb)) (tk:Bool) (e2:Eff):Prop:=e2.cond∧e2.v=v∧e2.ch=q.2∧(match tk with | true=>aZ pre e2.sub | false=>e2.sub)=q.1
def mD (q:List (Nat×Sb)×Chs) (v:C) (pre:List (Nat×Sb)) (tk:Bool):Md→Prop
 | .cal (.eff e2)=>finM q v pre tk e2
 | _=>False
def qw (P:Program) [Glob P] (L:List (Ent P)) (q:List (Nat×Sb)×Chs) (o:AO) (v:C) (pre:List (Nat×Sb)) (s1:ASt):Option Eff→Prop
 | some e2=>finM q v pre true e2
 | none=>mD q v pre true (aF L (aq P s1.t) s1.ch (o.dst.getD 0) o.op)
def qv (P:Program) [Glob P] (L:List (Ent P)) (t:dI) (h:Chs) (q:List (Nat×Sb)×Chs) (o:AO) (v:C) (s kk:Nat):Option (Prop×Nat×TypeId×List (List C))→Option Chs→Prop
 | some (p,m,ty,es),some ch'=>p∧s < 100000∧kk≠s∧kE s o.op∧qw P L q o v [(s,.c .any),(kk,.inner)] (aR s kk m ty es ch' ⟨t,h⟩) (ai (aq P (aR s kk m ty es ch' ⟨t,h⟩).t) (aR s kk m ty es ch' ⟨t,h⟩).ch (o.dst.getD 0) o.op)
 | _,_=>False
def oz (P:Program) [Glob P] (L:List (Ent P)) (t:dI) (h:Chs) (q:List (Nat×Sb)×Chs) (o:AO) (v:C):Option (Nat×Nat×Nat)→Prop
 | none=>mD q v [] false (aF L (aq P t) h (o.dst.getD 0) o.op)
 | some (s,kk,j)=>qv P L t h q o v s kk (aM h kk j) (aL h kk j)
def reM2 (P:Program) [Glob P] (L:List (Ent P)) (t:dI) (h:Chs) (q:List (Nat×Sb)×Chs) (o:AO) (v:C):Option Eff→Prop
 | some e2=>finM q v [] false e2
 | none=>oz P L t h q o v (cg L (aq P t) o.op)
def ops2 (P:Program) [Glob P] (L:List (Ent P)) (rb:List Nat) (t:dI) (all:List AO) (vall:List C) (E:EL) (h0:Chs):Nat→List AO→List C→Prop
 | j,o :: os,v :: vs=>jn rb j [] E h0 (fun D h=>reM2 P L (hJ rb D t 0 all vall) h (kD j E h) o v (ai (aq P (hJ rb D t 0 all vall)) h (o.dst.getD 0) o.op))∧ops2 P L rb t all vall E h0 (j+1) os vs
 | _,[],[]=>True
 | _,_,_=>False
def ndE2 : EL→Prop
 | []=>True
 | (_,_,h) :: l=>an (ag h)∧ndE2 l
theorem mQ {rb:List Nat} {S:Nat→Bool} {j:Nat} {K:EL→Chs→Prop} (hj:S j=false) (hp:∀ c∈rb,c % 100=j→S (c / 100)=true) (hs:lJ rb S) (hj1:j < 100):∀ {E D:EL} {h:Chs},(∀ q∈E,q.1 < 100)→jn rb j D E h K→K (D++dY S E) (fU (dY S E) h)
 | [],D,h,_,hc=>by simpa [dY,fU,jn] using hc
 | (e,m,h1) :: l,D,h,hE,hc=>by
  have he:e < 100:=hE (e,m,h1) List.mem_cons_self
  simp only [jn] at hc
  simp only [dY]
  by_cases hej:e=j
  · subst hej
    rw [if_pos rfl] at hc
    rw [if_neg (by rw [hj]; simp)]; simpa [fU] using hc
  rw [if_neg hej] at hc
  by_cases hse:S e=true
  · rw [if_pos hse]
    have hno:¬ av rb (100*j+e)=true:=fun hm=>by
     have:=hs _ (i7.1 hm)
     rw [show (100*j+e) % 100=e by omega,show (100*j+e) / 100=j by omega] at this
     rw [this hse] at hj; cases hj
    rw [if_neg hno] at hc
    have:=mQ hj hp hs hj1 (fun q hq=>hE q (List.mem_cons_of_mem _ hq)) hc.2
    simpa [fU] using this
  · rw [if_neg hse]
    have hno:¬ av rb (100*e+j)=true:=fun hm=>by
     have:=hp _ (i7.1 hm) (by omega)
     rw [show (100*e+j) / 100=e by omega] at this
     exact hse this
    rw [if_neg hno] at hc
    simpa [fU] using hc.1
theorem sF {L:List (Ent P)} {rb:List Nat} {t:dI} {all:List AO} {vall:List C} {E:EL} {h0:Chs}:∀ {os:List AO} {vs:List C} {i:Nat},ops2 P L rb t all vall E h0 i os vs→os.length=vs.length∧∀ (j:Nat) o,os[j]? = some o→∃ v,vs[j]? = some v∧jn rb (i+j) [] E h0 (fun D h=>reM2 P L (hJ rb D t 0 all vall) h (kD (i+j) E h) o v (ai (aq P (hJ rb D t 0 all vall)) h (o.dst.getD 0) o.op))
 | [],[],i,_=>⟨rfl,fun j o h=>by simp at h⟩
 | o :: os,v :: vs,i,h=>by
  obtain ⟨h1,h2⟩:=h
  obtain ⟨g1,g2⟩:=sF h2
  refine ⟨by simp [g1],fun j q hq=>?_⟩
  cases j with
  | zero=>
   simp only [List.getElem?_cons_zero,Option.some.injEq] at hq
   subst hq
   exact ⟨v,rfl,h1⟩
  | succ j=>
   obtain ⟨v',e1,e2⟩:=g2 j q (by simpa using hq)
   exact ⟨v',by simpa using e1,by rw [show i+(j+1)=i+1+j by omega]; exact e2⟩
 | [],_ :: _,_,h=>by cases h
 | _ :: _,[],_,h=>by cases h
theorem uZ {L:List (Ent P)} {t:dI} {h:Chs} {q:List (Nat×Sb)×Chs} {o:AO} {v:C} (hg:o.guard=none) (hr:reM2 P L t h q o v (ai (aq P t) h (o.dst.getD 0) o.op)):∃ ef2,StepE P o ⟨t,h⟩ ef2∧ef2.v=v∧ef2.ch=q.2∧ef2.sub=q.1:=by
 cases hq:ai (aq P t) h (o.dst.getD 0) o.op with
 | some e2=>
  rw [hq] at hr
  obtain ⟨h2,h3,h4,h5⟩:=hr
  exact ⟨e2,.yes e2 (by rw [hg]; rfl) (.f hq h2),h3,h4,h5⟩
 | none=>
  rw [hq] at hr
  simp only [reM2] at hr
  cases htk:cg L (aq P t) o.op with
  | none=>
   rw [htk] at hr
   simp only [oz] at hr
   unfold mD at hr
   split at hr
   · rename_i e2 hm
     obtain ⟨h2,h3,h4,h5⟩:=hr
     have hop:OpR P (aq P t) h (o.dst.getD 0) o.op ⟨True,e2.v,e2.ch,e2.sub⟩:=jt hm h2
     exact ⟨⟨True,e2.v,e2.ch,e2.sub⟩,.yes _ (by rw [hg]; rfl) hop,h3,h4,h5⟩
   · cases hr
  | some w=>
   obtain ⟨s,kk,j⟩:=w
   rw [htk] at hr
   have hin:=nx htk
   simp only [oz] at hr
   unfold qv at hr
   split at hr
   · rename_i p m ty es ch' e1 e2
     obtain ⟨g1,g2,g3,g4,g5⟩:=hr
     have step:∀ ef:Eff,OpR P (aq P (aR s kk m ty es ch' ⟨t,h⟩).t) (aR s kk m ty es ch' ⟨t,h⟩).ch (o.dst.getD 0) o.op ⟨True,ef.v,ef.ch,ef.sub⟩→finM q v [(s,.c .any),(kk,.inner)] true ef→∃ ef2,StepE P o ⟨t,h⟩ ef2∧ef2.v=v∧ef2.ch=q.2∧ef2.sub=q.1:=fun ef hop hf=>by
      obtain ⟨h2,h3,h4,h5⟩:=hf
      have:=nn (st:=⟨t,h⟩) (d:=o.dst.getD 0) (op:=o.op) (ef:=⟨True,ef.v,ef.ch,ef.sub⟩) g2 g1 g3 g4 hin e1 e2 hop
      exact ⟨_,.yes _ (by rw [hg]; rfl) this,h3,h4,h5⟩
     cases hq2:ai (aq P (aR s kk m ty es ch' ⟨t,h⟩).t) (aR s kk m ty es ch' ⟨t,h⟩).ch (o.dst.getD 0) o.op with
     | some ef=>
      rw [hq2] at g5
      exact step ef (.f' hq2 g5.1) g5
     | none=>
      rw [hq2] at g5
      simp only [qw] at g5
      unfold mD at g5
      split at g5
      · rename_i ef hm
        exact step ef (jt hm g5.1) g5
      · cases g5
   · cases hr
theorem ry : ∀ {E:EL} {h:Chs} (S:Nat→Bool),an (ag h)→ndE2 E→((fU (dY S E) h).map (·.1)).Nodup
 | [],h,S,h0,_=>by simp only [dY,fU]; rw [← dU]; exact d8 h0
 | (e,m,h1) :: l,h,S,h0,hn=>by
  simp only [dY]
  split
  · simp only [fU]; exact ry S hn.1 hn.2
  · simp only [fU]; rw [← dU]; exact d8 h0
theorem lg {S:Nat→Bool} {j:Nat}:∀ {E:EL},j∉ixE E→dY (fun i=>i == j || S i) E=dY S E
 | [],_=>rfl
 | (e,m,h1) :: l,hn=>by
  simp only [ixE,List.mem_cons,not_or] at hn
  have hb:(e == j)=false:=by simp; exact fun q=>hn.1 q.symm
  simp only [dY,hb,Bool.false_or]
  split
  · rw [lg hn.2]
  · rfl
theorem rK {j:Nat}:∀ {E:EL} {h:Chs},j∉ixE E→kD j E h=([],h)
 | [],h,_=>rfl
 | (e,m,h1) :: l,h,hn=>by
  simp only [ixE,List.mem_cons,not_or] at hn
  simp only [kD]
  rw [if_neg (fun q=>hn.1 q.symm)]
  exact rK hn.2
theorem ol : ∀ E:EL,ixE E=E.map (·.1)
 | []=>rfl
 | (e,m,h) :: l=>by simp [ixE,ol l]
theorem nc {S:Nat→Bool} {E:EL} (h:∀ q,E.head? = some q→S q.1=false):dY S E=[]:=by
 cases E with
 | nil=>rfl
 | cons q l=>simp only [dY]; rw [if_neg (by rw [h q rfl]; simp)]
end Go.Am
end
