/- Part 7 of the proof of: the statements about chapter 8 -/
import Derived.WideShapes
import Derived.ChangeArms
import Derived.OpenShut
import Derived.Below
import Derived.LaidLaws
import Derived.Lib.LaidTab
import Derived.Stop.LaidErr
import Derived.Test.YtcbabnbiinkafaaGreatDoorBn6
set_option linter.all false
section
namespace Go.Am
open Dat (cells)
variable {P : Program} [Glob P]
def YAt (P:Program) [Glob P] (l:Nat) (xs:List C) (R:Res) (Rt:Option Res) (Rf:Res):Prop:=
 ∀ (E:Env) (U F:Nat→Prop) (w:World) (vs:Array Value),eW P U w.heap→jC E U w.heap xs vs→R.φ F U w.heap→(∀ b,F b→¬ U b)→(∀ b,F b→b < w.heap.size)→(∀ b,U b→b < w.heap.size) →
  ∃ fn tmps assign body,(Instr.yield l vs).run P w=.ok (.round l fn tmps assign body) w ∧
   ∀ ro,RoundIn (FW ro) 0 P l fn tmps assign body w fun e w'=>∃ (b:Bool) (F' U':Nat→Prop),e=.returned (.bool b) ∧
    (match b with | true=>∃ R',Rt=some R'∧R'.φ F' U' w'.heap | false=>Rf.φ F' U' w'.heap)∧Moved U F w U' F' w'
def cp (ch:Chs) (kr:Nat) (b:Bool) (R:Res):Eff:=⟨True,.s (.bool b),(kr,.res R) :: ae [(kr,.inner)] (af ch kr),[(kr,.inner)]⟩
def cd (ch:Chs) (kr:Nat) (Rt:Option Res) (Rf:Res):List Eff:=
 match Rt with
 | some R=>[cp ch kr true R,cp ch kr false Rf]
 | none=>[cp ch kr false Rf]
theorem Ev.res {E:Env} {U F' U':Nat→Prop} {w w':World} {ch:Chs} {kr:Nat} {R R':Res} (hi:Inv E U w.heap ch) (hl:lk ch kr=some (.res R)) (hm:Moved U (E kr).fp w U' F' w') (hφ:R'.φ F' U' w'.heap) (d:Nat) :
 Ev E U w ch [(kr,.inner)] d (dN E kr { E kr with fp:=F' }) U' w' ((kr,.res R') :: ae [(kr,.inner)] (af ch kr)):=by
 have hkm:=dG hl
 have hd:∀ c,(kr,c)∉af ch kr:=fun c=>dZ hi.nd
 have hmem:∀ k' c,(k',c)∈af ch kr→(k',c)∈ch∧k'≠kr:=fun k' c h=>⟨eK h,fun e=>hd c (e ▸ h)⟩
 have henv:∀ k',[(kr,Sb.inner)].lookup k'=none→dN E kr { E kr with fp:=F' } k'=E k':=fun k' h=>by
  rw [fk] at h
  split at h
  · cases h
  · exact d0 E _ (by assumption)
 have henvI:∀ k',[(kr,Sb.inner)].lookup k'=some .inner→(dN E kr { E kr with fp:=F' } k').toKE0=(E k').toKE0:=fun k' h=>by
  rw [fk] at h
  split at h
  · have e:k'=kr:=by assumption
    subst e; rw [updE_same]
  · cases h
 have hsub:∀ k' c',[(kr,Sb.inner)].lookup k'=some (.c c')→∀ v,Rep E U w.heap (.own k') v→Rep (dN E kr { E kr with fp:=F' }) U' w'.heap c' v:=fun k' c' h=>by
  rw [fk] at h; split at h <;> cases h
 refine Ev.gen (news:=[(kr,.res R')]) (old:=af ch kr) hi hm.os hm.tape hm.output hm.size (eu ch kr) hm.keep henv henvI hsub (fun k' c h=>d0 E _ (hmem k' c h).2)
  (fun k' c h b hb=>hm.rest b (hi.fpl k' c (hmem k' c h).1 b hb) (fun hb'=>hi.sep k' c kr _ (hmem k' c h).1 hkm (hmem k' c h).2 b hb hb')) (fun b hb1 hb2=>hm.rest b hb1 (hb2 kr _ hkm)) (by simp) (fun k' c h=>?_) (fun k' c h=>?_) (fun k' c h b hb=>?_) (fun k' c h b hb=>?_)
  (fun k1 x1 k2 x2 h1 h2 hne=>?_) (fun b hb=>?_) (fun k' c h b hb=>?_) hm.lt (fun k' cs h=>?_)
 · simp only [List.mem_singleton,Prod.mk.injEq] at h; obtain ⟨rfl,rfl⟩:=h; exact hd
 · simp only [List.mem_singleton,Prod.mk.injEq] at h; obtain ⟨rfl,rfl⟩:=h; simp only [dM,updE_same]; exact hφ
 · simp only [List.mem_singleton,Prod.mk.injEq] at h; obtain ⟨rfl,rfl⟩:=h; rw [updE_same] at hb
   rcases hm.live b hb with g | g
   · exact .inl g
   · exact .inr ⟨_,_,hkm,hd,g⟩
 · simp only [List.mem_singleton,Prod.mk.injEq] at h; obtain ⟨rfl,rfl⟩:=h; rw [updE_same] at hb; exact hm.fpl b hb
 · simp only [List.mem_singleton,Prod.mk.injEq] at h1 h2; exact absurd (h1.1.trans h2.1.symm) hne
 · rcases hm.newU b hb with g | g | g
   · exact .inl g
   · exact .inr (.inl g)
   · exact .inr (.inr ⟨_,_,hkm,hd,g⟩)
 · simp only [List.mem_singleton,Prod.mk.injEq] at h; obtain ⟨rfl,rfl⟩:=h; rw [updE_same] at hb; exact hm.out b hb
 · simp only [List.mem_singleton,Prod.mk.injEq] at h; exact absurd h.2 (by simp)
theorem OpM.yield {ro:Option Nat} {ρ:Operand→C} {ch:Chs} {d l kr:Nat} {xs:List C} {R Rf:Res} {Rt:Option Res} {fo:Operand} {aS:List Operand} (hfo:ρ fo=.s (.func (.yield l) #[] #[])) (hxs:aS.map ρ=xs) (hl:lk ch kr=some (.res R)) (hy:YAt P l xs R Rt Rf) :
 OpM P ro ρ ch d (.call fo aS) (fun ef=>ef∈cd ch kr Rt Rf):=by
 intro own o a E U w hc hi hg hρ K Q hK
 obtain ⟨args,ts,ho,ha⟩:=iL hc
 subst ha
 have hev:a.eval fo=.func (.yield l) #[] #[]:=dJ (hfo ▸ hρ fo (by simp [AOp.reads]))
 have hargs:jC E U w.heap xs (args.map a.eval):=by
  subst hxs
  refine ⟨by simp,fun j c hj=>?_⟩
  simp only [List.getElem?_map,Option.map_eq_some_iff,Array.getElem?_toList] at hj
  obtain ⟨x,hx,rfl⟩:=hj
  rw [eA (v:=a.eval x) (by simp [hx])]
  exact hρ x (by simp only [AOp.reads]; exact List.mem_cons_of_mem _ (by simpa using Array.mem_of_getElem? hx))
 have hkm:=dG hl
 obtain ⟨fn,tmps,assign,body,hrun,hround⟩:=hy E U (E kr).fp w (args.map a.eval) hg hargs (hi.ok kr _ hkm) (hi.out kr _ hkm) (hi.fpl kr _ hkm) hi.lt
 have hrun2:(execOp a.eval o).run P w=.ok (.round l fn tmps assign body) w:=by
  simp only [execOp,ho,resolve,hev,Deferred.ofValue,Sem.run_bind,Sem.run_pure,Result.andThen_ok,invoke]
  simpa using hrun
 refine ⟨fun _ _=>trivial,?_⟩
 rw [Oper.semAt_eq _ _ _ (by rw [ho]; simp),hrun2,Oper.uponIn_round]
 refine ⟨fun h=>by simp [FW,Fence.wide] at h,(hround ro).mono fun e w' h=>?_⟩
 obtain ⟨b,F',U',rfl,hb,hm⟩:=h
 show K (a.put o.dst (.bool b)) w'
 cases b with
 | true=>
  obtain ⟨R',rfl,hφ⟩:=hb
  exact hK (cp ch kr true R') (by simp [cd]) _ _ _ _ (.d (.s _)) (Ev.res hi hl hm hφ d)
 | false=>
  exact hK (cp ch kr false Rf) (by unfold cd; cases Rt <;> simp) _ _ _ _ (.d (.s _)) (Ev.res hi hl hm hb d)
def ax (bx:List Nat):C→Bool
 | .own _ | .inn _ _ | .eptr _ _ _ | .iptr _ _ _ _=>false
 | .ptr k _=>av bx k
 | .agg cs=>ptrOnlys bx cs
 | .tup cs=>ptrOnlys bx cs
 | .fn _ xs ys=>ptrOnlys bx xs && ptrOnlys bx ys
 | _=>true
where ptrOnlys (bx:List Nat):List C→Bool
 | []=>true
 | c :: cs=>ax bx c && ptrOnlys bx cs
theorem gR {bx:List Nat}:∀ {cs:List C},ax.ptrOnlys bx cs=true→∀ c∈cs,ax bx c=true
 | [],_,c,h=>by simp at h
 | x :: cs,h,c,hc=>by
  simp only [ax.ptrOnlys,Bool.and_eq_true] at h
  rcases List.mem_cons.1 hc with e | e
  · rw [e]; exact h.1
  · exact gR h.2 c e
theorem Rep.fixed {E E':Env} {U:Nat→Prop} {h:Array Obj} {c:C} {v:Value} {bx:List Nat} (hr:Rep E U h c v) (hk:ax bx c=true) (he:∀ k∈bx,(E' k).toKE0=(E k).toKE0):Rep E' U h c v:=by
 induction hr with
 | d hd=>exact .d hd
 | ref cs b off arr ty fz vf hU hb hv hr=>exact .ref cs b off arr ty fz vf hU hb hv hr
 | agg cs vs hl hr h1 ih=>exact .agg cs vs hl (fun j c hj=>ih j c hj (gR (by simpa only [ax] using hk) c (List.mem_of_getElem? hj))) h1
 | tup cs vs hl hr ih=>exact .tup cs vs hl (fun j c hj=>ih j c hj (gR (by simpa only [ax] using hk) c (List.mem_of_getElem? hj)))
 | fn f xs ys vs ws hl hr hl' hr' ih ih'=>
  simp only [ax,Bool.and_eq_true] at hk
  exact .fn f xs ys vs ws hl (fun j c hj=>ih j c hj (gR hk.1 c (List.mem_of_getElem? hj))) hl' (fun j c hj=>ih' j c hj (gR hk.2 c (List.mem_of_getElem? hj)))
 | own k=>simp [ax] at hk
 | ptr k off=>simp only [ax] at hk; rw [← he k (eB.1 hk)]; exact .ptr k off
 | eptr k i j=>simp [ax] at hk
 | inn k i=>simp [ax] at hk
 | iptr k i n j=>simp [ax] at hk
def bn (bx:List Nat):dI→dI
 | []=>[]
 | (i,c) :: t=>(i,match ax bx c with | true=>c | false=>.any) :: bn bx t
theorem my (bx:List Nat):∀ (t:dI) (i:Nat),gt (bn bx t) i=.any∨(gt (bn bx t) i=gt t i∧ax bx (gt t i)=true)
 | [],i=>.inl rfl
 | (j,c) :: t,i=>by
  have ih:=my bx t i
  simp only [gt,bn,lk] at ih ⊢
  by_cases hj:j=i
  · rw [if_pos hj,if_pos hj]
    cases hp:ax bx c with
    | true=>exact .inr ⟨rfl,hp⟩
    | false=>exact .inl rfl
  · rw [if_neg hj,if_neg hj]; exact ih
def bQ : List Nat→Chs→Prop
 | [],_=>True
 | k :: ks,ch=>(match lk ch k with | some (.box _)=>True | _=>False)∧bQ ks ch
def bh (bx:List Nat):Chs→Prop
 | []=>True
 | (k,.box _) :: r=>(k < 100000∨av bx k=true)∧bh bx r
 | (_,.row _ _ _) :: r=>bh bx r
 | (_,.deep _ _ _ _ _) :: r=>bh bx r
 | (_,.res _) :: r=>bh bx r
theorem jQ : ∀ {bx:List Nat} {ch:Chs},bQ bx ch→∀ k∈bx,∃ cs,(k,.box cs)∈ch
 | [],_,_,k,h=>by simp at h
 | j :: ks,ch,h,k,hk=>by
  rcases List.mem_cons.1 hk with e | e
  · subst e
    have h1:=h.1
    cases hl:lk ch k with
    | none=>rw [hl] at h1; exact h1.elim
    | some c=>
     rw [hl] at h1
     cases c with
     | box cs=>exact ⟨cs,dG hl⟩
     | _=>exact h1.elim
  · exact jQ h.2 k e
theorem ky {bx:List Nat}:∀ {ch:Chs},bh bx ch→∀ k cs,(k,.box cs)∈ch→100000≤k→k∈bx
 | [],_,k,cs,h,_=>by simp at h
 | (j,c0) :: r,h,k,cs,hm,hk=>by
  rcases List.mem_cons.1 hm with e | e
  · cases e
    rcases h.1 with g | g
    · omega
    · exact eB.1 g
  · have hr:bh bx r:=by cases c0 <;> first | exact h | exact h.2
    exact ky hr k cs e hk
def bP (bx:List Nat) (ch:Chs):Prop:=bQ bx ch∧bh bx ch
def j9 (Eb:Env) (l D:Nat) (rec:Loop) (bx:List Nat) (tB:dI) (tmps:Array Value) (ch:Chs):Res where
 φ F U h:=∃ Ec:Env,(∀ k c,(k,c)∈ch→dM Ec U h k c)∧(∀ k c k' c',(k,c)∈ch→(k',c')∈ch→k≠k'→∀ b,(Ec k).fp b→¬ (Ec k').fp b) ∧
  (∀ k c,(k,c)∈ch→∀ b,(Ec k).fp b→F b∧b≠l∧b≠D)∧F l∧F D∧(∀ k∈bx,(Ec k).toKE0=(Eb k).toKE0) ∧
  h[l]? = some (.loop rec)∧h[D]? = some (.deferred (some []))∧(∀ j,Rep Eb U h (gt tB j) (tmps.getD j undef))
 mono:=by
  intro F U U' h h' ⟨Ec,h1,h2,h3,h4,h5,h6,h7,h8,h9⟩ hU hF
  exact ⟨Ec,fun k c hm=>(h1 k c hm).same hU (fun b hb=>hF b (h3 k c hm b hb).1),h2,h3,h4,h5,h6,(hF l h4).trans h7,(hF D h5).trans h8,fun j=>(h9 j).same hU⟩
def bT (P:Program) [Glob P] (cx:Cx) (Q:ASt→Prop) (k:List It) (t0:dI):Code→Chs→Prop
 | .exit id,ch=>
  match aJ id k with
  | .cont k'=>SG P cx Q k' ⟨t0,ch⟩
  | .out p=>p ⟨t0,ch⟩
  | .none=>False
 | .ret,ch=>bv Q k ⟨t0,ch⟩
 | _,_=>False
def ua (J:Code→Chs→Prop) (Eb:Env) (l D:Nat) (rec:Option Code→Loop) (bx:List Nat) (tB:dI) (tmps:Array Value):Res where
 φ F U h:=∃ jump ch,(ch.map (·.1)).Nodup∧bP bx ch∧J jump ch∧(j9 Eb l D (rec (some jump)) bx tB tmps ch).φ F U h
 mono:=by
  rintro F U U' h h' ⟨jump,ch,h1,h2,h3,h4⟩ hU hF
  exact ⟨jump,ch,h1,h2,h3,(j9 Eb l D (rec (some jump)) bx tB tmps ch).mono F U U' h h' h4 hU hF⟩
def ItC (P:Program) [Glob P] (f:FuncId) (first caps:List C) (ich:Chs) (kr:Nat) (vals:Nat→List C) (N:Nat) (fin:Bool):Prop:=
 ∀ (l:Nat) (R:Nat→Res) (Rf:Res),(∀ i,i < N→YAt P l (vals i) (R i) (if i+1 < N∨fin=true then some (R (i+1)) else none) Rf) →
  FCo P f (first++[.s (.func (.yield l) #[] #[])]++caps) ((kr,.res (R 0)) :: ich) ((.any,[(kr,.res Rf)]) :: if fin=true then [(.any,[(kr,.res (R N))])] else [])
theorem Holds.busy {cx:Cx} {E:Env} {U:Nat→Prop} {a:Act} {w:World} {s:ASt} {l D:Nat} {o oD o':Obj} (hh:Holds P cx E U a w s) (hc:cx.hid=[(l,o),(D,oD)]) (hlD:l≠D) (hl:l < cx.w0.heap.size) :
 Holds P { cx with w0:=cx.w0.putObj l o',hid:=[(l,o'),(D,oD)] } E U a (w.putObj l o') s:=by
 obtain ⟨q1,q2,q3⟩:=hh.hid (l,o) (by rw [hc]; simp)
 obtain ⟨p1,p2,p3⟩:=hh.hid (D,oD) (by rw [hc]; simp)
 have hne:∀ (w:World) b,b≠l→(w.putObj l o').heap[b]? = w.heap[b]?:=fun w b hb=>World.putObj_heap_other hb
 have hU:∀ b,U b→U b∧(w.putObj l o').heap[b]? = w.heap[b]?:=fun b hb=>⟨hb,hne w b (fun e=>q2 (e ▸ hb))⟩
 have hF:∀ k c,(k,c)∈s.ch→∀ b,(E k).fp b→(w.putObj l o').heap[b]? = w.heap[b]?:=fun k c hm b hb=>hne w b (fun e=>q3 k c hm (e ▸ hb))
 have hlw:l < w.heap.size:=Nat.lt_of_lt_of_le hl hh.size
 have hdf:∃ Ds:List Nat,a.defers=Ds.map gI∧Ds.Nodup∧∀ D∈Ds,(cx.w0.putObj l o').heap.size≤D∧gG E U (w.putObj l o').heap s.ch D (.deferred (some [])):=by
  obtain ⟨Ds,d1,d2,d3⟩:=hh.df
  refine ⟨Ds,d1,d2,fun D hD=>?_⟩
  obtain ⟨e1,e2,e3,e4⟩:=d3 D hD
  exact ⟨by simpa using e1,(hne w D (by omega)).trans e2,e3,e4⟩
 refine ⟨hh.sz,hdf,fun i=>(hh.tok i).same hU,⟨hh.inv.nd,fun k c hm=>(hh.inv.ok k c hm).same hU (hF k c hm),hh.inv.sep,hh.inv.out,fun k c hm b hb=>by rw [World.putObj_size]; exact hh.inv.fpl k c hm b hb,fun b hb=>by rw [World.putObj_size]; exact hh.inv.lt b hb⟩,
  hh.os,hh.tape,hh.output,by simpa using hh.size,fun b hb hx=>?_,fun b hb=>⟨(hh.keepA b hb).1,?_⟩,fun k c hm b hb=>by simpa using hh.live k c hm b hb,fun b hb=>by simpa using hh.base b hb,hh.fix,fun p hp=>?_,hh.gok.mono hU⟩
 · by_cases hb':b=l
   · subst hb'
     rw [World.putObj_heap_same hlw,World.putObj_heap_same hl]
   · rw [hne w b hb',hne cx.w0 b hb']
     exact hh.fr b (by simpa using hb) hx
 · have hbl:b≠l:=fun e=>q2 (e ▸ (hh.keepA b hb).1)
   rw [hne w b hbl,hne cx.w0 b hbl]; exact (hh.keepA b hb).2
 · simp only [List.mem_cons,List.not_mem_nil,or_false] at hp
   rcases hp with rfl | rfl
   · exact ⟨World.putObj_heap_same hlw,q2,q3⟩
   · exact ⟨(hne w D (Ne.symm hlD)).trans p1,p2,p3⟩
def bG (t:dI):List Nat→List C→dI
 | p :: ps,v :: vs=>bG (am t p v) ps vs
 | _,_=>t
theorem pY {E:Env} {U:Nat→Prop} {h:Array Obj}:∀ {ps:List Nat} {vs:List C} {aS:List Value} {t:dI} {tmps:Array Value},vs.length=ps.length→aS.length=ps.length→(∀ p∈ps,p < tmps.size) →
 (∀ j,Rep E U h (gt t j) (tmps.getD j undef))→(∀ (j:Nat) c v,vs[j]? = some c→aS[j]? = some v→Rep E U h c v) →
 ∀ j,Rep E U h (gt (bG t ps vs) j) (((ps.zip aS).foldl (fun tmps (q:Nat×Value)=>tmps.setIfInBounds q.1 q.2) tmps).getD j undef)
 | [],vs,aS,t,tmps,_,_,_,h0,_,j=>by simp only [bG,List.zip_nil_left,List.foldl_nil]; exact h0 j
 | p :: ps,[],aS,t,tmps,h1,_,_,_,_,j=>by simp at h1
 | p :: ps,v :: vs,[],t,tmps,_,h1,_,_,_,j=>by simp at h1
 | p :: ps,v :: vs,x :: aS,t,tmps,h1,h2,hp,h0,hv,j=>by
  simp only [bG,List.zip_cons_cons,List.foldl_cons]
  refine pY (by simpa using h1) (by simpa using h2) (fun q hq=>by simpa using hp q (List.mem_cons_of_mem _ hq)) (fun i=>?_) (fun i c v hc hx=>hv (i+1) c v (by simpa using hc) (by simpa using hx)) j
  rw [fQ]
  have hpl:=hp p List.mem_cons_self
  by_cases hi:p=i
  · subst hi
    rw [if_pos rfl,eA (v:=x) (by rw [Array.getElem?_setIfInBounds]; simp [hpl])]
    exact hv 0 v x rfl rfl
  · rw [if_neg hi]
    have:(tmps.setIfInBounds p x).getD i undef=tmps.getD i undef:=by simp [Array.getD_eq_getD_getElem?,Array.getElem?_setIfInBounds_ne hi]
    rw [this]; exact h0 i
theorem oh : ∀ (l:List (Nat×Value)) (tmps:Array Value),(l.foldl (fun tmps (q:Nat×Value)=>tmps.setIfInBounds q.1 q.2) tmps).size=tmps.size
 | [],_=>rfl
 | (_,_) :: l,tmps=>by simp [oh l]
theorem vg {cx:Cx} {Eb Ec E2:Env} {U F U2:Nat→Prop} {w w3:World} {l D:Nat} {ob:Obj} {a2:Act} {st2:ASt} {ch0 ch1:Chs} {bx:List Nat} {tB:dI} {tmps:Array Value} (hh:Holds P cx E2 U2 a2 w3 st2)
 (cw:cx.w0=w.putObj l ob) (cA:cx.A0=U) (cX:cx.X=fun b=>∃ k c,(k,c)∈ch0∧(Ec k).fp b) (cE:cx.E0=Eb) (ch:cx.hid=[(l,ob),(D,.deferred (some []))]) (cf:∀ k∈bx,cx.fx k) (hlD:l≠D)
 (hFU:∀ b,F b→¬ U b) (_hFs:∀ b,F b→b < w.heap.size) (hX:∀ k c,(k,c)∈ch0→∀ b,(Ec k).fp b→F b) (hFl:F l) (hFD:F D) (hsub:∀ k c,(k,c)∈ch1→(k,c)∈st2.ch) (hbx:bP bx ch1) (htB:∀ j,Rep Eb U w.heap (gt tB j) (tmps.getD j undef)) (rec:Loop) :
 ∃ F',(j9 Eb l D rec bx tB tmps ch1).φ F' U2 (w3.putObj l (.loop rec)).heap∧Moved U F w U2 F' (w3.putObj l (.loop rec)):=by
 obtain ⟨q1,q2,q3⟩:=hh.hid (l,ob) (by rw [ch]; simp)
 obtain ⟨p1,p2,p3⟩:=hh.hid (D,.deferred (some [])) (by rw [ch]; simp)
 have hl3:=lt_of_getElem? q1
 have hD3:=lt_of_getElem? p1
 have hne:∀ b,b≠l→(w3.putObj l (.loop rec)).heap[b]? = w3.heap[b]?:=fun b hb=>World.putObj_heap_other hb
 have hne0:∀ b,b≠l→cx.w0.heap[b]? = w.heap[b]?:=fun b hb=>by rw [cw]; exact World.putObj_heap_other hb
 have hs0:cx.w0.heap.size=w.heap.size:=by rw [cw]; simp
 have hXF:∀ b,cx.X b→F b:=fun b hb=>by rw [cX] at hb; obtain ⟨k,c,h1,h2⟩:=hb; exact hX k c h1 b h2
 have hkeep:∀ b,U b→U2 b∧(w3.putObj l (.loop rec)).heap[b]? = w.heap[b]?:=fun b hb=>by
  have hbl:b≠l:=fun e=>hFU l hFl (e ▸ hb)
  have h:=hh.keepA b (by rw [cA]; exact hb)
  exact ⟨h.1,(hne b hbl).trans (h.2.trans (hne0 b hbl))⟩
 refine ⟨fun b=>(∃ k c,(k,c)∈ch1∧(E2 k).fp b)∨b=l∨b=D,⟨E2,fun k c hm=>?_,fun k c k' c' hm hm'=>hh.inv.sep k c k' c' (hsub k c hm) (hsub k' c' hm'),fun k c hm b hb=>⟨.inl ⟨k,c,hm,hb⟩,fun e=>q3 k c (hsub k c hm) (e ▸ hb),fun e=>p3 k c (hsub k c hm) (e ▸ hb)⟩,
  .inr (.inl rfl),.inr (.inr rfl),fun k hk=>?_,World.putObj_heap_same hl3,(hne D (Ne.symm hlD)).trans p1,fun j=>(htB j).same hkeep⟩,?_⟩
 · exact (hh.inv.ok k c (hsub k c hm)).same (fun b hb=>⟨hb,hne b (fun e=>q2 (e ▸ hb))⟩) (fun b hb=>hne b (fun e=>q3 k c (hsub k c hm) (e ▸ hb)))
 · obtain ⟨cs,hcs⟩:=jQ hbx.1 k hk
   rw [← cE]; exact hh.fix k cs (cf k hk) (hsub k _ hcs)
 · refine ⟨hh.os.trans (by rw [cw]; rfl),hh.tape.trans (by rw [cw]; rfl),hh.output.trans (by rw [cw]; rfl),by rw [World.putObj_size,← hs0]; exact hh.size,hkeep,fun b hb hF=>?_,fun b hb=>?_,fun b hb=>?_,fun b hb hu=>?_,fun b hb=>?_,fun b hb=>by rw [World.putObj_size]; exact hh.inv.lt b hb⟩
   · have hbl:b≠l:=fun e=>hF (e ▸ hFl)
     exact (hne b hbl).trans ((hh.fr b (by rw [hs0]; exact hb) (fun hx=>hF (hXF b hx))).trans (hne0 b hbl))
   · rcases hb with ⟨k,c,hm,hb⟩ | rfl | rfl
     · rcases hh.live k c (hsub k c hm) b hb with g | g
       · exact .inl (by rw [← hs0]; exact g)
       · exact .inr (hXF b g)
     · exact .inr hFl
     · exact .inr hFD
   · rcases hh.base b hb with g | g | g
     · exact .inl (by rw [← cA]; exact g)
     · exact .inr (.inl (by rw [← hs0]; exact g))
     · exact .inr (.inr (hXF b g))
   · rcases hb with ⟨k,c,hm,hb⟩ | rfl | rfl
     · exact hh.inv.out k c (hsub k c hm) b hb hu
     · exact q2 hu
     · exact p2 hu
   · rw [World.putObj_size]
     rcases hb with ⟨k,c,hm,hb⟩ | rfl | rfl
     · exact hh.inv.fpl k c (hsub k c hm) b hb
     · exact hl3
     · exact hD3
theorem wy {n hi:Nat} (hn:n≤100000) {Eb:Env} {l D:Nat} {fn:FuncId} {tmps:Array Value} {ps:Array Tmp} {x y:Code} {assign body:AC} {bx:List Nat} {tB:dI} {vs:List C} {ch0:Chs} {Rt:Option Res} {J:Code→Chs→Prop} {N':ASt→Prop} {rec:LoopState→Option Code→Loop}
 (hrec:rec=fun s p=>{ state:=s,pending:=p,fn,tmps,params:=ps,assign:=x,body:=y,defers:=D }) (hnd:(ch0.map (·.1)).Nodup) (hbx0:bP bx ch0) (hbig:∀ k∈bx,100000≤k∧k < hi) (hlD:l≠D) (hsz:tmps.size=n) (hps:∀ p∈ps.toList,p < n)
 (hvl:vs.length=ps.toList.length) (hvk:∀ c∈vs,dE [] c) (htp:∀ j,ax bx (gt tB j)=true) (hx:d9 P n assign x=some assign) (hy:d9 P n body y=some body)
 (hrun:∀ cx',cx'.n=n→cx'.hi=hi→SG P cx' (fun _=>False) [.c assign,.post (fun st1=>∀ cx'',cx''.n=n→cx''.hi=hi→SG P cx'' (fun _=>False) [.c body,.rnd N' (fun j st'=>bP bx st'.ch∧J j st'.ch)] st1)] ⟨bG tB ps.toList vs,ch0⟩)
 (hN:∀ st',N' st'→∃ ch1,(ch1.map (·.1)).Nodup∧bP bx ch1∧(∀ k c,(k,c)∈ch1→(k,c)∈st'.ch)∧Rt=some (j9 Eb l D (rec .ready none) bx tB tmps ch1)) :
 YAt P l vs (j9 Eb l D (rec .ready none) bx tB tmps ch0) Rt (ua J Eb l D (fun j=>rec .done j) bx tB tmps):=by
 intro E U F w aS hg ha hφ hFU hFs hUl
 obtain ⟨Ec,h1,h2,h3,h4,h5,h6,h7,h8,h9⟩:=hφ
 have hsa:aS.size=ps.size:=by rw [ha.1,hvl]; simp
 refine ⟨fn,(ps.zip aS).foldl (fun tmps (t,a)=>tmps.setIfInBounds t a) tmps,x,y,?_,fun ro=>?_⟩
 · have:=run_yield (P:=P) (args:=aS) h7 (by rw [hrec]; exact hsa)
   rw [hrec] at this; exact this
 · have htm:(ps.zip aS).foldl (fun tmps (t,a)=>tmps.setIfInBounds t a) tmps=(ps.toList.zip aS.toList).foldl (fun tmps (q:Nat×Value)=>tmps.setIfInBounds q.1 q.2) tmps:=by
    rw [← Array.foldl_toList,Array.toList_zip]
   rw [htm]
   generalize htm2:(ps.toList.zip aS.toList).foldl (fun tmps (q:Nat×Value)=>tmps.setIfInBounds q.1 q.2) tmps=tm
   have htz:tm.size=n:=by rw [← htm2,oh]; exact hsz
   let cx1:Cx:={ n:=n,A0:=U,w0:=w,X:=fun b=>∃ k c,(k,c)∈ch0∧(Ec k).fp b,E0:=Eb,hn:=hn,ro:=some l,hid:=[(l,.loop (rec .ready none)),(D,.deferred (some []))],lo:=100000,hi:=hi,hlo:=Nat.le_refl _ }
   have hlw:=hFs l h4
   have hslots:∀ j,Rep Ec U w.heap (gt tB j) (tmps.getD j undef):=fun j=>(h9 j).fixed (htp j) h6
   have hh1:Holds P cx1 Ec U { tmps:=tm,defers:=[] } w ⟨bG tB ps.toList vs,ch0⟩:=by
    refine ⟨htz,⟨[],rfl,.nil,fun D hD=>by simp at hD⟩,fun j=>?_,⟨hnd,h1,h2,fun k c hm b hb=>hFU b (h3 k c hm b hb).1,fun k c hm b hb=>hFs b (h3 k c hm b hb).1,hUl⟩,rfl,rfl,rfl,Nat.le_refl _,fun _ _ _=>rfl,fun b hb=>⟨hb,rfl⟩,fun k c hm b hb=>.inr ⟨k,c,hm,hb⟩,fun b hb=>.inl hb,
     fun k cs hk hm=>h6 k (ky hbx0.2 k cs hm (Cx.fx_ge hk)),fun p hp=>?_,hg⟩
    · rw [← htm2]
      exact pY (E:=Ec) hvl (by simpa using hsa) (fun p hp=>by rw [hsz]; exact hps p hp) hslots (fun i c v hc hv=>by
       have:=ha.2 i c hc
       rw [eA (v:=v) (by simpa using hv)] at this
       exact this.env (hvk c (List.mem_of_getElem? hc)) (fun k hk=>by simp at hk)) j
    · simp only [cx1,List.mem_cons,List.not_mem_nil,or_false] at hp
      rcases hp with rfl | rfl
      · exact ⟨h7,hFU l h4,fun k c hm hb=>(h3 k c hm l hb).2.1 rfl⟩
      · exact ⟨h8,hFU D h5,fun k c hm hb=>(h3 k c hm D hb).2.2 rfl⟩
   refine roundIn_of_wpIn (F:=FW ro) (n:=0) trivial (wpIn_mono (hrun cx1 rfl rfl Ec U _ w hh1 x hx) (fun e a1 w1 he=>?_))
   cases e with
   | normal=>
    obtain ⟨E1,U1,st1,g1,g2⟩:=he
    obtain ⟨q1,_⟩:=g1.hid (l,.loop (rec .ready none)) (by simp [cx1])
    refine ⟨_,run_beginRound q1 (by rw [hrec]),?_⟩
    have hh2:=g1.busy (o':=.loop { rec .ready none with state:=.busy }) rfl hlD hlw
    refine wpIn_mono (g2 _ rfl rfl E1 U1 a1 _ hh2 y hy) (fun e a2 w3 he=>?_)
    have fin:∀ (jump:Option Code) (E2:Env) (U2:Nat→Prop) (st2:ASt) (ch1:Chs),Holds P { cx1 with w0:=w.putObj l (.loop { rec .ready none with state:=.busy }),hid:=[(l,.loop { rec .ready none with state:=.busy }),(D,.deferred (some []))] } E2 U2 a2 w3 st2 →
     (∀ k c,(k,c)∈ch1→(k,c)∈st2.ch)→bP bx ch1→(Instr.endRound l jump).run P w3=.ok (.bool jump.isNone) (w3.putObj l (.loop (rec (if jump.isNone then .ready else .done) jump))) ∧
     ∃ F',(j9 Eb l D (rec (if jump.isNone then .ready else .done) jump) bx tB tmps ch1).φ F' U2 (w3.putObj l (.loop (rec (if jump.isNone then .ready else .done) jump))).heap∧Moved U F w U2 F' (w3.putObj l (.loop (rec (if jump.isNone then .ready else .done) jump))):=fun jump E2 U2 st2 ch1 hh hsub hbx=>by
     obtain ⟨r1,_⟩:=hh.hid (l,.loop { rec .ready none with state:=.busy }) (by simp)
     refine ⟨?_,vg hh rfl rfl rfl rfl rfl hbig hlD hFU hFs (fun k c hm b hb=>(h3 k c hm b hb).1) h4 h5 hsub hbx h9 _⟩
     have:=run_endRound (P:=P) jump r1
     rw [hrec] at this ⊢; exact this
    cases e with
    | normal=>
     obtain ⟨E2,U2,st2,s1,s2⟩:=he
     obtain ⟨ch1,c1,c2,c3,c4⟩:=hN st2 s2
     obtain ⟨f1,F',f2,f3⟩:=fin none E2 U2 st2 ch1 s1 c3 c2
     exact ⟨_,_,f1,true,F',U2,rfl,⟨_,c4,f2⟩,f3⟩
    | ret=>
     obtain ⟨E2,U2,st2,s1,s2,s3⟩:=he
     obtain ⟨f1,F',f2,f3⟩:=fin (some .ret) E2 U2 st2 st2.ch s1 (fun _ _ h=>h) s2
     exact ⟨_,_,f1,false,F',U2,rfl,⟨_,_,s1.inv.nd,s2,s3,f2⟩,f3⟩
    | exit id=>
     obtain ⟨E2,U2,st2,s1,s2,s3⟩:=he
     obtain ⟨f1,F',f2,f3⟩:=fin (some (.exit id)) E2 U2 st2 st2.ch s1 (fun _ _ h=>h) s2
     exact ⟨_,_,f1,false,F',U2,rfl,⟨_,_,s1.inv.nd,s2,s3,f2⟩,f3⟩
    | goto t=>exact he.elim
    | panic c=>exact he.elim
    | outgrown=>exact he.elim
   | ret=>obtain ⟨_,_,_,_,hf⟩:=he; exact hf.elim
   | exit id=>exact he.elim
   | goto t=>exact he.elim
   | panic c=>exact he.elim
   | outgrown=>exact he.elim
theorem Holds.after {cx:Cx} {st:ASt} {E:Env} {U U3 F3:Nat→Prop} {a:Act} {w w1 w3:World} {l D:Nat} {rec:Loop} {o:Obj} {bx:List Nat} {ch:Chs} (hh:Holds P cx E U a w st)
 (hD:D=w.heap.size) (hl:l=w.heap.size+1) (hw1:w1.os=w.os∧w1.tape=w.tape∧w1.output=w.output∧w1.heap.size=w.heap.size+2∧∀ b,b < w.heap.size→w1.heap[b]? = w.heap[b]?)
 (hm:Moved U (fun b=>(∃ k c,(k,c)∈st.ch∧(E k).fp b)∨b=l∨b=D) w1 U3 F3 w3) (hφ:(j9 E l D rec bx (bn bx st.t) a.tmps ch).φ F3 U3 w3.heap) (hnd:(ch.map (·.1)).Nodup) (hbx:bP bx ch) (hb0:∀ k∈bx,∃ cs,(k,.box cs)∈st.ch) :
 ∃ E',Holds P cx E' U3 { a with defers:=gI D :: a.defers } (w3.putObj l o) ⟨bn bx st.t,ch⟩:=by
 obtain ⟨Ec,h1,h2,h3,h4,h5,h6,h7,h8,h9⟩:=hφ
 obtain ⟨v1,v2,v3,v4,v5⟩:=hw1
 have hlD:l≠D:=by omega
 have hl3:=lt_of_getElem? h7
 have hne:∀ b,b≠l→(w3.putObj l o).heap[b]? = w3.heap[b]?:=fun b hb=>World.putObj_heap_other hb
 have hUl:∀ b,U3 b→b≠l:=fun b hb e=>hm.out l h4 (e ▸ hb)
 have hU:∀ b,U3 b→U3 b∧(w3.putObj l o).heap[b]? = w3.heap[b]?:=fun b hb=>⟨hb,hne b (hUl b hb)⟩
 have hF1:∀ b,((∃ k c,(k,c)∈st.ch∧(E k).fp b)∨b=l∨b=D)→cx.w0.heap.size≤b∨cx.X b:=fun b hb=>by
  have:=hh.size
  rcases hb with ⟨k,c,g1,g2⟩ | rfl | rfl
  · exact hh.live k c g1 b g2
  · exact .inl (by omega)
  · exact .inl (by omega)
 have hold:∀ b,b < w.heap.size→(∀ k c,(k,c)∈st.ch→¬ (E k).fp b)→(w3.putObj l o).heap[b]? = w.heap[b]?:=fun b hb hn=>by
  rw [hne b (by omega),hm.rest b (by omega) (by rintro (⟨k,c,g1,g2⟩ | g | g); exact hn k c g1 g2; omega; omega)]
  exact v5 b hb
 have hkeep:∀ b,U b→U3 b∧(w3.putObj l o).heap[b]? = w.heap[b]?:=fun b hb=>by
  have hlt:=hh.inv.lt b hb
  exact ⟨(hm.keep b hb).1,(hne b (by omega)).trans ((hm.keep b hb).2.trans (v5 b hlt))⟩
 have hidden:∀ b o',gG E U w.heap st.ch b o'→gG Ec U3 (w3.putObj l o).heap ch b o':=fun b o' ⟨g1,g2,g3⟩=>by
  have hlt:=lt_of_getElem? g1
  have hnF:¬ ((∃ k c,(k,c)∈st.ch∧(E k).fp b)∨b=l∨b=D):=by rintro (⟨k,c,q1,q2⟩ | q | q); exact g3 k c q1 q2; omega; omega
  refine ⟨(hold b hlt g3).trans g1,fun hu=>?_,fun k c hk hf=>?_⟩
  · rcases hm.newU b hu with q | q | q
    · exact g2 q
    · omega
    · exact hnF q
  · rcases hm.live b (h3 k c hk b hf).1 with q | q
    · omega
    · exact hnF q
 have hfp:∀ k c,(k,c)∈ch→∀ b,(Ec k).fp b→F3 b∧b≠l:=fun k c hk b hb=>⟨(h3 k c hk b hb).1,(h3 k c hk b hb).2.1⟩
 refine ⟨Ec,hh.sz,?_,fun i=>?_,⟨hnd,fun k c hk=>(h1 k c hk).same hU (fun b hb=>hne b (hfp k c hk b hb).2),h2,fun k c hk b hb=>hm.out b (hfp k c hk b hb).1,fun k c hk b hb=>by rw [World.putObj_size]; exact hm.fpl b (hfp k c hk b hb).1,fun b hb=>by rw [World.putObj_size]; exact hm.lt b hb⟩,
  hm.os.trans (v1.trans hh.os),hm.tape.trans (v2.trans hh.tape),hm.output.trans (v3.trans hh.output),?_,fun b hb hx=>?_,fun b hb=>?_,fun k c hk b hb=>?_,fun b hb=>?_,fun k cs hk hm'=>?_,fun p hp=>hidden _ _ (hh.hid p hp),hh.gok.mono hkeep⟩
 · obtain ⟨Ds,d1,d2,d3⟩:=hh.df
   refine ⟨D :: Ds,by rw [List.map_cons,← d1],List.nodup_cons.2 ⟨fun hm'=>?_,d2⟩,fun D' hD'=>?_⟩
   · have:=lt_of_getElem? (d3 D hm').2.1
     omega
   · rcases List.mem_cons.1 hD' with e | e
     · subst e
       refine ⟨by have:=hh.size; omega,(hne D' (Ne.symm hlD)).trans h8,hm.out D' h5,fun k c hk hf=>(h3 k c hk D' hf).2.2 rfl⟩
     · exact ⟨(d3 D' e).1,hidden _ _ (d3 D' e).2⟩
 · have:=h9 i
   rcases my bx st.t i with e | ⟨e,ep⟩
   · show Rep _ _ _ (gt (bn bx st.t) i) _
     rw [e]; exact .d (.any _)
   · exact (this.fixed (by rw [e]; exact ep) h6).same hU
 · rw [World.putObj_size]; have:=hm.size; have:=hh.size; omega
 · have hlt:=hh.size
   rw [hold b (by omega) (fun k c hk hf=>by
    rcases hh.live k c hk b hf with q | q
    · omega
    · exact hx q)]
   exact hh.fr b hb hx
 · have:=hkeep b (hh.keepA b hb).1
   exact ⟨this.1,this.2.trans (hh.keepA b hb).2⟩
 · rcases hm.live b (hfp k c hk b hb).1 with q | q
   · have:=hh.size; exact .inl (by omega)
   · exact hF1 b q
 · rcases hm.newU b hb with q | q | q
   · exact hh.base b q
   · have:=hh.size; exact .inr (.inl (by omega))
   · exact .inr (hF1 b q)
 · have hkb:=ky hbx.2 k cs hm' (Cx.fx_ge hk)
   obtain ⟨cs0,hc0⟩:=hb0 k hkb
   exact (h6 k hkb).trans (hh.fix k cs0 hk hc0)
theorem mK {cx:Cx} {Q:ASt→Prop} {k:List It} {st:ASt} {g:Operand} {ps:List Nat} {assign body:AC} {f:FuncId} {first caps:List C} {ich:Chs} {kr:Nat} {vals:Nat→List C} {N:Nat} {fin:Bool} (bx:List Nat) (sh:Nat→Chs)
 (hro:cx.ro=none) (hg:bk (aq P st.t g)=some (f,first,caps)) (hit:ItC P f first caps ich kr vals N fin) (hich:an (kr :: ag ich)∧bq ich st.ch) (hkc:(∀ c∈first++caps,dE (ag ich) c)∧∀ k c,(k,c)∈ich→gk (ag ich) c)
 (hsh0:bq (sh 0) st.ch∧bH (ag (sh 0)) (ag ich)) (hshn:∀ i,i≤N→an (ag (sh i))∧bP bx (sh i)) (hbig:∀ k∈bx,100000≤k∧k < cx.hi+100000)
 (hvl:∀ i,i < N→(vals i).length=ps.length∧∀ c∈vals i,dE [] c)
 (hround:∀ i,i < N→∀ cx',cx'.n=cx.n→cx'.hi=cx.hi+100000→SG P cx' (fun _=>False) [.c assign,.post (fun st1=>∀ cx'',cx''.n=cx.n→cx''.hi=cx.hi+100000 →
  SG P cx'' (fun _=>False) [.c body,.rnd (fun st'=>(i+1 < N∨fin=true)∧bq (sh (i+1)) st'.ch) (fun j st'=>bP bx st'.ch∧bT P cx Q k (bn bx st.t) j st'.ch)] st1)] ⟨bG (bn bx st.t) ps (vals i),sh i⟩)
 (hend:fin=true→SG P cx Q k ⟨bn bx st.t,sh N⟩):SG P cx Q (.c (.rangeFunc g ps assign body) :: k) st:=e8 fun code hc E U a w hh=>by
 cases code <;> simp only [d9,reduceCtorEq] at hc
 rename_i g' ps' x y
 split at hc
 · rename_i hps
   simp only [Option.bind_eq_some_iff,Option.map_eq_some_iff] at hc
   obtain ⟨a',c1,b',c2,c3⟩:=hc
   cases c3
   have hbs:∀ i,i≤N→∀ k∈bx,∃ cs,(k,.box cs)∈sh i:=fun i hi=>jQ (hshn i hi).2.1
   obtain ⟨fv,cv,hev,hl1,hr1,hl2,hr2⟩:=ri hg (hh.ev g)
   refine wpIn_rangeFunc (fun fn _=>?_)
   have hround0:(FW cx.ro).round=none:=by rw [hro]; rfl
   rw [hround0]
   obtain ⟨rec,hrec⟩:∃ rec:LoopState→Option Code→Loop,rec=fun s p=>{ state:=s,pending:=p,fn,tmps:=a.tmps,params:=ps',assign:=x,body:=y,defers:=w.heap.size }:=⟨_,rfl⟩
   generalize hW1:(w.alloc (.deferred (some []))).alloc (.loop (rec .ready none))=W1
   have hsize1:W1.heap.size=w.heap.size+2:=by rw [← hW1]; simp [World.size_alloc]
   have hL1:W1.heap[w.heap.size+1]? = some (.loop (rec .ready none)):=by
    rw [← hW1]; have:=World.alloc_heap_new (w.alloc (.deferred (some []))) (.loop (rec .ready none)); rwa [World.size_alloc] at this
   have hD1:W1.heap[w.heap.size]? = some (.deferred (some [])):=by
    rw [← hW1]
    show ((w.heap.push (.deferred (some []))).push (.loop (rec .ready none)))[w.heap.size]? = _
    rw [Array.getElem?_push,if_neg (by simp),Array.getElem?_push,if_pos rfl]
   have hold1:∀ b,b < w.heap.size→W1.heap[b]? = w.heap[b]?:=fun b hb=>by
    rw [← hW1]
    show ((w.heap.push (.deferred (some []))).push (.loop (rec .ready none)))[b]? = _
    rw [Array.getElem?_push,if_neg (by simp; omega),Array.getElem?_push,if_neg (by omega)]
   have hos1:W1.os=w.os∧W1.tape=w.tape∧W1.output=w.output:=by rw [← hW1]; exact ⟨rfl,rfl,rfl⟩
   have hkeep1:∀ b,U b→U b∧W1.heap[b]? = w.heap[b]?:=fun b hb=>⟨hb,hold1 b (hh.inv.lt b hb)⟩
   let l:=w.heap.size+1
   let D:=w.heap.size
   let J:=bT P cx Q k (bn bx st.t)
   let R:Nat→Res:=fun i=>j9 E l D (rec .ready none) bx (bn bx st.t) a.tmps (sh i)
   let Rf:Res:=ua J E l D (fun j=>rec .done j) bx (bn bx st.t) a.tmps
   have htp:∀ j,ax bx (gt (bn bx st.t) j)=true:=fun j=>by
    rcases my bx st.t j with e | ⟨e,ep⟩
    · rw [e]; rfl
    · rw [e]; exact ep
   have hy:∀ i,i < N→YAt P l (vals i) (R i) (if i+1 < N∨fin=true then some (R (i+1)) else none) Rf:=fun i hi=>by
    refine wy (n:=cx.n) (hi:=cx.hi+100000) (assign:=assign) (body:=body) (N':=fun st'=>(i+1 < N∨fin=true)∧bq (sh (i+1)) st'.ch) cx.hn hrec (by rw [← dU]; exact d8 (hshn i (by omega)).1) (hshn i (by omega)).2 hbig (by show w.heap.size+1≠w.heap.size; omega) hh.sz
     (fun p hp=>by simpa using Array.all_eq_true'.1 hps p (by simpa using hp)) (hvl i hi).1 (hvl i hi).2 htp c1 c2 (hround i hi) (fun st' hst=>?_)
    refine ⟨sh (i+1),by rw [← dU]; exact d8 (hshn (i+1) (by omega)).1,(hshn (i+1) (by omega)).2,fun k c hm=>dG (gd hst.2 (k,c) hm),?_⟩
    rw [if_pos hst.1]
   have hF:=hit l R Rf hy
   let F0:Nat→Prop:=fun b=>(∃ k c,(k,c)∈sh 0∧(E k).fp b)∨b=l∨b=D
   let xr:KE:={ E kr with fp:=F0 }
   let E1:=dN E kr xr
   have hE1:∀ k∈ag ich,E1 k=E k:=fun k hk=>d0 E xr (fun e=>by
    have:=(d8 hich.1)
    exact (List.nodup_cons.1 this).1 (e ▸ hk))
   have hsub0:∀ k c,(k,c)∈sh 0→(k,c)∈st.ch:=fun k c hm=>dG (gd hsh0.1 (k,c) hm)
   have hsubI:∀ k c,(k,c)∈ich→(k,c)∈st.ch:=fun k c hm=>dG (gd hich.2 (k,c) hm)
   have hkI:∀ k c,(k,c)∈ich→k∈ag ich:=fun k c hm=>by rw [dU]; exact List.mem_map.2 ⟨_,hm,rfl⟩
   have hk0:∀ k c,(k,c)∈sh 0→k∈ag (sh 0):=fun k c hm=>by rw [dU]; exact List.mem_map.2 ⟨_,hm,rfl⟩
   have hargs:jC E1 U W1.heap (first++[.s (.func (.yield l) #[] #[])]++caps) (fv++#[.func (.yield l) #[] #[]]++cv):=by
    have up:∀ c v,Rep E U w.heap c v→c∈first++caps→Rep E1 U W1.heap c v:=fun c v hr hc=>((hr.same hkeep1).env (hkc.1 c hc) hE1)
    refine ⟨by simp only [Array.size_append,List.length_append,hl1,hl2]; rfl,fun j c hj=>?_⟩
    simp only [Array.getD_eq_getD_getElem?]
    rw [List.append_assoc,List.getElem?_append] at hj
    rw [Array.append_assoc,Array.getElem?_append,hl1]
    split at hj
    · rename_i hlt
      rw [if_pos hlt]
      have:=up c _ (hr1 j c hj) (List.mem_append.2 (.inl (List.mem_of_getElem? hj)))
      simpa [Array.getD_eq_getD_getElem?] using this
    · rename_i hlt
      rw [if_neg hlt,Array.getElem?_append]
      rw [List.getElem?_append] at hj
      by_cases h2:j - first.length < 1
      · have h0:j - first.length=0:=by omega
        rw [if_pos (by simpa using h2)] at hj
        rw [if_pos (by simpa using h2)]
        simp [h0] at hj ⊢
        subst hj
        exact .d (.s _)
      · rw [if_neg (by simpa using h2)] at hj
        rw [if_neg (by simpa using h2)]
        have:=up c _ (hr2 _ c hj) (List.mem_append.2 (.inr (List.mem_of_getElem? hj)))
        simpa [Array.getD_eq_getD_getElem?] using this
   have hF0:∀ b,F0 b→(∃ k c,(k,c)∈st.ch∧(E k).fp b)∨b=l∨b=D:=fun b hb=>by
    rcases hb with ⟨k,c,g1,g2⟩ | g
    · exact .inl ⟨k,c,hsub0 k c g1,g2⟩
    · exact .inr g
   have hF0U:∀ b,F0 b→¬ U b:=fun b hb hu=>by
    have hlt:=hh.inv.lt b hu
    rcases hF0 b hb with ⟨k,c,g1,g2⟩ | g | g
    · exact hh.inv.out k c g1 b g2 hu
    · have:b=w.heap.size+1:=g; omega
    · have:b=w.heap.size:=g; omega
   have hF0l:∀ b,F0 b→b < W1.heap.size:=fun b hb=>by
    rcases hF0 b hb with ⟨k,c,g1,g2⟩ | g | g
    · have:=hh.inv.fpl k c g1 b g2; omega
    · have:b=w.heap.size+1:=g; omega
    · have:b=w.heap.size:=g; omega
   have hφ0:(R 0).φ F0 U W1.heap:=by
    refine ⟨E,fun k c hm=>(hh.inv.ok k c (hsub0 k c hm)).same hkeep1 (fun b hb=>hold1 b (hh.inv.fpl k c (hsub0 k c hm) b hb)),fun k c k' c' hm hm'=>hh.inv.sep k c k' c' (hsub0 k c hm) (hsub0 k' c' hm'),fun k c hm b hb=>⟨.inl ⟨k,c,hm,hb⟩,?_,?_⟩,.inr (.inl rfl),.inr (.inr rfl),fun k hk=>rfl,hL1,hD1,fun j=>?_⟩
    · have:=hh.inv.fpl k c (hsub0 k c hm) b hb; show b≠w.heap.size+1; omega
    · have:=hh.inv.fpl k c (hsub0 k c hm) b hb; show b≠w.heap.size; omega
    · rcases my bx st.t j with e | ⟨e,ep⟩
      · rw [e]; exact .d (.any _)
      · rw [e]; exact (hh.tok j).same hkeep1
   have hinv1:Inv E1 U W1.heap ((kr,.res (R 0)) :: ich):=by
    have hnd:=d8 hich.1
    have hne:∀ k c,(k,c)∈ich→k≠kr:=fun k c hm e=>(List.nodup_cons.1 hnd).1 (e ▸ hkI k c hm)
    have hEk:E1 kr=xr:=updE_same E kr xr
    have hfpI:∀ k c,(k,c)∈ich→∀ b,(E1 k).fp b→(E k).fp b:=fun k c hm b hb=>by rw [hE1 k (hkI k c hm)] at hb; exact hb
    have hsepI:∀ k c,(k,c)∈ich→∀ b,(E k).fp b→¬ F0 b:=fun k c hm b hb hf=>by
     have hlt:=hh.inv.fpl k c (hsubI k c hm) b hb
     rcases hf with ⟨k',c',g1,g2⟩ | g | g
     · have hkk:k≠k':=fun e=>jd hsh0.2 k' (hk0 k' c' g1) (e ▸ hkI k c hm)
       exact hh.inv.sep k c k' c' (hsubI k c hm) (hsub0 k' c' g1) hkk b hb g2
     · have:b=w.heap.size+1:=g; omega
     · have:b=w.heap.size:=g; omega
    refine ⟨by rw [dU] at hnd; exact hnd,fun k c hm=>?_,fun k c k' c' hm hm' hne' b hb hb'=>?_,fun k c hm b hb=>?_,fun k c hm b hb=>?_,fun b hb=>by have:=hh.inv.lt b hb; omega⟩
    · rcases List.mem_cons.1 hm with e | e
      · cases e
        show (R 0).φ (E1 kr).fp U W1.heap
        rw [hEk]; exact hφ0
      · have:=(hh.inv.ok k c (hsubI k c e)).same hkeep1 (fun b hb=>hold1 b (hh.inv.fpl k c (hsubI k c e) b hb))
        exact this.env (hkI k c e) (hkc.2 k c e) hE1
    · rcases List.mem_cons.1 hm with e | e <;> rcases List.mem_cons.1 hm' with e' | e'
      · cases e; cases e'; exact hne' rfl
      · cases e; rw [hEk] at hb; exact hsepI k' c' e' b (hfpI k' c' e' b hb') hb
      · cases e'; rw [hEk] at hb'; exact hsepI k c e b (hfpI k c e b hb) hb'
      · exact hh.inv.sep k c k' c' (hsubI k c e) (hsubI k' c' e') hne' b (hfpI k c e b hb) (hfpI k' c' e' b hb')
    · rcases List.mem_cons.1 hm with e | e
      · cases e; rw [hEk] at hb; exact hF0U b hb
      · exact hh.inv.out k c (hsubI k c e) b (hfpI k c e b hb)
    · rcases List.mem_cons.1 hm with e | e
      · cases e; rw [hEk] at hb; exact hF0l b hb
      · have:=hh.inv.fpl k c (hsubI k c e) b (hfpI k c e b hb); omega
   have hcall:=hF.2 E1 U _ W1 (hh.gok.mono hkeep1) hargs hinv1
   refine ⟨w.heap.size+1,[{ target:=.collected w.heap.size,args:=#[] }],W1,{ target:=.fn (.func f) cv,args:=fv++#[.func (.yield (w.heap.size+1)) #[] #[]] },W1,f,fv++#[.func (.yield (w.heap.size+1)) #[] #[]]++cv,W1,?_,?_,fun _ _=>trivial,?_,fun h=>by simp [FW,Fence.wide] at h,?_⟩
   · rw [← hW1,hrec]; exact run_enterLoop_outer _ _ _ _ _
   · simp only [resolve,hev]
     simp [go_sem]
   · simp only [invoke,j5 hF.1]
   · refine kZ (hcall.mono fun e w3 h=>?_)
     obtain ⟨o,ho,v,E',U',rfl,_,hce⟩:=h
     have hmv:∀ Rz,o.2=[(kr,.res Rz)]→Rz.φ (E' kr).fp U' w3.heap∧Moved U (fun b=>(∃ k c,(k,c)∈st.ch∧(E k).fp b)∨b=l∨b=D) W1 U' (E' kr).fp w3:=fun Rz hz=>by
      have hkm:(kr,Ch.res Rz)∈o.2:=by rw [hz]; simp
      have hfps:∀ b,(∃ k0 c0,(k0,c0)∈(kr,Ch.res (R 0)) :: ich∧(E1 k0).fp b)→(∃ k c,(k,c)∈st.ch∧(E k).fp b)∨b=l∨b=D:=fun b ⟨k0,c0,g1,g2⟩=>by
       rcases List.mem_cons.1 g1 with e | e
       · cases e
         have:(E1 kr).fp=F0:=by show (dN E kr xr kr).fp=F0; rw [updE_same]
         rw [this] at g2
         exact hF0 b g2
       · rw [hE1 k0 (hkI k0 c0 e)] at g2; exact .inl ⟨k0,c0,hsubI k0 c0 e,g2⟩
      refine ⟨hce.inv.ok kr _ hkm,hce.os,hce.tape,hce.output,hce.size,hce.keep,fun b hb hn=>hce.rest b hb (fun k0 c0 g1 g2=>hn (hfps b ⟨k0,c0,g1,g2⟩)),fun b hb=>?_,fun b hb=>?_,hce.inv.out kr _ hkm,hce.inv.fpl kr _ hkm,hce.inv.lt⟩
      · rcases hce.live kr _ hkm b hb with q | q
        · exact .inl q
        · exact .inr (hfps b q)
      · rcases hce.newU b hb with q | q | q
        · exact .inl q
        · exact .inr (.inl q)
        · exact .inr (.inr (hfps b q))
     have hb0:∀ k∈bx,∃ cs,(k,.box cs)∈st.ch:=fun k hk=>by
      obtain ⟨cs,hcs⟩:=hbs 0 (Nat.zero_le _) k hk
      exact ⟨cs,hsub0 k _ hcs⟩
     have hw1:W1.os=w.os∧W1.tape=w.tape∧W1.output=w.output∧W1.heap.size=w.heap.size+2∧∀ b,b < w.heap.size→W1.heap[b]? = w.heap[b]?:=⟨hos1.1,hos1.2.1,hos1.2.2,hsize1,hold1⟩
     rcases List.mem_cons.1 ho with e | e
     ·
      subst e
      obtain ⟨⟨jump,ch,n1,n2,n3,n4⟩,hm⟩:=hmv Rf rfl
      have hrl:w3.heap[l]? = some (.loop (rec .done (some jump))):=n4.choose_spec.2.2.2.2.2.2.1
      obtain ⟨Ez,hz⟩:=hh.after (o:=.loop { rec .done (some jump) with state:=.exhausted }) rfl rfl hw1 hm n4 n1 n2 hb0
      refine ⟨some jump,w3.putObj l (.loop { rec .done (some jump) with state:=.exhausted }),?_,?_⟩
      · have:=run_endLoop (P:=P) hrl (by rw [hrec]; simp)
        rw [hrec] at this ⊢; exact this
      · show jump.wpIn (FW cx.ro) 0 P (WE P cx Q k) _ _
        cases jump with
        | exit id=>
         refine wpIn_exit ?_
         simp only [J,bT] at n3
         cases hk:aJ id k with
         | cont k'=>rw [hk] at n3; exact jL k k' _ _ hk (n3 _ _ _ _ hz)
         | out p=>rw [hk] at n3; exact kI k p _ _ hk ⟨_,_,_,hz,n3⟩
         | none=>rw [hk] at n3; exact n3.elim
        | ret=>exact wpIn_ret (kJ k _ _ ⟨_,_,_,hz,n3⟩)
        | _=>exact n3.elim
     · cases hfin:fin with
       | false=>rw [hfin] at e; simp at e
       | true=>
        rw [hfin] at e
        simp only [if_true,List.mem_singleton] at e
        subst e
        obtain ⟨hφ,hm⟩:=hmv (R N) rfl
        have hrl:w3.heap[l]? = some (.loop (rec .ready none)):=hφ.choose_spec.2.2.2.2.2.2.1
        obtain ⟨Ez,hz⟩:=hh.after (o:=.loop { rec .ready none with state:=.exhausted }) rfl rfl hw1 hm hφ (by rw [← dU]; exact d8 (hshn N (Nat.le_refl _)).1) (hshn N (Nat.le_refl _)).2 hb0
        refine ⟨none,w3.putObj l (.loop { rec .ready none with state:=.exhausted }),?_,?_⟩
        · have:=run_endLoop (P:=P) hrl (by rw [hrec]; simp)
          rw [hrec] at this ⊢; exact this
        · exact hend hfin _ _ _ _ hz
 · cases hc
end Go.Am
end
section
namespace Go.Am
open Dat (cells)
variable {P : Program} [Glob P] {cx : Cx} {Q : ASt → Prop} {k : List It} {st : ASt}
def cJ (b:Nat):List Nat→List (Nat×Nat)
 | []=>[]
 | k :: ks=>(k,b+k) :: cJ b ks
def bt (ks:List Nat) (m:List (Nat×Nat)):dI→dI
 | []=>[]
 | (i,c) :: t=>(i,match aK ks c with | true=>ak m c | false=>.any) :: bt ks m t
theorem ve {b:Nat}:∀ {ks:List Nat} {k:Nat},k∈ks→rn (cJ b ks) k=b+k
 | [],k,h=>by simp at h
 | j :: ks,k,h=>by
  simp only [rn,cJ,lk]
  by_cases hj:j=k
  · rw [if_pos hj,hj]; rfl
  · rw [if_neg hj]
    have:=ve (b:=b) (ks:=ks) (k:=k) (by rcases List.mem_cons.1 h with e | e; exact absurd e.symm hj; exact e)
    simpa only [rn] using this
theorem lm {ks:List Nat}:∀ c:C,aK ks c=true→dE ks c:=by
 intro c
 have h:∀ (n:Nat) (c:C),SizeOf.sizeOf c≤n→aK ks c=true→dE ks c:=by
  intro n
  induction n with
  | zero=>intro c hc; cases c <;> simp at hc
  | succ n ih=>
   intro c hc hk
   have hl:∀ cs:List C,SizeOf.sizeOf cs≤n→aK.keysBs ks cs=true→dE.keysIns ks cs:=by
    intro cs
    induction cs with
    | nil=>intro _ _; trivial
    | cons x xs ihx=>
     intro hx hkx
     simp at hx
     simp only [aK.keysBs,Bool.and_eq_true] at hkx
     exact ⟨ih x (by omega) hkx.1,ihx (by omega) hkx.2⟩
   cases c with
   | agg cs=>simp at hc; exact hl cs (by omega) hk
   | tup cs=>simp at hc; exact hl cs (by omega) hk
   | fn f xs ys=>simp at hc; simp only [aK,Bool.and_eq_true] at hk; exact ⟨hl xs (by omega) hk.1,hl ys (by omega) hk.2⟩
   | own k=>exact eB.1 hk
   | ptr k off=>exact eB.1 hk
   | eptr k i j=>exact eB.1 hk
   | inn k i=>exact eB.1 hk
   | iptr k i n j=>exact eB.1 hk
   | _=>trivial
 exact h _ c (Nat.le_refl _)
theorem ph (ks:List Nat) (m:List (Nat×Nat)):∀ (t:dI) (i:Nat),gt (bt ks m t) i=.any∨(gt (bt ks m t) i=ak m (gt t i)∧aK ks (gt t i)=true)
 | [],i=>.inl rfl
 | (j,c) :: t,i=>by
  have ih:=ph ks m t i
  simp only [gt,bt,lk] at ih ⊢
  by_cases hj:j=i
  · rw [if_pos hj,if_pos hj]
    cases hp:aK ks c with
    | true=>exact .inr ⟨rfl,hp⟩
    | false=>exact .inl rfl
  · rw [if_neg hj,if_neg hj]; exact ih
def dv (b:Nat) (s:ASt):ASt:=⟨bt (ag s.ch) (cJ b (ag s.ch)) s.t,ar (cJ b (ag s.ch)) s.ch⟩
theorem dW.sh (b:Nat) (hb:cx.hi≤b) (hk:a8 (ag st.ch) st.ch=true):dW P cx st (dv b st):=fun E U a w hh=>by
 obtain ⟨ks,hks⟩:∃ ks,ag st.ch=ks:=⟨_,rfl⟩
 obtain ⟨m,hm⟩:∃ m,cJ b ks=m:=⟨_,rfl⟩
 have hrn:∀ k∈ks,rn m k=b+k:=fun k hk=>by rw [← hm]; exact ve hk
 have hin:∀ k c,(k,c)∈st.ch→k∈ks:=fun k c h=>by rw [← hks,dU]; exact List.mem_map.2 ⟨_,h,rfl⟩
 let E':Env:=fun j=>match ks.find? (fun k=>rn m k == j) with | some k=>E k | none=>E j
 have hE:∀ k∈ks,E' (rn m k)=E k:=fun k hk=>by
  simp only [E']
  cases hfnd:ks.find? (fun k'=>rn m k' == rn m k) with
  | none=>
   have:=List.find?_eq_none.1 hfnd k hk
   simp at this
  | some k'=>
   have h1:=List.find?_some hfnd
   have h2:=List.mem_of_find?_eq_some hfnd
   have h3:rn m k'=rn m k:=by simpa using h1
   rw [hrn k' h2,hrn k hk] at h3
   have:k'=k:=by omega
   rw [this]
 have hch:∀ k c,(k,c)∈ar m st.ch→∃ k0 c0,(k0,c0)∈st.ch∧k=rn m k0∧c=aG m c0∧E' k=E k0:=fun k c h=>by
  obtain ⟨k0,c0,h0,rfl,rfl⟩:=eN h
  exact ⟨k0,c0,h0,rfl,rfl,hE k0 (hin k0 c0 h0)⟩
 have hkc:∀ k c,(k,c)∈st.ch→gk ks c:=fun k c h=>by
  cases c with
  | box cs=>exact gY fun c hc=>lm c (by rw [← hks]; exact ie hk k cs h c hc)
  | _=>trivial
 have hid:∀ D o,gG E U w.heap st.ch D o→gG E' U w.heap (ar m st.ch) D o:=fun D o ⟨h1,h2,h3⟩=>⟨h1,h2,fun k c h hf=>by
  obtain ⟨k0,c0,h0,_,_,e⟩:=hch k c h
  rw [e] at hf
  exact h3 k0 c0 h0 hf⟩
 have e1:dv b st=⟨bt ks m st.t,ar m st.ch⟩:=by simp only [dv,hks,hm]
 rw [e1]
 refine ⟨E',U,hh.sz,?_,fun i=>?_,⟨?_,fun k c h=>?_,fun k c k' c' h h' hne x hx hx'=>?_,fun k c h x hx=>?_,fun k c h x hx=>?_,hh.inv.lt⟩,hh.os,hh.tape,hh.output,hh.size,hh.fr,hh.keepA,fun k c h x hx=>?_,hh.base,fun k cs hk h=>?_,fun p hp=>hid _ _ (hh.hid p hp),hh.gok⟩
 · obtain ⟨Ds,h1,h2,h3⟩:=hh.df
   exact ⟨Ds,h1,h2,fun D hD=>⟨(h3 D hD).1,hid _ _ (h3 D hD).2⟩⟩
 · rcases ph ks m st.t i with e | ⟨e,ek⟩
   · show Rep _ _ _ (gt (bt ks m st.t) i) _
     rw [e]; exact .d (.any _)
   · show Rep _ _ _ (gt (bt ks m st.t) i) _
     rw [e]; exact (hh.tok i).ren (lm _ ek) hE
 · have e2:(ar m st.ch).map (·.1)=ks.map (rn m):=by rw [fC,← hks,dU,List.map_map,List.map_map]; rfl
   rw [e2]
   refine iT (by rw [← hks,dU]; exact hh.inv.nd) (fun x hx y hy e=>?_)
   rw [hrn x hx,hrn y hy] at e; omega
 · obtain ⟨k0,c0,h0,rfl,rfl,e⟩:=hch k c h
   exact (hh.inv.ok k0 c0 h0).ren (hin k0 c0 h0) (hkc k0 c0 h0) hE
 · obtain ⟨k0,c0,h0,rfl,rfl,e⟩:=hch k c h
   obtain ⟨k1,c1,h1,rfl,rfl,e'⟩:=hch k' c' h'
   rw [e] at hx; rw [e'] at hx'
   exact hh.inv.sep k0 c0 k1 c1 h0 h1 (fun e=>hne (by rw [e])) x hx hx'
 · obtain ⟨k0,c0,h0,rfl,rfl,e⟩:=hch k c h
   rw [e] at hx; exact hh.inv.out k0 c0 h0 x hx
 · obtain ⟨k0,c0,h0,rfl,rfl,e⟩:=hch k c h
   rw [e] at hx; exact hh.inv.fpl k0 c0 h0 x hx
 · obtain ⟨k0,c0,h0,rfl,rfl,e⟩:=hch k c h
   rw [e] at hx; exact hh.live k0 c0 h0 x hx
 · obtain ⟨k0,c0,h0,rfl,_,_⟩:=hch k _ h
   have h2:=hk.2
   rw [hrn k0 (hin k0 c0 h0)] at h2
   omega
theorem S_sh (b:Nat) (hb:cx.hi≤b) (hk:a8 (ag st.ch) st.ch=true) (h:SG P cx Q k (dv b st)):SG P cx Q k st:=fD (dW.sh b hb hk) h
def bO : C→C
 | .isl n _ es=>.sl n es
 | c=>c
theorem rB (c:C):aE (bO c)=true:=by cases c <;> rfl
theorem sc {m:List (Nat×Sb)} (hm:il m) {c:C} (h:aE c=true):aE (ah m c)=true:=by
 cases c with
 | own k=>
  simp only [ah]
  cases hl:m.lookup k with
  | none=>rfl
  | some s=>
   cases s with
   | c x=>exact hm k x hl
   | inner=>rfl
 | ptr k o=>simp only [ah]; cases hl:m.lookup k with | none=>rfl | some s=>cases s <;> rfl
 | eptr k i j=>simp only [ah]; cases hl:m.lookup k with | none=>rfl | some s=>cases s <;> rfl
 | inn k i=>simp only [ah]; split <;> rfl
 | iptr k i n j=>simp only [ah]; split <;> rfl
 | isl n t es=>cases h
 | _=>rfl
def dx (kk:Nat) (cs:List C) (s:ASt):ASt:=⟨bo [(kk,.inner)] s.t,(kk,.box ((cs.map bO).map (ah [(kk,.inner)]))) :: ae [(kk,.inner)] (af s.ch kk)⟩
theorem dW.fzb (kk:Nat) {cs:List C} (hl:lk st.ch kk=some (.box cs)):dW P cx st (dx kk cs st):=fun E U a w hh=>by
 have hkm:=dG hl
 have hi:=hh.inv
 obtain ⟨⟨hnil,arr,ty,b1,b2,b3⟩,hf,hin⟩:=hi.ok kk _ hkm
 let x:KE:={ E kk with fp:=fun b=>(E kk).nil=false∧(E kk).blk=b }
 let U':Nat→Prop:=fun b=>U b∨∃ i q,eG cs i=some q∧((E kk).inn i).nil=false∧((E kk).inn i).blk=b
 have hinfp:∀ b,(∃ i q,eG cs i=some q∧((E kk).inn i).nil=false∧((E kk).inn i).blk=b)→(E kk).fp b:=fun b h=>(hf.fp b).2 (.inr h)
 have hkeep:∀ b,U b→U' b∧w.heap[b]? = w.heap[b]?:=fun b hb=>⟨.inl hb,rfl⟩
 have henv:∀ k',[(kk,Sb.inner)].lookup k'=none→dN E kk x k'=E k':=fun k' h=>by
  rw [fk] at h
  split at h
  · cases h
  · exact d0 E x (by assumption)
 have henvI:∀ k',[(kk,Sb.inner)].lookup k'=some .inner→(dN E kk x k').toKE0=(E k').toKE0:=fun k' h=>by
  rw [fk] at h
  split at h
  · have e:k'=kk:=by assumption
    subst e; rw [updE_same]
  · cases h
 have hsub:∀ k' c',[(kk,Sb.inner)].lookup k'=some (.c c')→∀ v,Rep E U w.heap (.own k') v→Rep (dN E kk x) U' w.heap c' v:=fun k' c' h=>by
  rw [fk] at h; split at h <;> cases h
 have hno:il [(kk,Sb.inner)]:=fun k' x' h=>by rw [fk] at h; split at h <;> cases h
 have hrep:∀ c v,Rep E U w.heap c v→Rep (dN E kk x) U' w.heap (ah [(kk,.inner)] c) v:=fun c v hr=>hr.mono hkeep henv henvI hsub
 have hd:∀ c,(kk,c)∉af st.ch kk:=fun c=>dZ hi.nd
 have hmem:∀ k' c,(k',c)∈af st.ch kk→(k',c)∈st.ch∧k'≠kk:=fun k' c h=>⟨eK h,fun e=>hd c (e ▸ h)⟩
 have hbI:eG ((cs.map bO).map (ah [(kk,.inner)]))=noI:=j7 fun j c hj=>by
  simp only [List.getElem?_map,Option.map_eq_some_iff] at hj
  obtain ⟨c1,⟨c0,_,rfl⟩,rfl⟩:=hj
  exact sc hno (rB c0)
 have hok:dM (dN E kk x) U' w.heap kk (.box ((cs.map bO).map (ah [(kk,.inner)]))):=by
  simp only [dM,updE_same,hbI]
  refine ⟨⟨hnil,arr,ty,b1,by simpa using b2,fun j c hj=>.inl ?_⟩,⟨fun b=>⟨fun h=>.inl h,fun h=>by rcases h with h | ⟨i,q,h,_⟩; exact h; cases h⟩,fun i q h=>(by cases h),fun i j q q' _ h=>(by cases h)⟩,fun i n t es h=>by cases h⟩
  simp only [List.getElem?_map,Option.map_eq_some_iff] at hj
  obtain ⟨c1,⟨c0,h0,rfl⟩,rfl⟩:=hj
  rcases b3 j c0 h0 with ⟨r1,r2⟩ | ⟨⟨n,t,es,rfl⟩,r2⟩
  · have hni:=lG r1
    have:bO c0=c0:=by cases c0 <;> first | rfl | cases hni
    rw [this]
    exact ⟨hrep _ _ r1,r2⟩
  · have hI:eG cs j=some (n,t,es):=by simp only [eG,h0,jH]
    refine ⟨?_,by rw [r2]; exact gm _⟩
    rw [r2]
    exact .d (lC (hin j n t es hI) hkeep (fun hn=>⟨.inr ⟨j,_,hI,hn,rfl⟩,rfl⟩))
 have he:=Ev.gen (w1:=w) (E':=dN E kk x) (U':=U') (news:=[(kk,.box ((cs.map bO).map (ah [(kk,.inner)])))]) (old:=af st.ch kk) (d:=0) hi rfl rfl rfl (Nat.le_refl _) (eu st.ch kk) hkeep henv henvI hsub (fun k' c h=>d0 E x (hmem k' c h).2)
  (fun _ _ _ _ _=>rfl) (fun _ _ _=>rfl) (by simp) (fun k' c h=>?_) (fun k' c h=>?_) (fun k' c h b hb=>?_) (fun k' c h b hb=>?_)
  (fun k1 x1 k2 x2 h1 h2 hne=>?_) (fun b hb=>?_) (fun k' c h b hb hu=>?_) (fun b hb=>?_) (fun k' cs' h=>?_)
 · exact ⟨_,_,hh.ghost (by decide) he⟩
 · simp only [List.mem_singleton,Prod.mk.injEq] at h; obtain ⟨rfl,rfl⟩:=h; exact hd
 · simp only [List.mem_singleton,Prod.mk.injEq] at h; obtain ⟨rfl,rfl⟩:=h; exact hok
 · simp only [List.mem_singleton,Prod.mk.injEq] at h; obtain ⟨rfl,rfl⟩:=h; rw [updE_same] at hb; exact .inr ⟨_,_,hkm,hd,(hf.fp b).2 (.inl hb)⟩
 · simp only [List.mem_singleton,Prod.mk.injEq] at h; obtain ⟨rfl,rfl⟩:=h; rw [updE_same] at hb; exact hi.fpl _ _ hkm b ((hf.fp b).2 (.inl hb))
 · simp only [List.mem_singleton,Prod.mk.injEq] at h1 h2; exact absurd (h1.1.trans h2.1.symm) hne
 · rcases hb with hb | hb
   · exact .inl hb
   · exact .inr (.inr ⟨_,_,hkm,hd,hinfp b hb⟩)
 · simp only [List.mem_singleton,Prod.mk.injEq] at h; obtain ⟨rfl,rfl⟩:=h; rw [updE_same] at hb
   rcases hu with hu | ⟨i,q,h1,h2,h3⟩
   · exact hi.out _ _ hkm b ((hf.fp b).2 (.inl hb)) hu
   · exact hf.ne i q h1 h2 hb.1 (h3.trans hb.2.symm)
 · rcases hb with hb | hb
   · exact hi.lt b hb
   · exact hi.fpl _ _ hkm b (hinfp b hb)
 · simp only [List.mem_singleton,Prod.mk.injEq] at h; obtain ⟨rfl,_⟩:=h
   exact .inr ⟨⟨cs,hkm⟩,by rw [updE_same]⟩
theorem S_fzb (kk:Nat) {cs:List C} (hl:lk st.ch kk=some (.box cs)) (h:SG P cx Q k (dx kk cs st)):SG P cx Q k st:=fD (dW.fzb kk hl) h
end Go.Am
end
section
namespace Go.Am
open Dat (cells)
structure Fz where
 x:Nat
 y:Nat
 deriving DecidableEq,Inhabited
instance : DatL Fz where
 sz:=1
 agg:=false
 cells z:=[.s (.complex .f64 z.x z.y)]
 dec | [.s (.complex .f64 a b)]=>some ⟨a,b⟩ | _=>none
 ok:=by intro l a h; split at h <;> cases h; rfl
 data:=fun a=>rfl
 one:=fun _=>by first | rfl | trivial | (intros; rfl)
 dec_cells:=fun a=>rfl
end Go.Am
end
section
namespace Go.Am
open Dat (cells)
variable {P : Program}
structure ReadsAs (P:Program) (t:TypeId) (α:Type) [DatL α]:Prop where
 sz:P.cellsOf t=Dat.sz α
 pos:0 < Dat.sz α
 rd:∀ {H:Type} (en:TypeId×Value→H) (w:World) (sp:Nat→Bool) (fuel:Nat) (cs:List Value) (x:DataW H×List MemPlace),DataW.trod en P w 0 sp true fuel t cs=some x →
  ∃ a:α,(cells a).length=Dat.sz α∧cs.length=Dat.sz α∧∀ (j:Nat) (c:C),(cells a)[j]? = some c→RepD (fun b=>b < w.heap.size) w.heap c (cs.getD j undef)∧(cs.getD j undef).oneCell'=true
theorem ReadsAs.int {t:TypeId} (ht:P.underlying t=some (.int .i64)) (hc:P.cellsOf t=1):ReadsAs P t Int:=by
 refine ⟨hc,by decide,fun en w sp fuel cs x h=>?_⟩
 obtain ⟨n,rfl,_,_⟩:=DataW.trod_int ht h
 refine ⟨n,rfl,rfl,fun j c hj=>?_⟩
 cases j with
 | zero=>
  simp only [cells,List.getElem?_cons_zero,Option.some.injEq] at hj
  subst hj
  exact ⟨.s _,rfl⟩
 | succ j=>simp [cells] at hj
theorem cells?_get {w:World} {a:Addr} {n:Nat} {cs:List Value} (h:w.cells? 0 a n=some cs):cs.length=n∧∀ j,j < n→w.cell? (a.add j)=cs[j]?:=by
 unfold World.cells? at h
 rw [if_pos (Nat.zero_le _)] at h
 exact ⟨by simpa using mapM_some_length h,fun j hj=>mapM_some_get h j j (by simp [hj])⟩
theorem iY (a:Addr) (n m:Nat):((a.add n).add m).block=a.block∧((a.add n).add m).off=a.off+n+m:=by
 unfold Addr.add
 split <;> split <;> simp_all <;> omega
theorem cell?_inv {w:World} {a:Addr} {v:Value} (h:w.cell? a=some v):a.spot=none∧∃ arr ty fz,w.heap[a.block]? = some (.cells arr ty fz)∧arr[a.off]? = some v:=by
 unfold World.cell? at h
 split at h
 · rename_i arr ty fz hh
   split at h
   · cases h
   · rename_i hs
     exact ⟨by cases hq:a.spot <;> simp_all,arr,ty,fz,hh,h⟩
 · cases h
theorem ReadsAs.list {t e:TypeId} {α:Type} [DatL α] (he:ReadsAs P e α) (ht:P.underlying t=some (.slice e)) (hc:P.cellsOf t=1):ReadsAs P t (List α):=by
 refine ⟨hc,(by show 0 < 1; decide),fun en w sp fuel cs x h=>?_⟩
 rcases DataW.trod_slice ht h with ⟨rfl,_⟩ | ⟨a,len,cap,elems,rest,n,_,rfl,_,_,hl,hm,hlen,hel,_,_⟩
 · refine ⟨[],rfl,rfl,fun j c hj=>?_⟩
   cases j with
   | zero=>
    simp only [cells,List.getElem?_cons_zero,Option.some.injEq] at hj
    subst hj
    exact ⟨.sl0 _ _ _ (by simp [maxLen]),rfl⟩
   | succ j=>simp [cells] at hj
 · have hpos:=he.pos
   rcases Nat.eq_zero_or_pos len with h0 | h0
   · subst h0
     refine ⟨[],rfl,rfl,fun j c hj=>?_⟩
     cases j with
     | zero=>
      simp only [cells,List.getElem?_cons_zero,Option.some.injEq] at hj
      subst hj
      exact ⟨.sl0 _ _ _ hm,rfl⟩
     | succ j=>simp [cells] at hj
   · have hget:∀ i,i < len→∃ q:α×List Value,w.cells? 0 (a.add (i*Dat.sz α)) (Dat.sz α)=some q.2∧(cells q.1).length=Dat.sz α∧∀ (j:Nat) (c:C),(cells q.1)[j]? = some c→RepD (fun b=>b < w.heap.size) w.heap c (q.2.getD j undef)∧(q.2.getD j undef).oneCell'=true:=fun i hi=>by
      have h1:=hel i hi
      rw [List.getElem?_eq_getElem (by omega),Option.bind_eq_some_iff] at h1
      obtain ⟨ci,h2,h3⟩:=h1
      obtain ⟨q,h4,h5,h6⟩:=he.rd en w sp n ci _ h3
      exact ⟨(q,ci),by rw [← he.sz]; exact h2,h4,h6⟩
     have hex:∀ i:Nat,∃ q:α×List Value,i < len→w.cells? 0 (a.add (i*Dat.sz α)) (Dat.sz α)=some q.2∧(cells q.1).length=Dat.sz α∧∀ (j:Nat) (c:C),(cells q.1)[j]? = some c→RepD (fun b=>b < w.heap.size) w.heap c (q.2.getD j undef)∧(q.2.getD j undef).oneCell'=true:=fun i=>by
      by_cases hi:i < len
      · obtain ⟨q,hq⟩:=hget i hi; exact ⟨q,fun _=>hq⟩
      · obtain ⟨q,_⟩:=hget 0 h0; exact ⟨q,fun h=>absurd h hi⟩
     obtain ⟨f,hf⟩:=Classical.axiomOfChoice hex
     let l:List α:=(List.range len).map fun i=>(f i).1
     have hll:l.length=len:=by simp [l]
     have hli:∀ (i:Nat) (e:List C),(l.map cells)[i]? = some e→i < len∧e=cells (f i).1:=fun i e h=>by
      rw [List.getElem?_map,List.getElem?_map,Option.map_map,Option.map_eq_some_iff] at h
      obtain ⟨k,h1,rfl⟩:=h
      have hi:=(List.getElem?_eq_some_iff.1 h1).1
      simp only [List.length_range] at hi
      rw [List.getElem?_range hi] at h1
      cases h1
      exact ⟨hi,rfl⟩
     have hcell:∀ i,i < len→∀ j,j < Dat.sz α→w.cell? ((a.add (i*Dat.sz α)).add j)=some ((f i).2.getD j undef):=fun i hi j hj=>by
      obtain ⟨h1,h2,h3⟩:=hf i hi
      obtain ⟨g1,g2⟩:=cells?_get h1
      rw [g2 j hj,List.getD_eq_getElem?_getD,List.getElem?_eq_getElem (by omega)]; rfl
     obtain ⟨hsp,arr,ty,fz,hh,_⟩:=cell?_inv (hcell 0 h0 0 hpos)
     have hsp':a.spot=none:=by simpa [Addr.add] using hsp
     rw [(iY a _ _).1] at hh
     obtain ⟨b,off,spot⟩:=a
     simp only at hsp'
     subst hsp'
     have hb:b < w.heap.size:=by
      rcases Nat.lt_or_ge b w.heap.size with h | h
      · exact h
      · have hh':w.heap[b]? = some (.cells arr ty fz):=hh
        rw [Array.getElem?_eq_none h] at hh'; cases hh'
     refine ⟨l,rfl,rfl,fun j c hj=>?_⟩
     cases j with
     | succ j=>simp [cells] at hj
     | zero=>
      simp only [cells,List.getElem?_cons_zero,Option.some.injEq] at hj
      subst hj
      refine ⟨?_,rfl⟩
      have hmain:RepD (fun b=>b < w.heap.size) w.heap (.sl (Dat.sz α) (l.map cells)) (.slice (some ⟨b,off,none⟩) (l.map cells).length cap):=by
       refine .sl (l.map cells) b off cap (Dat.sz α) arr ty fz (fun i j=>(f i).2.getD j undef) hb hh (by simpa [hll] using hl) hm (fun i e h=>?_) (fun i e j c h1 h2=>?_) (fun i e j c h1 h2=>?_)
       · obtain ⟨g1,rfl⟩:=hli i e h
         exact (hf i g1).2.1
       · obtain ⟨g1,rfl⟩:=hli i e h1
         obtain ⟨q1,q2,q3⟩:=hf i g1
         have hj:j < Dat.sz α:=by have:=(List.getElem?_eq_some_iff.1 h2).1; omega
         obtain ⟨_,arr2,ty2,fz2,hh2,hg⟩:=cell?_inv (hcell i g1 j hj)
         rw [(iY _ _ _).1] at hh2
         rw [(iY _ _ _).2] at hg
         have hh2':w.heap[b]? = some (.cells arr2 ty2 fz2):=hh2
         have hh':w.heap[b]? = some (.cells arr ty fz):=hh
         rw [hh'] at hh2'
         cases hh2'
         exact ⟨hg,(q3 j c h2).2⟩
       · obtain ⟨g1,rfl⟩:=hli i e h1
         exact ((hf i g1).2.2 j c h2).1
      simpa [hll] using hmain
theorem ReadsAs.argS {t:TypeId} {fs:Array Field} {α:Type} [DatL α] (h:ReadsAs P t α) (hag:Dat.agg α=true) (ht:P.underlying t=some (.struct fs)) {H:Type} {en:TypeId×Value→H} {W:World} {r:Reach} {base:Nat} {sp:Nat→Bool} {v:Value} {d:DataW H} {ps:List MemPlace}
 (hval:Value.okWide P W r base t v) (hd:DataW.Trod en P W 0 sp true t v d ps):∃ a:α,∀ E,Rep E (fun b=>b < W.heap.size) W.heap (enc a) v:=by
 obtain ⟨vs,rfl,_⟩:=WideShapes.okWide_struct ht hval
 obtain ⟨fuel,hf⟩:=hd
 obtain ⟨a,h1,h2,h3⟩:=h.rd en W sp fuel _ _ hf
 have hc:(Value.agg vs).cells=vs:=by simp [Value.cells]
 rw [hc] at h2 h3
 have e:∀ j,vs.toList.getD j undef=vs.getD j undef:=fun j=>by simp [List.getD_eq_getElem?_getD,Array.getD_eq_getD_getElem?]
 refine ⟨a,fun E=>?_⟩
 rw [enc,if_pos hag]
 refine .agg _ vs (by simpa [h1] using h2) (fun j c hj=>.d (by have:=(h3 j c hj).1; rwa [e] at this)) (fun j hj=>?_)
 have hj':j < (cells a).length:=by rw [h1,← h2]; simpa using hj
 have:=(h3 j _ (List.getElem?_eq_getElem hj')).2
 rwa [e] at this
theorem law_walkG [Glob P] {f:FuncId} {args:List C} (hF:FC P f args [] (enc true) []) {vs:Array Value} {W:World} (hg:eW P (fun b=>b < W.heap.size) W.heap) (hs:vs.size=args.length)
 (ha:∀ (j:Nat) (c:C),args[j]? = some c→∀ E,Rep E (fun b=>b < W.heap.size) W.heap c (vs.getD j undef)) :
 Calls P f vs W fun e w'=>e=.returned (.bool true)∧RowKit.Below W.heap.size W w':=by
 refine (hF.2 default (fun b=>b < W.heap.size) vs W hg ⟨hs,fun j c hj=>ha j c hj _⟩ ⟨by simp,fun k c h=>by simp at h,fun k c _ _ h=>by simp at h,fun k c h=>by simp at h,fun k c h=>by simp at h,fun b hb=>hb⟩).mono ?_
 rintro e w' ⟨v,E',U',rfl,hr,hce⟩
 have:v=.bool true:=dJ hr
 subst this
 exact ⟨rfl,hce.os,hce.tape,hce.output,hce.size,fun k hk=>hce.rest k hk (fun k c h=>by simp at h)⟩
end Go.Am
end
section
namespace Go.Am
open Dat (cells)
def v0 := And.intro @enc_int <| And.intro @vO <| And.intro @enc_str <| And.intro @gu <| And.intro @enc_gs <| And.intro @m9 <| And.intro @sz_gs <| And.intro @dec_gs <| And.intro @decV_gs <| And.intro @getD_gs <| And.intro @gs_eta <| And.intro @sz_int <| And.intro @sz_bool <| And.intro @sz_str <| And.intro @sz_list <| And.intro @vH <| And.intro @tX <| And.intro @vJ <| And.intro @vI <| And.intro @decV_sl <| And.intro @dec_int <| And.intro @vK <| And.intro @dec_str <| And.intro @vL <| And.intro @vG <| And.intro @tW <| And.intro @fm <| And.intro @vS <| And.intro @uv <| And.intro @vT <| And.intro @tS <| And.intro @sT <| And.intro @tT <| And.intro @sU <| And.intro @Option.getD_some.{0} <| And.intro @Option.getD_none.{0} <| And.intro @Option.map_some.{0,0} <| And.intro @Option.map_none.{0,0} <| And.intro @Option.bind_some.{0,0} <| @Option.bind_none.{0,0}
def v1 := And.intro @Option.some.injEq.{0} <| And.intro @true_and <| And.intro @and_true <| And.intro @and_self <| And.intro @Int.lt_irrefl <| And.intro @Nat.lt_irrefl <| And.intro @Nat.zero_add <| And.intro @Nat.add_zero <| And.intro @Bool.false_eq_true <| And.intro @Bool.not_true <| And.intro @Bool.not_false <| And.intro @Bool.true_eq_false <| And.intro @decide_true <| And.intro @decide_false <| And.intro @decide_eq_true_eq <| And.intro @Bool.not_eq_true' <| And.intro @decide_eq_false_iff_not <| And.intro @List.map_cons.{0,0} <| And.intro @List.map_nil.{0,0} <| And.intro @List.length_cons.{0} <| And.intro @List.length_nil.{0} <| And.intro @List.length_map.{0,0} <| And.intro @List.take_succ_cons.{0} <| And.intro @List.take_zero.{0} <| And.intro @List.take_nil.{0} <| And.intro @List.drop_succ_cons.{0} <| And.intro @List.drop_zero.{0} <| And.intro @List.drop_nil.{0} <| And.intro @List.headD_cons.{0} <| And.intro @List.getD_cons_zero.{0} <| And.intro @List.getD_cons_succ.{0} <| And.intro @List.cons_append.{0} <| And.intro @List.nil_append.{0} <| And.intro @List.append_nil.{0} <| And.intro @List.all_cons.{0} <| And.intro @List.all_nil.{0} <| And.intro @Bool.and_true <| And.intro @Bool.true_and <| And.intro @Bool.and_self <| @List.isEmpty_nil.{0}
def v2 := And.intro @List.isEmpty_cons.{0} <| And.intro @List.replicate_succ.{0} <| And.intro @List.replicate_zero.{0} <| And.intro @List.set_cons_zero.{0} <| And.intro @List.set_cons_succ.{0} <| And.intro @List.lookup_nil.{0,0} <| And.intro @uI <| And.intro @Option.isSome_none.{0} <| And.intro @Option.isSome_some.{0} <| And.intro @Int.toNat_natCast <| And.intro @Int.toNat_zero <| And.intro @and_false <| And.intro @false_and <| And.intro @imp_self <| And.intro @true_implies <| And.intro @false_implies <| And.intro @C.s.injEq <| And.intro @C.sl.injEq <| And.intro @C.tup.injEq <| And.intro @C.agg.injEq <| And.intro @C.own.injEq <| And.intro @Go.Value.int.injEq <| And.intro @Go.Value.bool.injEq <| And.intro @Go.Value.string.injEq <| And.intro @Bool.or_false <| And.intro @Bool.or_self <| And.intro @Bool.false_or <| And.intro @Bool.or_true <| And.intro @Bool.true_or <| And.intro @ER.cont.injEq <| And.intro @List.getElem?_cons_zero.{0} <| And.intro @List.getElem?_cons_succ.{0} <| And.intro @List.getElem?_nil.{0} <| And.intro @List.contains_cons.{0} <| And.intro @List.contains_nil.{0} <| @beq_self_eq_true.{0}
def V := And.intro @v0 <| And.intro @v1 <| @v2
end Go.Am
end
section
namespace Go.Am
open Dat (cells)
variable {P : Program} [Glob P] {cx : Cx} {Q : ASt → Prop} {k : List It} {st : ASt}
theorem iv {x:AC} (h:SG P cx Q (.c x :: k) st):SG P cx Q (.c (.cut x) :: k) st:=e8 fun code hc E U a w hh=>by
 simp only [d9,Option.map_eq_some_iff] at hc
 obtain ⟨x',h1,h2⟩:=hc
 cases h2
 exact h E U a w hh code h1
def Recs (P:Program) [Glob P]:List AO→ASt→List (AO×ASt×Eff)→ASt→Prop
 | [],s,[],s'=>s'=s
 | o :: os,s,r :: R,s'=>r=(o,s,r.2.2)∧StepE P o s r.2.2∧(o.tot=true∨(r.2.2.ch=s.ch∧r.2.2.sub=[]))∧Recs P os (aw o.dst r.2.2 s) R s'
 | _,_,_,_=>False
theorem pU : ∀ (aos:List AO) (s:ASt) (R:List (AO×ASt×Eff)) (s':ASt),Recs P aos s R s'→R.length=aos.length ∧
 (∀ (j:Nat) r,R[j]? = some r→aos[j]? = some r.1∧r.2.1=stS (aos.zip (R.map (·.2.2))) (fun i=>decide (i < j)) s∧StepE P r.1 r.2.1 r.2.2∧(r.1.tot=true∨(r.2.2.ch=r.2.1.ch∧r.2.2.sub=[]))) ∧
 s'=stS (aos.zip (R.map (·.2.2))) (fun i=>decide (i < aos.length)) s
 | [],s,[],s',h=>by
  simp only [Recs] at h
  subst h
  exact ⟨rfl,fun j r h=>by simp at h,rfl⟩
 | [],s,_ :: _,s',h=>by simp [Recs] at h
 | _ :: _,s,[],s',h=>by simp [Recs] at h
 | o :: os,s,r :: R,s',h=>by
  obtain ⟨h0,h1,h2,h3⟩:=h
  have hp:aw o.dst r.2.2 s=stF (o,r.2.2) s:=by
   simp only [aw,stF,chF]
   rcases h2 with h | ⟨h,_⟩
   · rw [if_pos h]
   · by_cases ht:o.tot=true
     · rw [if_pos ht]
     · rw [if_neg ht,h]
  rw [hp] at h3
  obtain ⟨l1,l2,l3⟩:=pU os _ R s' h3
  have shift:∀ j,stS (os.zip (R.map (·.2.2))) (fun i=>decide (i < j)) (stF (o,r.2.2) s)=stS ((o :: os).zip ((r :: R).map (·.2.2))) (fun i=>decide (i < j+1)) s:=fun j=>by
   simp only [stS,List.map_cons,List.zip_cons_cons,dT,Nat.zero_lt_succ,decide_true,if_true]
   have:∀ (fs:List (ASt→ASt)) (k:Nat) (a:ASt),dT fs (fun i=>decide (i < j)) k a=dT fs (fun i=>decide (i < j+1)) (k+1) a:=by
    intro fs
    induction fs with
    | nil=>intro k a; rfl
    | cons f r ih=>
     intro k a
     simp only [dT]
     rw [ih]
     by_cases hk:k < j
     · simp [hk]
     · simp [hk]
   exact this _ 0 _
  refine ⟨by simp [l1],fun j q hj=>?_,?_⟩
  · cases j with
    | zero=>
     simp only [List.getElem?_cons_zero,Option.some.injEq] at hj
     subst hj
     have e0:stS ((o :: os).zip ((r :: R).map (·.2.2))) (fun i=>decide (i < 0)) s=s:=gM _ _ 0 s (fun k f _ hs=>by simp at hs)
     rw [e0]
     have g1:r.1=o:=by rw [h0]
     have g2:r.2.1=s:=by rw [h0]
     rw [g1,g2]
     exact ⟨rfl,rfl,h1,h2⟩
    | succ j=>
     simp only [List.getElem?_cons_succ] at hj ⊢
     rw [← shift j]
     exact l2 j q hj
  · rw [l3,shift]; rfl
def reC (P:Program) [Glob P] (L:List (Ent P)) (t:dI) (h:Chs) (o:AO) (v:C):Option Eff→Prop
 | some e2=>o.guard=none∧e2.cond∧e2.v=v∧e2.ch=h∧e2.sub=[]
 | none=>match aF L (aq P t) h (o.dst.getD 0) o.op with
  | .cal (.eff e2)=>o.guard=none∧e2.cond∧e2.v=v∧e2.ch=h∧e2.sub=[]
  | _=>False
def eP : List Operand→List Nat
 | []=>[]
 | .tmp t :: l=>t :: eP l
 | _ :: l=>eP l
theorem jj {x:Nat}:∀ {l:List Operand},x∈l.filterMap (fun x=>match x with | .tmp t=>some t | _=>none)→x∈eP l
 | [],h=>by simp at h
 | y :: l,h=>by
  simp only [List.mem_filterMap,List.mem_cons] at h
  obtain ⟨z,hz,hx⟩:=h
  rcases hz with rfl | hz
  · cases z with
    | tmp t=>simp only [Option.some.injEq] at hx; subst hx; exact List.mem_cons_self
    | _=>cases hx
  · have ih:=jj (l:=l) (List.mem_filterMap.2 ⟨z,hz,hx⟩)
    cases y with
    | tmp t=>exact List.mem_cons_of_mem _ ih
    | _=>exact ih
def fixS (m:List (Nat×Sb)) (t:dI):List Nat→Prop
 | []=>True
 | x :: l=>ah m (gt t x)=gt t x∧fixS m t l
theorem rh {m:List (Nat×Sb)} {t:dI} {x:Nat}:∀ {l:List Nat},fixS m t l→x∈l→ah m (gt t x)=gt t x
 | [],_,h=>by cases h
 | y :: l,h,hx=>by
  rcases List.mem_cons.1 hx with rfl | hx
  · exact h.1
  · exact rh h.2 hx
def robC (P:Program) [Glob P] (L:List (Ent P)) (e j:Nat):Option (AO×ASt×Eff)→Option (AO×ASt×Eff)→Prop
 | some (o,s,ef),some (_,se,efe)=>
  ah efe.sub ef.v=ef.v∧fixS efe.sub (if j < e then s.t else se.t) (eP o.op.reads) ∧
   reC P L s.t (if j < e then efe.ch else se.ch) o ef.v (ai (aq P s.t) (if j < e then efe.ch else se.ch) (o.dst.getD 0) o.op)
 | _,_=>False
def lB (P:Program) [Glob P] (L:List (Ent P)) (e:Nat) (R:List (AO×ASt×Eff)):List Nat→Prop
 | []=>True
 | j :: rb=>robC P L e j (R[j]?) (R[e]?)∧lB P L e R rb
theorem uY {L:List (Ent P)} {t:dI} {h:Chs} {o:AO} {v:C}:∀ {q:Option Eff},reC P L t h o v q→o.guard=none
 | some _,hr=>hr.1
 | none,hr=>by
  simp only [reC] at hr
  split at hr
  · exact hr.1
  · cases hr
theorem wt {L:List (Ent P)} {t:dI} {h:Chs} {o:AO} {v:C} (hr:reC P L t h o v (ai (aq P t) h (o.dst.getD 0) o.op)):∃ ef2,StepE P o ⟨t,h⟩ ef2∧ef2.v=v∧ef2.ch=h∧ef2.sub=[]:=by
 cases hq:ai (aq P t) h (o.dst.getD 0) o.op with
 | some e2=>
  rw [hq] at hr
  obtain ⟨h1,h2,h3,h4,h5⟩:=hr
  exact ⟨e2,.yes e2 (by rw [h1]; rfl) (.f hq h2),h3,h4,h5⟩
 | none=>
  rw [hq] at hr
  simp only [reC] at hr
  split at hr
  · rename_i e2 hm
    obtain ⟨h1,h2,h3,h4,h5⟩:=hr
    have hop:OpR P (aq P t) h (o.dst.getD 0) o.op ⟨True,e2.v,e2.ch,e2.sub⟩:=by
     unfold aF at hm
     split at hm
     · rename_i fo aS ho
       rw [ho]
       cases hm':bY L h (o.dst.getD 0) (bk (aq P t fo)) (List.map (aq P t) aS) with
       | eff e=>
        rw [hm'] at hm
        cases hm
        exact jE hm' h2
       | _=>rw [hm'] at hm; cases hm
     · cases hm
    exact ⟨⟨True,e2.v,e2.ch,e2.sub⟩,.yes _ (by rw [h1]; rfl) hop,h3,h4,h5⟩
  · cases hr
theorem rG {L:List (Ent P)} {e:Nat} {R:List (AO×ASt×Eff)}:∀ {rb:List Nat},lB P L e R rb→∀ j∈rb,robC P L e j (R[j]?) (R[e]?)
 | [],_,j,hj=>by cases hj
 | i :: rb,h,j,hj=>by
  rcases List.mem_cons.1 hj with rfl | hj
  · exact h.1
  · exact rG h.2 j hj
theorem S_draw1 {e:Nat} {rb:List Nat} {os:List AO} {L:List (Ent P)} {R:List (AO×ASt×Eff)} {st':ASt} (he9:e≠999) (hR:Recs P os st R st') (hrob:lB P L e R rb) (h2:SG P cx Q k st'):SG P cx Q (.c (.draw e rb os) :: k) st:=e8 fun code hc E U a w hh=>by
 obtain ⟨id,ops,rfl⟩:∃ id ops,code=.region id ops true:=by
  cases code with
  | region id ops draw=>
   cases draw with
   | false=>simp [d9] at hc
   | true=>exact ⟨id,ops,rfl⟩
  | _=>simp [d9] at hc
 · simp only [d9,Option.bind_eq_some_iff] at hc
   obtain ⟨r,h3,h4⟩:=hc
   split at h4
   · rename_i hok
     simp only [Option.some.injEq,AC.draw.injEq,true_and] at h4
     subst h4
     obtain ⟨g1,g2⟩:=iN h3
     have g2':∀ (j:Nat) o ao,ops[j]? = some o→r[j]? = some ao→gf P cx.n ops o ao:=fun j o ao ho ha=>g2 j o ao (by simpa using ho) ha
     simp only [Bool.and_eq_true] at hok
     obtain ⟨l1,l2,l3⟩:=pU _ _ _ _ hR
     have hget:∀ (j:Nat) ao ef,r[j]? = some ao→(R.map (·.2.2))[j]? = some ef→∃ q,R[j]? = some q∧q.1=ao∧q.2.2=ef:=fun j ao ef ha he=>by
      rw [List.getElem?_map,Option.map_eq_some_iff] at he
      obtain ⟨q,hq,rfl⟩:=he
      have:=(l2 j q hq).1
      rw [ha] at this
      exact ⟨q,hq,by cases this; rfl,rfl⟩
     have hchain:∀ (j:Nat) ao ef,r[j]? = some ao→(R.map (·.2.2))[j]? = some ef→StepE P ao (stS (r.zip (R.map (·.2.2))) (fun i=>decide (i < j)) st) ef∧(ao.tot=true∨(ef.ch=(stS (r.zip (R.map (·.2.2))) (fun i=>decide (i < j)) st).ch∧ef.sub=[])):=fun j ao ef ha he=>by
      obtain ⟨q,hq,rfl,rfl⟩:=hget j ao ef ha he
      obtain ⟨_,q2,q3,q4⟩:=l2 j q hq
      rw [← q2]
      exact ⟨q3,q4⟩
     have hrb:∀ j∈rb,RobAt P r (R.map (·.2.2)) st e j:=fun j hj ao ef aoe efe ha he hae hee=>by
      obtain ⟨q,hq,rfl,rfl⟩:=hget j ao ef ha he
      obtain ⟨qe,hqe,rfl,rfl⟩:=hget e aoe efe hae hee
      obtain ⟨_,q2,_,_⟩:=l2 j q hq
      obtain ⟨_,qe2,_,_⟩:=l2 e qe hqe
      have hC:=rG hrob j hj
      rw [hq,hqe] at hC
      obtain ⟨o,s,ef⟩:=q
      obtain ⟨oe,se,efe⟩:=qe
      simp only at q2 qe2
      obtain ⟨c1,c2,c3⟩:=hC
      have hmin:∀ x,gt (if j < e then s.t else se.t) x=gt (stS (r.zip (R.map (·.2.2))) (fun i=>decide (i < min j e)) st).t x:=fun x=>by
       by_cases hje:j < e
       · rw [if_pos hje,Nat.min_eq_left (Nat.le_of_lt hje),q2]
       · rw [if_neg hje,Nat.min_eq_right (by omega),qe2]
      refine ⟨c1,fun x hx=>?_,?_⟩
      · have hgd:=uY c3
        have hx2:x∈eP o.op.reads:=by
         simp only [AO.slots,hgd,List.append_nil] at hx
         exact jj hx
        have:=rh c2 hx2
        rw [hmin] at this; exact this
      · rw [← q2,← qe2]
        exact wt c3
     refine wpIn_region_any hok.2 (vN (by simpa using g1.symm) (by rw [List.length_map,l1]) g2' he9 hok.1 hchain hrb l3 (fun E' U' a' w' h=>h2 E' U' a' w' h) ops.size _ E U a _ (by simp) ?_ (fun j o ho hs=>?_) ?_)
     · have:((List.range ops.size).countP fun i=>!((Array.replicate ops.size false).getD i false))=(List.range ops.size).length:=List.countP_eq_length.2 (fun i hi=>by
        have:=List.mem_range.1 hi
        simp [Array.getD_eq_getD_getElem?,this])
       simpa using this
     · exfalso
       by_cases h:j < ops.size <;> simp [Array.getD_eq_getD_getElem?,h] at hs
     · have e0:stS (r.zip (R.map (·.2.2))) (fun i=>(Array.replicate ops.size false).getD i false) st=st:=gM _ _ 0 st (fun k f _ hs=>by
        exfalso
        by_cases h:k < ops.size <;> simp [Array.getD_eq_getD_getElem?,h] at hs)
       rw [e0]
       exact ⟨hh.sz,hh.df,hh.tok,hh.inv,hh.os,hh.tape,hh.output,hh.size,hh.fr,hh.keepA,hh.live,hh.base,hh.fix,hh.hid,hh.gok⟩
   · cases h4
theorem OpR.f' {ρ:Operand→C} {ch:Chs} {d:Nat} {op:AOp} {ef:Eff} (h:ai ρ ch d op=some ef) (hc:ef.cond):OpR P ρ ch d op ⟨True,ef.v,ef.ch,ef.sub⟩:=by
 obtain ⟨c,v,ch',s⟩:=ef
 have:c=True:=propext ⟨fun _=>trivial,fun _=>hc⟩
 subst this
 exact .f h trivial
def kE (s:Nat):AOp→Prop
 | .call _ aS=>av (eP aS) s=true
 | .ssl _ (.tmp t) _ _ _=>t=s
 | _=>False
theorem ja {s:Nat}:∀ {l:List Operand},s∈eP l→.tmp s∈l
 | [],h=>by cases h
 | y :: l,h=>by
  cases y with
  | tmp t=>
   rcases List.mem_cons.1 h with e | e
   · subst e; exact List.mem_cons_self
   · exact List.mem_cons_of_mem _ (ja e)
  | _=>exact List.mem_cons_of_mem _ (ja h)
theorem tC {s:Nat} {op:AOp} (h:kE s op):.tmp s∈op.reads∧∀ x,op≠.mvs x:=by
 unfold kE at h
 split at h
 · exact ⟨by simp only [AOp.reads]; exact List.mem_cons_of_mem _ (ja (eB.1 h)),fun x e=>by cases e⟩
 · exact ⟨by simp [AOp.reads,h],fun x e=>by cases e⟩
 · exact h.elim
theorem nn {s kk j m:Nat} {ty:TypeId} {es:List (List C)} {p:Prop} {ch':Chs} {d:Nat} {op:AOp} {ef:Eff} (g1:s < 100000) (hp:p) (g3:kk≠s) (g4:kE s op) (hs:gt st.t s=.inn kk j) (hl:aM st.ch kk j=some (p,m,ty,es)) (hh:aL st.ch kk j=some ch')
 (h:OpR P (aq P (aR s kk m ty es ch' st).t) (aR s kk m ty es ch' st).ch d op ef):OpR P (aq P st.t) st.ch d op ⟨ef.cond,ef.v,ef.ch,aZ [(s,.c .any),(kk,.inner)] ef.sub⟩:=by
 obtain ⟨r1,r2⟩:=tC g4
 refine .take r2 hs r1 hl hp hh g3 g1 (by simp [aq,aR,fQ]) (fun x _ hx=>?_) h
 cases x with
 | tmp i=>
  have hi:s≠i:=fun e=>hx (by rw [e])
  simp only [aq,aR,fQ,if_neg hi]
  exact iy _ _ _
 | const v=>simp [aq,ah]
 | global g=>
  simp only [aq]
  cases lk (Glob.gl P) g <;> simp [ah]
 | func f=>simp [aq,ah,ah.subCs]
def drS (P:Program) [Glob P] (L:List (Ent P)) (cx:Cx) (Q:ASt→Prop) (k:List It) (e:Nat) (rb:List Nat):Nat→Md→List AO→ASt→List (AO×ASt×Eff)→Prop
 | _+1,.run,[],st,R=>lB P L e R rb∧SG P cx Q k st
 | n+1,.run,⟨dst,none,op,tot⟩ :: os,st,R=>drS P L cx Q k e rb n (.eff (ai (aq P st.t) st.ch (dst.getD 0) op)) (⟨dst,none,op,tot⟩ :: os) st R
 | n+1,.eff (some ef),⟨dst,none,op,tot⟩ :: os,st,R=>ef.cond∧bJ true ⟨dst,none,op,tot⟩ ef st∧drS P L cx Q k e rb n .run os (aw dst ef st) (R++[(⟨dst,none,op,tot⟩,st,ef)])
 | n+1,.eff none,⟨dst,none,op,tot⟩ :: os,st,R=>drS P L cx Q k e rb n (.tk1 (cg L (aq P st.t) op)) (⟨dst,none,op,tot⟩ :: os) st R
 | n+1,.tk1 none,⟨dst,none,op,tot⟩ :: os,st,R=>drS P L cx Q k e rb n (aF L (aq P st.t) st.ch (dst.getD 0) op) (⟨dst,none,op,tot⟩ :: os) st R
 | n+1,.tk1 (some (s,kk,j)),⟨dst,none,op,tot⟩ :: os,st,R=>drS P L cx Q k e rb n (.tq s kk j (aM st.ch kk j) (aL st.ch kk j)) (⟨dst,none,op,tot⟩ :: os) st R
 | n+1,.tq s kk _ (some (p,m,ty,es)) (some ch'),⟨dst,none,op,tot⟩ :: os,st,R=>drS P L cx Q k e rb n (.tr s kk p (aR s kk m ty es ch' st) (ai (aq P (aR s kk m ty es ch' st).t) (aR s kk m ty es ch' st).ch (dst.getD 0) op)) (⟨dst,none,op,tot⟩ :: os) st R
 | n+1,.tr s kk p _ (some ef),⟨dst,none,op,tot⟩ :: os,st,R=>s < 100000∧p∧kk≠s∧kE s op∧ef.cond∧bJ true ⟨dst,none,op,tot⟩ ⟨True,ef.v,ef.ch,aZ [(s,.c .any),(kk,.inner)] ef.sub⟩ st ∧
  drS P L cx Q k e rb n .run os (aw dst ⟨True,ef.v,ef.ch,aZ [(s,.c .any),(kk,.inner)] ef.sub⟩ st) (R++[(⟨dst,none,op,tot⟩,st,⟨True,ef.v,ef.ch,aZ [(s,.c .any),(kk,.inner)] ef.sub⟩)])
 | n+1,.tr s kk p s1 none,⟨dst,none,op,tot⟩ :: os,st,R=>drS P L cx Q k e rb n (.ts s kk p s1 (aF L (aq P s1.t) s1.ch (dst.getD 0) op)) (⟨dst,none,op,tot⟩ :: os) st R
 | n+1,.ts s kk p _ (.cal (.eff ef)),⟨dst,none,op,tot⟩ :: os,st,R=>s < 100000∧p∧kk≠s∧kE s op∧ef.cond∧bJ true ⟨dst,none,op,tot⟩ ⟨True,ef.v,ef.ch,aZ [(s,.c .any),(kk,.inner)] ef.sub⟩ st ∧
  drS P L cx Q k e rb n .run os (aw dst ⟨True,ef.v,ef.ch,aZ [(s,.c .any),(kk,.inner)] ef.sub⟩ st) (R++[(⟨dst,none,op,tot⟩,st,⟨True,ef.v,ef.ch,aZ [(s,.c .any),(kk,.inner)] ef.sub⟩)])
 | n+1,.cal (.eff ef),⟨dst,none,op,tot⟩ :: os,st,R=>ef.cond∧bJ true ⟨dst,none,op,tot⟩ ef st∧drS P L cx Q k e rb n .run os (aw dst ef st) (R++[(⟨dst,none,op,tot⟩,st,⟨True,ef.v,ef.ch,ef.sub⟩)])
 | _,_,_,_,_=>False
def okD (P:Program) [Glob P] (L:List (Ent P)) (m:Md) (os:List AO) (st:ASt):Prop:=
 match m,os with
 | .eff o,⟨dst,none,op,_⟩ :: _=>o=ai (aq P st.t) st.ch (dst.getD 0) op
 | .cal r,⟨dst,none,op,_⟩ :: _=>aF L (aq P st.t) st.ch (dst.getD 0) op=.cal r
 | .tk1 o,⟨_,none,op,_⟩ :: _=>o=cg L (aq P st.t) op
 | .tq s kk j o h,_=>gt st.t s=.inn kk j∧o=aM st.ch kk j∧h=aL st.ch kk j
 | .tr s kk p s1 o,⟨dst,none,op,_⟩ :: _=>∃ j m ty es ch',gt st.t s=.inn kk j∧aM st.ch kk j=some (p,m,ty,es)∧aL st.ch kk j=some ch'∧s1=aR s kk m ty es ch' st∧o=ai (aq P s1.t) s1.ch (dst.getD 0) op
 | .ts s kk p s1 md,⟨dst,none,op,_⟩ :: _=>∃ j m ty es ch',gt st.t s=.inn kk j∧aM st.ch kk j=some (p,m,ty,es)∧aL st.ch kk j=some ch'∧s1=aR s kk m ty es ch' st∧md=aF L (aq P s1.t) s1.ch (dst.getD 0) op
 | _,_=>True
theorem jt {L:List (Ent P)} {t:dI} {h:Chs} {d:Nat} {op:AOp} {ef:Eff} (hm:aF L (aq P t) h d op=.cal (.eff ef)) (h1:ef.cond):OpR P (aq P t) h d op ⟨True,ef.v,ef.ch,ef.sub⟩:=by
 unfold aF at hm
 split at hm
 · rename_i fo aS
   cases hm':bY L h d (bk (aq P t fo)) (List.map (aq P t) aS) with
   | eff e=>
    rw [hm'] at hm
    cases hm
    exact jE hm' h1
   | _=>rw [hm'] at hm; cases hm
 · cases hm
theorem t6 {L:List (Ent P)} {e:Nat} {rb:List Nat} (n:Nat) (m:Md) (os:List AO) (st:ASt) (R:List (AO×ASt×Eff)) (h:drS P L cx Q k e rb n m os st R) (hm:okD P L m os st) :
 ∃ R' st',Recs P os st R' st'∧lB P L e (R++R') rb∧SG P cx Q k st':=by
 induction n generalizing m os st R with
 | zero=>unfold drS at h; exact h.elim
 | succ n ih=>
  generalize hN:n+1=N at h
  unfold drS at h
  split at h
  all_goals (try cases hN)
  · exact ⟨[],_,rfl,by rw [List.append_nil]; exact h.1,h.2⟩
  · exact ih _ _ _ _ h rfl
  · rename_i ef dst op tot os
    obtain ⟨h1,h2,h3⟩:=h
    obtain ⟨R',st',g1,g2,g3⟩:=ih _ _ _ _ h3 (by unfold okD; trivial)
    refine ⟨(⟨dst,none,op,tot⟩,st,ef) :: R',st',⟨rfl,.yes ef rfl (.f hm.symm h1),jU h2 rfl,g1⟩,?_,g3⟩
    rw [List.append_cons]; exact g2
  · exact ih _ _ _ _ h rfl
  · rename_i dst op tot os
    have hmd:∃ r,aF L (aq P st.t) st.ch (dst.getD 0) op=.cal r:=by unfold aF; split <;> exact ⟨_,rfl⟩
    obtain ⟨r,hr⟩:=hmd
    rw [hr] at h
    exact ih _ _ _ _ h hr
  · exact ih _ _ _ _ h ⟨nx (L:=L) (ρ:=aq P st.t) hm.symm,rfl,rfl⟩
  · obtain ⟨m1,m2,m3⟩:=hm
    exact ih _ _ _ _ h ⟨_,_,_,_,_,m1,m2.symm,m3.symm,rfl,rfl⟩
  · rename_i s kk p s1 ef dst op tot os
    obtain ⟨j,m,ty,es,ch',q1,q2,q3,q4,q5⟩:=hm
    obtain ⟨g1,g2,g3,g4,g5,h2,h3⟩:=h
    obtain ⟨R',st',r1,r2,r3⟩:=ih _ _ _ _ h3 (by unfold okD; trivial)
    have hop:=nn (d:=dst.getD 0) (op:=op) (ef:=⟨True,ef.v,ef.ch,ef.sub⟩) g1 g2 g3 g4 q1 q2 q3 (by rw [← q4]; exact .f' q5.symm g5)
    refine ⟨(⟨dst,none,op,tot⟩,st,_) :: R',st',⟨rfl,.yes _ rfl hop,jU h2 rfl,r1⟩,?_,r3⟩
    rw [List.append_cons]; exact r2
  · rename_i s kk p s1 dst op tot os
    obtain ⟨j,m,ty,es,ch',q1,q2,q3,q4,q5⟩:=hm
    exact ih _ _ _ _ h ⟨j,m,ty,es,ch',q1,q2,q3,q4,rfl⟩
  · rename_i s kk p s1 ef dst op tot os
    obtain ⟨j,m,ty,es,ch',q1,q2,q3,q4,q5⟩:=hm
    obtain ⟨g1,g2,g3,g4,g5,h2,h3⟩:=h
    obtain ⟨R',st',r1,r2,r3⟩:=ih _ _ _ _ h3 (by unfold okD; trivial)
    have hop:=nn (d:=dst.getD 0) (op:=op) (ef:=⟨True,ef.v,ef.ch,ef.sub⟩) g1 g2 g3 g4 q1 q2 q3 (by rw [← q4]; exact jt q5.symm g5)
    refine ⟨(⟨dst,none,op,tot⟩,st,_) :: R',st',⟨rfl,.yes _ rfl hop,jU h2 rfl,r1⟩,?_,r3⟩
    rw [List.append_cons]; exact r2
  · rename_i ef dst op tot os
    obtain ⟨h1,h2,h3⟩:=h
    have hop:OpR P (aq P st.t) st.ch (dst.getD 0) op ⟨True,ef.v,ef.ch,ef.sub⟩:=by
     simp only [okD] at hm
     unfold aF at hm
     split at hm
     · rename_i fo aS
       cases hm':bY L st.ch (dst.getD 0) (bk (aq P st.t fo)) (List.map (aq P st.t) aS) with
       | eff e=>
        rw [hm'] at hm
        cases hm
        exact jE hm' h1
       | _=>rw [hm'] at hm; cases hm
     · cases hm
    obtain ⟨R',st',g1,g2,g3⟩:=ih _ _ _ _ h3 (by unfold okD; trivial)
    refine ⟨(⟨dst,none,op,tot⟩,st,⟨True,ef.v,ef.ch,ef.sub⟩) :: R',st',⟨rfl,.yes _ rfl hop,?_,g1⟩,?_,g3⟩
    · exact jU (ef:=⟨True,ef.v,ef.ch,ef.sub⟩) (by unfold bJ at h2 ⊢; exact h2) rfl
    · rw [List.append_cons]; exact g2
  · exact h.elim
theorem nB {e:Nat} {rb:List Nat} {os:List AO} (L:List (Ent P)) (n:Nat) (h:drS P L cx Q k e rb n .run os st []) (he9:(e == 999)=false:=by rfl):SG P cx Q (.c (.draw e rb os) :: k) st:=by
 obtain ⟨R',st',g1,g2,g3⟩:=t6 n .run os st [] h (by unfold okD; trivial)
 exact S_draw1 (by simpa using he9) g1 g2 g3
end Go.Am
end
section
namespace Go.Am
open Dat (cells)
variable {P : Program} [Glob P]
variable {cx : Cx} {Q : ASt → Prop} {k : List It} {st : ASt}
def lJ (rb:List Nat) (S:Nat→Bool):Prop:=∀ c∈rb,S (c % 100)=true→S (c / 100)=true
end Go.Am
end
section
namespace Go.Am
open Dat (cells)
variable {P : Program} [Glob P] {cx : Cx} {Q : ASt → Prop} {k : List It} {st : ASt}
theorem eH (d:Nat) (c:C) (t:dI) (x:Nat):gt ((d,c) :: t) x=if d=x then c else gt t x:=by
 by_cases h:d=x
 · subst h; rw [if_pos rfl]; simp [gt,lk]
 · rw [if_neg h]; simp [gt,lk,h]
end Go.Am
end
section
namespace Go.Am
open Dat (cells)
variable {P : Program} [Glob P]
theorem CEv.below {E:Env} {U:Nat→Prop} {w w':World} (hi:Inv E U w.heap []) (hb:RowKit.Below w.heap.size w w'):CEv E U w [] E U w' []:=
 ⟨hb.os,hb.tape,hb.output,hb.size,fun b h=>⟨h,hb.block b (hi.lt b h)⟩,fun b h _=>hb.block b h,fun _ _ h=>(by cases h),fun b h=>.inl h,fun _ _ h=>(by cases h),
  ⟨hi.nd,fun _ _ h=>(by cases h),fun _ _ _ _ h=>(by cases h),fun _ _ h=>(by cases h),fun _ _ h=>(by cases h),fun b h=>Nat.lt_of_lt_of_le (hi.lt b h) hb.size⟩⟩
theorem FC.scal {f:FuncId} {vs:List Value} {r:C} (hf:FnOk P f)
 (h:∀ (U:Nat→Prop) (w:World),eW P U w.heap→(∀ b,U b→b < w.heap.size)→Calls P f vs.toArray w fun e w'=>∃ v,e=.returned v∧(∀ E U h,Rep E U h r v)∧RowKit.Below w.heap.size w w'):FC P f (vs.map C.s) [] r []:=by
 refine ⟨hf,fun E U aS w hg ha hi=>?_⟩
 have hv:aS=vs.toArray:=by
  refine Array.ext (by simpa using ha.1) (fun i h1 h2=>?_)
  have h3:(vs.map C.s)[i]? = some (.s vs[i]):=by simp at h2; simp [h2]
  have:=dJ (ha.2 i _ h3)
  rw [Array.getD_eq_getD_getElem?,Array.getElem?_eq_getElem h1] at this
  simpa using this
 subst hv
 refine (h U w hg hi.lt).mono ?_
 rintro e w' ⟨v,rfl,hr,hb⟩
 exact ⟨v,E,U,rfl,hr E U w'.heap,CEv.below hi hb⟩
theorem wG {E:Env} {U:Nat→Prop} {w:World} {xs:List ByteArray} {v:Value} (h:Rep E U w.heap (enc xs) v) (hU:∀ b,U b→b < w.heap.size) :
 (xs=[]∧∃ a c,v=.slice a 0 c)∨∃ b off cap,v=.slice (some ⟨b,off,none⟩) xs.length cap∧xs.length≤cap∧b < w.heap.size∧∀ (j:Nat) x,xs[j]? = some x→w.cell? ⟨b,off+j,none⟩=some (.string x):=by
 have h:Rep E U w.heap (.sl 1 (xs.map cells)) v:=h
 generalize he:xs.map cells=es at h
 cases h with
 | d hd=>
  cases hd with
  | sl0 _ a cap hc=>
   refine .inl ⟨by simpa using he,a,cap,rfl⟩
  | sl _ b off cap _ arr ty fz vf hUb hb hcap hmax hsz hv hr=>
   have hl:es.length=xs.length:=by rw [← he,List.length_map]
   refine .inr ⟨b,off,cap,by rw [hl],by omega,hU b hUb,fun j x hj=>?_⟩
   have h1:es[j]? = some [C.s (.string x)]:=by rw [← he,List.getElem?_map,hj]; rfl
   obtain ⟨h2,_⟩:=hv j _ 0 _ h1 rfl
   have h3:=hr j _ 0 _ h1 rfl
   have h4:vf j 0=.string x:=by generalize vf j 0=q at h3; cases h3; rfl
   rw [h4] at h2
   have e:off+j*1+0=off+j:=by omega
   rw [e] at h2
   simp only [World.cell?,hb]
   simpa using h2
end Go.Am
end
section
namespace Go.Am
open Dat (cells)
variable {P : Program}
structure ReadsP (P:Program) (t:TypeId) (α:Type) [DatL α] (p:α→Prop):Prop where
 sz:P.cellsOf t=Dat.sz α
 pos:0 < Dat.sz α
 rd:∀ {H:Type} (en:TypeId×Value→H) (w:World) (sp:Nat→Bool) (fuel:Nat) (cs:List Value) (x:DataW H×List MemPlace),DataW.trod en P w 0 sp true fuel t cs=some x →
  ∃ a:α,p a∧(cells a).length=Dat.sz α∧cs.length=Dat.sz α∧∀ (j:Nat) (c:C),(cells a)[j]? = some c→RepD (fun b=>b < w.heap.size) w.heap c (cs.getD j undef)∧(cs.getD j undef).oneCell'=true
theorem ReadsP.int {t:TypeId} (ht:P.underlying t=some (.int .i64)) (hc:P.cellsOf t=1):ReadsP P t Int (fun n=>-9223372036854775808≤n∧n≤9223372036854775807):=by
 refine ⟨hc,by decide,fun en w sp fuel cs x h=>?_⟩
 obtain ⟨n,rfl,_,hw⟩:=DataW.trod_int ht h
 have hw':-9223372036854775808≤n∧n≤9223372036854775807:=by
  have e1:IntKind.i64.min=-9223372036854775808:=rfl
  have e2:IntKind.i64.max=9223372036854775807:=rfl
  simpa [Lit.wf,e1,e2] using hw
 refine ⟨n,hw',rfl,rfl,fun j c hj=>?_⟩
 cases j with
 | zero=>
  simp only [cells,List.getElem?_cons_zero,Option.some.injEq] at hj
  subst hj
  exact ⟨.s _,rfl⟩
 | succ j=>simp [cells] at hj
end Go.Am
end
