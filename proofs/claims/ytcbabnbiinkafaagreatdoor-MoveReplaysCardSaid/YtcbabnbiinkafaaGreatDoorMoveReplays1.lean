/- Part 1 of the proof of: MoveReplays returns true for every input and never panics: the state behind a log, or the number of a wrong event and the error, and the numbers that the phone takes, are as the reference says; conditions: those of the given statement, that the package variables it lists hold what their initialisers lay. -/
import Derived.WideShapes
import Derived.ChangeArms
import Derived.OpenShut
import Derived.LaidLaws
import Derived.Lib.LaidTab
import Derived.Stop.LaidErr
import Derived.Test.YtcbabnbiinkafaaGreatDoorProg
import Derived.KernelRfl
import Derived.Test.YtcbabnbiinkafaaGreatDoorBn22
set_option linter.all false
section
namespace Go.Am
theorem dM.ownI {E:Env} {U:Nat→Prop} {h:Array Obj} {k:Nat} {c:Ch} (hc:dM E U h k c) {i:Nat} {q:Nat×TypeId×List (List C)} (hi:chI c i=some q) (hn:((E k).inn i).nil=false):(E k).fp ((E k).inn i).blk:=by
 cases c with
 | box cs=>exact (hc.2.1.fp _).2 (.inr ⟨i,q,hi,hn,rfl⟩)
 | row sz ty es=>cases hi
 | deep isz ity ty hole rows=>exact (hc.2.1.fp _).2 (.inr ⟨i,q,hi,hn,rfl⟩)
 | res R=>cases hi
end Go.Am
end
section
namespace Go.Am
open Dat (cells)
variable {P : Program}
theorem ReadsAs.arg {t e:TypeId} {α:Type} [DatL α] (h:ReadsAs P t (List α)) (ht:P.underlying t=some (.slice e)) {H:Type} {en:TypeId×Value→H} {W:World} {r:Reach} {base:Nat} {sp:Nat→Bool} {v:Value} {d:DataW H} {ps:List MemPlace}
 (hval:Value.okWide P W r base t v) (hd:DataW.Trod en P W 0 sp true t v d ps):∃ l:List α,∀ E,Rep E (fun b=>b < W.heap.size) W.heap (enc l) v:=by
 obtain ⟨a,len,cap,rfl⟩:=WideShapes.okWide_slice ht hval
 obtain ⟨fuel,hf⟩:=hd
 obtain ⟨l,_,_,h3⟩:=h.rd en W sp fuel _ _ hf
 exact ⟨l,fun E=>.d (h3 0 _ rfl).1⟩
theorem ReadsP.arg {t e:TypeId} {α:Type} [DatL α] {p:List α→Prop} (h:ReadsP P t (List α) p) (ht:P.underlying t=some (.slice e)) {H:Type} {en:TypeId×Value→H} {W:World} {r:Reach} {base:Nat} {sp:Nat→Bool} {v:Value} {d:DataW H} {ps:List MemPlace}
 (hval:Value.okWide P W r base t v) (hd:DataW.Trod en P W 0 sp true t v d ps):∃ l:List α,p l∧∀ E,Rep E (fun b=>b < W.heap.size) W.heap (enc l) v:=by
 obtain ⟨a,len,cap,rfl⟩:=WideShapes.okWide_slice ht hval
 obtain ⟨fuel,hf⟩:=hd
 obtain ⟨l,h0,_,_,h3⟩:=h.rd en W sp fuel _ _ hf
 exact ⟨l,h0,fun E=>.d (h3 0 _ rfl).1⟩
end Go.Am
end
section
namespace Go.Am
open Dat (cells)
variable {P : Program} [Glob P] {ro : Option Nat} {ρ : Operand → C} {ch : Chs} {d : Nat}
inductive Lend (ch:Chs):C→C→Prop
 | same (c:C):Lend ch c c
 | any (c:C):Lend ch c .any
 | own {k:Nat} {c0:Ch} {x:C} (h:lk ch k=some c0) (hx:bw c0=some x):Lend ch (.own k) x
 | inn {k i n:Nat} {t:TypeId} {es:List (List C)} {q:Prop} (h:aM ch k i=some (q,n,t,es)) (hq:q):Lend ch (.inn k i) (.sl n es)
 | agg {cs cs':List C} (hl:cs.length=cs'.length) (h:∀ (j:Nat) (a b:C),cs[j]? = some a→cs'[j]? = some b→Lend ch a b):Lend ch (.agg cs) (.agg cs')
def wR (ch:Chs):List C→List C→Prop
 | [],[]=>True
 | a :: l,b :: m=>Lend ch a b∧wR ch l m
 | _,_=>False
def lntU (E:Env) (U:Nat→Prop) (ch:Chs):Nat→Prop:=fun b=>U b∨∃ k c,(k,c)∈ch∧(E k).fp b
theorem Lend.rep {E:Env} {U:Nat→Prop} {h:Array Obj} (hi:Inv E U h ch) {c c':C} (hl:Lend ch c c'):∀ {v:Value},Rep E U h c v→Rep E (lntU E U ch) h c' v:=by
 have hk:∀ b,U b→lntU E U ch b∧h[b]? = h[b]?:=fun b hb=>⟨.inl hb,rfl⟩
 induction hl with
 | same c=>exact fun hr=>hr.same hk
 | any c=>exact fun _=>.d (.any _)
 | own g hx=>exact fun hr=>.d (np (hi.ok _ _ (dG g)) hx hr hk (fun b hb=>⟨.inr ⟨_,_,dG g,hb⟩,rfl⟩))
 | inn g hq=>
  intro v hr
  obtain ⟨c0,g1,g2,_,g4⟩:=gX g hq
  have hc:=hi.ok _ _ (dG g1)
  rw [kT hr]
  exact .d (lC ((hc.inns g4).2 _ _ _ _ g2) hk (fun hn=>⟨.inr ⟨_,_,dG g1,hc.ownI g2 hn⟩,rfl⟩))
 | agg hl h ih=>
  intro v hr
  cases hr with
  | d hd=>cases hd
  | agg _ vs q1 q2 q3=>
   refine .agg _ vs (q1.trans hl) (fun j c hj=>?_) q3
   have hlt:j < _:=(List.getElem?_eq_some_iff.1 hj).1
   rw [← hl] at hlt
   exact ih j _ c (List.getElem?_eq_getElem hlt) hj (q2 j _ (List.getElem?_eq_getElem hlt))
theorem wR.args {E:Env} {U:Nat→Prop} {h:Array Obj} (hi:Inv E U h ch):∀ {cs ds:List C} {vs:List Value},wR ch cs ds→vs.length=cs.length→(∀ (j:Nat) (c:C),cs[j]? = some c→Rep E U h c (vs.getD j undef))→vs.length=ds.length∧∀ (j:Nat) (c:C),ds[j]? = some c→Rep E (lntU E U ch) h c (vs.getD j undef)
 | [],[],vs,_,hv,_=>⟨hv,fun j c hj=>by simp at hj⟩
 | a :: l,b :: m,[],_,hv,_=>by simp at hv
 | a :: l,b :: m,v :: vs,hL,hv,hr=>by
  obtain ⟨h1,h2⟩:=wR.args hi (vs:=vs) hL.2 (by simpa using hv) (fun j c hj=>hr (j+1) c hj)
  refine ⟨by simp [h1],fun j c hj=>?_⟩
  cases j with
  | zero=>cases hj; exact hL.1.rep hi (hr 0 _ rfl)
  | succ j=>exact h2 j c hj
 | [],_ :: _,_,hL,_,_=>hL.elim
 | _ :: _,[],_,hL,_,_=>hL.elim
def xh (kow:Option Nat):C→Bool
 | .s _=>true
 | .any=>true
 | .own j=>decide (kow=some j)
 | _=>false
def x3 (kow:Option Nat):C→Bool
 | .agg cs=>cs.all (xh kow)
 | .tup cs=>cs.all fun c=>match c with | .agg ds=>ds.all (xh kow) | c=>xh kow c
 | c=>xh kow c
def renO (kow:Option Nat) (d:Nat):List (Nat×Nat):=match kow with | some k=>[(k,d)] | none=>[]
end Go.Am
end
section
namespace Go.Am
open Dat (cells)
variable {P : Program} [Glob P] {ro : Option Nat} {ρ : Operand → C} {ch : Chs} {d : Nat}
section
variable {E E' : Env} {U U' : Nat → Prop} {h h' : Array Obj} {kow : Option Nat}
theorem xl (hk:∀ k,kow=some k→(E' d).toKE0=(E k).toKE0) {c:C} {v:Value} (hs:xh kow c=true) (hr:Rep E U h c v):Rep E' U' h' (ak (renO kow d) c) v:=by
 cases c <;> simp only [xh,Bool.false_eq_true,decide_eq_true_eq] at hs
 · exact .d (.any _)
 · rename_i x; rw [dJ hr]; exact .d (.s _)
 · subst hs
   rw [eU hr,← hk _ rfl]
   simp only [renO,ak,rn,lk,if_true,Option.getD_some]
   exact .own d
theorem xM (hk:∀ k,kow=some k→(E' d).toKE0=(E k).toKE0) {cs:List C} {v:Value} (hs:cs.all (xh kow)=true) (hr:Rep E U h (.agg cs) v):Rep E' U' h' (ak (renO kow d) (.agg cs)) v:=by
 cases hr with
 | d hd=>cases hd
 | agg _ vs q1 q2 q3=>
  simp only [ak,fd]
  refine .agg _ vs (by simpa using q1) (fun j c hj=>?_) q3
  simp only [List.getElem?_map,Option.map_eq_some_iff] at hj
  obtain ⟨c0,h0,rfl⟩:=hj
  exact xl hk (List.all_eq_true.1 hs c0 (List.mem_of_getElem? h0)) (q2 j c0 h0)
theorem xA (hk:∀ k,kow=some k→(E' d).toKE0=(E k).toKE0) {c:C} {v:Value} (hs:x3 kow c=true) (hr:Rep E U h c v):Rep E' U' h' (ak (renO kow d) c) v:=by
 cases c with
 | agg cs=>exact xM hk hs hr
 | tup cs=>
  cases hr with
  | d hd=>cases hd
  | tup _ vs q1 q2=>
   simp only [ak,fd]
   refine .tup _ vs (by simpa using q1) (fun j c hj=>?_)
   simp only [List.getElem?_map,Option.map_eq_some_iff] at hj
   obtain ⟨c0,h0,rfl⟩:=hj
   have hs0:=List.all_eq_true.1 hs c0 (List.mem_of_getElem? h0)
   have hq:=q2 j c0 h0
   generalize vs.getD j undef=u at *
   cases c0 with
   | agg ds=>exact xM hk hs0 hq
   | _=>exact xl hk hs0 hq
 | _=>exact xl hk hs hr
end
end Go.Am
end
section
namespace Go.Am
open Dat (cells)
variable {P : Program} [Glob P] {ro : Option Nat} {ρ : Operand → C} {ch : Chs} {d : Nat}
def ye (es:List (List C)):Prop:=∀ e∈es,∀ c∈e,∃ v,c=.s v
def xF : Ch→Prop
 | .row _ _ es=>ye es
 | .deep _ _ _ none rows=>∀ es∈rows,ye es
 | _=>False
theorem yc {U U':Nat→Prop} {h:Array Obj} {y:KE0} {sz:Nat} {ty:TypeId} {es:List (List C)} (hs:ye es) (hr:ff U h y sz ty es):ff U' h y sz ty es:=by
 obtain ⟨h1,h2,h3,h4⟩:=hr
 refine ⟨h1,h2,h3,?_⟩
 rcases h4 with h4 | ⟨h4,h5,h6,arr,h7,h8,h9⟩
 · exact .inl h4
 · refine .inr ⟨h4,h5,h6,arr,h7,h8,fun i e j c he hj=>⟨?_,(h9 i e j c he hj).2⟩⟩
   obtain ⟨v,rfl⟩:=hs e (List.mem_of_getElem? he) c (List.mem_of_getElem? hj)
   have:=(h9 i e j _ he hj).1
   generalize arr.getD (y.off+i*sz+j) undef=u at *
   cases this
   exact .s _
theorem xN {E E':Env} {U U':Nat→Prop} {h:Array Obj} {k d:Nat} (hk:E' d=E k) {c:Ch} (hs:xF c) (hc:dM E U h k c):dM E' U' h d c:=by
 cases c with
 | row sz ty es=>
  simp only [dM,hk] at hc ⊢
  exact ⟨yc hs hc.1,hc.2⟩
 | deep isz ity ty hole rows=>
  cases hole with
  | some i=>exact hs.elim
  | none=>
   simp only [dM,hk] at hc ⊢
   refine ⟨hc.1,hc.2.1,fun i n t es hI=>yc ?_ (hc.2.2 i n t es hI)⟩
   simp only [ej,reduceCtorEq,if_false,Option.map_eq_some_iff,Prod.mk.injEq] at hI
   obtain ⟨es',g1,rfl,rfl,rfl⟩:=hI
   exact hs _ (List.mem_of_getElem? g1)
 | _=>exact hs.elim
theorem lnt_inv {E:Env} {U:Nat→Prop} {h:Array Obj} (hi:Inv E U h ch):Inv E (lntU E U ch) h [] where
 nd:=by simp
 ok:=fun k c hm=>by simp at hm
 sep:=fun k c k' c' hm=>by simp at hm
 out:=fun k c hm=>by simp at hm
 fpl:=fun k c hm=>by simp at hm
 lt:=fun b hb=>by
  rcases hb with hb | ⟨k,c,h1,h2⟩
  · exact hi.lt b hb
  · exact hi.fpl k c h1 b h2
theorem yq : qE ch []:=fun k s h=>by simp at h
theorem xj {f:FuncId} {cs ds:List C} {r:C} {chs:Chs} (hfc:FC P f ds [] r chs) (ha:wR ch cs ds) {E:Env} {U:Nat→Prop} {w:World} {vs:Array Value} (hi:Inv E U w.heap ch) (hg:eW P U w.heap) (hargs:jC E U w.heap cs vs) :
 Calls P f vs w fun e w'=>∃ v E' U',e=.returned v∧Rep E' U' w'.heap r v∧CEv E (lntU E U ch) w [] E' U' w' chs:=by
 obtain ⟨a1,a2⟩:=wR.args hi (vs:=vs.toList) ha (by simpa using hargs.1) (fun j c hj=>by
  have:=hargs.2 j c hj
  rwa [Array.getD_eq_getD_getElem?,← Array.getElem?_toList,← List.getD_eq_getElem?_getD] at this)
 refine hfc.2 E (lntU E U ch) vs w (hg.mono fun b hb=>⟨.inl hb,rfl⟩) ⟨by simpa using a1,fun j c hj=>?_⟩ (lnt_inv hi)
 have:=a2 j c hj
 rwa [List.getD_eq_getElem?_getD,Array.getElem?_toList,← Array.getD_eq_getD_getElem?] at this
theorem OpM.lend0 {f:FuncId} {fo:Operand} {aS:List Operand} {ds:List C} {r:C} (hfc:FC P f ds [] r []) (hfo:ρ fo=.fn (.func f) [] []) (ha:wR ch (aS.map ρ) ds) (hr:x3 none r=true) (hr0:ak [] r=r) :
 OpM P ro ρ ch d (.call fo aS) (fun ef=>ef=⟨True,r,ch,[]⟩):=by
 refine OpM.calls hfc.1 hfo (fun E U w vs hi hg hargs=>(xj hfc ha hi hg hargs).mono fun e w' hh=>?_)
 obtain ⟨v,E1,U1,he,hrep,hc⟩:=hh
 have hev:=Ev.freeze (w1:=w') hi (yq (ch:=ch)) hc.os hc.tape hc.output hc.size (fun b hb=>hc.rest b hb (fun k c hm=>by simp at hm)) (fun _=>False) (fun b hb=>hb.elim) d
 rw [kt] at hev
 have hrep':=xA (E':=E) (U':=fun b=>U b∨False∨∃ k s,([]:List (Nat×Sb)).lookup k=some s∧(E k).fp b) (h':=w'.heap) (d:=d) (fun k hk=>by cases hk) hr hrep
 exact ⟨v,_,_,he,hr0 ▸ hrep',hev⟩
theorem OpM.lend1 {f:FuncId} {fo:Operand} {aS:List Operand} {ds:List C} {r:C} {k0:Nat} {c:Ch} (hfc:FC P f ds [] r [(k0,c)]) (hfo:ρ fo=.fn (.func f) [] []) (ha:wR ch (aS.map ρ) ds) (hr:x3 (some k0) r=true) (hs:xF c) :
 OpM P ro ρ ch d (.call fo aS) (fun ef=>ef=⟨True,ak [(k0,d)] r,(d,c) :: ae [(d,.c .any)] (af ch d),[(d,.c .any)]⟩):=by
 refine OpM.calls hfc.1 hfo (fun E U w vs hi hg hargs=>(xj hfc ha hi hg hargs).mono fun e w' hh=>?_)
 obtain ⟨v,E1,U1,he,hrep,hc⟩:=hh
 have hm:(k0,c)∈[(k0,c)]:=List.mem_singleton.2 rfl
 have hev:=Ev.one (w1:=w') hi d (E1 k0) c hc.os hc.tape hc.output hc.size (fun b hb=>hc.rest b hb (fun k c hm=>by simp at hm))
  (fun b hb=>⟨(hc.live k0 c hm b hb).resolve_right (fun ⟨k,c,h1,_⟩=>by simp at h1),hc.inv.fpl k0 c hm b hb⟩) (xN (updE_same _ _ _) hs (hc.inv.ok k0 c hm))
 have hrep':=xA (kow:=some k0) (E':=dN E d (E1 k0)) (U':=U) (h':=w'.heap) (d:=d) (fun k hk=>by cases hk; rw [updE_same]) hr hrep
 exact ⟨v,_,_,he,hrep',hev⟩
theorem wR.same : ∀ cs:List C,wR ch cs cs
 | []=>trivial
 | _ :: l=>⟨.same _,wR.same l⟩
theorem FC.own {f:FuncId} {ds:List C} {r:C} {n:Nat} {t:TypeId} {es:List (List C)} {chs:Chs} (hfc:FC P f (.sl n es :: ds) [] r chs) (hk:∀ k c,(k,c)∈chs→k≠100000):FC P f (.own 100000 :: ds) [(100000,.row n t es)] r chs:=by
 refine ⟨hfc.1,fun E U vs w hg hargs hi=>?_⟩
 have ha:wR [(100000,.row n t es)] (.own 100000 :: ds) (.sl n es :: ds):=⟨.own (c0:=.row n t es) rfl rfl,wR.same ds⟩
 refine (xj hfc ha hi hg hargs).mono fun e w' hh=>?_
 obtain ⟨v,E1,U1,he,hrep,hc⟩:=hh
 refine ⟨v,E1,U1,he,hrep,⟨hc.os,hc.tape,hc.output,hc.size,fun b hb=>hc.keep b (.inl hb),fun b hb _=>hc.rest b hb (fun k c hm=>by simp at hm),fun k c hm b hb=>.inl ((hc.live k c hm b hb).resolve_right fun ⟨_,_,q,_⟩=>by simp at q),fun b hb=>?_,fun k cs hm ⟨c,q⟩=>?_,hc.inv⟩⟩
 · rcases hc.newU b hb with (q | q) | q | ⟨_,_,q,_⟩
   · exact .inl q
   · exact .inr (.inr q)
   · exact .inr (.inl q)
   · simp at q
 · simp only [List.mem_singleton,Prod.mk.injEq] at q
   exact absurd q.1 (hk k _ hm)
theorem FC.frz {f:FuncId} {cs:List C} {r x:C} {k:Nat} {c:Ch} (hfc:FC P f cs [] r [(k,c)]) (hx:bw c=some x):FC P f cs [] (ah [(k,.c x)] r) []:=by
 refine ⟨hfc.1,fun E U vs w hg hargs hi=>(hfc.2 E U vs w hg hargs hi).mono fun e w' hh=>?_⟩
 obtain ⟨v,E1,U1,he,hrep,hc⟩:=hh
 have hfz:qE [(k,c)] [(k,.c x)]:=fun k' s hs=>by
  rw [fk] at hs
  split at hs
  · rename_i e; subst e; cases hs; exact ⟨c,x,by simp [lk],hx,rfl⟩
  · cases hs
 have hev:=Ev.freeze (w1:=w') hc.inv hfz rfl rfl rfl (Nat.le_refl _) (fun b _=>rfl) (fun _=>False) (fun b hb=>hb.elim) 0
 have hnil:ae [(k,.c x)] (aC [(k,c)] [(k,Sb.c x)])=[]:=by simp [aC,af,ae]
 rw [hnil] at hev
 refine ⟨v,_,_,he,hev.rep hrep,⟨hc.os,hc.tape,hc.output,hc.size,fun b hb=>⟨(hev.keep b (hc.keep b hb).1).1,(hc.keep b hb).2⟩,hc.rest,fun k c hm=>by simp at hm,fun b hb=>?_,fun k cs hm=>by simp at hm,hev.inv⟩⟩
 rcases hev.newU b hb with q | q | ⟨k',c',q,h2⟩
 · exact hc.newU b q
 · have:=hc.size; exact .inr (.inl (by omega))
 · exact .inr (.inl ((hc.live k' c' q b h2).resolve_right fun ⟨_,_,q,_⟩=>by simp at q))
theorem FC.rekey {f:FuncId} {cs:List C} {r:C} {k:Nat} {c:Ch} (hfc:FC P f cs [] r [(k,c)]) (k':Nat) (hr:x3 (some k) r=true) (hs:xF c):FC P f cs [] (ak [(k,k')] r) [(k',c)]:=by
 refine ⟨hfc.1,fun E U vs w hg hargs hi=>(hfc.2 E U vs w hg hargs hi).mono fun e w' hh=>?_⟩
 obtain ⟨v,E1,U1,he,hrep,hc⟩:=hh
 have hm:(k,c)∈[(k,c)]:=List.mem_singleton.2 rfl
 have h1:∀ j x,(j,x)∈[(k',c)]→j=k'∧x=c:=fun j x h=>by simpa using h
 refine ⟨v,dN E1 k' (E1 k),U1,he,xA (kow:=some k) (fun j hj=>by cases hj; rw [updE_same]) hr hrep,⟨hc.os,hc.tape,hc.output,hc.size,hc.keep,hc.rest,fun j x hj b hb=>?_,hc.newU,fun j xs hj ⟨_,q⟩=>(by simp at q),⟨by simp,fun j x hj=>?_,fun j x j' x' hj hj' hne=>?_,fun j x hj b hb=>?_,fun j x hj b hb=>?_,hc.inv.lt⟩⟩⟩
 · obtain ⟨rfl,rfl⟩:=h1 j x hj; rw [updE_same] at hb; exact hc.live k x hm b hb
 · obtain ⟨rfl,rfl⟩:=h1 j x hj; exact xN (updE_same _ _ _) hs (hc.inv.ok k x hm)
 · exact absurd ((h1 j x hj).1.trans (h1 j' x' hj').1.symm) hne
 · obtain ⟨rfl,rfl⟩:=h1 j x hj; rw [updE_same] at hb; exact hc.inv.out k x hm b hb
 · obtain ⟨rfl,rfl⟩:=h1 j x hj; rw [updE_same] at hb; exact hc.inv.fpl k x hm b hb
def ya : Operand→Bool
 | .const (.slice none 0 0)=>true
 | _=>false
def yb (d1:Nat) (ρ:Operand→C):Operand→C:=fun z=>if ya z=true then .own d1 else ah [(d1,.c .any)] (ρ z)
theorem OpM.nilled {op:AOp} {ef:Eff} (d1 n:Nat) (ty:TypeId) (hd:d1 < 100000) (h:OpR P (yb d1 ρ) ((d1,.row n ty []) :: ae [(d1,.c .any)] (af ch d1)) d op ef) :
 OpM P ro ρ ch d op (fun e=>e=⟨True,ef.v,ef.ch,aZ [(d1,.c .any)] ef.sub⟩):=by
 intro own o a E U w hc hi hg hρ K Q hK
 have hev:=Ev.freshNil hi d1 (ke0 ⟨0,0,0,0,n,true⟩) (.row n ty []) (fun b hb=>by cases ((gA (y:=⟨0,0,0,0,n,true⟩)).fp b).1 hb with | inl q=>cases q.1 | inr q=>obtain ⟨_,_,q,_⟩:=q; cases q) (wj (c0:=.row n ty []) rfl)
 refine h.sound hc hev.inv hg (fun x hx=>?_) (fun v E' U' w' hr hev2=>hK _ rfl v E' U' w' hr (hev.trans hev2 hd))
 unfold yb
 split
 · rename_i hn
   unfold ya at hn
   split at hn
   · have:=Rep.own (E:=dN E d1 (ke0 ⟨0,0,0,0,n,true⟩)) (U:=U) (h:=w.heap) d1
     rw [updE_same] at this
     exact this
   · cases hn
 · exact hev.rep (hρ x hx)
mutual
theorem xQ : ∀ (c:C),aD ch [] c=c
 | .agg cs=>by simp only [aD]; rw [xG cs]
 | .own k=>by simp [aD]
 | .inn k i=>by simp [aD]
 | .any=>rfl
 | .s _=>rfl
 | .sl _ _=>rfl
 | .ref _=>rfl
 | .tup _=>rfl
 | .fn _ _ _=>rfl
 | .ptr _ _=>rfl
 | .eptr _ _ _=>rfl
 | .isl _ _ _=>rfl
 | .iptr _ _ _ _=>rfl
theorem xG : ∀ (cs:List C),aD.viewCs ch [] cs=cs
 | []=>rfl
 | c :: cs=>by simp only [aD.viewCs]; rw [xQ c,xG cs]
end
mutual
theorem xH : ∀ (c:C),aX ch [] c
 | .agg cs=>by simp only [aX]; exact xv cs
 | .inn k i=>by simp [aX]
 | .own k=>trivial
 | .any=>trivial
 | .s _=>trivial
 | .sl _ _=>trivial
 | .ref _=>trivial
 | .tup _=>trivial
 | .fn _ _ _=>trivial
 | .ptr _ _=>trivial
 | .eptr _ _ _=>trivial
 | .isl _ _ _=>trivial
 | .iptr _ _ _ _=>trivial
theorem xv : ∀ (cs:List C),aX.viewOks ch [] cs
 | []=>trivial
 | c :: cs=>⟨xH c,xv cs⟩
end
theorem OpR.give {fo:Operand} {aS:List Operand} {f:FuncId} {ds:List C} {r:C} {k:Nat} {c:Ch} (hf:ρ fo=.fn (.func f) [] []) (h:FC P f ds [(k,c)] r []) (hd:aS.map ρ=ds) (hl:lk ch k=some c) (hb:∀ cs,c≠.box cs) (hr:dE [] r) :
 OpR P ρ ch d (.call fo aS) ⟨True,r,a6 ch [(k,c)] [] [],az [] [(k,c)]⟩:=by
 refine .call ⟨⟨f,[],[],[],by rw [hf]; rfl,?_,fun c _=>xH c,fun k' c' hm=>?_,.inl rfl⟩,by simp,fun k cs hm=>by simp at hm,fun k cs hm=>by simp at hm,fun k' cs hm=>?_,hr,fun k c hm=>by simp at hm⟩
 · have e:([]++aS.map ρ++[]).map (aD ch [])=ds:=by
    rw [← hd]
    simp only [List.nil_append,List.append_nil,List.map_map]
    exact List.map_congr_left fun x _=>xQ _
   rw [e]; exact h
 · simp only [List.mem_singleton,Prod.mk.injEq] at hm
   obtain ⟨rfl,rfl⟩:=hm
   exact ⟨hl,by simp,by simp⟩
 · simp only [List.mem_singleton,Prod.mk.injEq] at hm
   exact absurd hm.2.symm (hb cs)
end Go.Am
end
section
namespace Go.Am
open Dat (cells)
variable {P : Program} [Glob P] {ro : Option Nat} {ρ : Operand → C} {ch : Chs} {d : Nat}
section
variable {cx : Cx} {Q : ASt → Prop} {k : List It} {st : ASt}
def xU (pur:List Nat) (op:AOp) (j:Nat) (ef:Eff) (E:EL):EL:=match av pur j with | true=>E | false=>mj op j ef E
def wZ (P:Program) [Glob P] (L:List (Ent P)) (cx:Cx) (Q:ASt→Prop) (k:List It) (rb:List Nat) (all:List AO) (s0:ASt) (pur:List Nat):Nat→Md→List AO→ASt→Nat→List C→EL→Prop
 | _+1,.run,[],_,_,vs,E=>mFin2 P L cx Q k rb all s0 vs E
 | n+1,.run,⟨dst,none,op,tot⟩ :: os,s,j,vs,E=>wZ P L cx Q k rb all s0 pur n (.eff (ai (aq P s.t) s.ch (dst.getD 0) op)) (⟨dst,none,op,tot⟩ :: os) s j vs E
 | n+1,.eff (some ef),⟨dst,none,op,_⟩ :: os,s,j,vs,E=>wZ P L cx Q k rb all s0 pur n .run os ⟨aT dst ef.sub ef.v s.t,ef.ch⟩ (j+1) (vs++[ef.v]) (xU pur op j ef E)
 | n+1,.eff none,⟨dst,none,op,tot⟩ :: os,s,j,vs,E=>wZ P L cx Q k rb all s0 pur n (aF L (aq P s.t) s.ch (dst.getD 0) op) (⟨dst,none,op,tot⟩ :: os) s j vs E
 | n+1,.cal (.eff ef),⟨dst,none,op,_⟩ :: os,s,j,vs,E=>wZ P L cx Q k rb all s0 pur n .run os ⟨aT dst ef.sub ef.v s.t,ef.ch⟩ (j+1) (vs++[ef.v]) (xU pur op j ef E)
 | _,_,_,_,_,_,_=>False
theorem yp {L:List (Ent P)} {rb:List Nat} {all:List AO} {s0:ASt} {pur:List Nat}:∀ (n:Nat) (m:Md) (os:List AO) (s:ASt) (j:Nat) (vs:List C) (E:EL),wZ P L cx Q k rb all s0 pur n m os s j vs E→SG P cx Q (.c (.draw 999 rb all) :: k) s0:=by
 intro n
 induction n with
 | zero=>intro m os s j vs E h; simp [wZ] at h
 | succ n ih=>
  intro m os s j vs E h
  cases os with
  | nil=>
   cases m <;> simp only [wZ] at h
   obtain ⟨h0,h1,h2,h3,h4⟩:=h
   exact vr h0 h1 h2 h3 h4
  | cons o os=>
   unfold wZ at h
   split at h <;> first | exact h.elim | exact ih _ _ _ _ _ _ h | (simp at*<;> (subst_vars; exact ih _ _ _ _ _ _ h))
theorem x4 {rb:List Nat} {os:List AO} (L:List (Ent P)) (n:Nat) (pur:List Nat) (h:wZ P L cx Q k rb os st pur n .run os st 0 [] []):SG P cx Q (.c (.draw 999 rb os) :: k) st:=
 yp n .run os st 0 [] [] h
end
end Go.Am
end
section
open Go Go.Am
open Go.Am.Dat (cells)
namespace Go.Proofs.YtcbabnbiinkafaaGreatDoor
set_option maxRecDepth 100000
def rv5 : List RV:=[.tmp 6]
theorem is5 : FnIs Tryz.prog 5 114 c5 rv5:=⟨⟨Tryz.f5,_,Tryz.func5,by kernel_rfl,rfl,rfl,by kernel_rfl,by kernel_rfl⟩,by decide⟩
def c24 : AC:=oS (oR [oA 2 (.mv (.const (.slice none 0 0)))]) (oK [0] (oS (oR [oA 3 (.mkSl true 3 1 [.int .i64 0] 0 []),oM 4 0,oA 5 (.app 24 3 1 8 [.int .i64 0] (oO 3) (oO 4)),oM 2 5]) (oK [2] (.ret))))
def rv24 : List RV:=[.tmp 2]
theorem is24 : FnIs Tryz.prog 24 6 c24 rv24:=⟨⟨Tryz.f24,_,Tryz.func24,by kernel_rfl,rfl,rfl,by kernel_rfl,by kernel_rfl⟩,by decide⟩
def c35 : AC:=oS (oR [oA 2 (.mv (.const (.bool false)))]) (oK [0] (oS (oR [oM 3 0,oA 4 (.len false (oO 3)),oA 5 (.bin .leq 3 (oO 4) (oN 40)),oM 6 5,oG 7 6 false (.mv (oO 0)),oG 8 6 false (.len false (oO 7)),oG 9 6 false (.bin .gtr 3 (oO 8) (oN 200)),oG 10 6 false (.mv (oO 9)),oG 11 10 true (.mv (oO 0)),oG 12 10 true (.len false (oO 11)),oG 13 10 true (.bin .leq 3 (oO 12) (oN 202)),oG 14 6 false (.pick (oO 10) (oO 13) (.const (.bool false))),oA 15 (.pick (oO 6) (.const (.bool true)) (oO 14)),oM 2 15]) (oK [2] (.ret))))
def rv35 : List RV:=[.tmp 2]
theorem is35 : FnIs Tryz.prog 35 16 c35 rv35:=⟨⟨Tryz.f35,_,Tryz.func35,by kernel_rfl,rfl,rfl,by kernel_rfl,by kernel_rfl⟩,by decide⟩
def c38 : AC:=oS (oR [oA 2 (.mv (.const (.slice none 0 0)))]) (oK [0] (oS (oR [oA 3 (.mkSl true 83 3 [.int .i64 0,.int .i64 0,.int .i64 0] 0 []),oM 4 0,oA 5 (.app 48 83 3 24 [.int .i64 0,.int .i64 0,.int .i64 0] (oO 3) (oO 4)),oM 2 5]) (oK [2] (.ret))))
def rv38 : List RV:=[.tmp 2]
theorem is38 : FnIs Tryz.prog 38 6 c38 rv38:=⟨⟨Tryz.f38,_,Tryz.func38,by kernel_rfl,rfl,rfl,by kernel_rfl,by kernel_rfl⟩,by decide⟩
def c42l1 : AC:=oS (oS (oR [oM 20 10,oM 21 2,oA 22 (.len false (oO 21)),oA 23 (.bin .lss 3 (oO 20) (oO 22))]) (oK [2,3,6,9,10,23] (.cond (oO 23) (.skip) (.exit 0)))) (oK [2,3,6,9,10] (oS (.block 1 (oS (oQ [oA 27 (.load true 3 (oO 3)),oA 28 (.load true 10 (oO 9)),oM 29 2,oA 30 (.mvs (oO 10)),oA 31 (.iaddr 3 [.int .i64 0,.int .i64 0,.int .i64 0] (oO 29) (oO 30)),oA 32 (.load true 3 (oO 31)),oA 33 (.call (.func 71) [(oO 27),(oO 28),(oO 32)]),oM 26 33,oA 34 (.extr (oO 26) 0),oA 35 (.extr (oO 26) 1),oA 11 (.alloc [.int .i64 0,.int .i64 0,.int .i64 0,.int .i64 0,.int .i64 0,.int .i64 0,.int .i64 0,.int .i64 0,.int .i64 0,.slice none 0 0]),⟨none,none,.store false 10 (oO 11) (oO 34),false⟩,oT 12 (.mv (oO 35))]) (oK [2,3,6,9,10,11,12] (oS (oS (oR [oM 36 12,oA 37 (.bin .neq 3 (oO 36) (oN 0))]) (oK [2,3,6,9,10,11,12,37] (.cond (oO 37) (oS (oR [oA 38 (.build [.int .i64 0,.int .i64 0,.int .i64 0,.int .i64 0,.int .i64 0,.int .i64 0,.int .i64 0,.int .i64 0,.int .i64 0,.slice none 0 0] []),oM 39 10,oM 40 12,⟨none,none,.store false 10 (oO 6) (oO 38),false⟩,oM 7 39,oM 8 40]) (oK [6,7,8] (.ret))) (.skip)))) (oK [2,3,6,9,10,11] (oR [oA 41 (.load true 10 (oO 11)),⟨none,none,.store false 10 (oO 9) (oO 41),false⟩])))))) (oK [2,3,6,9,10] (oR [oM 24 10,oA 25 (.bin .add 3 (oO 24) (oN 1)),oM 10 25]))))
def c42 : AC:=oS (oR [oA 3 (.box (oO 0)),oA 6 (.alloc [.int .i64 0,.int .i64 0,.int .i64 0,.int .i64 0,.int .i64 0,.int .i64 0,.int .i64 0,.int .i64 0,.int .i64 0,.slice none 0 0]),oA 7 (.mv (oN 0)),oA 8 (.mv (oN 0))]) (oK [1,2,3,6] (oS (oS (oR [oM 13 2,oA 14 (.len false (oO 13)),oA 15 (.bin .gtr 3 (oO 14) (oN 200))]) (oK [1,2,3,6,15] (.cond (oO 15) (oS (oR [oA 16 (.build [.int .i64 0,.int .i64 0,.int .i64 0,.int .i64 0,.int .i64 0,.int .i64 0,.int .i64 0,.int .i64 0,.int .i64 0,.slice none 0 0] []),⟨none,none,.store false 10 (oO 6) (oO 16),false⟩,oA 7 (.mv (oN 0)),oA 8 (.mv (oN 8))]) (oK [6,7,8] (.ret))) (.skip)))) (oK [1,2,3,6] (oS (oR [oA 17 (.load true 3 (oO 3)),oM 18 1,oA 19 (.call (.func 52) [(oO 17),(oO 18)]),oA 9 (.alloc [.int .i64 0,.int .i64 0,.int .i64 0,.int .i64 0,.int .i64 0,.int .i64 0,.int .i64 0,.int .i64 0,.int .i64 0,.slice none 0 0]),⟨none,none,.store false 10 (oO 9) (oO 19),false⟩]) (oK [2,3,6,9] (oS (oS (oR [oA 10 (.mv (oN 0))]) (oK [2,3,6,9,10] (.block 0 (.loop c42l1)))) (oK [6,9] (oS (oR [oA 42 (.load true 10 (oO 9)),⟨none,none,.store false 10 (oO 6) (oO 42),false⟩,oA 7 (.mv (oN 0)),oA 8 (.mv (oN 0))]) (oK [6,7,8] (.ret))))))))))
def rv42 : List RV:=[.cell 6 true 10,.tmp 7,.tmp 8]
theorem is42 : FnIs Tryz.prog 42 43 c42 rv42:=⟨⟨Tryz.f42,_,Tryz.func42,by kernel_rfl,rfl,rfl,by kernel_rfl,by kernel_rfl⟩,by decide⟩
def c52 : AC:=oS (oR [oA 2 (.box (oO 0)),oA 4 (.alloc [.int .i64 0,.int .i64 0,.int .i64 0,.int .i64 0,.int .i64 0,.int .i64 0,.int .i64 0,.int .i64 0,.int .i64 0,.slice none 0 0])]) (oK [1,2,4] (oS (oR [oM 5 1,oM 6 1,oF 7 0 2,oL 8 7,oA 9 (.len false (oO 8)),oA 10 (.makeSl 24 1 24 [.slice none 0 0] (oO 9) (oO 9)),oA 11 (.build [.int .i64 0,.int .i64 0,.int .i64 0,.int .i64 0,.int .i64 0,.int .i64 0,.int .i64 0,.int .i64 0,.int .i64 0,.slice none 0 0] [(3,1,(oO 5)),(4,1,(oN (-1))),(5,1,(oN (-1))),(6,1,(oO 6)),(9,1,(oO 10))]),⟨none,none,.store false 10 (oO 4) (oO 11),false⟩]) (oK [4] (.ret))))
def rv52 : List RV:=[.cell 4 true 10]
theorem is52 : FnIs Tryz.prog 52 12 c52 rv52:=⟨⟨Tryz.f52,_,Tryz.func52,by kernel_rfl,rfl,rfl,by kernel_rfl,by kernel_rfl⟩,by decide⟩
def c68 : AC:=oS (oR [oA 2 (.box (oO 0)),oA 3 (.box (oO 1)),oA 4 (.mv (oN 0))]) (oK [2,3] (oS (oS (oR [oF 5 0 3,oL 6 5,oA 7 (.call (.func 31) [(oO 6),(oN 0),(oN 11)]),oA 8 (.un .not (oO 7))]) (oK [2,3,8] (.cond (oO 8) (oS (oR [oA 4 (.mv (oN 15))]) (oK [4] (.ret))) (.skip)))) (oK [2,3] (oS (oS (oR [oF 9 1 3,oL 10 9,oA 11 (.call (.func 31) [(oO 10),(oN 0),(oN 1000000000)]),oA 12 (.un .not (oO 11))]) (oK [2,3,12] (.cond (oO 12) (oS (oR [oA 4 (.mv (oN 2))]) (oK [4] (.ret))) (.skip)))) (oK [2,3] (oS (oS (oR [oF 13 0 3,oL 14 13,oA 15 (.bin .eql 3 (oO 14) (oN 3)),oM 16 15,oG 17 16 false (.faddr 0 (oO 3)),oG 18 16 false (.load false 1 (oO 17)),oG 19 16 false (.bin .eql 3 (oO 18) (oN 10)),oA 20 (.pick (oO 16) (.const (.bool true)) (oO 19))]) (oK [2,3,20] (.cond (oO 20) (oS (oS (oR [oA 21 (.load true 3 (oO 2)),oF 22 2 3,oL 23 22,oA 24 (.call (.func 99) [(oO 21),(oO 23)]),oA 25 (.un .not (oO 24))]) (oK [25] (.cond (oO 25) (oS (oR [oA 4 (.mv (oN 6))]) (oK [4] (.ret))) (.skip)))) (oK [] (oS (oR [oA 4 (.mv (oN 0))]) (oK [4] (.ret))))) (.skip)))) (oK [3] (oS (oS (oR [oF 26 2 3,oL 27 26,oA 28 (.bin .neq 3 (oO 27) (oN 0))]) (oK [28] (.cond (oO 28) (oS (oR [oA 4 (.mv (oN 3))]) (oK [4] (.ret))) (.skip)))) (oK [] (oS (oR [oA 4 (.mv (oN 0))]) (oK [4] (.ret))))))))))))
def rv68 : List RV:=[.tmp 4]
theorem is68 : FnIs Tryz.prog 68 29 c68 rv68:=⟨⟨Tryz.f68,_,Tryz.func68,by kernel_rfl,rfl,rfl,by kernel_rfl,by kernel_rfl⟩,by decide⟩
def c71 : AC:=oS (oR [oA 3 (.box (oO 0)),oA 4 (.box (oO 1)),oA 5 (.box (oO 2)),oA 6 (.alloc [.int .i64 0,.int .i64 0,.int .i64 0,.int .i64 0,.int .i64 0,.int .i64 0,.int .i64 0,.int .i64 0,.int .i64 0,.slice none 0 0]),oA 7 (.mv (oN 0))]) (oK [3,4,5,6] (oS (oS (oR [oA 9 (.load true 3 (oO 3)),oA 10 (.load true 3 (oO 5)),oA 11 (.call (.func 68) [(oO 9),(oO 10)]),oM 8 11]) (oK [3,4,5,6,8] (oS (oR [oM 12 8,oA 13 (.bin .neq 3 (oO 12) (oN 0))]) (oK [3,4,5,6,8,13] (.cond (oO 13) (oS (oR [oA 14 (.build [.int .i64 0,.int .i64 0,.int .i64 0,.int .i64 0,.int .i64 0,.int .i64 0,.int .i64 0,.int .i64 0,.int .i64 0,.slice none 0 0] []),oM 15 8,⟨none,none,.store false 10 (oO 6) (oO 14),false⟩,oM 7 15]) (oK [6,7] (.ret))) (.skip)))))) (oK [3,4,5,6] (oS (oR [oA 16 (.load true 3 (oO 3)),oA 17 (.load true 10 (oO 4)),oA 18 (.load true 3 (oO 5)),oA 19 (.call (.func 119) [(oO 16),(oO 17),(oO 18)]),oA 20 (.extr (oO 19) 0),oA 21 (.extr (oO 19) 1),⟨none,none,.store false 10 (oO 6) (oO 20),false⟩,oM 7 21]) (oK [6,7] (.ret))))))
def rv71 : List RV:=[.cell 6 true 10,.tmp 7]
theorem is71 : FnIs Tryz.prog 71 22 c71 rv71:=⟨⟨Tryz.f71,_,Tryz.func71,by kernel_rfl,rfl,rfl,by kernel_rfl,by kernel_rfl⟩,by decide⟩
def c112 : AC:=oS (oR [oA 1 (.box (oO 0)),oA 2 (.mv (.const (.bool false)))]) (oK [1] (oS (oR [oF 3 1 1,oL 4 3,oA 5 (.bin .eql 3 (oO 4) (oN 2)),oM 6 5,oG 7 6 false (.faddr 1 (oO 1)),oG 8 6 false (.load false 1 (oO 7)),oG 9 6 false (.bin .eql 3 (oO 8) (oN 3)),oA 10 (.pick (oO 6) (.const (.bool true)) (oO 9)),oM 2 10]) (oK [2] (.ret))))
def rv112 : List RV:=[.tmp 2]
theorem is112 : FnIs Tryz.prog 112 11 c112 rv112:=⟨⟨Tryz.f112,_,Tryz.func112,by kernel_rfl,rfl,rfl,by kernel_rfl,by kernel_rfl⟩,by decide⟩
def x6 : AC:=oS (oS (oR [oM 8 7,oF 9 1 3,oL 10 9,oA 11 (.len false (oO 10)),oA 12 (.bin .lss 3 (oO 8) (oO 11))]) (oK [1,2,3,7,12] (.cond (oO 12) (.skip) (.exit 0)))) (oK [1,2,3,7] (oS (.block 1 (oS (oR [oF 15 1 3,oL 16 15,oM 17 7,oA 18 (.iaddr 2 [.int .i64 0,.int .i64 0] (oO 16) (oO 17)),oA 19 (.load true 2 (oO 18)),oM 20 1,oM 21 2,oA 22 (.ext (.mx false) [(oO 20),(oO 21)]),oM 23 1,oM 24 2,oA 25 (.ext (.mx true) [(oO 23),(oO 24)]),oA 26 (.build [.int .i64 0,.int .i64 0] [(0,1,(oO 22)),(1,1,(oO 25))]),oA 27 (.ext (.eqs false [0,0]) [(oO 19),(oO 26)])]) (oK [1,2,3,7,27] (.cond (oO 27) (oS (oR [oA 6 (.mv (.const (.bool true)))]) (oK [6] (.ret))) (.skip))))) (oK [1,2,3,7] (oR [oM 13 7,oA 14 (.bin .add 3 (oO 13) (oN 1)),oM 7 14]))))
def c115 : AC:=oS (oR [oA 3 (.box (oO 0)),oA 6 (.mv (.const (.bool false)))]) (oK [1,2,3] (oS (oS (oR [oA 7 (.mv (oN 0))]) (oK [1,2,3,7] (.block 0 (.loop x6)))) (oK [] (oS (oR [oA 6 (.mv (.const (.bool false)))]) (oK [6] (.ret))))))
def xY : List RV:=[.tmp 6]
theorem is115 : FnIs Tryz.prog 115 28 c115 xY:=⟨⟨Tryz.f115,_,Tryz.func115,by kernel_rfl,rfl,rfl,by kernel_rfl,by kernel_rfl⟩,by decide⟩
def x7 : AC:=oS (oS (oR [oM 5 4,oF 6 9 1,oL 7 6,oA 8 (.len false (oO 7)),oA 9 (.bin .lss 3 (oO 5) (oO 8))]) (oK [1,3,4,9] (.cond (oO 9) (.skip) (.exit 0)))) (oK [1,3,4] (oS (.block 1 (oR [oM 12 3,oF 13 9 1,oL 14 13,oM 15 4,oA 16 (.iaddr 1 [.slice none 0 0] (oO 14) (oO 15)),oL 17 16,oA 18 (.len false (oO 17)),oA 19 (.bin .add 3 (oO 12) (oO 18)),oM 3 19])) (oK [1,3,4] (oR [oM 10 4,oA 11 (.bin .add 3 (oO 10) (oN 1)),oM 4 11]))))
def c116 : AC:=oS (oR [oA 1 (.box (oO 0)),oA 2 (.mv (oN 0))]) (oK [1] (oS (oR [oA 3 (.mv (oN 0))]) (oK [1,3] (oS (oS (oR [oA 4 (.mv (oN 0))]) (oK [1,3,4] (.block 0 (.loop x7)))) (oK [3] (oS (oR [oM 20 3,oM 2 20]) (oK [2] (.ret))))))))
def xZ : List RV:=[.tmp 2]
theorem is116 : FnIs Tryz.prog 116 21 c116 xZ:=⟨⟨Tryz.f116,_,Tryz.func116,by kernel_rfl,rfl,rfl,by kernel_rfl,by kernel_rfl⟩,by decide⟩
def c119 : AC:=oS (oR [oA 3 (.box (oO 0)),oA 4 (.box (oO 1)),oA 5 (.box (oO 2)),oA 6 (.alloc [.int .i64 0,.int .i64 0,.int .i64 0,.int .i64 0,.int .i64 0,.int .i64 0,.int .i64 0,.int .i64 0,.int .i64 0,.slice none 0 0]),oA 7 (.mv (oN 0))]) (oK [3,4,5,6] (oS (oS (oR [oF 11 1 5,oL 12 11,oF 13 0 4,oL 14 13,oA 15 (.bin .lss 3 (oO 12) (oO 14))]) (oK [3,4,5,6,15] (.cond (oO 15) (oS (oR [oA 16 (.build [.int .i64 0,.int .i64 0,.int .i64 0,.int .i64 0,.int .i64 0,.int .i64 0,.int .i64 0,.int .i64 0,.int .i64 0,.slice none 0 0] []),⟨none,none,.store false 10 (oO 6) (oO 16),false⟩,oA 7 (.mv (oN 9))]) (oK [6,7] (.ret))) (.skip)))) (oK [3,4,5,6] (oS (oR [oA 18 (.load true 3 (oO 3)),oA 19 (.load true 10 (oO 4)),oF 20 1 5,oL 21 20,oA 22 (.call (.func 110) [(oO 18),(oO 19),(oO 21)]),oM 17 22,oA 23 (.extr (oO 17) 0),oA 24 (.extr (oO 17) 1),oA 8 (.alloc [.int .i64 0,.int .i64 0,.int .i64 0,.int .i64 0,.int .i64 0,.int .i64 0,.int .i64 0,.int .i64 0,.int .i64 0,.slice none 0 0]),⟨none,none,.store false 10 (oO 8) (oO 23),false⟩,oM 9 24]) (oK [3,5,6,8] (oS (oS (oR [oA 25 (.load true 3 (oO 3)),oA 26 (.load true 10 (oO 8)),oA 27 (.load true 3 (oO 5)),oA 28 (.call (.func 152) [(oO 25),(oO 26),(oO 27)]),oM 10 28]) (oK [5,6,8,10] (oS (oR [oM 29 10,oA 30 (.bin .neq 3 (oO 29) (oN 0))]) (oK [5,6,8,10,30] (.cond (oO 30) (oS (oR [oA 31 (.build [.int .i64 0,.int .i64 0,.int .i64 0,.int .i64 0,.int .i64 0,.int .i64 0,.int .i64 0,.int .i64 0,.int .i64 0,.slice none 0 0] []),oM 32 10,⟨none,none,.store false 10 (oO 6) (oO 31),false⟩,oM 7 32]) (oK [6,7] (.ret))) (.skip)))))) (oK [5,6,8] (oS (oR [oA 33 (.load true 10 (oO 8)),oA 34 (.load true 3 (oO 5)),oA 35 (.call (.func 153) [(oO 33),(oO 34)]),⟨none,none,.store false 10 (oO 8) (oO 35),false⟩]) (oK [5,6,8] (oS (oR [oF 36 1 5,oL 37 36,oF 38 0 8,⟨none,none,.store false 1 (oO 38) (oO 37),false⟩]) (oK [6,8] (oS (oR [oA 39 (.load true 10 (oO 8)),⟨none,none,.store false 10 (oO 6) (oO 39),false⟩,oA 7 (.mv (oN 0))]) (oK [6,7] (.ret))))))))))))))
def xo : List RV:=[.cell 6 true 10,.tmp 7]
theorem is119 : FnIs Tryz.prog 119 40 c119 xo:=⟨⟨Tryz.f119,_,Tryz.func119,by kernel_rfl,rfl,rfl,by kernel_rfl,by kernel_rfl⟩,by decide⟩
def rv167 : List RV:=[.tmp 2,.tmp 3]
theorem is167 : FnIs Tryz.prog 167 15 c167 rv167:=⟨⟨Tryz.f167,_,Tryz.func167,by kernel_rfl,rfl,rfl,by kernel_rfl,by kernel_rfl⟩,by decide⟩
def c168 : AC:=oS (oR [oA 1 (.box (oO 0)),oA 2 (.alloc [.int .i64 0,.int .i64 0,.int .i64 0,.int .i64 0,.int .i64 0,.int .i64 0,.int .i64 0,.int .i64 0,.int .i64 0,.slice none 0 0])]) (oK [1,2] (oS (oS (oR [oF 3 5 1,oL 4 3,oA 5 (.bin .neq 3 (oO 4) (oN (-1))),oM 6 5,oG 7 6 true (.faddr 6 (oO 1)),oG 8 6 true (.load false 1 (oO 7)),oG 9 6 true (.faddr 3 (oO 1)),oG 10 6 true (.load false 1 (oO 9)),oG 11 6 true (.bin .eql 3 (oO 8) (oO 10)),oA 12 (.pick (oO 6) (oO 11) (.const (.bool false))),oM 13 12,oG 14 13 true (.faddr 9 (oO 1)),oG 15 13 true (.load false 1 (oO 14)),oG 16 13 true (.faddr 5 (oO 1)),oG 17 13 true (.load false 1 (oO 16)),oG 18 13 true (.iaddr 1 [.slice none 0 0] (oO 15) (oO 17)),oG 19 13 true (.load false 1 (oO 18)),oG 20 13 true (.len false (oO 19)),oG 21 13 true (.bin .eql 3 (oO 20) (oN 0)),oA 22 (.pick (oO 13) (oO 21) (.const (.bool false)))]) (oK [1,2,22] (.cond (oO 22) (oR [oF 23 5 1,⟨none,none,.store false 1 (oO 23) (oN (-1)),false⟩]) (.skip)))) (oK [1,2] (oS (oR [oA 24 (.load true 10 (oO 1)),⟨none,none,.store false 10 (oO 2) (oO 24),false⟩]) (oK [2] (.ret))))))
def xE : List RV:=[.cell 2 true 10]
theorem is168 : FnIs Tryz.prog 168 25 c168 xE:=⟨⟨Tryz.f168,_,Tryz.func168,by kernel_rfl,rfl,rfl,by kernel_rfl,by kernel_rfl⟩,by decide⟩
end Go.Proofs.YtcbabnbiinkafaaGreatDoor
end
section
open Go Go.Am
open Go.Am.Dat (cells)
namespace Go.Proofs.YtcbabnbiinkafaaGreatDoor.D7
set_option maxRecDepth 100000
def c60l1 : AC:=oS (oS (oR [oM 5 4,oM 6 0,oA 7 (.len false (oO 6)),oA 8 (.bin .lss 3 (oO 5) (oO 7))]) (oK [0,3,4,8] (.cond (oO 8) (.skip) (.exit 0)))) (oK [0,3,4] (oS (.block 1 (oR [oM 11 3,oM 12 0,oM 13 4,oA 14 (.iaddr 1 [.slice none 0 0] (oO 12) (oO 13)),oL 15 14,oA 16 (.call (.func 24) [(oO 15)]),oA 17 (.mkSl true 24 1 [.slice none 0 0] 1 [(0,(oO 16))]),oA 18 (.app 51 24 1 24 [.slice none 0 0] (oO 11) (oO 17)),oM 3 18])) (oK [0,3,4] (oR [oM 9 4,oA 10 (.bin .add 3 (oO 9) (oN 1)),oM 4 10]))))
def c60 : AC:=oS (oR [oA 2 (.mv (.const (.slice none 0 0)))]) (oK [0] (oS (oR [oA 3 (.mv (.const (.slice none 0 0)))]) (oK [0,3] (.nilrow 3 1 24 (.deepen 3 1 3 (oS (oS (oR [oA 4 (.mv (oN 0))]) (oK [0,3,4] (.block 0 (.loop c60l1)))) (oK [3] (oS (oR [oM 19 3,oM 2 19]) (oK [2] (.ret))))))))))
def rv60 : List RV:=[.tmp 2]
theorem is60 : FnIs Tryz.prog 60 20 c60 rv60:=⟨⟨Tryz.f60,_,Tryz.func60,by kernel_rfl,rfl,rfl,by kernel_rfl,by kernel_rfl⟩,by decide⟩
def c65 : AC:=oS (oR [oA 1 (.box (oO 0)),oA 2 (.alloc [.int .i64 0,.int .i64 0,.int .i64 0,.int .i64 0,.int .i64 0,.int .i64 0,.int .i64 0,.int .i64 0,.int .i64 0,.slice none 0 0])]) (oK [1,2] (oS (oR [oF 3 9 1,oL 4 3,oA 5 (.call (.func 60) [(oO 4)]),oF 6 9 1,⟨none,none,.store false 1 (oO 6) (oO 5),false⟩]) (oK [1,2] (oS (oR [oA 7 (.load true 10 (oO 1)),⟨none,none,.store false 10 (oO 2) (oO 7),false⟩]) (oK [2] (.ret))))))
def rv65 : List RV:=[.cell 2 true 10]
theorem is65 : FnIs Tryz.prog 65 8 c65 rv65:=⟨⟨Tryz.f65,_,Tryz.func65,by kernel_rfl,rfl,rfl,by kernel_rfl,by kernel_rfl⟩,by decide⟩
def c110 : AC:=oS (oR [oA 3 (.box (oO 0)),oA 4 (.box (oO 1)),oA 6 (.alloc [.int .i64 0,.int .i64 0,.int .i64 0,.int .i64 0,.int .i64 0,.int .i64 0,.int .i64 0,.int .i64 0,.int .i64 0,.slice none 0 0]),oA 7 (.mv (oN 0))]) (oK [2,3,4,6] (oS (oS (oR [oA 8 (.load true 10 (oO 4)),oA 9 (.call (.func 112) [(oO 8)]),oM 10 9,oG 11 10 true (.faddr 2 (oO 4)),oG 12 10 true (.load false 1 (oO 11)),oG 13 10 true (.faddr 2 (oO 3)),oG 14 10 true (.load false 1 (oO 13)),oG 15 10 true (.bin .add 3 (oO 12) (oO 14)),oG 16 10 true (.mv (oO 2)),oG 17 10 true (.bin .leq 3 (oO 15) (oO 16)),oA 18 (.pick (oO 10) (oO 17) (.const (.bool false)))]) (oK [3,4,6,18] (.cond (oO 18) (oS (.draw 999 [6,12,13,102,105,106,112,113,205,206,212,213,304,305,306,312,313,405,406,412,413,506,512,513,612,613,708,711,713,811,813,910,911,913,1011,1013,1113,1213] [oA 19 (.load true 10 (oO 4)),oF 20 2 4,oL 21 20,oF 22 2 3,oL 23 22,oA 24 (.bin .add 3 (oO 21) (oO 23)),oA 25 (.call (.func 142) [(oO 19),(oN 0),(oO 24)]),oF 26 2 4,oL 27 26,oF 28 2 3,oL 29 28,oA 30 (.bin .add 3 (oO 27) (oO 29)),⟨none,none,.store false 10 (oO 6) (oO 25),false⟩,oT 7 (.mv (oO 30))]) (oK [6,7] (.ret))) (.skip)))) (oK [4,6] (oS (oR [oA 31 (.load true 10 (oO 4)),oA 32 (.call (.func 65) [(oO 31)]),⟨none,none,.store false 10 (oO 6) (oO 32),false⟩,oA 7 (.mv (oN (-1)))]) (oK [6,7] (.ret))))))
def rv110 : List RV:=[.cell 6 true 10,.tmp 7]
theorem is110 : FnIs Tryz.prog 110 33 c110 rv110:=⟨⟨Tryz.f110,_,Tryz.func110,by kernel_rfl,rfl,rfl,by kernel_rfl,by kernel_rfl⟩,by decide⟩
def c142l1 : AC:=oS (oS (oR [oM 20 10,oF 21 9 3,oL 22 21,oM 23 9,oA 24 (.iaddr 1 [.slice none 0 0] (oO 22) (oO 23)),oL 25 24,oA 26 (.len false (oO 25)),oA 27 (.bin .lss 3 (oO 20) (oO 26))]) (oK [1,2,3,6,7,8,9,10,27] (.cond (oO 27) (.skip) (.exit 2)))) (oK [1,2,3,6,7,8,9,10] (oS (.block 3 (oR [oM 30 8,oF 31 9 3,oL 32 31,oM 33 9,oA 34 (.iaddr 1 [.slice none 0 0] (oO 32) (oO 33)),oL 35 34,oM 36 10,oA 37 (.iaddr 1 [.int .i64 0] (oO 35) (oO 36)),oL 38 37,oA 39 (.call (.func 163) [(oO 30),(oO 38)]),oM 8 39])) (oK [1,2,3,6,7,8,9,10] (oR [oM 28 10,oA 29 (.bin .add 3 (oO 28) (oN 1)),oM 10 29]))))
def c142l2 : AC:=oS (oS (oR [oM 13 9,oF 14 9 3,oL 15 14,oA 16 (.len false (oO 15)),oA 17 (.bin .lss 3 (oO 13) (oO 16))]) (oK [1,2,3,6,7,8,9,17] (.cond (oO 17) (.skip) (.exit 0)))) (oK [1,2,3,6,7,8,9] (oS (.block 1 (oS (oS (oR [oA 10 (.mv (oN 0))]) (oK [1,2,3,6,7,8,9,10] (.block 2 (.loop c142l1)))) (oK [1,2,3,6,7,8,9] (oR [oF 40 9 7,oL 41 40,oM 42 9,oA 43 (.iaddr 1 [.slice none 0 0] (oO 41) (oO 42)),⟨none,none,.store false 1 (oO 43) (.const (.slice none 0 0)),false⟩])))) (oK [1,2,3,6,7,8,9] (oR [oM 18 9,oA 19 (.bin .add 3 (oO 18) (oN 1)),oM 9 19]))))
def c142 : AC:=oS (oR [oA 3 (.box (oO 0)),oA 6 (.alloc [.int .i64 0,.int .i64 0,.int .i64 0,.int .i64 0,.int .i64 0,.int .i64 0,.int .i64 0,.int .i64 0,.int .i64 0,.slice none 0 0])]) (oK [1,2,3,6] (oS (oR [oA 11 (.load true 10 (oO 3)),oA 12 (.call (.func 65) [(oO 11)]),oA 7 (.alloc [.int .i64 0,.int .i64 0,.int .i64 0,.int .i64 0,.int .i64 0,.int .i64 0,.int .i64 0,.int .i64 0,.int .i64 0,.slice none 0 0]),⟨none,none,.store false 10 (oO 7) (oO 12),false⟩]) (oK [1,2,3,6,7] (oS (oR [oA 8 (.mv (.const (.slice none 0 0)))]) (oK [1,2,3,6,7,8] (oS (oS (oR [oA 9 (.mv (oN 0))]) (oK [1,2,3,6,7,8,9] (.block 0 (.loop c142l2)))) (oK [1,2,3,6,7,8] (oS (.draw 6 [0,1,2] [oF 44 9 7,oL 45 44,oA 46 (.mvs (oO 1)),oM 47 8,oF 48 8 3,oL 49 48,oT 50 (.call (.func 164) [(oO 47),(oO 49)]),oT 51 (.iaddr 1 [.slice none 0 0] (oO 45) (oO 46)),⟨none,none,.store false 1 (oO 51) (oO 50),true⟩]) (oK [1,2,6,7] (oS (oR [oM 52 2,oM 53 1,oM 54 1,oF 55 1 7,⟨none,none,.store false 1 (oO 55) (oN 0),false⟩,oF 56 2 7,⟨none,none,.store false 1 (oO 56) (oO 52),false⟩,oF 57 3 7,⟨none,none,.store false 1 (oO 57) (oO 53),false⟩,oF 58 6 7,⟨none,none,.store false 1 (oO 58) (oO 54),false⟩]) (oK [6,7] (oS (oR [oF 59 4 7,⟨none,none,.store false 1 (oO 59) (oN (-1)),false⟩,oF 60 5 7,⟨none,none,.store false 1 (oO 60) (oN (-1)),false⟩]) (oK [6,7] (oS (oR [oA 61 (.load true 10 (oO 7)),⟨none,none,.store false 10 (oO 6) (oO 61),false⟩]) (oK [6] (.ret))))))))))))))))
def rv142 : List RV:=[.cell 6 true 10]
theorem is142 : FnIs Tryz.prog 142 62 c142 rv142:=⟨⟨Tryz.f142,_,Tryz.func142,by kernel_rfl,rfl,rfl,by kernel_rfl,by kernel_rfl⟩,by decide⟩
def c163l1 : AC:=oS (oS (oR [oM 7 6,oM 8 0,oA 9 (.len false (oO 8)),oA 10 (.bin .lss 3 (oO 7) (oO 9)),oM 11 10,oG 12 11 true (.mv (oO 0)),oG 13 11 true (.mv (oO 6)),oG 14 11 true (.iaddr 1 [.int .i64 0] (oO 12) (oO 13)),oG 15 11 true (.load false 1 (oO 14)),oG 16 11 true (.mv (oO 1)),oG 17 11 true (.bin .lss 3 (oO 15) (oO 16)),oA 18 (.pick (oO 11) (oO 17) (.const (.bool false)))]) (oK [0,1,5,6,18] (.cond (oO 18) (.skip) (.exit 0)))) (oK [0,1,5,6] (.block 1 (oS (oR [oM 19 5,oM 20 0,oM 21 6,oA 22 (.iaddr 1 [.int .i64 0] (oO 20) (oO 21)),oL 23 22,oA 24 (.mkSl false 3 1 [.int .i64 0] 1 [(0,(oO 23))]),oA 25 (.app 24 3 1 8 [.int .i64 0] (oO 19) (oO 24)),oM 5 25]) (oK [0,1,5,6] (oR [oM 26 6,oA 27 (.bin .add 3 (oO 26) (oN 1)),oM 6 27])))))
def c163 : AC:=oS (oR [oA 4 (.mv (.const (.slice none 0 0)))]) (oK [0,1] (oS (oR [oA 5 (.mv (.const (.slice none 0 0)))]) (oK [0,1,5] (.nilrow 5 1 3 (oS (oR [oA 6 (.mv (oN 0))]) (oK [0,1,5,6] (oS (.block 0 (.loop c163l1)) (oK [0,1,5,6] (oS (.draw 3 [4,5,6] [oM 28 5,oA 29 (.mvs (oO 1)),oA 30 (.mkSl false 3 1 [.int .i64 0] 1 [(0,(oO 29))]),oT 31 (.app 24 3 1 8 [.int .i64 0] (oO 28) (oO 30)),oM 32 0,oM 33 6,oA 34 (.ssl 1 (oO 32) (some (oO 33)) none none),oT 35 (.app 24 3 1 8 [.int .i64 0] (oO 31) (oO 34)),oT 4 (.mv (oO 35))]) (oK [4] (.ret)))))))))))
def rv163 : List RV:=[.tmp 4]
theorem is163 : FnIs Tryz.prog 163 36 c163 rv163:=⟨⟨Tryz.f163,_,Tryz.func163,by kernel_rfl,rfl,rfl,by kernel_rfl,by kernel_rfl⟩,by decide⟩
def c164l1 : AC:=oS (oS (oR [oM 7 6,oM 8 0,oA 9 (.len false (oO 8)),oA 10 (.bin .lss 3 (oO 7) (oO 9))]) (oK [0,1,5,6,10] (.cond (oO 10) (.skip) (.exit 0)))) (oK [0,1,5,6] (oS (.block 1 (oS (oR [oM 13 0,oM 14 6,oA 15 (.iaddr 1 [.int .i64 0] (oO 13) (oO 14)),oL 16 15,oM 17 1,oA 18 (.bin .geq 3 (oO 16) (oO 17))]) (oK [0,1,5,6,18] (.cond (oO 18) (oR [oM 19 5,oM 20 0,oM 21 6,oA 22 (.iaddr 1 [.int .i64 0] (oO 20) (oO 21)),oL 23 22,oA 24 (.mkSl false 3 1 [.int .i64 0] 1 [(0,(oO 23))]),oA 25 (.app 24 3 1 8 [.int .i64 0] (oO 19) (oO 24)),oM 5 25]) (.skip))))) (oK [0,1,5,6] (oR [oM 11 6,oA 12 (.bin .add 3 (oO 11) (oN 1)),oM 6 12]))))
def c164 : AC:=oS (oR [oA 4 (.mv (.const (.slice none 0 0)))]) (oK [0,1] (oS (oR [oA 5 (.mv (.const (.slice none 0 0)))]) (oK [0,1,5] (.nilrow 5 1 3 (oS (oS (oR [oA 6 (.mv (oN 0))]) (oK [0,1,5,6] (.block 0 (.loop c164l1)))) (oK [5] ((oS (oR [oM 26 5,oM 4 26]) (oK [4] (.ret))))))))))
def rv164 : List RV:=[.tmp 4]
theorem is164 : FnIs Tryz.prog 164 27 c164 rv164:=⟨⟨Tryz.f164,_,Tryz.func164,by kernel_rfl,rfl,rfl,by kernel_rfl,by kernel_rfl⟩,by decide⟩
def c152k1 : AC:=oS (oR [oA 18 (.load true 10 (oO 4)),oA 19 (.call (.func 116) [(oO 18)]),oA 20 (.bin .geq 3 (oO 19) (oN 60)),oM 21 20,oG 22 21 false (.faddr 7 (oO 4)),oG 23 21 false (.load false 1 (oO 22)),oG 24 21 false (.bin .geq 3 (oO 23) (oN 1000000)),oA 25 (.pick (oO 21) (.const (.bool true)) (oO 24))]) (oK [25] (.cond (oO 25) (oS (oR [oA 6 (.mv (oN 16))]) (oK [6] (.ret))) (.skip)))
def c152k2 : AC:=oS (oS (oR [oA 28 (.load true 10 (oO 4)),oA 29 (.call (.func 112) [(oO 28)])]) (oK [4,7,29] (.cond (oO 29) (oS (oR [oM 30 7,oM 6 30]) (oK [6] (.ret))) (.skip)))) (oK [4] (oS (oS (oR [oF 31 9 4,oL 32 31,oF 33 3 4,oL 34 33,oA 35 (.iaddr 1 [.slice none 0 0] (oO 32) (oO 34)),oL 36 35,oA 37 (.len false (oO 36)),oA 38 (.bin .eql 3 (oO 37) (oN 0))]) (oK [4,38] (.cond (oO 38) (oS (oR [oA 6 (.mv (oN 12))]) (oK [6] (.ret))) (.skip)))) (oK [4] (oS (oQ [oF 39 9 4,oL 40 39,oF 41 3 4,oL 42 41,oA 43 (.iaddr 1 [.slice none 0 0] (oO 40) (oO 42)),oL 44 43,oA 45 (.iaddr 1 [.int .i64 0] (oO 44) (oN 0)),oL 46 45,oF 47 8 4,oL 48 47,oT 49 (.bin .gtr 3 (oO 46) (oO 48))]) (oK [49] (.cond (oO 49) (oS (oR [oA 6 (.mv (oN 14))]) (oK [6] (.ret))) (.skip)))))))
def c152k3 : AC:=oS (oR [oA 52 (.load true 10 (oO 4)),oA 53 (.call (.func 112) [(oO 52)])]) (oK [7,53] (.cond (oO 53) (oS (oR [oM 54 7,oM 6 54]) (oK [6] (.ret))) (.skip)))
def c152k4 : AC:=oS (oS (oR [oF 57 1 4,oL 58 57,oA 59 (.bin .neq 3 (oO 58) (oN 0))]) (oK [3,4,5,7,8,59] (.cond (oO 59) (oS (oR [oM 60 7,oM 6 60]) (oK [6] (.ret))) (.skip)))) (oK [3,4,5,8] (oS (oS (oR [oM 61 8]) (oK [3,4,5,61] (.cond (oO 61) (oS (oR [oA 6 (.mv (oN 17))]) (oK [6] (.ret))) (.skip)))) (oK [3,4,5] (oS (oR [oA 62 (.load true 3 (oO 3)),oF 63 2 5,oL 64 63,oF 65 3 4,oL 66 65,oA 67 (.call (.func 115) [(oO 62),(oO 64),(oO 66)]),oA 68 (.un .not (oO 67))]) (oK [68] (.cond (oO 68) (oS (oR [oA 6 (.mv (oN 6))]) (oK [6] (.ret))) (.skip)))))))
def c152k5 : AC:=oS (oR [oF 72 1 4,oL 73 72,oA 74 (.bin .neq 3 (oO 73) (oN 1))]) (oK [7,74] (.cond (oO 74) (oS (oR [oM 75 7,oM 6 75]) (oK [6] (.ret))) (.skip)))
def c152k6 : AC:=oS (oR [oF 78 1 4,oL 79 78,oA 80 (.bin .neq 3 (oO 79) (oN 2))]) (oK [7,80] (.cond (oO 80) (oS (oR [oM 81 7,oM 6 81]) (oK [6] (.ret))) (.skip)))
def c152k7 : AC:=oS (oS (oR [oF 84 1 4,oL 85 84,oA 86 (.bin .neq 3 (oO 85) (oN 2)),oM 87 86,oG 88 87 true (.faddr 1 (oO 4)),oG 89 87 true (.load false 1 (oO 88)),oG 90 87 true (.bin .neq 3 (oO 89) (oN 0)),oG 91 87 true (.mv (oO 90)),oG 92 91 false (.mv (oO 8)),oG 93 91 false (.un .not (oO 92)),oG 94 87 true (.pick (oO 91) (.const (.bool true)) (oO 93)),oA 95 (.pick (oO 87) (oO 94) (.const (.bool false)))]) (oK [4,7,95] (.cond (oO 95) (oS (oR [oM 96 7,oM 6 96]) (oK [6] (.ret))) (.skip)))) (oK [4] (oS (oR [oA 98 (.load true 10 (oO 4)),oA 99 (.call (.func 167) [(oO 98)]),oM 97 99,oA 100 (.extr (oO 97) 0),oA 101 (.extr (oO 97) 1),oM 9 100,oM 10 101]) (oK [4,9] (oS (oR [oF 102 9 4,oL 103 102,oM 104 9,oA 105 (.iaddr 1 [.slice none 0 0] (oO 103) (oO 104)),oL 106 105,oA 107 (.len false (oO 106)),oA 108 (.bin .eql 3 (oO 107) (oN 0))]) (oK [108] (.cond (oO 108) (oS (oR [oA 6 (.mv (oN 12))]) (oK [6] (.ret))) (.skip)))))))
def c152k8 : AC:=oS (oS (oR [oM 111 8,oA 112 (.un .not (oO 111))]) (oK [4,7,112] (.cond (oO 112) (oS (oR [oA 6 (.mv (oN 12))]) (oK [6] (.ret))) (.skip)))) (oK [4,7] (oS (oS (oR [oF 113 1 4,oL 114 113,oA 115 (.bin .eql 3 (oO 114) (oN 3))]) (oK [4,7,115] (.cond (oO 115) (oS (oR [oM 116 7,oM 6 116]) (oK [6] (.ret))) (.skip)))) (oK [4] (oS (oR [oF 117 6 4,oL 118 117,oF 119 3 4,oL 120 119,oA 121 (.bin .eql 3 (oO 118) (oO 120))]) (oK [121] (.cond (oO 121) (oS (oR [oA 6 (.mv (oN 26))]) (oK [6] (.ret))) (.skip)))))))
def c152k9 : AC:=oS (oR [oF 124 1 4,oL 125 124,oA 126 (.bin .eql 3 (oO 125) (oN 3))]) (oK [7,126] (.cond (oO 126) (oS (oR [oM 127 7,oM 6 127]) (oK [6] (.ret))) (.skip)))
def c152k10 : AC:=oS (oS (oR [oF 130 1 4,oL 131 130,oA 132 (.bin .neq 3 (oO 131) (oN 3))]) (oK [4,5,7,8,132] (.cond (oO 132) (oS (oR [oM 133 7,oM 6 133]) (oK [6] (.ret))) (.skip)))) (oK [4,5,8] (oS (oR [oF 134 2 5,oL 135 134,oF 136 3 4,oL 137 136,oA 138 (.bin .neq 3 (oO 135) (oO 137)),oM 139 138,oG 140 139 true (.faddr 4 (oO 4)),oG 141 139 true (.load false 1 (oO 140)),oG 142 139 true (.bin .eql 3 (oO 141) (oN (-1))),oG 143 139 true (.mv (oO 142)),oG 144 143 false (.faddr 2 (oO 5)),oG 145 143 false (.load false 1 (oO 144)),oG 146 143 false (.faddr 4 (oO 4)),oG 147 143 false (.load false 1 (oO 146)),oG 148 143 false (.bin .neq 3 (oO 145) (oO 147)),oG 149 139 true (.pick (oO 143) (.const (.bool true)) (oO 148)),oA 150 (.pick (oO 139) (oO 149) (.const (.bool false))),oM 151 150,oG 152 151 true (.mv (oO 8)),oG 153 151 true (.un .not (oO 152)),oG 154 151 true (.mv (oO 153)),oG 155 154 false (.faddr 2 (oO 5)),oG 156 154 false (.load false 1 (oO 155)),oG 157 154 false (.faddr 5 (oO 4)),oG 158 154 false (.load false 1 (oO 157)),oG 159 154 false (.bin .neq 3 (oO 156) (oO 158)),oG 160 151 true (.pick (oO 154) (.const (.bool true)) (oO 159)),oA 161 (.pick (oO 151) (oO 160) (.const (.bool false)))]) (oK [161] (.cond (oO 161) (oS (oR [oA 6 (.mv (oN 6))]) (oK [6] (.ret))) (.skip)))))
def c152 : AC:=oS (oR [oA 3 (.box (oO 0)),oA 4 (.box (oO 1)),oA 5 (.box (oO 2)),oA 6 (.mv (oN 0))]) (oK [3,4,5] (oS (oR [oA 7 (.mv (oN 22))]) (oK [3,4,5,7] (oS (oR [oF 11 5 4,oL 12 11,oA 13 (.bin .neq 3 (oO 12) (oN (-1))),oM 8 13]) (oK [3,4,5,7,8] (oS (oS (oR [oF 14 0 5,oL 15 14]) (oK [3,4,5,7,8,15] (.block 0 (oS (oR [oA 17 (.bin .eql 3 (oO 15) (oN 0)),oM 16 17]) (oK [3,4,5,7,8,15,16] (.cond (oO 16) (.cut c152k1) (oS (oR [oA 27 (.bin .eql 3 (oO 15) (oN 1)),oM 26 27]) (oK [3,4,5,7,8,15,26] (.cond (oO 26) (.cut c152k2) (oS (oR [oA 51 (.bin .eql 3 (oO 15) (oN 2)),oM 50 51]) (oK [3,4,5,7,8,15,50] (.cond (oO 50) (.cut c152k3) (oS (oR [oA 56 (.bin .eql 3 (oO 15) (oN 3)),oM 55 56]) (oK [3,4,5,7,8,15,55] (.cond (oO 55) (.cut c152k4) (oS (oS (oR [oA 70 (.bin .eql 3 (oO 15) (oN 4)),oM 69 70]) (oK [4,5,7,8,15,69] (.cond (oO 69) (.skip) (oR [oA 71 (.bin .eql 3 (oO 15) (oN 5)),oM 69 71])))) (oK [4,5,7,8,15,69] (.cond (oO 69) (.cut c152k5) (oS (oR [oA 77 (.bin .eql 3 (oO 15) (oN 6)),oM 76 77]) (oK [4,5,7,8,15,76] (.cond (oO 76) (.cut c152k6) (oS (oR [oA 83 (.bin .eql 3 (oO 15) (oN 7)),oM 82 83]) (oK [4,5,7,8,15,82] (.cond (oO 82) (.cut c152k7) (oS (oR [oA 110 (.bin .eql 3 (oO 15) (oN 8)),oM 109 110]) (oK [4,5,7,8,15,109] (.cond (oO 109) (.cut c152k8) (oS (oR [oA 123 (.bin .eql 3 (oO 15) (oN 9)),oM 122 123]) (oK [4,5,7,8,15,122] (.cond (oO 122) (.cut c152k9) (oS (oR [oA 129 (.bin .eql 3 (oO 15) (oN 10)),oM 128 129]) (oK [4,5,7,8,128] (.cond (oO 128) (.cut c152k10) (.skip)))))))))))))))))))))))))))))))))) (oK [] (oS (oR [oA 6 (.mv (oN 0))]) (oK [6] (.ret))))))))))
def rv152 : List RV:=[.tmp 6]
theorem is152 : FnIs Tryz.prog 152 162 c152 rv152:=⟨⟨Tryz.f152,_,Tryz.func152,by kernel_rfl,rfl,rfl,by kernel_rfl,by kernel_rfl⟩,by decide⟩
def c153k1 : AC:=oS (oQ [oF 32 9 2,oL 33 32,oF 34 3 2,oL 35 34,oA 36 (.iaddr 1 [.slice none 0 0] (oO 33) (oO 35)),oL 37 36,oA 38 (.iaddr 1 [.int .i64 0] (oO 37) (oN 0)),oL 39 38,oF 40 8 2,oL 41 40,oT 42 (.bin .eql 3 (oO 39) (oO 41))]) (oK [2,4,42] (.cond (oO 42) (oR [oF 43 8 2,oL 44 43,oA 45 (.bin .add 3 (oO 44) (oN 1)),oF 46 8 2,⟨none,none,.store false 1 (oO 46) (oO 45),false⟩]) (.skip)))
def c153k2 : AC:=oS (oR [oA 101 (.load true 10 (oO 2)),oA 102 (.call (.func 167) [(oO 101)]),oM 100 102,oA 103 (.extr (oO 100) 0),oA 104 (.extr (oO 100) 1),oM 5 103,oM 6 104]) (oK [2,4,5,6] (oS (.draw 999 [1,16,17,116,117,216,217,304,306,307,315,316,317,406,407,415,416,417,506,507,515,516,517,607,615,616,617,715,716,717,809,811,812,813,814,815,816,817,911,912,913,914,915,916,917,1011,1012,1013,1014,1015,1016,1017,1112,1113,1114,1115,1116,1117,1213,1214,1215,1216,1217,1314,1315,1316,1317,1415,1416,1417,1516,1517,1617] [oF 105 9 2,oL 106 105,oA 107 (.mvs (oO 6)),oF 108 9 2,oL 109 108,oA 110 (.mvs (oO 6)),oA 111 (.iaddr 1 [.slice none 0 0] (oO 109) (oO 110)),oL 112 111,oF 113 9 2,oL 114 113,oM 115 5,oA 116 (.iaddr 1 [.slice none 0 0] (oO 114) (oO 115)),oL 117 116,oA 118 (.iaddr 1 [.int .i64 0] (oO 117) (oN 0)),oL 119 118,oA 120 (.call (.func 163) [(oO 112),(oO 119)]),oT 121 (.iaddr 1 [.slice none 0 0] (oO 106) (oO 107)),⟨none,none,.store false 1 (oO 121) (oO 120),true⟩]) (oK [2,4,5] (.draw 999 [1,10,11,110,111,210,211,304,306,307,308,309,310,311,406,407,408,409,410,411,506,507,508,509,510,511,607,608,609,610,611,708,709,710,711,809,810,811,910,911,1011] [oF 122 9 2,oL 123 122,oA 124 (.mvs (oO 5)),oF 125 9 2,oL 126 125,oM 127 5,oA 128 (.iaddr 1 [.slice none 0 0] (oO 126) (oO 127)),oL 129 128,oA 130 (.ssl 1 (oO 129) (some (oN 1)) none none),oA 131 (.call (.func 24) [(oO 130)]),oT 132 (.iaddr 1 [.slice none 0 0] (oO 123) (oO 124)),⟨none,none,.store false 1 (oO 132) (oO 131),true⟩]))))
def c153k3 : AC:=oS (oS (oR [oF 140 1 2,oL 141 140,oA 142 (.bin .neq 3 (oO 141) (oN 2))]) (oK [2,3,4,142] (.cond (oO 142) (oR [oF 143 1 3,oL 144 143,oF 145 2 2,⟨none,none,.store false 1 (oO 145) (oO 144),false⟩]) (.skip)))) (oK [2,4] (oR [oF 146 1 2,⟨none,none,.store false 1 (oO 146) (oN 3),false⟩]))
def c153k4 : AC:=oS (oR [oA 149 (.load true 10 (oO 2)),oF 150 2 3,oL 151 150,oF 152 1 3,oL 153 152,oA 154 (.call (.func 142) [(oO 149),(oO 151),(oO 153)]),⟨none,none,.store false 10 (oO 4) (oO 154),false⟩]) (oK [4] (.ret))
def c153k5 : AC:=oS (oR [oA 155 (.load true 10 (oO 2)),oA 156 (.call (.func 168) [(oO 155)]),⟨none,none,.store false 10 (oO 4) (oO 156),false⟩]) (oK [4] (.ret))
def c153 : AC:=oS (oR [oA 2 (.box (oO 0)),oA 3 (.box (oO 1)),oA 4 (.alloc [.int .i64 0,.int .i64 0,.int .i64 0,.int .i64 0,.int .i64 0,.int .i64 0,.int .i64 0,.int .i64 0,.int .i64 0,.slice none 0 0])]) (oK [2,3,4] (oS (oS (oR [oF 7 0 3,oL 8 7]) (oK [2,3,4,8] (.block 0 (oS (oR [oA 10 (.bin .eql 3 (oO 8) (oN 0)),oM 9 10]) (oK [2,3,4,8,9] (.cond (oO 9) (oS (.draw 13 [0,1,2,3] [oF 11 9 2,oL 12 11,oF 13 6 2,oL 14 13,oF 15 9 2,oL 16 15,oF 17 6 2,oL 18 17,oA 19 (.iaddr 1 [.slice none 0 0] (oO 16) (oO 18)),oL 20 19,oF 21 7 2,oL 22 21,oA 23 (.mkSl false 3 1 [.int .i64 0] 1 [(0,(oO 22))]),oT 24 (.app 24 3 1 8 [.int .i64 0] (oO 20) (oO 23)),oT 25 (.iaddr 1 [.slice none 0 0] (oO 12) (oO 14)),⟨none,none,.store true 1 (oO 25) (oO 24),true⟩]) (oK [2,4] (oR [oF 26 7 2,oL 27 26,oA 28 (.bin .add 3 (oO 27) (oN 1)),oF 29 7 2,⟨none,none,.store false 1 (oO 29) (oO 28),false⟩]))) (oS (oR [oA 31 (.bin .eql 3 (oO 8) (oN 1)),oM 30 31]) (oK [2,3,4,8,30] (.cond (oO 30) (.cut c153k1) (oS (oR [oA 48 (.bin .eql 3 (oO 8) (oN 2)),oM 47 48]) (oK [2,3,4,8,47] (.cond (oO 47) (.draw 999 [1,13,14,113,114,203,213,214,313,314,405,408,409,412,413,414,508,509,512,513,514,607,608,609,612,613,614,708,709,712,713,714,809,812,813,814,912,913,914,1011,1012,1013,1014,1112,1113,1114,1213,1214,1314] [oF 49 9 2,oL 50 49,oF 51 3 2,oL 52 51,oF 53 9 2,oL 54 53,oF 55 3 2,oL 56 55,oA 57 (.iaddr 1 [.slice none 0 0] (oO 54) (oO 56)),oL 58 57,oF 59 8 2,oL 60 59,oA 61 (.call (.func 164) [(oO 58),(oO 60)]),oT 62 (.iaddr 1 [.slice none 0 0] (oO 50) (oO 52)),⟨none,none,.store false 1 (oO 62) (oO 61),true⟩]) (oS (oR [oA 64 (.bin .eql 3 (oO 8) (oN 3)),oM 63 64]) (oK [2,3,4,8,63] (.cond (oO 63) (.draw 999 [1,6,7,8,9,106,107,108,109,203,208,209,308,309,405,406,407,408,409,506,507,508,509,607,608,609,708,709,809] [oF 65 1 3,oL 66 65,oF 67 2 3,oL 68 67,oF 69 1 2,⟨none,none,.store false 1 (oO 69) (oN 1),false⟩,oF 70 2 2,⟨none,none,.store false 1 (oO 70) (oO 66),false⟩,oT 71 (.faddr 4 (oO 2)),⟨none,none,.store false 1 (oO 71) (oO 68),true⟩]) (oS (oR [oA 73 (.bin .eql 3 (oO 8) (oN 4)),oM 72 73]) (oK [2,3,4,8,72] (.cond (oO 72) (.draw 999 [1,4,5,6,7,104,105,106,107,203,204,205,206,207,304,305,306,307,405,406,407,506,507,607] [oF 74 1 3,oL 75 74,oF 76 1 2,⟨none,none,.store false 1 (oO 76) (oN 0),false⟩,oT 77 (.faddr 2 (oO 2)),⟨none,none,.store false 1 (oO 77) (oO 75),true⟩,oT 78 (.faddr 4 (oO 2)),⟨none,none,.store false 1 (oO 78) (oN (-1)),true⟩]) (oS (oR [oA 80 (.bin .eql 3 (oO 8) (oN 5)),oM 79 80]) (oK [2,3,4,8,79] (.cond (oO 79) (.draw 999 [1,4,5,104,105,203,204,205,304,305,405] [oF 81 1 3,oL 82 81,oF 83 1 2,⟨none,none,.store false 1 (oO 83) (oN 2),false⟩,oT 84 (.faddr 2 (oO 2)),⟨none,none,.store false 1 (oO 84) (oO 82),true⟩]) (oS (oR [oA 86 (.bin .eql 3 (oO 8) (oN 6)),oM 85 86]) (oK [2,3,4,8,85] (.cond (oO 85) (oS (.draw 999 [1,4,5,104,105,203,204,205,304,305,405] [oF 87 1 3,oL 88 87,oF 89 1 2,⟨none,none,.store false 1 (oO 89) (oN 0),false⟩,oT 90 (.faddr 2 (oO 2)),⟨none,none,.store false 1 (oO 90) (oO 88),true⟩]) (oK [2,4] (oR [oF 91 3 2,oL 92 91,oF 93 4 2,oL 94 93,oF 95 5 2,⟨none,none,.store false 1 (oO 95) (oO 92),false⟩,oF 96 3 2,⟨none,none,.store false 1 (oO 96) (oO 94),false⟩,oF 97 4 2,⟨none,none,.store false 1 (oO 97) (oN (-1)),false⟩]))) (oS (oR [oA 99 (.bin .eql 3 (oO 8) (oN 7)),oM 98 99]) (oK [2,3,4,8,98] (.cond (oO 98) (.cut c153k2) (oS (oR [oA 134 (.bin .eql 3 (oO 8) (oN 8)),oM 133 134]) (oK [2,3,4,8,133] (.cond (oO 133) (oR [oF 135 3 2,oL 136 135,oF 137 6 2,⟨none,none,.store false 1 (oO 137) (oO 136),false⟩]) (oS (oR [oA 139 (.bin .eql 3 (oO 8) (oN 9)),oM 138 139]) (oK [2,3,4,8,138] (.cond (oO 138) (.cut c153k3) (oS (oR [oA 148 (.bin .eql 3 (oO 8) (oN 10)),oM 147 148]) (oK [2,3,4,147] (.cond (oO 147) (.cut c153k4) (.skip))))))))))))))))))))))))))))))))))))) (oK [2,4] (.cut c153k5))))
def rv153 : List RV:=[.cell 4 true 10]
theorem is153 : FnIs Tryz.prog 153 157 c153 rv153:=⟨⟨Tryz.f153,_,Tryz.func153,by kernel_rfl,rfl,rfl,by kernel_rfl,by kernel_rfl⟩,by decide⟩
def c42l1 : AC:=oS (oS (oR [oM 20 10,oM 21 2,oA 22 (.len false (oO 21)),oA 23 (.bin .lss 3 (oO 20) (oO 22))]) (oK [2,3,6,9,10,23] (.cond (oO 23) (.skip) (.exit 0)))) (oK [2,3,6,9,10] (oS (.block 1 (oS (.draw 999 [6,7,8,9,11,12,106,107,108,109,111,112,204,205,206,207,208,209,211,212,304,305,306,307,308,309,311,312,405,406,407,408,409,411,412,506,507,508,509,511,512,607,608,609,611,612,708,709,711,712,811,812,912,1011,1012,1112] [oA 27 (.load true 3 (oO 3)),oA 28 (.load true 10 (oO 9)),oM 29 2,oA 30 (.mvs (oO 10)),oA 31 (.iaddr 3 [.int .i64 0,.int .i64 0,.int .i64 0] (oO 29) (oO 30)),oA 32 (.load true 3 (oO 31)),oA 33 (.call (.func 71) [(oO 27),(oO 28),(oO 32)]),oM 26 33,oA 34 (.extr (oO 26) 0),oA 35 (.extr (oO 26) 1),oA 11 (.alloc [.int .i64 0,.int .i64 0,.int .i64 0,.int .i64 0,.int .i64 0,.int .i64 0,.int .i64 0,.int .i64 0,.int .i64 0,.slice none 0 0]),⟨none,none,.store false 10 (oO 11) (oO 34),false⟩,oT 12 (.mv (oO 35))]) (oK [2,3,6,9,10,11,12] (oS (oS (oR [oM 36 12,oA 37 (.bin .neq 3 (oO 36) (oN 0))]) (oK [2,3,6,9,10,11,12,37] (.cond (oO 37) (oS (oR [oA 38 (.build [.int .i64 0,.int .i64 0,.int .i64 0,.int .i64 0,.int .i64 0,.int .i64 0,.int .i64 0,.int .i64 0,.int .i64 0,.slice none 0 0] []),oM 39 10,oM 40 12,⟨none,none,.store false 10 (oO 6) (oO 38),false⟩,oM 7 39,oM 8 40]) (oK [6,7,8] (.ret))) (.skip)))) (oK [2,3,6,9,10,11] (oR [oA 41 (.load true 10 (oO 11)),⟨none,none,.store false 10 (oO 9) (oO 41),false⟩])))))) (oK [2,3,6,9,10] (oR [oM 24 10,oA 25 (.bin .add 3 (oO 24) (oN 1)),oM 10 25]))))
def c42 : AC:=oS (oR [oA 3 (.box (oO 0)),oA 6 (.alloc [.int .i64 0,.int .i64 0,.int .i64 0,.int .i64 0,.int .i64 0,.int .i64 0,.int .i64 0,.int .i64 0,.int .i64 0,.slice none 0 0]),oA 7 (.mv (oN 0)),oA 8 (.mv (oN 0))]) (oK [1,2,3,6] (oS (oS (oR [oM 13 2,oA 14 (.len false (oO 13)),oA 15 (.bin .gtr 3 (oO 14) (oN 200))]) (oK [1,2,3,6,15] (.cond (oO 15) (oS (oR [oA 16 (.build [.int .i64 0,.int .i64 0,.int .i64 0,.int .i64 0,.int .i64 0,.int .i64 0,.int .i64 0,.int .i64 0,.int .i64 0,.slice none 0 0] []),⟨none,none,.store false 10 (oO 6) (oO 16),false⟩,oA 7 (.mv (oN 0)),oA 8 (.mv (oN 8))]) (oK [6,7,8] (.ret))) (.skip)))) (oK [1,2,3,6] (oS (oR [oA 17 (.load true 3 (oO 3)),oM 18 1,oA 19 (.call (.func 52) [(oO 17),(oO 18)]),oA 9 (.alloc [.int .i64 0,.int .i64 0,.int .i64 0,.int .i64 0,.int .i64 0,.int .i64 0,.int .i64 0,.int .i64 0,.int .i64 0,.slice none 0 0]),⟨none,none,.store false 10 (oO 9) (oO 19),false⟩]) (oK [2,3,6,9] (oS (oS (oR [oA 10 (.mv (oN 0))]) (oK [2,3,6,9,10] (.block 0 (.loop c42l1)))) (oK [6,9] (oS (oR [oA 42 (.load true 10 (oO 9)),⟨none,none,.store false 10 (oO 6) (oO 42),false⟩,oA 7 (.mv (oN 0)),oA 8 (.mv (oN 0))]) (oK [6,7,8] (.ret))))))))))
def rv42 : List RV:=[.cell 6 true 10,.tmp 7,.tmp 8]
theorem is42 : FnIs Tryz.prog 42 43 c42 rv42:=⟨⟨Tryz.f42,_,Tryz.func42,by kernel_rfl,rfl,rfl,by kernel_rfl,by kernel_rfl⟩,by decide⟩
def c43l1 : AC:=oS (oS (oR [oM 15 9,oM 16 2,oA 17 (.len false (oO 16)),oA 18 (.bin .lss 3 (oO 15) (oO 17))]) (oK [2,3,7,8,9,18] (.cond (oO 18) (.skip) (.exit 0)))) (oK [2,3,7,8,9] (oS (.block 1 (oS (.draw 999 [6,7,8,9,11,12,106,107,108,109,111,112,204,205,206,207,208,209,211,212,304,305,306,307,308,309,311,312,405,406,407,408,409,411,412,506,507,508,509,511,512,607,608,609,611,612,708,709,711,712,811,812,912,1011,1012,1112] [oA 22 (.load true 3 (oO 3)),oA 23 (.load true 10 (oO 8)),oM 24 2,oA 25 (.mvs (oO 9)),oA 26 (.iaddr 3 [.int .i64 0,.int .i64 0,.int .i64 0] (oO 24) (oO 25)),oA 27 (.load true 3 (oO 26)),oA 28 (.call (.func 71) [(oO 22),(oO 23),(oO 27)]),oM 21 28,oA 29 (.extr (oO 21) 0),oA 30 (.extr (oO 21) 1),oA 10 (.alloc [.int .i64 0,.int .i64 0,.int .i64 0,.int .i64 0,.int .i64 0,.int .i64 0,.int .i64 0,.int .i64 0,.int .i64 0,.slice none 0 0]),⟨none,none,.store false 10 (oO 10) (oO 29),false⟩,oT 11 (.mv (oO 30))]) (oK [2,3,7,8,9,10] (oS (oS (oR [oF 31 8 10,oL 32 31,oF 33 8 8,oL 34 33,oA 35 (.bin .gtr 3 (oO 32) (oO 34))]) (oK [2,3,7,8,9,10,35] (.cond (oO 35) (oR [oM 36 7,oF 37 8 8,oL 38 37,oA 39 (.mkSl false 3 1 [.int .i64 0] 1 [(0,(oO 38))]),oA 40 (.app 24 3 1 8 [.int .i64 0] (oO 36) (oO 39)),oM 7 40]) (.skip)))) (oK [2,3,7,8,9,10] (oR [oA 41 (.load true 10 (oO 10)),⟨none,none,.store false 10 (oO 8) (oO 41),false⟩])))))) (oK [2,3,7,8,9] (oR [oM 19 9,oA 20 (.bin .add 3 (oO 19) (oN 1)),oM 9 20]))))
def c43 : AC:=oS (oR [oA 3 (.box (oO 0)),oA 6 (.mv (.const (.slice none 0 0)))]) (oK [1,2,3] (oS (oR [oA 7 (.mv (.const (.slice none 0 0)))]) (oK [1,2,3,7] (.nilrow 7 1 3 (oS (oR [oA 12 (.load true 3 (oO 3)),oM 13 1,oA 14 (.call (.func 52) [(oO 12),(oO 13)]),oA 8 (.alloc [.int .i64 0,.int .i64 0,.int .i64 0,.int .i64 0,.int .i64 0,.int .i64 0,.int .i64 0,.int .i64 0,.int .i64 0,.slice none 0 0]),⟨none,none,.store false 10 (oO 8) (oO 14),false⟩]) (oK [2,3,7,8] (oS (oS (oR [oA 9 (.mv (oN 0))]) (oK [2,3,7,8,9] (.block 0 (.loop c43l1)))) (oK [7] (.fz [7] (oS (oR [oM 42 7,oM 6 42]) (oK [6] (.ret))))))))))))
def rv43 : List RV:=[.tmp 6]
theorem is43 : FnIs Tryz.prog 43 43 c43 rv43:=⟨⟨Tryz.f43,_,Tryz.func43,by kernel_rfl,rfl,rfl,by kernel_rfl,by kernel_rfl⟩,by decide⟩
end Go.Proofs.YtcbabnbiinkafaaGreatDoor.D7
end
section
open Go Go.Am
open Go.Am.Dat (cells)
namespace Go.Proofs.YtcbabnbiinkafaaGreatDoor
set_option maxHeartbeats 4000000
set_option maxRecDepth 100000
def cnt (p:Nat→Bool):Nat→Nat
 | 0=>0
 | t+1=>if p t then cnt p t+1 else 0
theorem xy (p:Nat→Bool):∀ (t m:Nat),m < cnt p t↔(m < t∧∀ k,k < t→t≤k+m+1→p k=true)
 | 0,m=>by simp [cnt]
 | t+1,m=>by
  rw [cnt]
  cases hp:p t with
  | false=>
   simp only [Bool.false_eq_true,if_false,Nat.not_lt_zero,false_iff,not_and]
   intro h1 h2
   have:=h2 t (by omega) (by omega)
   rw [hp] at this; cases this
  | true=>
   simp only [if_true]
   cases m with
   | zero=>
    constructor
    · intro _
      refine ⟨by omega,fun k h1 h2=>?_⟩
      have:k=t:=by omega
      rw [this]; exact hp
    · intro _; omega
   | succ m=>
    have ih:=xy p t m
    constructor
    · intro h
      obtain ⟨g1,g2⟩:=ih.1 (by omega)
      refine ⟨by omega,fun k h1 h2=>?_⟩
      by_cases hk:k=t
      · rw [hk]; exact hp
      · exact g2 k (by omega) (by omega)
    · intro h
      have:=ih.2 ⟨by omega,fun k h1 h2=>h.2 k (by omega) (by omega)⟩
      omega
theorem x9 (p:Nat→Bool) (t:Nat):((cnt p (t+1):Nat):Int)=if p t then (cnt p t:Int)+1 else 0:=by
 rw [cnt]; split <;> simp
theorem xB (n:Nw) (a b:Int) (h:NwS n):FC Tryz.prog 115 [enc n,enc a,enc b] [] (enc (nbr n a b)) []:=by
 have hb:=h.b
 generalize hB:nbr n a b=B
 refine dC [] is115 (by simp) trivial trivial trivial trivial (fun cx _ hl _=>dB [] 800 ?_)
 delta c115 oO oN oA oM oT oG oR oQ oS oK oF oL
 simp (maxSteps:=4000000) -implicitDefEqProofs only [xY,ec,WU,Ent.of0,Ent.of1,Ent.of2,Ent.of3,Ent.of4,V,W3,↓reduceIte,seval,reduceCtorEq]
 refine eM n.nb.length (fun i=>[(7,.s (.int .i64 (i:Int)))]) (fun _=>[]) (fun i=>B=(n.nb.drop i).any fun x=>decide (x=⟨min a b,max a b⟩)) (by rw [← hB]; rfl) ?_ (fun i hi hv=>dB [] 800 ?_)
 · simp (maxSteps:=4000000) -implicitDefEqProofs only [Ent.of0,Ent.of1,Ent.of2,Ent.of3,Ent.of4,V,W3,↓reduceIte,seval,reduceCtorEq]
   all_goals simp
 · by_cases h5:i < n.nb.length
   · have hi2:(i:Int) < (n.nb.length:Int):=by omega
     have hi0:(0:Int)≤i:=by omega
     have hgd:=pK (n.nb.getD i ⟨0,0⟩) ⟨min a b,max a b⟩
     rw [ee ⟨0,0⟩ h5,List.any_cons] at hv
     cases hx:decide (n.nb.getD i ⟨0,0⟩=(⟨min a b,max a b⟩:Gs))
     all_goals
      rw [hx] at hgd hv
      simp only [Bool.true_or,Bool.false_or] at hv
      delta x6 oO oN oA oM oT oG oR oQ oS oK oF oL
      simp (maxSteps:=4000000) -implicitDefEqProofs only [xY,hi2,hi0,h5,hgd,InR,not_true_eq_false,WU,Ent.of0,Ent.of1,Ent.of2,Ent.of3,Ent.of4,V,W3,↓reduceIte,seval,reduceCtorEq]
      rw [show (if b < a then b else a)=min a b by omega,show (if b > a then b else a)=max a b by omega,hgd]
      simp only [if_true,Bool.false_eq_true,if_false]
      first | exact hv.symm | exact ⟨by omega,hv,by omega⟩
   · have hi2:¬ (i:Int) < (n.nb.length:Int):=by omega
     rw [List.drop_eq_nil_of_le (by omega)] at hv
     delta x6 oO oN oA oM oT oG oR oQ oS oK oF oL
     simp (maxSteps:=4000000) -implicitDefEqProofs only [xY,hi2,WU,Ent.of0,Ent.of1,Ent.of2,Ent.of3,Ent.of4,V,W3,↓reduceIte,seval,reduceCtorEq]
     try simp [hv]
def yB : Ent Tryz.prog:=.of3 115 (fun n _ _=>NwS n) (fun (n:Nw) (a b:Int)=>enc (nbr n a b)) (fun _ _ _=>trivial) (fun n a b h=>xB n a b h)
def btr (r:Rul) (s n:List Int) (k:Nat):Bool:=nF r (s.getD k 0) (n.getD k 0)
def ovk (r:Rul) (s n:List Int) (k:Nat):Bool:=over r (s.getD k 0) (n.getD k 0)
def GoodT (r:Rul) (s n:List Int):Option Int→List Int→Prop
 | _,[]=>True
 | prev,v :: l=>(r.trig≤v∧v≤(s.length:Int) - 1)∧(∀ k:Nat,v - r.trig≤(k:Int)→(k:Int)≤v→btr r s n k=true)∧(∀ u,prev=some u→u < v∧∃ k:Nat,u≤(k:Int)∧(k:Int) < v∧ovk r s n k=true)∧GoodT r s n (some v) l
theorem cnt_gt {r:Rul} {s n:List Int} {t:Nat} {run:Int} (ht:0≤r.trig) (hrun:run=(cnt (btr r s n) (t+1):Int)) (h:r.trig < run):r.trig≤t∧∀ k:Nat,(t:Int) - r.trig≤k→(k:Int)≤t→btr r s n k=true:=by
 obtain ⟨T,hT⟩:∃ T:Nat,r.trig=(T:Int):=⟨r.trig.toNat,by omega⟩
 rw [hT] at h ⊢
 have h2:T < cnt (btr r s n) (t+1):=by omega
 rw [xy] at h2
 exact ⟨by omega,fun k h3 h4=>h2.2 k (by omega) (by omega)⟩
theorem goodT (r:Rul) (s n:List Int) (hl:n.length=s.length) (ht:0≤r.trig) (hh:0≤r.hyst):∀ (m t:Nat) (armed:Bool) (prev:Option Int),s.length - t=m →
 (∀ u,prev=some u→u < (t:Int)∧(armed=true→∃ k:Nat,u≤(k:Int)∧(k:Int) < t∧ovk r s n k=true))→GoodT r s n prev (trg r (s.drop t) (n.drop t) t (cnt (btr r s n) t) armed)
 | 0,t,armed,prev,hm,hp=>by
  rw [List.drop_eq_nil_of_le (by omega:s.length≤t),sN]; trivial
 | m+1,t,armed,prev,hm,hp=>by
  have h1:t < s.length:=by omega
  have h2:t < n.length:=by omega
  rw [ee 0 h1,ee 0 h2,trg]
  have hc:(if nF r (s.getD t 0) (n.getD t 0) then (cnt (btr r s n) t:Int)+1 else 0)=(cnt (btr r s n) (t+1):Int):=(x9 (btr r s n) t).symm
  simp only [hc]
  by_cases hg:((armed || over r (s.getD t 0) (n.getD t 0)) && decide (r.trig < (cnt (btr r s n) (t+1):Int)))=true
  · rw [if_pos hg]
    simp only [Bool.and_eq_true,Bool.or_eq_true,decide_eq_true_eq] at hg
    obtain ⟨g1,g2⟩:=hg
    obtain ⟨g3,g4⟩:=cnt_gt ht rfl g2
    have g5:=g4 t (by omega) (by omega)
    refine ⟨⟨g3,by omega⟩,g4,fun u hu=>?_,goodT r s n hl ht hh m (t+1) false (some t) (by omega) (fun u hu=>?_)⟩
    · obtain ⟨q1,q2⟩:=hp u hu
      refine ⟨q1,?_⟩
      rcases g1 with g1 | g1
      · exact q2 g1
      · exfalso
        simp only [btr,nF,decide_eq_true_eq] at g5
        simp only [over,decide_eq_true_eq] at g1
        omega
    · cases hu; exact ⟨by omega,fun h=>by cases h⟩
  · rw [if_neg hg]
    refine goodT r s n hl ht hh m (t+1) _ prev (by omega) (fun u hu=>?_)
    obtain ⟨q1,q2⟩:=hp u hu
    refine ⟨by omega,fun ha=>?_⟩
    simp only [Bool.or_eq_true] at ha
    rcases ha with ha | ha
    · obtain ⟨k,k1,k2,k3⟩:=q2 ha
      exact ⟨k,k1,by omega,k3⟩
    · exact ⟨t,by omega,by omega,ha⟩
theorem goodT0 {r:Rul} {s n:List Int} (h:TrgOk r s n):GoodT r s n none (iu r s n):=by
 have h2:=h.hr
 simp only [j3,Bool.and_eq_true,decide_eq_true_eq] at h2
 have:=goodT r s n h.hln h2.2.1 h2.1.2.1 s.length 0 true none (by omega) (fun u hu=>by cases hu)
 simpa [cnt,iu] using this
theorem xP (r:Rul) (s n:List Int) (hl:n.length=s.length):∀ (m t v:Nat),s.length - t=m→t≤v→v < s.length→r.trig < (cnt (btr r s n) (v+1):Int) →
 ∃ u l,trg r (s.drop t) (n.drop t) t (cnt (btr r s n) t) true=u :: l∧u≤(v:Int)
 | 0,t,v,hm,h1,h2,h3=>by omega
 | m+1,t,v,hm,h1,h2,h3=>by
  have g1:t < s.length:=by omega
  have g2:t < n.length:=by omega
  rw [ee 0 g1,ee 0 g2,trg]
  have hc:(if nF r (s.getD t 0) (n.getD t 0) then (cnt (btr r s n) t:Int)+1 else 0)=(cnt (btr r s n) (t+1):Int):=(x9 (btr r s n) t).symm
  simp only [hc,Bool.true_or,Bool.true_and,decide_eq_true_eq]
  by_cases hg:r.trig < (cnt (btr r s n) (t+1):Int)
  · rw [if_pos hg]; exact ⟨_,_,rfl,by omega⟩
  · rw [if_neg hg]
    have:t≠v:=fun e=>hg (e ▸ h3)
    exact xP r s n hl m (t+1) v (by omega) (by omega) h2 h3
theorem x8 {p q:Nat→Bool} (h:∀ k,p k=true→q k=true):∀ t,cnt p t≤cnt q t
 | 0=>Nat.le_refl _
 | t+1=>by
  have:=x8 h t
  rw [cnt,cnt]
  cases hp:p t with
  | false=>simp
  | true=>rw [h t hp]; simp; omega
theorem later {r r':Rul} {s n:List Int} (h:TrgOk r s n) (h':TrgOk r' s n) (h1:r.trig≤r'.trig) (h2:r.off≤r'.off) (h3:r.hyst=r'.hyst) (hne:iu r' s n≠[]) :
 iu r s n≠[]∧(iu r s n).getD 0 0≤(iu r' s n).getD 0 0:=by
 cases hL:iu r' s n with
 | nil=>exact absurd hL hne
 | cons v l=>
  have hg:=goodT0 h'
  rw [hL] at hg
  obtain ⟨⟨g1,g2⟩,g3,_,_⟩:=hg
  have hr':=h'.hr
  simp only [j3,Bool.and_eq_true,decide_eq_true_eq] at hr'
  obtain ⟨V,rfl⟩:∃ V:Nat,v=(V:Int):=⟨v.toNat,by omega⟩
  obtain ⟨T,hT⟩:∃ T:Nat,r'.trig=(T:Int):=⟨r'.trig.toNat,by omega⟩
  have hc':T < cnt (btr r' s n) (V+1):=by
   rw [xy]
   exact ⟨by omega,fun k q1 q2=>g3 k (by omega) (by omega)⟩
  have hm:=x8 (p:=btr r' s n) (q:=btr r s n) (fun k hk=>by
   simp only [btr,nF,decide_eq_true_eq] at hk ⊢
   omega) (V+1)
  obtain ⟨u,l',e1,e2⟩:=xP r s n h.hln s.length 0 V (by omega) (by omega) (by omega) (by omega)
  have e3:iu r s n=u :: l':=by simpa [cnt,iu] using e1
  rw [e3]
  exact ⟨by simp,by simpa using e2⟩
theorem wN (m:Ms):fw (.agg [C.s (.int .i64 m.at_),.s (.int .i64 m.phase),.s (.int .i64 m.since),.s (.int .i64 m.serving),.s (.int .i64 m.target),.s (.int .i64 m.source),.s (.int .i64 m.path),.s (.int .i64 m.fresh),.s (.int .i64 m.got),.sl 1 (m.buf.map Dat.cells)])=some m:=by
 unfold fw
 have:Dat.dec (α:=Ms) [C.s (.int .i64 m.at_),.s (.int .i64 m.phase),.s (.int .i64 m.since),.s (.int .i64 m.serving),.s (.int .i64 m.target),.s (.int .i64 m.source),.s (.int .i64 m.path),.s (.int .i64 m.fresh),.s (.int .i64 m.got),.sl 1 (m.buf.map Dat.cells)]=(fg (m.buf.map Dat.cells)).map fun r'=>(⟨m.at_,m.phase,m.since,m.serving,m.target,m.source,m.path,m.fresh,m.got,r'⟩:Ms):=rfl
 simp only [this,fm]
 rw [if_pos (show (Dat.agg Ms)=true from rfl)]
 rfl
theorem yJ (m:Ms) (h1:m.buf.length≤1000000) (h2:fi m.buf≤1000000000):FC Tryz.prog 116 [enc m] [] (enc (fi m.buf)) []:=by
 refine dC [] is116 (by simp) trivial trivial trivial trivial (fun cx _ hl _=>dB [] 800 ?_)
 generalize hT:fi m.buf=T at *
 delta c116 oO oN oA oM oT oG oR oQ oS oK oF oL
 simp (maxSteps:=4000000) -implicitDefEqProofs only [xZ,kM,WU,Ent.of0,Ent.of1,Ent.of2,Ent.of3,Ent.of4,V,W3,↓reduceIte,seval,reduceCtorEq]
 refine eM m.buf.length (fun i=>[(3,.s (.int .i64 (T - fi (m.buf.drop i)))),(4,.s (.int .i64 (i:Int)))]) (fun _=>[]) (fun i=>0≤T - fi (m.buf.drop i)) (by simp [hT]) ?_ (fun i hi hv=>dB [] 800 ?_)
 · simp (maxSteps:=4000000) -implicitDefEqProofs only [Ent.of0,Ent.of1,Ent.of2,Ent.of3,Ent.of4,V,W3,↓reduceIte,seval,reduceCtorEq]
   all_goals simp [hT]
 · by_cases h:i < m.buf.length
   · have hi2:(i:Int) < (m.buf.length:Int):=by omega
     have hi0:(0:Int)≤i:=by omega
     have hgx:List.getD (m.buf.map Dat.cells) i [C.sl 0 []]=[C.sl 1 ((m.buf.getD i []).map Dat.cells)]:=by
      rw [List.getD_eq_getElem?_getD,List.getD_eq_getElem?_getD,List.getElem?_map,List.getElem?_eq_getElem h]; rfl
     have hd:=ee (d:=[]) h
     have hnn:=sH (m.buf.drop (i+1))
     rw [hd,fi] at hv
     generalize m.buf.getD i []=p at *
     delta x7 oO oN oA oM oT oG oR oQ oS oK oF oL
     simp (maxSteps:=4000000) -implicitDefEqProofs only [xZ,hi0,hi2,h,hgx,hd,fi,InR,WU,Ent.of0,Ent.of1,Ent.of2,Ent.of3,Ent.of4,V,W3,↓reduceIte,seval,reduceCtorEq]
     omega
   · have hi2:¬ (i:Int) < (m.buf.length:Int):=by omega
     have hd:m.buf.drop i=[]:=List.drop_eq_nil_of_le (by omega)
     delta x7 oO oN oA oM oT oG oR oQ oS oK oF oL
     simp (maxSteps:=4000000) -implicitDefEqProofs only [xZ,hi2,hd,fi,WU,Ent.of0,Ent.of1,Ent.of2,Ent.of3,Ent.of4,V,W3,↓reduceIte,seval,reduceCtorEq]
     omega
def yC : Ent Tryz.prog:=.of1 116 (fun m:Ms=>m.buf.length≤1000000∧fi m.buf≤1000000000) (fun m=>enc (fi m.buf)) (fun _=>trivial) (fun m h=>yJ m h.1 h.2)
def wS (n:Nw) (m:Ms) (e:T3):Ms:=if gh n m e≠0 then ms0 else qI n m e
def msC (m:Ms) (kB:Nat):List C:=[.s (.int .i64 m.at_),.s (.int .i64 m.phase),.s (.int .i64 m.since),.s (.int .i64 m.serving),.s (.int .i64 m.target),.s (.int .i64 m.source),.s (.int .i64 m.path),.s (.int .i64 m.fresh),.s (.int .i64 m.got),.own kB]
def wV (n:Nw) (m:Ms):List T3→List Int
 | []=>[]
 | e :: l=>(if m.got < (qI n m e).got then [m.got] else [])++wV n (qI n m e) l
theorem yu (m:Ms):(settle m).got=m.got:=by
 unfold Go.Proofs.YtcbabnbiinkafaaGreatDoor.settle; split <;> rfl
theorem yG (n:Nw) (m:Ms) (t:Int):(qu n m t).got=m.got:=by unfold qu; split <;> rfl
theorem got_act (m:Ms) (e:T3):(eJ m e).got=if e.x=1∧(dP m m.serving).headD 0=m.got then m.got+1 else m.got:=by
 unfold eJ
 by_cases h:e.x=1
 · simp only [h,Int.reduceEq,if_true,if_false,true_and]
   split <;> rfl
 · simp only [h,false_and,if_false]
   repeat' split
   all_goals rfl
theorem yv (n:Nw) (p:Ph) (e:T3):(kK n p e).recv=p.recv++(if p.m.got < (qI n p.m e).got then [p.m.got] else []):=by
 have hg:(eO n p e.y).m.got=p.m.got:=by rw [pm,yG]
 have hr:=(pR n p e.y).2.1
 have hA:(qI n p.m e).got=(doP (eO n p e.y) e).m.got:=by
  rw [← qH]; rfl
 rw [hA]
 show (doP (eO n p e.y) e).recv=_
 rw [← hr,← hg]
 generalize eO n p e.y=q
 unfold doP
 by_cases h10:e.x=10
 · simp only [if_pos h10]
   show q.recv=q.recv++(if q.m.got < q.m.got then [q.m.got] else [])
   simp
 · simp only [if_neg h10,yu,got_act]
   split
   · rw [if_pos (by omega)]
   · simp
theorem xD (n:Nw):∀ (l:List T3) (p:Ph),(jx n p l).recv=p.recv++wV n p.m l
 | [],p=>by simp [jx,wV]
 | e :: l,p=>by
  rw [jx,xD n l,yv,qH,wV,List.append_assoc]
structure Rw where
 m:Ms
 st:List T3
 ouw:List Gs
def hiTo (l:List Gs) (t:Int):List Gs:=l.set (l.length - 1) ⟨(l.getD (l.length - 1) ⟨0,0⟩).re,t⟩
def yd (n:Nw) (w:Rw) (t:Int):Rw:=
 if jI n w.m t=true then ⟨qu n w.m t,chg w.st w.m.serving (qu n w.m t).serving (w.m.since+n.limit),hiTo w.ouw (w.m.since+n.limit)⟩ else w
def xb (b:Rw) (x:Ms) (t:Int):Rw:=
 ⟨x,chg b.st b.m.serving x.serving t,
  let o:=if ei b.m=false∧ei x=true then b.ouw++[⟨t,0⟩] else b.ouw
  if ei b.m=true∧ei x=false then hiTo o t else o⟩
def rwStep (n:Nw) (w:Rw) (e:T3):Rw:=xb (yd n w e.y) (qI n w.m e) e.y
def ym (n:Nw) (c:Int):Rw:=⟨eQ n c,[⟨c,0,0⟩],[]⟩
def xf (l:List Gs):Int:=l.foldl (fun a o=>max a (o.im - o.re)) 0
theorem xL (l:List Gs) (o:Gs):xf (l++[o])=max (xf l) (o.im - o.re):=by simp [xf]
theorem xK (l:List Gs) (o:Gs) (t:Int):hiTo (l++[o]) t=l++[⟨o.re,t⟩]:=by
 unfold hiTo
 have h1:(l++[o]).length - 1=l.length:=by simp
 rw [h1]
 have h2:(l++[o]).getD l.length ⟨0,0⟩=o:=by simp [List.getD_eq_getElem?_getD]
 rw [h2,List.set_append_right _ _ (Nat.le_refl _)]
 simp
structure RwOk (n:Nw) (p:Ph) (w:Rw):Prop where
 m:w.m=p.m
 st:w.st=p.stays
 no:ei p.m=false→p.out=-1∧xf w.ouw=p.longest
 yes:ei p.m=true→p.out=p.m.since∧∃ l,w.ouw=l++[⟨p.out,0⟩]∧xf l=p.longest
 lim:p.longest≤n.limit
 nnw:0≤p.longest
theorem RwOk.begin {n:Nw} (hn:NetOk n) (c:Int):RwOk n (gy n c) (ym n c):=by
 have:=hn.lim
 refine ⟨rfl,rfl,fun _=>⟨rfl,rfl⟩,fun h=>by simp [ei,gy,eQ] at h,?_,?_⟩
 · show (0:Int)≤n.limit; omega
 · exact Int.le_refl 0
theorem x5 {o l t:Int} (h:0≤o):kV o l t=max l (t - o):=by unfold kV; rw [if_neg (by omega)]
theorem RwOk.pass {n:Nw} {p:Ph} {w:Rw} (hn:NetOk n) (r:RwOk n p w) (hs:0≤p.m.since) (t:Int):RwOk n (eO n p t) (yd n w t):=by
 unfold eO yd
 rw [r.m]
 by_cases h:jI n p.m t=true
 · rw [if_pos h,if_pos h]
   have ha:ei p.m=true:=by simp only [jI,Bool.and_eq_true] at h; exact h.1
   obtain ⟨ho,l,hl,hL⟩:=r.yes ha
   have hbk:=x5 (o:=p.out) (l:=p.longest) (t:=p.m.since+n.limit) (by omega)
   have hP:qu n p.m t=iO p.m 0 (p.m.since+n.limit):=by unfold qu; rw [if_pos h]
   have h1:=r.lim
   have h2:=r.nnw
   refine ⟨hP,by rw [hP,r.st]; rfl,fun _=>⟨rfl,?_⟩,fun q=>by simp [ei,lf,iO] at q,?_,?_⟩
   · show xf (hiTo w.ouw _)=kV _ _ _
     rw [hl,xK,xL,hL,hbk]
   · show kV _ _ _≤_
     rw [hbk]; omega
   · show 0≤kV _ _ _
     rw [hbk]; omega
 · rw [if_neg h,if_neg h]; exact r
theorem wO (l:List T3) (a t:Int):chg l a a t=l:=by unfold chg; rw [if_pos rfl]
theorem wW (m:Ms):(settle m).serving=m.serving∧(settle m).phase=m.phase∧(settle m).since=m.since:=by
 unfold Go.Proofs.YtcbabnbiinkafaaGreatDoor.settle; split <;> exact ⟨rfl,rfl,rfl⟩
theorem away_eq {m k:Ms} (h:m.phase=k.phase):ei m=ei k:=by unfold ei; rw [h]
theorem yh (m:Ms):ei (settle m)=ei m:=away_eq (wW m).2.1
theorem RwOk.act {n:Nw} {p:Ph} {w:Rw} {e:T3} (hn:NetOk n) (r:RwOk n p w) (hk:0≤e.x∧e.x≤11) (hy:0≤e.y) (hs:0≤p.m.since) (hdue:ei p.m=true→e.y < p.m.since+n.limit) (hd:ez n p.m e=0) {x:Ms} (hx:x=(atP (doP p e) e.y).m) :
 RwOk n (atP (doP p e) e.y) (xb w x e.y):=by
 obtain ⟨wmw,ws,wow⟩:=w
 obtain ⟨r1,r2,r3,r4,r5,r6⟩:=r
 simp only at r1 r2 r3 r4 r5 r6
 subst r1 r2
 have hA:ei x=ei (doP p e).m:=by rw [hx]; rfl
 have hS:x.serving=(doP p e).m.serving:=by rw [hx]; rfl
 have hI:(atP (doP p e) e.y).m.since=(doP p e).m.since:=rfl
 have hW:ei (atP (doP p e) e.y).m=ei (doP p e).m:=rfl
 have key:(chg p.stays p.m.serving x.serving e.y=(doP p e).stays) →
  (ei p.m=false→ei (doP p e).m=false→(doP p e).out=p.out∧(doP p e).longest=p.longest) →
  (ei p.m=false→ei (doP p e).m=true→(doP p e).out=e.y∧(doP p e).m.since=e.y∧(doP p e).longest=p.longest) →
  (ei p.m=true→ei (doP p e).m=true→(doP p e).out=p.out∧(doP p e).m.since=p.m.since∧(doP p e).longest=p.longest) →
  (ei p.m=true→ei (doP p e).m=false→(doP p e).out=-1∧(doP p e).longest=kV p.out p.longest e.y) →
  RwOk n (atP (doP p e) e.y) (xb ⟨p.m,p.stays,wow⟩ x e.y):=by
  intro k0 k1 k2 k3 k4
  cases ha:ei p.m <;> cases hb:ei (doP p e).m
  · obtain ⟨q1,q2⟩:=k1 ha hb
    obtain ⟨s1,s2⟩:=r3 ha
    refine ⟨hx,k0,fun _=>⟨q1.trans s1,?_⟩,fun q=>(by rw [hW,hb] at q; cases q),?_,?_⟩
    · show xf (xb _ _ _).ouw=(doP p e).longest
      simp only [xb,ha,hA,hb,Bool.false_eq_true,and_false,false_and,if_false]
      rw [s2,q2]
    · show (doP p e).longest≤_; omega
    · show 0≤(doP p e).longest; omega
  · obtain ⟨q1,q2,q3⟩:=k2 ha hb
    obtain ⟨s1,s2⟩:=r3 ha
    refine ⟨hx,k0,fun q=>(by rw [hW,hb] at q; cases q),fun _=>⟨?_,wow,?_,?_⟩,?_,?_⟩
    · show (doP p e).out=(doP p e).m.since; omega
    · show (xb _ _ _).ouw=wow++[⟨(doP p e).out,0⟩]
      simp only [xb,ha,hA,hb,Bool.false_eq_true,Bool.true_eq_false,and_false,and_true,false_and,and_self,if_false,if_true]
      rw [q1]
    · show xf wow=(doP p e).longest
      rw [s2,q3]
    · show (doP p e).longest≤_; omega
    · show 0≤(doP p e).longest; omega
  · obtain ⟨q1,q2⟩:=k4 ha hb
    obtain ⟨s1,l,s2,s3⟩:=r4 ha
    have hbk:=x5 (o:=p.out) (l:=p.longest) (t:=e.y) (by omega)
    have hdd:=hdue ha
    refine ⟨hx,k0,fun _=>⟨q1,?_⟩,fun q=>(by rw [hW,hb] at q; cases q),?_,?_⟩
    · show xf (xb _ _ _).ouw=(doP p e).longest
      simp only [xb,ha,hA,hb,Bool.false_eq_true,Bool.true_eq_false,and_false,and_true,false_and,and_self,if_false,if_true]
      rw [s2,xK,xL,s3,q2,hbk]
    · show (doP p e).longest≤_; rw [q2,hbk]; omega
    · show 0≤(doP p e).longest; rw [q2,hbk]; omega
  · obtain ⟨q1,q2,q3⟩:=k3 ha hb
    obtain ⟨s1,l,s2,s3⟩:=r4 ha
    refine ⟨hx,k0,fun q=>(by rw [hW,hb] at q; cases q),fun _=>⟨?_,l,?_,?_⟩,?_,?_⟩
    · show (doP p e).out=(doP p e).m.since; omega
    · show (xb _ _ _).ouw=l++[⟨(doP p e).out,0⟩]
      simp only [xb,ha,hA,hb,Bool.false_eq_true,Bool.true_eq_false,and_false,and_true,false_and,and_self,if_false,if_true]
      rw [s2,q1]
    · show xf l=(doP p e).longest
      rw [s3,q3]
    · show (doP p e).longest≤_; omega
    · show 0≤(doP p e).longest; omega
 by_cases h10:e.x=10
 · have h3:p.m.phase=3:=by
    unfold ez at hd
    simp only [h10,Int.reduceEq,if_true,if_false] at hd
    rcases Classical.em (p.m.phase=3) with q | q
    · exact q
    · rw [if_pos q] at hd; cases hd
   have hD:doP p e=lf p e.z e.y:=by unfold doP; rw [if_pos h10]
   have ha:ei p.m=true:=by simp [ei,h3]
   refine key (by rw [hS,hD]; rfl) (fun q=>(by rw [ha] at q; cases q)) (fun q=>(by rw [ha] at q; cases q)) (fun _ q=>(by rw [hD] at q; simp [ei,lf,iO] at q)) (fun _ _=>by rw [hD]; exact ⟨rfl,rfl⟩)
 · have hD:doP p e={ m:=settle (eJ p.m e),recv:=if e.x=1∧(dP p.m p.m.serving).headD 0=p.m.got then p.recv++[p.m.got] else p.recv,stays:=if e.x=6 then chg p.stays p.m.serving p.m.target e.y else p.stays,out:=if e.x=5∨e.x=9 then (if p.out=-1 then e.y else p.out) else if e.x=6 then -1 else p.out,longest:=if e.x=6 then kV p.out p.longest e.y else p.longest }:=by
    unfold doP; rw [if_neg h10]
   have hm:(doP p e).m=settle (eJ p.m e):=by rw [hD]
   have hsv:(doP p e).m.serving=(eJ p.m e).serving:=by rw [hm]; exact (wW _).1
   have haw:ei (doP p e).m=ei (eJ p.m e):=by rw [hm]; exact yh _
   have hsi:(doP p e).m.since=(eJ p.m e).since:=by rw [hm]; exact (wW _).2.2
   have hst:(doP p e).stays=if e.x=6 then chg p.stays p.m.serving p.m.target e.y else p.stays:=by rw [hD]
   have hou:(doP p e).out=if e.x=5∨e.x=9 then (if p.out=-1 then e.y else p.out) else if e.x=6 then -1 else p.out:=by rw [hD]
   have hlo:(doP p e).longest=if e.x=6 then kV p.out p.longest e.y else p.longest:=by rw [hD]
   rw [hS,hst,hou,hlo,haw,hsi,hsv] at key
   clear hD hm hst hou hlo hS hA hI hW hsv haw hsi
   unfold eJ at key
   unfold ez at hd
   have hph:ei p.m=true↔p.m.phase=2∨p.m.phase=3:=by simp [ei]
   have hpf:ei p.m=false↔¬ (p.m.phase=2∨p.m.phase=3):=by rw [← hph]; simp
   have k:e.x=0∨e.x=1∨e.x=2∨e.x=3∨e.x=4∨e.x=5∨e.x=6∨e.x=7∨e.x=8∨e.x=9∨e.x=11:=by omega
   rcases k with k | k | k | k | k | k | k | k | k | k | k <;> rw [k] at hd key <;> simp only [Int.reduceEq,if_true,if_false,or_false,false_or,or_true,or_self] at hd key
   ·
    refine key (wO _ _ _) (fun _ _=>⟨by trivial,by trivial⟩) (fun q1 q2=>absurd (q1.symm.trans q2) (by decide)) (fun _ _=>⟨by trivial,by trivial,by trivial⟩) (fun q1 q2=>absurd (q2.symm.trans q1) (by decide))
   ·
    by_cases hq:(dP p.m p.m.serving).headD 0=p.m.got
    · rw [if_pos hq] at key
      refine key (wO _ _ _) (fun _ _=>⟨by trivial,by trivial⟩) (fun q1 q2=>absurd (q1.symm.trans q2) (by decide)) (fun _ _=>⟨by trivial,by trivial,by trivial⟩) (fun q1 q2=>absurd (q2.symm.trans q1) (by decide))
    · rw [if_neg hq] at key
      refine key (wO _ _ _) (fun _ _=>⟨by trivial,by trivial⟩) (fun q1 q2=>absurd (q1.symm.trans q2) (by decide)) (fun _ _=>⟨by trivial,by trivial,by trivial⟩) (fun q1 q2=>absurd (q2.symm.trans q1) (by decide))
   ·
    refine key (wO _ _ _) (fun _ _=>⟨by trivial,by trivial⟩) (fun q1 q2=>absurd (q1.symm.trans q2) (by decide)) (fun _ _=>⟨by trivial,by trivial,by trivial⟩) (fun q1 q2=>absurd (q2.symm.trans q1) (by decide))
   ·
    have h0:p.m.phase=0:=by
     rcases Classical.em (p.m.phase=0) with q | q
     · exact q
     · rw [if_pos q] at hd; cases hd
    refine key (wO _ _ _) (fun _ _=>⟨by trivial,by trivial⟩) (fun _ q2=>by simp [ei] at q2) (fun q=>(by rw [hph] at q; omega)) (fun q=>(by rw [hph] at q; omega))
   ·
    have h0:p.m.phase=1:=by
     rcases Classical.em (p.m.phase=1) with q | q
     · exact q
     · rw [if_pos q] at hd; cases hd
    refine key (wO _ _ _) (fun _ _=>⟨by trivial,by trivial⟩) (fun _ q2=>by simp [ei] at q2) (fun q=>(by rw [hph] at q; omega)) (fun q=>(by rw [hph] at q; omega))
   ·
    have h0:p.m.phase=1:=by
     rcases Classical.em (p.m.phase=1) with q | q
     · exact q
     · rw [if_pos q] at hd; cases hd
    refine key (wO _ _ _) (fun _ q=>by simp [ei] at q) (fun q _=>⟨by rw [if_pos (r3 q).1],by trivial,by trivial⟩) (fun q=>(by rw [hph] at q; omega)) (fun q=>(by rw [hph] at q; omega))
   ·
    have h0:p.m.phase=2:=by
     rcases Classical.em (p.m.phase=2) with q | q
     · exact q
     · rw [if_pos q] at hd; cases hd
    refine key (by trivial) (fun q=>(by rw [hpf] at q; omega)) (fun q=>(by rw [hpf] at q; omega)) (fun _ q=>by simp [ei] at q) (fun _ _=>⟨by trivial,by trivial⟩)
   ·
    refine key (wO _ _ _) (fun _ _=>⟨by trivial,by trivial⟩) (fun q1 q2=>absurd (q1.symm.trans q2) (by decide)) (fun _ _=>⟨by trivial,by trivial,by trivial⟩) (fun q1 q2=>absurd (q2.symm.trans q1) (by decide))
   ·
    refine key (wO _ _ _) (fun _ _=>⟨by trivial,by trivial⟩) (fun q1 q2=>absurd (q1.symm.trans q2) (by decide)) (fun _ _=>⟨by trivial,by trivial,by trivial⟩) (fun q1 q2=>absurd (q2.symm.trans q1) (by decide))
   ·
    have h3:p.m.phase≠3:=fun q=>by rw [if_pos q] at hd; cases hd
    refine key (wO _ _ _) (fun _ q=>by simp [ei] at q) (fun q _=>⟨by rw [if_pos (r3 q).1],?_,by trivial⟩) (fun q _=>⟨?_,?_,by trivial⟩) (fun _ q=>by simp [ei] at q)
    · rw [hpf] at q
      show (if p.m.phase=2 then p.m.since else e.y)=e.y
      rw [if_neg (by omega)]
    · have:=(r4 q).1
      rw [if_neg (by omega)]
    · rw [hph] at q
      show (if p.m.phase=2 then p.m.since else e.y)=p.m.since
      rw [if_pos (by omega)]
   ·
    refine key (wO _ _ _) (fun _ _=>⟨by trivial,by trivial⟩) (fun q1 q2=>absurd (q1.symm.trans q2) (by decide)) (fun _ _=>⟨by trivial,by trivial,by trivial⟩) (fun q1 q2=>absurd (q2.symm.trans q1) (by decide))
abbrev t0 : T3:=⟨0,0,0⟩
structure Chn (n:Nw) (l:List T3) (c t:Int):Prop where
 ne:0 < l.length
 last:(l.getD (l.length - 1) t0).x=c∧(l.getD (l.length - 1) t0).y≤t
 cell:∀ i,i < l.length→isC n (l.getD i t0).x=true∧0≤(l.getD i t0).y∧(l.getD i t0).y≤t
 nxw:∀ i,i+1 < l.length→(l.getD i t0).y≤(l.getD i t0).z∧(l.getD i t0).z=(l.getD (i+1) t0).y∧(l.getD (i+1) t0).x≠(l.getD i t0).x
theorem Chn.later {n:Nw} {l:List T3} {c t u:Int} (h:Chn n l c t) (hu:t≤u):Chn n l c u:=
 ⟨h.ne,⟨h.last.1,by have:=h.last.2; omega⟩,fun i hi=>by have:=h.cell i hi; exact ⟨this.1,this.2.1,by omega⟩,h.nxw⟩
theorem yF (l:List T3) (i j:Nat) (v:T3):(l.set i v).getD j t0=if i=j∧j < l.length then v else l.getD j t0:=by
 rw [List.getD_eq_getElem?_getD,List.getD_eq_getElem?_getD,List.getElem?_set]
 by_cases h:i=j
 · subst h
   by_cases h2:i < l.length
   · simp [h2]
   · simp [h2]
 · simp [h]
theorem yr (l:List T3) (j:Nat) (v:T3):(l++[v]).getD j t0=if j < l.length then l.getD j t0 else if j=l.length then v else t0:=by
 rw [List.getD_eq_getElem?_getD,List.getD_eq_getElem?_getD,List.getElem?_append]
 by_cases h:j < l.length
 · rw [if_pos h,if_pos h]
 · rw [if_neg h,if_neg h]
   by_cases h2:j=l.length
   · subst h2; simp
   · rw [if_neg h2]
     have:j - l.length=(j - l.length - 1)+1:=by omega
     rw [this]; simp
theorem yw (l:List T3) (t:Int) (j:Nat):(jK l t).getD j t0=if j=l.length - 1∧j < l.length then ⟨(l.getD j t0).x,(l.getD j t0).y,t⟩ else l.getD j t0:=by
 unfold jK
 rw [yF]
 by_cases h:l.length - 1=j∧j < l.length
 · rw [if_pos h,if_pos ⟨h.1.symm,h.2⟩,← h.1]
 · rw [if_neg h,if_neg (fun q=>h ⟨q.1.symm,q.2⟩)]
theorem Chn.chg {n:Nw} {l:List T3} {c d t:Int} (h:Chn n l c t) (ht:0≤t) (hd:isC n d=true):Chn n (chg l c d t) d t:=by
 unfold Go.Proofs.YtcbabnbiinkafaaGreatDoor.chg
 by_cases hcd:c=d
 · rw [if_pos hcd]; subst hcd; exact h
 rw [if_neg hcd]
 have hne:=h.ne
 have hl:(jK l t).length=l.length:=vh l t
 have hg:∀ j,(jK l t++[(⟨d,t,0⟩:T3)]).getD j t0=if j < l.length then (if j=l.length - 1 then ⟨(l.getD j t0).x,(l.getD j t0).y,t⟩ else l.getD j t0) else if j=l.length then (⟨d,t,0⟩:T3) else t0:=fun j=>by
  rw [yr,hl,yw]
  by_cases h1:j < l.length
  · rw [if_pos h1,if_pos h1]
    by_cases h2:j=l.length - 1
    · rw [if_pos ⟨h2,h1⟩,if_pos h2]
    · rw [if_neg (fun q=>h2 q.1),if_neg h2]
  · rw [if_neg h1,if_neg h1]
 have hlen:(jK l t++[(⟨d,t,0⟩:T3)]).length=l.length+1:=by simp [hl]
 refine ⟨by omega,?_,fun i hi=>?_,fun i hi=>?_⟩
 · rw [hlen,hg,Nat.add_sub_cancel,if_neg (by omega),if_pos rfl]
   exact ⟨rfl,Int.le_refl _⟩
 · rw [hg]
   by_cases h1:i < l.length
   · rw [if_pos h1]
     have hc:=h.cell i h1
     by_cases h2:i=l.length - 1
     · rw [if_pos h2]; exact hc
     · rw [if_neg h2]; exact hc
   · rw [if_neg h1,if_pos (by omega)]
     exact ⟨hd,ht,Int.le_refl _⟩
 · rw [hg,hg]
   by_cases h2:i=l.length - 1
   · have h1:i < l.length:=by omega
     rw [if_pos h1,if_pos h2,if_neg (by omega),if_pos (by omega)]
     have hla:=h.last
     rw [← h2] at hla
     refine ⟨hla.2,rfl,?_⟩
     show d≠(l.getD i t0).x
     rw [hla.1]; exact fun q=>hcd q.symm
   · have h1:i < l.length:=by omega
     have h3:i+1 < l.length:=by omega
     have hn:=h.nxw i h3
     rw [if_pos h1,if_neg h2,if_pos h3]
     by_cases h4:i+1=l.length - 1
     · rw [if_pos h4]; exact hn
     · rw [if_neg h4]; exact hn
theorem Chn.begin {n:Nw} {c:Int} (hc:isC n c=true):Chn n [⟨c,0,0⟩] c 0:=
 ⟨by simp,⟨rfl,Int.le_refl _⟩,fun i hi=>by
  have:i=0:=by simpa using hi
  subst this; exact ⟨hc,Int.le_refl _,Int.le_refl _⟩,fun i hi=>by simp at hi⟩
theorem Chn.pass {n:Nw} {p:Ph} (hn:NetOk n) (g:dO n p.m) (h:Chn n p.stays p.m.serving p.m.at_) {t:Int} (ht:p.m.at_≤t):Chn n (eO n p t).stays (eO n p t).m.serving t:=by
 unfold eO
 by_cases hp:jI n p.m t=true
 · rw [if_pos hp]
   have hq:=hp
   simp only [jI,Bool.and_eq_true,decide_eq_true_eq] at hq
   have hdue:=g.due hq.1
   have hsi:=g.since
   have hli:=hn.lim
   have hz:isC n 0=true:=by simp only [isC,decide_eq_true_eq]; have:=hn.len; omega
   exact ((h.later (u:=p.m.since+n.limit) (by omega)).chg (by omega) hz).later hq.2
 · rw [if_neg hp]; exact h.later ht
theorem Chn.doP {n:Nw} {p:Ph} {e:T3} (g:p.m.phase=2→isC n p.m.target=true) (h:Chn n p.stays p.m.serving e.y) (h0:0≤e.y) (hev:evE n e=0) (hd:ez n p.m e=0):Chn n (doP p e).stays (doP p e).m.serving e.y:=by
 obtain ⟨hx,hy,hcz⟩:=ev_ok hev
 unfold Go.Proofs.YtcbabnbiinkafaaGreatDoor.doP
 by_cases h10:e.x=10
 · rw [if_pos h10]
   exact h.chg h0 (hcz (by simp [iM,h10]))
 rw [if_neg h10]
 have hs:(settle (eJ p.m e)).serving=(eJ p.m e).serving:=(wW _).1
 by_cases h6:e.x=6
 · have h2:p.m.phase=2:=by
    unfold ez at hd
    simp only [h6,Int.reduceEq,if_true,if_false] at hd
    rcases Classical.em (p.m.phase=2) with q | q
    · exact q
    · rw [if_pos q] at hd; cases hd
   have e1:(eJ p.m e).serving=p.m.target:=by unfold eJ; simp only [h6,Int.reduceEq,if_true,if_false]
   show Chn n (if e.x=6 then _ else _) (settle (eJ p.m e)).serving e.y
   rw [if_pos h6,hs,e1]
   exact h.chg h0 (g h2)
 · have e1:(eJ p.m e).serving=p.m.serving:=by
    unfold eJ
    simp only [h6,if_false]
    repeat' split
    all_goals rfl
   show Chn n (if e.x=6 then _ else _) (settle (eJ p.m e)).serving e.y
   rw [if_neg h6,hs,e1]
   exact h
structure All (n:Nw) (p:Ph) (w:Rw):Prop where
 g:dO n p.m
 r:RwOk n p w
 c:Chn n p.stays p.m.serving p.m.at_
theorem All.begin {n:Nw} (hn:NetOk n) {c:Int} (hc:isC n c=true):All n (gy n c) (ym n c):=⟨dO.begin hn hc,.begin hn c,.begin hc⟩
end Go.Proofs.YtcbabnbiinkafaaGreatDoor
end
