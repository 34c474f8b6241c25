/- Part 1 of the proof of: MoveStays returns true for every input and never panics: the stays and the longest outage of a log are as the reference says, stays follow one another, and no outage takes longer than the limit; conditions: those of the given statement, that the package variables it lists hold what their initialisers lay. -/
import Derived.WideShapes
import Derived.ChangeArms
import Derived.OpenShut
import Derived.LaidLaws
import Derived.Lib.LaidTab
import Derived.Stop.LaidErr
import Derived.Test.YtcbabnbiinkafaaGreatDoorProg
import Derived.KernelRfl
import Derived.Test.YtcbabnbiinkafaaGreatDoorBp21
set_option linter.all false
section
namespace Go.Am
theorem dN.ownI {E:Env} {U:Nat->Prop} {h:Array Obj} {k:Nat} {c:Ch} (hc:dN E U h k c) {i:Nat} {q:Nat×TypeId×List (List C)} (hi:chI c i=some q) (hn:((E k).inn i).nil=false):(E k).fp ((E k).inn i).blk:=by
 cases c with
 | box cs=>exact (hc.2.1.fp _).2 (.inr ⟨i,q,hi,hn,rfl⟩)
 | row sz ty es=>cases hi
 | deep isz ity ty hole rows=>exact (hc.2.1.fp _).2 (.inr ⟨i,q,hi,hn,rfl⟩)
 | res R=>cases hi
end Go.Am
end
section
namespace Go.Am
open Dat (cells)
variable {P : Program}
theorem ReadsAs.arg {t e:TypeId} {α:Type} [DatL α] (h:ReadsAs P t (List α)) (ht:P.underlying t=some (.slice e)) {H:Type} {en:TypeId×Value->H} {W:World} {r:Reach} {base:Nat} {sp:Nat->Bool} {v:Value} {d:DataW H} {ps:List MemPlace}
 (hval:Value.okWide P W r base t v) (hd:DataW.Trod en P W 0 sp true t v d ps):∃ l:List α,∀ E,Rep E (fun b=>b < W.heap.size) W.heap (enc l) v:=by
 obtain⟨a,len,cap,rfl⟩:=WideShapes.okWide_slice ht hval;obtain⟨fuel,hf⟩:=hd;obtain⟨l,_,_,h3⟩:=h.rd en W sp fuel _ _ hf;exact⟨l,fun E=>.d (h3 0 _ rfl).1⟩
theorem ReadsP.arg {t e:TypeId} {α:Type} [DatL α] {p:List α->Prop} (h:ReadsP P t (List α) p) (ht:P.underlying t=some (.slice e)) {H:Type} {en:TypeId×Value->H} {W:World} {r:Reach} {base:Nat} {sp:Nat->Bool} {v:Value} {d:DataW H} {ps:List MemPlace}
 (hval:Value.okWide P W r base t v) (hd:DataW.Trod en P W 0 sp true t v d ps):∃ l:List α,p l/\∀ E,Rep E (fun b=>b < W.heap.size) W.heap (enc l) v:=by
 obtain⟨a,len,cap,rfl⟩:=WideShapes.okWide_slice ht hval;obtain⟨fuel,hf⟩:=hd;obtain⟨l,h0,_,_,h3⟩:=h.rd en W sp fuel _ _ hf;exact⟨l,h0,fun E=>.d (h3 0 _ rfl).1⟩
end Go.Am
end
section
namespace Go.Am
open Dat (cells)
variable {P : Program} [Glob P] {ro : Option Nat} {ρ : Operand → C} {ch : Chs} {d : Nat}
inductive Lend (ch:Chs):C->C->Prop
 | same (c:C):Lend ch c c
 | any (c:C):Lend ch c .any
 | own {k:Nat} {c0:Ch} {x:C} (h:lk ch k=some c0) (hx:bz c0=some x):Lend ch (.own k) x
 | inn {k i n:Nat} {t:TypeId} {es:List (List C)} {q:Prop} (h:aN ch k i=some (q,n,t,es)) (hq:q):Lend ch (.inn k i) (.sl n es)
 | agg {cs cs':List C} (hl:cs.length=cs'.length) (h:∀ (j:Nat) (a b:C),cs[j]? = some a->cs'[j]? = some b->Lend ch a b):Lend ch (.agg cs) (.agg cs')
def xx (ch:Chs):List C->List C->Prop
 |[],[]=>True
 | a :: l,b :: m=>Lend ch a b/\xx ch l m
 |_,_=>False
def lntU (E:Env) (U:Nat->Prop) (ch:Chs):Nat->Prop:=fun b=>U b\/∃ k c,(k,c)∈ch/\(E k).fp b
theorem Lend.rep {E:Env} {U:Nat->Prop} {h:Array Obj} (hi:Inv E U h ch) {c c':C} (hl:Lend ch c c'):∀ {v:Value},Rep E U h c v->Rep E (lntU E U ch) h c' v:=by
 have hk:∀ b,U b->lntU E U ch b/\h[b]? = h[b]?:=fun b hb=>⟨.inl hb,rfl⟩
 induction hl with
 | same c=>exact fun hr=>hr.same hk
 | any c=>exact fun _=>.d (.any _)
 | own g hx=>exact fun hr=>.d (nq (hi.ok _ _ (dH g)) hx hr hk (fun b hb=>⟨.inr ⟨_,_,dH g,hb⟩,rfl⟩))
 | inn g hq=>
  intro v hr;obtain⟨c0,g1,g2,_,g4⟩:=gY g hq;have hc:=hi.ok _ _ (dH g1);rw[kU hr];exact .d (lD ((hc.inns g4).2 _ _ _ _ g2) hk (fun hn=>⟨.inr ⟨_,_,dH g1,hc.ownI g2 hn⟩,rfl⟩))
 | agg hl h ih=>
  intro v hr;cases hr with
  | d hd=>cases hd
  | agg _ vs q1 q2 q3=>
   refine .agg _ vs (q1.trans hl) (fun j c hj=>?_) q3;have hlt:j < _:=(zi.1 hj).1;rw[<- hl]at hlt;exact ih j _ c (ze hlt) hj (q2 j _ (ze hlt))
theorem xx.args {E:Env} {U:Nat->Prop} {h:Array Obj} (hi:Inv E U h ch):∀ {cs ds:List C} {vs:List Value},xx ch cs ds->vs.length=cs.length->(∀ (j:Nat) (c:C),cs[j]? = some c->Rep E U h c (vs.getD j undef))->vs.length=ds.length/\∀ (j:Nat) (c:C),ds[j]? = some c->Rep E (lntU E U ch) h c (vs.getD j undef)
 |[],[],vs,_,hv,_=>⟨hv,fun j c hj=>by simp at hj⟩
 | a :: l,b :: m,[],_,hv,_=>by simp at hv
 | a :: l,b :: m,v :: vs,hL,hv,hr=>by
  obtain⟨h1,h2⟩:=xx.args hi (vs:=vs) hL.2 (by simpa using hv) (fun j c hj=>hr (j+1) c hj);refine⟨by simp[h1],fun j c hj=>?_⟩;cases j with
  | zero=>cases hj;exact hL.1.rep hi (hr 0 _ rfl)
  | succ j=>exact h2 j c hj
 |[],_ :: _,_,hL,_,_=>hL.elim
 |_ :: _,[],_,hL,_,_=>hL.elim
def xO (kow:Option Nat):C->Bool
 |.s _=>true
 |.any=>true
 |.own j=>decide (kow=some j)
 |_=>false
def Al (kow:Option Nat):C->Bool
 |.agg cs=>cs.all (xO kow)
 |.tup cs=>cs.all fun c=>match c with | .agg ds=>ds.all (xO kow) | c=>xO kow c
 | c=>xO kow c
def renO (kow:Option Nat) (d:Nat):List (Nat×Nat):=match kow with | some k=>[(k,d)] | none=>[]
end Go.Am
end
section
namespace Go.Am
open Dat (cells)
variable {P : Program} [Glob P] {ro : Option Nat} {ρ : Operand → C} {ch : Chs} {d : Nat}
section
variable {E E' : Env} {U U' : Nat → Prop} {h h' : Array Obj} {kow : Option Nat}
theorem xV (hk:∀ k,kow=some k->(E' d).toKE0=(E k).toKE0) {c:C} {v:Value} (hs:xO kow c=true) (hr:Rep E U h c v):Rep E' U' h' (ak (renO kow d) c) v:=by
 cases c <;> simp only[xO,zr,decide_eq_true_eq]at hs
 . exact .d (.any _)
 . rename_i x;rw[dK hr];exact .d (.s _)
 . subst hs;rw[eV hr,<- hk _ rfl];simp only[renO,ak,rn,lk,if_true,zN];exact .own d
theorem y8 (hk:∀ k,kow=some k->(E' d).toKE0=(E k).toKE0) {cs:List C} {v:Value} (hs:cs.all (xO kow)=true) (hr:Rep E U h (.agg cs) v):Rep E' U' h' (ak (renO kow d) (.agg cs)) v:=by
 cases hr with
 | d hd=>cases hd
 | agg _ vs q1 q2 q3=>
  simp only[ak,fe];refine .agg _ vs (by simpa using q1) (fun j c hj=>?_) q3;simp only[zh,za]at hj;obtain⟨c0,h0,rfl⟩:=hj;exact xV hk (zx.1 hs c0 (zp h0)) (q2 j c0 h0)
theorem yT (hk:∀ k,kow=some k->(E' d).toKE0=(E k).toKE0) {c:C} {v:Value} (hs:Al kow c=true) (hr:Rep E U h c v):Rep E' U' h' (ak (renO kow d) c) v:=by
 cases c with
 | agg cs=>exact y8 hk hs hr
 | tup cs=>
  cases hr with
  | d hd=>cases hd
  | tup _ vs q1 q2=>
   simp only[ak,fe];refine .tup _ vs (by simpa using q1) (fun j c hj=>?_);simp only[zh,za]at hj;obtain⟨c0,h0,rfl⟩:=hj;have hs0:=zx.1 hs c0 (zp h0);have hq:=q2 j c0 h0;generalize vs.getD j undef=u at *;cases c0 with
   | agg ds=>exact y8 hk hs0 hq
   |_=>exact xV hk hs0 hq
 |_=>exact xV hk hs hr
end
end Go.Am
end
section
namespace Go.Am
open Dat (cells)
variable {P : Program} [Glob P] {ro : Option Nat} {ρ : Operand → C} {ch : Chs} {d : Nat}
def Au (es:List (List C)):Prop:=∀ e∈es,∀ c∈e,∃ v,c=.s v
def yY : Ch->Prop
 |.row _ _ es=>Au es
 |.deep _ _ _ none rows=>∀ es∈rows,Au es
 |_=>False
theorem At {U U':Nat->Prop} {h:Array Obj} {y:KE0} {sz:Nat} {ty:TypeId} {es:List (List C)} (hs:Au es) (hr:fg U h y sz ty es):fg U' h y sz ty es:=by
 obtain⟨h1,h2,h3,h4⟩:=hr;refine⟨h1,h2,h3,?_⟩;rcases h4 with h4 | ⟨h4,h5,h6,arr,h7,h8,h9⟩
 . exact .inl h4
 . refine .inr ⟨h4,h5,h6,arr,h7,h8,fun i e j c he hj=>⟨?_,(h9 i e j c he hj).2⟩⟩;obtain⟨v,rfl⟩:=hs e (zp he) c (zp hj);have:=(h9 i e j _ he hj).1;generalize arr.getD (y.off+i*sz+j) undef=u at *;cases this;exact .s _
theorem y9 {E E':Env} {U U':Nat->Prop} {h:Array Obj} {k d:Nat} (hk:E' d=E k) {c:Ch} (hs:yY c) (hc:dN E U h k c):dN E' U' h d c:=by
 cases c with
 | row sz ty es=>
  simp only[dN,hk]at hc ⊢;exact⟨At hs hc.1,hc.2⟩
 | deep isz ity ty hole rows=>
  cases hole with
  | some i=>exact hs.elim
  | none=>
   simp only[dN,hk]at hc ⊢;refine⟨hc.1,hc.2.1,fun i n t es hI=>At ?_ (hc.2.2 i n t es hI)⟩;simp only[eo,reduceCtorEq,if_false,za,zf]at hI;obtain⟨es',g1,rfl,rfl,rfl⟩:=hI;exact hs _ (zp g1)
 |_=>exact hs.elim
theorem lnt_inv {E:Env} {U:Nat->Prop} {h:Array Obj} (hi:Inv E U h ch):Inv E (lntU E U ch) h [] where
 nd:=by simp
 ok:=fun k c hm=>by simp at hm
 sep:=fun k c k' c' hm=>by simp at hm
 out:=fun k c hm=>by simp at hm
 fpl:=fun k c hm=>by simp at hm
 lt:=fun b hb=>by
  rcases hb with hb | ⟨k,c,h1,h2⟩
  . exact hi.lt b hb
  . exact hi.fpl k c h1 b h2
theorem AM : qX ch []:=fun k s h=>by simp at h
theorem xS {f:FuncId} {cs ds:List C} {r:C} {chs:Chs} (hfc:FC P f ds [] r chs) (ha:xx ch cs ds) {E:Env} {U:Nat->Prop} {w:World} {vs:Array Value} (hi:Inv E U w.heap ch) (hg:eX P U w.heap) (hargs:jD E U w.heap cs vs) :
 Calls P f vs w fun e w'=>∃ v E' U',e=.returned v/\Rep E' U' w'.heap r v/\CEv E (lntU E U ch) w [] E' U' w' chs:=by
 obtain⟨a1,a2⟩:=xx.args hi (vs:=vs.toList) ha (by simpa using hargs.1) (fun j c hj=>by
  have:=hargs.2 j c hj
  rwa[zc,<- zM,<- zb]at this)
 refine hfc.2 E (lntU E U ch) vs w (hg.mono fun b hb=>⟨.inl hb,rfl⟩) ⟨by simpa using a1,fun j c hj=>?_⟩ (lnt_inv hi);have:=a2 j c hj;rwa[zb,zM,<- zc]at this
theorem OpM.lend0 {f:FuncId} {fo:Operand} {aS:List Operand} {ds:List C} {r:C} (hfc:FC P f ds [] r []) (hfo:ρ fo=.fn (.func f) [] []) (ha:xx ch (aS.map ρ) ds) (hr:Al none r=true) (hr0:ak [] r=r) :
 OpM P ro ρ ch d (.call fo aS) (fun ef=>ef=⟨True,r,ch,[]⟩):=by
 refine OpM.calls hfc.1 hfo (fun E U w vs hi hg hargs=>(xS hfc ha hi hg hargs).mono fun e w' hh=>?_);obtain⟨v,E1,U1,he,hrep,hc⟩:=hh;have hev:=Ev.freeze (w1:=w') hi (AM (ch:=ch)) hc.os hc.tape hc.output hc.size (fun b hb=>hc.rest b hb (fun k c hm=>by simp at hm)) (fun _=>False) (fun b hb=>hb.elim) d;rw[ku]at hev;have hrep':=yT (E':=E) (U':=fun b=>U b\/False\/∃ k s,([]:List (Nat×Sb)).lookup k=some s/\(E k).fp b) (h':=w'.heap) (d:=d) (fun k hk=>by cases hk) hr hrep;exact⟨v,_,_,he,hr0 ▸ hrep',hev⟩
theorem OpM.lend1 {f:FuncId} {fo:Operand} {aS:List Operand} {ds:List C} {r:C} {k0:Nat} {c:Ch} (hfc:FC P f ds [] r [(k0,c)]) (hfo:ρ fo=.fn (.func f) [] []) (ha:xx ch (aS.map ρ) ds) (hr:Al (some k0) r=true) (hs:yY c) :
 OpM P ro ρ ch d (.call fo aS) (fun ef=>ef=⟨True,ak [(k0,d)] r,(d,c) :: ae [(d,.c .any)] (af ch d),[(d,.c .any)]⟩):=by
 refine OpM.calls hfc.1 hfo (fun E U w vs hi hg hargs=>(xS hfc ha hi hg hargs).mono fun e w' hh=>?_);obtain⟨v,E1,U1,he,hrep,hc⟩:=hh;have hm:(k0,c)∈[(k0,c)]:=zg.2 rfl;have hev:=Ev.one (w1:=w') hi d (E1 k0) c hc.os hc.tape hc.output hc.size (fun b hb=>hc.rest b hb (fun k c hm=>by simp at hm))
  (fun b hb=>⟨(hc.live k0 c hm b hb).resolve_right (fun⟨k,c,h1,_⟩=>by simp at h1),hc.inv.fpl k0 c hm b hb⟩) (y9 (updE_same _ _ _) hs (hc.inv.ok k0 c hm))
 have hrep':=yT (kow:=some k0) (E':=dO E d (E1 k0)) (U':=U) (h':=w'.heap) (d:=d) (fun k hk=>by cases hk;rw[updE_same]) hr hrep;exact⟨v,_,_,he,hrep',hev⟩
theorem xx.same : ∀ cs:List C,xx ch cs cs
 |[]=>trivial
 |_ :: l=>⟨.same _,xx.same l⟩
theorem FC.own {f:FuncId} {ds:List C} {r:C} {n:Nat} {t:TypeId} {es:List (List C)} {chs:Chs} (hfc:FC P f (.sl n es :: ds) [] r chs) (hk:∀ k c,(k,c)∈chs->k≠100000):FC P f (.own 100000 :: ds) [(100000,.row n t es)] r chs:=by
 refine⟨hfc.1,fun E U vs w hg hargs hi=>?_⟩;have ha:xx [(100000,.row n t es)] (.own 100000 :: ds) (.sl n es :: ds):=⟨.own (c0:=.row n t es) rfl rfl,xx.same ds⟩;refine (xS hfc ha hi hg hargs).mono fun e w' hh=>?_
 obtain⟨v,E1,U1,he,hrep,hc⟩:=hh;refine⟨v,E1,U1,he,hrep,⟨hc.os,hc.tape,hc.output,hc.size,fun b hb=>hc.keep b (.inl hb),fun b hb _=>hc.rest b hb (fun k c hm=>by simp at hm),fun k c hm b hb=>.inl ((hc.live k c hm b hb).resolve_right fun⟨_,_,q,_⟩=>by simp at q),fun b hb=>?_,fun k cs hm ⟨c,q⟩=>?_,hc.inv⟩⟩
 . rcases hc.newU b hb with (q | q) | q | ⟨_,_,q,_⟩
   . exact .inl q
   . exact .inr (.inr q)
   . exact .inr (.inl q)
   . simp at q
 . simp only[zg,zf]at q;exact absurd q.1 (hk k _ hm)
theorem FC.frz {f:FuncId} {cs:List C} {r x:C} {k:Nat} {c:Ch} (hfc:FC P f cs [] r [(k,c)]) (hx:bz c=some x):FC P f cs [] (ah [(k,.c x)] r) []:=by
 refine⟨hfc.1,fun E U vs w hg hargs hi=>(hfc.2 E U vs w hg hargs hi).mono fun e w' hh=>?_⟩;obtain⟨v,E1,U1,he,hrep,hc⟩:=hh;have hfz:qX [(k,c)] [(k,.c x)]:=fun k' s hs=>by
  rw[fl]at hs;split at hs
  . rename_i e;subst e;cases hs;exact⟨c,x,by simp[lk],hx,rfl⟩
  . cases hs
 have hev:=Ev.freeze (w1:=w') hc.inv hfz rfl rfl rfl (zw _) (fun b _=>rfl) (fun _=>False) (fun b hb=>hb.elim) 0;have hnil:ae [(k,.c x)] (aC [(k,c)] [(k,Sb.c x)])=[]:=by simp[aC,af,ae]
 rw[hnil]at hev;refine⟨v,_,_,he,hev.rep hrep,⟨hc.os,hc.tape,hc.output,hc.size,fun b hb=>⟨(hev.keep b (hc.keep b hb).1).1,(hc.keep b hb).2⟩,hc.rest,fun k c hm=>by simp at hm,fun b hb=>?_,fun k cs hm=>by simp at hm,hev.inv⟩⟩;rcases hev.newU b hb with q | q | ⟨k',c',q,h2⟩
 . exact hc.newU b q
 . have:=hc.size;exact .inr (.inl (by omega))
 . exact .inr (.inl ((hc.live k' c' q b h2).resolve_right fun⟨_,_,q,_⟩=>by simp at q))
theorem FC.rekey {f:FuncId} {cs:List C} {r:C} {k:Nat} {c:Ch} (hfc:FC P f cs [] r [(k,c)]) (k':Nat) (hr:Al (some k) r=true) (hs:yY c):FC P f cs [] (ak [(k,k')] r) [(k',c)]:=by
 refine⟨hfc.1,fun E U vs w hg hargs hi=>(hfc.2 E U vs w hg hargs hi).mono fun e w' hh=>?_⟩;obtain⟨v,E1,U1,he,hrep,hc⟩:=hh;have hm:(k,c)∈[(k,c)]:=zg.2 rfl;have h1:∀ j x,(j,x)∈[(k',c)]->j=k'/\x=c:=fun j x h=>by simpa using h
 refine⟨v,dO E1 k' (E1 k),U1,he,yT (kow:=some k) (fun j hj=>by cases hj;rw[updE_same]) hr hrep,⟨hc.os,hc.tape,hc.output,hc.size,hc.keep,hc.rest,fun j x hj b hb=>?_,hc.newU,fun j xs hj ⟨_,q⟩=>(by simp at q),⟨by simp,fun j x hj=>?_,fun j x j' x' hj hj' hne=>?_,fun j x hj b hb=>?_,fun j x hj b hb=>?_,hc.inv.lt⟩⟩⟩
 . obtain⟨rfl,rfl⟩:=h1 j x hj;rw[updE_same]at hb;exact hc.live k x hm b hb
 . obtain⟨rfl,rfl⟩:=h1 j x hj;exact y9 (updE_same _ _ _) hs (hc.inv.ok k x hm)
 . exact absurd ((h1 j x hj).1.trans (h1 j' x' hj').1.symm) hne
 . obtain⟨rfl,rfl⟩:=h1 j x hj;rw[updE_same]at hb;exact hc.inv.out k x hm b hb
 . obtain⟨rfl,rfl⟩:=h1 j x hj;rw[updE_same]at hb;exact hc.inv.fpl k x hm b hb
def Ar : Operand->Bool
 |.const (.slice none 0 0)=>true
 |_=>false
def As (d1:Nat) (ρ:Operand->C):Operand->C:=fun z=>if Ar z=true then .own d1 else ah [(d1,.c .any)] (ρ z)
theorem OpM.nilled {op:AOp} {ef:Eff} (d1 n:Nat) (ty:TypeId) (hd:d1 < 100000) (h:OpR P (As d1 ρ) ((d1,.row n ty []) :: ae [(d1,.c .any)] (af ch d1)) d op ef) :
 OpM P ro ρ ch d op (fun e=>e=⟨True,ef.v,ef.ch,a6 [(d1,.c .any)] ef.sub⟩):=by
 intro own o a E U w hc hi hg hρ K Q hK;have hev:=Ev.freshNil hi d1 (ke0 ⟨0,0,0,0,n,true⟩) (.row n ty []) (fun b hb=>by cases ((gB (y:=⟨0,0,0,0,n,true⟩)).fp b).1 hb with | inl q=>cases q.1 | inr q=>obtain⟨_,_,q,_⟩:=q;cases q) (wF (c0:=.row n ty []) rfl);refine h.sound hc hev.inv hg (fun x hx=>?_) (fun v E' U' w' hr hev2=>hK _ rfl v E' U' w' hr (hev.trans hev2 hd));unfold As;split
 . rename_i hn;unfold Ar at hn;split at hn
   . have:=Rep.own (E:=dO E d1 (ke0 ⟨0,0,0,0,n,true⟩)) (U:=U) (h:=w.heap) d1;rw[updE_same]at this;exact this
   . cases hn
 . exact hev.rep (hρ x hx)
mutual
theorem Ac : ∀ (c:C),aD ch [] c=c
 |.agg cs=>by simp only[aD];rw[yZ cs]
 |.own k=>by simp[aD]
 |.inn k i=>by simp[aD]
 |.any=>rfl
 |.s _=>rfl
 |.sl _ _=>rfl
 |.ref _=>rfl
 |.tup _=>rfl
 |.fn _ _ _=>rfl
 |.ptr _ _=>rfl
 |.eptr _ _ _=>rfl
 |.isl _ _ _=>rfl
 |.iptr _ _ _ _=>rfl
theorem yZ : ∀ (cs:List C),aD.viewCs ch [] cs=cs
 |[]=>rfl
 | c :: cs=>by simp only[aD.viewCs];rw[Ac c,yZ cs]
end
mutual
theorem y4 : ∀ (c:C),aY ch [] c
 |.agg cs=>by simp only[aY];exact yN cs
 |.inn k i=>by simp[aY]
 |.own k=>trivial
 |.any=>trivial
 |.s _=>trivial
 |.sl _ _=>trivial
 |.ref _=>trivial
 |.tup _=>trivial
 |.fn _ _ _=>trivial
 |.ptr _ _=>trivial
 |.eptr _ _ _=>trivial
 |.isl _ _ _=>trivial
 |.iptr _ _ _ _=>trivial
theorem yN : ∀ (cs:List C),aY.viewOks ch [] cs
 |[]=>trivial
 | c :: cs=>⟨y4 c,yN cs⟩
end
theorem OpR.give {fo:Operand} {aS:List Operand} {f:FuncId} {ds:List C} {r:C} {k:Nat} {c:Ch} (hf:ρ fo=.fn (.func f) [] []) (h:FC P f ds [(k,c)] r []) (hd:aS.map ρ=ds) (hl:lk ch k=some c) (hb:∀ cs,c≠.box cs) (hr:dF [] r) :
 OpR P ρ ch d (.call fo aS) ⟨True,r,a7 ch [(k,c)] [] [],az [] [(k,c)]⟩:=by
 refine .call ⟨⟨f,[],[],[],by rw[hf];rfl,?_,fun c _=>y4 c,fun k' c' hm=>?_,.inl rfl⟩,by simp,fun k cs hm=>by simp at hm,fun k cs hm=>by simp at hm,fun k' cs hm=>?_,hr,fun k c hm=>by simp at hm⟩
 . have e:([]++aS.map ρ++[]).map (aD ch [])=ds:=by
    rw[<- hd];simp only[yb,z4,zT];exact zH fun x _=>Ac _
   rw[e];exact h
 . simp only[zg,zf]at hm;obtain⟨rfl,rfl⟩:=hm;exact⟨hl,by simp,by simp⟩
 . simp only[zg,zf]at hm;exact absurd hm.2.symm (hb cs)
end Go.Am
end
section
namespace Go.Am
open Dat (cells)
variable {P : Program} [Glob P] {ro : Option Nat} {ρ : Operand → C} {ch : Chs} {d : Nat}
section
variable {cx : Cx} {Q : ASt → Prop} {k : List It} {st : ASt}
def xW (pur:List Nat) (op:AOp) (j:Nat) (ef:Eff) (E:EL):EL:=match av pur j with | true=>E | false=>ml op j ef E
def xC (P:Program) [Glob P] (L:List (Ent P)) (cx:Cx) (Q:ASt->Prop) (k:List It) (rb:List Nat) (all:List AO) (s0:ASt) (pur:List Nat):Nat->Md->List AO->ASt->Nat->List C->EL->Prop
 |_+1,.run,[],_,_,vs,E=>mFin2 P L cx Q k rb all s0 vs E
 | n+1,.run,⟨dst,none,op,tot⟩ :: os,s,j,vs,E=>xC P L cx Q k rb all s0 pur n (.eff (ai (aq P s.t) s.ch (dst.getD 0) op)) (⟨dst,none,op,tot⟩ :: os) s j vs E
 | n+1,.eff (some ef),⟨dst,none,op,_⟩ :: os,s,j,vs,E=>xC P L cx Q k rb all s0 pur n .run os ⟨aU dst ef.sub ef.v s.t,ef.ch⟩ (j+1) (vs++[ef.v]) (xW pur op j ef E)
 | n+1,.eff none,⟨dst,none,op,tot⟩ :: os,s,j,vs,E=>xC P L cx Q k rb all s0 pur n (aF L (aq P s.t) s.ch (dst.getD 0) op) (⟨dst,none,op,tot⟩ :: os) s j vs E
 | n+1,.cal (.eff ef),⟨dst,none,op,_⟩ :: os,s,j,vs,E=>xC P L cx Q k rb all s0 pur n .run os ⟨aU dst ef.sub ef.v s.t,ef.ch⟩ (j+1) (vs++[ef.v]) (xW pur op j ef E)
 |_,_,_,_,_,_,_=>False
theorem AL {L:List (Ent P)} {rb:List Nat} {all:List AO} {s0:ASt} {pur:List Nat}:∀ (n:Nat) (m:Md) (os:List AO) (s:ASt) (j:Nat) (vs:List C) (E:EL),xC P L cx Q k rb all s0 pur n m os s j vs E->SG P cx Q (.c (.draw 999 rb all) :: k) s0:=by
 intro n
 induction n with
 | zero=>intro m os s j vs E h;simp[xC]at h
 | succ n ih=>
  intro m os s j vs E h;cases os with
  | nil=>
   cases m <;> simp only[xC]at h;obtain⟨h0,h1,h2,h3,h4⟩:=h;exact vM h0 h1 h2 h3 h4
  | cons o os=>
   unfold xC at h;split at h <;> first | exact h.elim | exact ih _ _ _ _ _ _ h | (simp at*<;> (subst_vars;exact ih _ _ _ _ _ _ h))
theorem xM {rb:List Nat} {os:List AO} (L:List (Ent P)) (n:Nat) (pur:List Nat) (h:xC P L cx Q k rb os st pur n .run os st 0 [] []):SG P cx Q (.c (.draw 999 rb os) :: k) st:=
 AL n .run os st 0 [] [] h
end
end Go.Am
end
section
open Go Go.Am
open Go.Am.Dat (cells)
namespace Go.Proofs.YtcbabnbiinkafaaGreatDoor
set_option maxRecDepth 100000
def rv9 : List RV:=[.tmp 6]
theorem is9 : FnIs Tryz.prog 9 121 c9 rv9:=⟨⟨Tryz.f9,_,Tryz.func9,by kernel_rfl,rfl,rfl,by kernel_rfl,by kernel_rfl⟩,by decide⟩
def c24 : AC:=oX [oA 2 (.mv (.const (.slice none 0 0)))] [0] (oX [oA 3 (.mkSl true 3 1 o1 0 []),oM 4 0,oA 5 (.app 24 3 1 8 o1 (oO 3) (oO 4)),oM 2 5] [2] .ret)
def rv24 : List RV:=[.tmp 2]
theorem is24 : FnIs Tryz.prog 24 6 c24 rv24:=⟨⟨Tryz.f24,_,Tryz.func24,by kernel_rfl,rfl,rfl,by kernel_rfl,by kernel_rfl⟩,by decide⟩
def c35 : AC:=oX [o9 2 false] [0] (oX [oM 3 0,o4 4 3,oB 5 .leq 3 4 (oN 40),oM 6 5,oD 7 6 false 0,oG 8 6 false (.len false (oO 7)),oG 9 6 false (.bin .gtr 3 (oO 8) (oN 200)),oD 10 6 false 9,oD 11 10 true 0,oG 12 10 true (.len false (oO 11)),oG 13 10 true (.bin .leq 3 (oO 12) (oN 202)),oG 14 6 false (.pick (oO 10) (oO 13) (.const (.bool false))),oH 15 6 14,oM 2 15] [2] .ret)
def rv35 : List RV:=[.tmp 2]
theorem is35 : FnIs Tryz.prog 35 16 c35 rv35:=⟨⟨Tryz.f35,_,Tryz.func35,by kernel_rfl,rfl,rfl,by kernel_rfl,by kernel_rfl⟩,by decide⟩
def c38 : AC:=oX [oA 2 (.mv (.const (.slice none 0 0)))] [0] (oX [oA 3 (.mkSl true 83 3 o3 0 []),oM 4 0,oA 5 (.app 48 83 3 24 o3 (oO 3) (oO 4)),oM 2 5] [2] .ret)
def rv38 : List RV:=[.tmp 2]
theorem is38 : FnIs Tryz.prog 38 6 c38 rv38:=⟨⟨Tryz.f38,_,Tryz.func38,by kernel_rfl,rfl,rfl,by kernel_rfl,by kernel_rfl⟩,by decide⟩
def c42l1 : AC:=oS (oX [oM 20 10,oM 21 2,o4 22 21,oB 23 .lss 3 20 (oO 22)] [2,3,6,9,10,23] (.cond (oO 23) .skip (.exit 0))) (oK [2,3,6,9,10] (oS (.block 1 (oS (oQ [o5 27 3 3,o5 28 10 9,oM 29 2,oA 30 (.mvs (oO 10)),oA 31 (.iaddr 3 o3 (oO 29) (oO 30)),o5 32 3 31,oC 33 71 [oO 27,oO 28,oO 32],oM 26 33,o8 34 26 0,o8 35 26 1,oA 11 (.alloc oZ),oW 10 11 34,oT 12 (.mv (oO 35))]) (oK [2,3,6,9,10,11,12] (oS (oX [oM 36 12,oB 37 .neq 3 36 (oN 0)] [2,3,6,9,10,11,12,37] (oI 37 (oX [oA 38 (.build oZ []),oM 39 10,oM 40 12,oW 10 6 38,oM 7 39,oM 8 40] [6,7,8] .ret))) (oK [2,3,6,9,10,11] (oR [o5 41 10 11,oW 10 9 41])))))) (oK [2,3,6,9,10] (oR [oM 24 10,oB 25 .add 3 24 (oN 1),oM 10 25]))))
def c42 : AC:=oX [o7 3 0,oA 6 (.alloc oZ),oV 7 0,oV 8 0] [1,2,3,6] (oS (oX [oM 13 2,o4 14 13,oB 15 .gtr 3 14 (oN 200)] [1,2,3,6,15] (oI 15 (oX [oA 16 (.build oZ []),oW 10 6 16,oV 7 0,oV 8 8] [6,7,8] .ret))) (oK [1,2,3,6] (oX [o5 17 3 3,oM 18 1,oC 19 52 [oO 17,oO 18],oA 9 (.alloc oZ),oW 10 9 19] [2,3,6,9] (oS (oX [oV 10 0] [2,3,6,9,10] (.block 0 (.loop c42l1))) (oK [6,9] (oX [o5 42 10 9,oW 10 6 42,oV 7 0,oV 8 0] [6,7,8] .ret))))))
def rv42 : List RV:=[.cell 6 true 10,.tmp 7,.tmp 8]
theorem is42 : FnIs Tryz.prog 42 43 c42 rv42:=⟨⟨Tryz.f42,_,Tryz.func42,by kernel_rfl,rfl,rfl,by kernel_rfl,by kernel_rfl⟩,by decide⟩
def Ae : AC:=oS (oX [oM 10 5,oM 11 1,o4 12 11,oB 13 .lss 3 10 (oO 12)] [1,2,5,13] (.cond (oO 13) .skip (.exit 0))) (oK [1,2,5] (oS (.block 1 (oX [oM 16 1,oM 17 5,oA 18 (.iaddr 3 o3 (oO 16) (oO 17)),o5 19 3 18,oA 6 (.alloc o3),oW 3 6 19] [1,2,5,6] (oS (oX [o5 20 3 2,oF 21 0 6,oL 22 21,oC 23 99 [oO 20,oO 22],oA 24 (.un .not (oO 23))] [1,2,5,6,24] (oI 24 (oX [oV 4 6] [4] .ret))) (oK [1,2,5,6] (oS (oX [oF 25 1 6,oL 26 25,oC 27 31 [oO 26,oN 0,oN 1000000000],oA 28 (.un .not (oO 27)),oM 29 28,oE 30 29 false 2 6,oJ 31 29 false 30,oG 32 29 false (.call (.func 31) [oO 31,oN 0,oN 1000000000]),oG 33 29 false (.un .not (oO 32)),oH 34 29 33] [1,2,5,6,34] (oI 34 (oX [oV 4 2] [4] .ret))) (oK [1,2,5,6] (oS (oS (oQ [oF 35 2 6,oL 36 35,oF 37 1 6,oL 38 37,oT 39 (.bin .lss 3 (oO 36) (oO 38)),oT 40 (.mv (oO 39)),⟨some 41,some (40,false),.mv (oO 5),true⟩,⟨some 42,some (40,false),.bin .gtr 3 (oO 41) (oN 0),true⟩,⟨some 43,some (40,false),.mv (oO 42),true⟩,oE 44 43 true 1 6,oJ 45 43 true 44,oD 46 43 true 1,oD 47 43 true 5,oG 48 43 true (.bin .sub 3 (oO 47) (oN 1)),oG 49 43 true (.iaddr 3 o3 (oO 46) (oO 48)),oE 50 43 true 2 49,oJ 51 43 true 50,⟨some 52,some (43,true),.bin .neq 3 (oO 45) (oO 51),true⟩,⟨some 53,some (40,false),.pick (oO 43) (oO 52) (.const (.bool false)),true⟩,oT 54 (.pick (oO 40) (.const (.bool true)) (oO 53))]) (oK [1,2,5,6,54] (oI 54 (oX [oV 4 9] [4] .ret)))) (oK [1,2,5,6] (oS (oQ [oT 55 (.mv (oO 5)),oT 56 (.bin .gtr 3 (oO 55) (oN 0)),oT 57 (.mv (oO 56)),oE 58 57 true 0 6,oJ 59 57 true 58,oD 60 57 true 1,oD 61 57 true 5,oG 62 57 true (.bin .sub 3 (oO 61) (oN 1)),oG 63 57 true (.iaddr 3 o3 (oO 60) (oO 62)),oE 64 57 true 0 63,oJ 65 57 true 64,⟨some 66,some (57,true),.bin .eql 3 (oO 59) (oO 65),true⟩,oT 67 (.pick (oO 57) (oO 66) (.const (.bool false)))]) (oK [1,2,5,67] (oI 67 (oX [oV 4 26] [4] .ret)))))))))))) (oK [1,2,5] (oR [oM 14 5,oB 15 .add 3 14 (oN 1),oM 5 15]))))
def c47 : AC:=oX [o7 2 0,oV 4 0] [1,2] (oS (oX [oM 7 1,o4 8 7,oB 9 .gtr 3 8 (oN 200)] [1,2,9] (oI 9 (oX [oV 4 8] [4] .ret))) (oK [1,2] (oS (oX [oV 5 0] [1,2,5] (.block 0 (.loop Ae))) (oK [] (oX [oV 4 0] [4] .ret)))))
def rv47 : List RV:=[.tmp 4]
theorem is47 : FnIs Tryz.prog 47 68 c47 rv47:=⟨⟨Tryz.f47,_,Tryz.func47,by kernel_rfl,rfl,rfl,by kernel_rfl,by kernel_rfl⟩,by decide⟩
def c52 : AC:=oX [o7 2 0,oA 4 (.alloc oZ)] [1,2,4] (oX [oM 5 1,oM 6 1,oF 7 0 2,oL 8 7,o4 9 8,oA 10 (.makeSl 24 1 24 o0 (oO 9) (oO 9)),oA 11 (.build oZ [(3,1,oO 5),(4,1,oN (-1)),(5,1,oN (-1)),(6,1,oO 6),(9,1,oO 10)]),oW 10 4 11] [4] .ret)
def rv52 : List RV:=[.cell 4 true 10]
theorem is52 : FnIs Tryz.prog 52 12 c52 rv52:=⟨⟨Tryz.f52,_,Tryz.func52,by kernel_rfl,rfl,rfl,by kernel_rfl,by kernel_rfl⟩,by decide⟩
def c53 : AC:=oX [o7 3 0,oV 6 0] [1,2,3] (oS (oX [o5 11 3 3,oM 12 1,oC 13 40 [oO 11,oO 12],oM 7 13] [1,2,3,7] (oX [oM 14 7,oB 15 .neq 3 14 (oN 0)] [1,2,3,7,15] (oI 15 (oX [oM 16 7,oM 6 16] [6] .ret)))) (oK [1,2,3] (oX [o5 18 3 3,oM 19 1,oM 20 2,oC 21 42 [oO 18,oO 19,oO 20],oM 17 21,o8 22 17 0,o8 23 17 1,o8 24 17 2,oA 8 (.alloc oZ),oW 10 8 22,oM 9 23,oM 10 24] [10] (oX [oM 25 10,oM 6 25] [6] .ret))))
def rv53 : List RV:=[.tmp 6]
theorem is53 : FnIs Tryz.prog 53 26 c53 rv53:=⟨⟨Tryz.f53,_,Tryz.func53,by kernel_rfl,rfl,rfl,by kernel_rfl,by kernel_rfl⟩,by decide⟩
def c56 : AC:=oX [o7 3 0,oV 6 0,oV 7 0] [1,2,3] (oX [o5 12 3 3,oM 13 1,oM 14 2,oC 15 97 [oO 12,oO 13,oO 14],oM 11 15,o8 16 11 0,o8 17 11 1,o8 18 11 2,oM 8 16,oM 9 17,oM 10 18] [8,10] (oS (oX [oM 19 10,oB 20 .neq 27 19 (oN 0)] [8,10,20] (oI 20 (oX [oM 21 10,oV 6 0,oM 7 21] [6,7] .ret))) (oK [8] (oX [oM 22 8,o6 23 22,oF 24 16 23,oL 25 24,oM 6 25,oV 7 0] [6,7] .ret))))
def rv56 : List RV:=[.tmp 6,.tmp 7]
theorem is56 : FnIs Tryz.prog 56 26 c56 rv56:=⟨⟨Tryz.f56,_,Tryz.func56,by kernel_rfl,rfl,rfl,by kernel_rfl,by kernel_rfl⟩,by decide⟩
def c57l1 : AC:=oS (oX [oM 11 5,oM 12 0,o4 13 12,oB 14 .lss 3 11 (oO 13)] [0,1,5,14] (.cond (oO 14) .skip (.exit 0))) (oK [0,1,5] (oS (.block 1 (oS (oQ [oM 17 0,oA 18 (.mvs (oO 5)),oA 19 (.iaddr 3 o3 (oO 17) (oO 18)),o5 20 3 19,oM 21 1,oM 22 5,oA 23 (.iaddr 3 o3 (oO 21) (oO 22)),o5 24 3 23,oT 25 (.ext (.eqs true [0,0,0]) [oO 20,oO 24])]) (oK [0,1,5,25] (oI 25 (oX [o9 4 false] [4] .ret))))) (oK [0,1,5] (oR [oM 15 5,oB 16 .add 3 15 (oN 1),oM 5 16]))))
def c57 : AC:=oX [o9 4 false] [0,1] (oS (oX [oM 6 0,o4 7 6,oM 8 1,o4 9 8,oB 10 .neq 3 7 (oO 9)] [0,1,10] (oI 10 (oX [o9 4 false] [4] .ret))) (oK [0,1] (oS (oX [oV 5 0] [0,1,5] (.block 0 (.loop c57l1))) (oK [] (oX [o9 4 true] [4] .ret)))))
def rv57 : List RV:=[.tmp 4]
theorem is57 : FnIs Tryz.prog 57 26 c57 rv57:=⟨⟨Tryz.f57,_,Tryz.func57,by kernel_rfl,rfl,rfl,by kernel_rfl,by kernel_rfl⟩,by decide⟩
def c68 : AC:=oX [o7 2 0,o7 3 1,oV 4 0] [2,3] (oS (oX [oF 5 0 3,oL 6 5,oC 7 31 [oO 6,oN 0,oN 11],oA 8 (.un .not (oO 7))] [2,3,8] (oI 8 (oX [oV 4 15] [4] .ret))) (oK [2,3] (oS (oX [oF 9 1 3,oL 10 9,oC 11 31 [oO 10,oN 0,oN 1000000000],oA 12 (.un .not (oO 11))] [2,3,12] (oI 12 (oX [oV 4 2] [4] .ret))) (oK [2,3] (oS (oX [oF 13 0 3,oL 14 13,oB 15 .eql 3 14 (oN 3),oM 16 15,oE 17 16 false 0 3,oJ 18 16 false 17,oG 19 16 false (.bin .eql 3 (oO 18) (oN 10)),oH 20 16 19] [2,3,20] (oI 20 (oS (oX [o5 21 3 2,oF 22 2 3,oL 23 22,oC 24 99 [oO 21,oO 23],oA 25 (.un .not (oO 24))] [25] (oI 25 (oX [oV 4 6] [4] .ret))) (oK [] (oX [oV 4 0] [4] .ret))))) (oK [3] (oS (oX [oF 26 2 3,oL 27 26,oB 28 .neq 3 27 (oN 0)] [28] (oI 28 (oX [oV 4 3] [4] .ret))) (oK [] (oX [oV 4 0] [4] .ret)))))))))
def rv68 : List RV:=[.tmp 4]
theorem is68 : FnIs Tryz.prog 68 29 c68 rv68:=⟨⟨Tryz.f68,_,Tryz.func68,by kernel_rfl,rfl,rfl,by kernel_rfl,by kernel_rfl⟩,by decide⟩
def c71 : AC:=oX [o7 3 0,o7 4 1,o7 5 2,oA 6 (.alloc oZ),oV 7 0] [3,4,5,6] (oS (oX [o5 9 3 3,o5 10 3 5,oC 11 68 [oO 9,oO 10],oM 8 11] [3,4,5,6,8] (oX [oM 12 8,oB 13 .neq 3 12 (oN 0)] [3,4,5,6,8,13] (oI 13 (oX [oA 14 (.build oZ []),oM 15 8,oW 10 6 14,oM 7 15] [6,7] .ret)))) (oK [3,4,5,6] (oX [o5 16 3 3,o5 17 10 4,o5 18 3 5,oC 19 119 [oO 16,oO 17,oO 18],o8 20 19 0,o8 21 19 1,oW 10 6 20,oM 7 21] [6,7] .ret)))
def rv71 : List RV:=[.cell 6 true 10,.tmp 7]
theorem is71 : FnIs Tryz.prog 71 22 c71 rv71:=⟨⟨Tryz.f71,_,Tryz.func71,by kernel_rfl,rfl,rfl,by kernel_rfl,by kernel_rfl⟩,by decide⟩
def c111 : AC:=oX [oA 8 (.mv (.const (.slice none 0 0)))] [0,1,2,3] (oS (oX [oM 9 1,oM 10 2,oB 11 .eql 3 9 (oO 10)] [0,2,3,11] (oI 11 (oX [oM 12 0,oM 8 12] [8] .ret))) (oK [0,2,3] (oX [oM 13 0,oM 14 0,o4 15 14,oB 16 .sub 3 15 (oN 1),oM 17 3,oA 18 (.iaddr 3 o3 (oO 13) (oO 16)),oF 19 2 18,oW 1 19 17] [0,2,3] (oX [oM 20 0,oM 21 2,oM 22 3,oA 23 (.build o3 [(0,1,oO 21),(1,1,oO 22)]),oA 24 (.mkSl false 138 3 o3 1 [(0,oO 23)]),oA 25 (.app 65 138 3 24 o3 (oO 20) (oO 24)),oM 8 25] [8] .ret))))
def rv111 : List RV:=[.tmp 8]
theorem is111 : FnIs Tryz.prog 111 26 c111 rv111:=⟨⟨Tryz.f111,_,Tryz.func111,by kernel_rfl,rfl,rfl,by kernel_rfl,by kernel_rfl⟩,by decide⟩
def c112 : AC:=oX [o7 1 0,o9 2 false] [1] (oX [oF 3 1 1,oL 4 3,oB 5 .eql 3 4 (oN 2),oM 6 5,oE 7 6 false 1 1,oJ 8 6 false 7,oG 9 6 false (.bin .eql 3 (oO 8) (oN 3)),oH 10 6 9,oM 2 10] [2] .ret)
def rv112 : List RV:=[.tmp 2]
theorem is112 : FnIs Tryz.prog 112 11 c112 rv112:=⟨⟨Tryz.f112,_,Tryz.func112,by kernel_rfl,rfl,rfl,by kernel_rfl,by kernel_rfl⟩,by decide⟩
def An : AC:=oS (oX [oM 8 7,oF 9 1 3,oL 10 9,o4 11 10,oB 12 .lss 3 8 (oO 11)] [1,2,3,7,12] (.cond (oO 12) .skip (.exit 0))) (oK [1,2,3,7] (oS (.block 1 (oX [oF 15 1 3,oL 16 15,oM 17 7,oA 18 (.iaddr 2 o2 (oO 16) (oO 17)),o5 19 2 18,oM 20 1,oM 21 2,oA 22 (.ext (.mx false) [oO 20,oO 21]),oM 23 1,oM 24 2,oA 25 (.ext (.mx true) [oO 23,oO 24]),oA 26 (.build o2 [(0,1,oO 22),(1,1,oO 25)]),oA 27 (.ext (.eqs false [0,0]) [oO 19,oO 26])] [1,2,3,7,27] (oI 27 (oX [o9 6 true] [6] .ret)))) (oK [1,2,3,7] (oR [oM 13 7,oB 14 .add 3 13 (oN 1),oM 7 14]))))
def c115 : AC:=oX [o7 3 0,o9 6 false] [1,2,3] (oS (oX [oV 7 0] [1,2,3,7] (.block 0 (.loop An))) (oK [] (oX [o9 6 false] [6] .ret)))
def Aj : List RV:=[.tmp 6]
theorem is115 : FnIs Tryz.prog 115 28 c115 Aj:=⟨⟨Tryz.f115,_,Tryz.func115,by kernel_rfl,rfl,rfl,by kernel_rfl,by kernel_rfl⟩,by decide⟩
def Ao : AC:=oS (oX [oM 5 4,oF 6 9 1,oL 7 6,o4 8 7,oB 9 .lss 3 5 (oO 8)] [1,3,4,9] (.cond (oO 9) .skip (.exit 0))) (oK [1,3,4] (oS (.block 1 (oR [oM 12 3,oF 13 9 1,oL 14 13,oM 15 4,oA 16 (.iaddr 1 o0 (oO 14) (oO 15)),oL 17 16,o4 18 17,oB 19 .add 3 12 (oO 18),oM 3 19])) (oK [1,3,4] (oR [oM 10 4,oB 11 .add 3 10 (oN 1),oM 4 11]))))
def c116 : AC:=oX [o7 1 0,oV 2 0] [1] (oX [oV 3 0] [1,3] (oS (oX [oV 4 0] [1,3,4] (.block 0 (.loop Ao))) (oK [3] (oX [oM 20 3,oM 2 20] [2] .ret))))
def Ak : List RV:=[.tmp 2]
theorem is116 : FnIs Tryz.prog 116 21 c116 Ak:=⟨⟨Tryz.f116,_,Tryz.func116,by kernel_rfl,rfl,rfl,by kernel_rfl,by kernel_rfl⟩,by decide⟩
def c119 : AC:=oX [o7 3 0,o7 4 1,o7 5 2,oA 6 (.alloc oZ),oV 7 0] [3,4,5,6] (oS (oX [oF 11 1 5,oL 12 11,oF 13 0 4,oL 14 13,oB 15 .lss 3 12 (oO 14)] [3,4,5,6,15] (oI 15 (oX [oA 16 (.build oZ []),oW 10 6 16,oV 7 9] [6,7] .ret))) (oK [3,4,5,6] (oX [o5 18 3 3,o5 19 10 4,oF 20 1 5,oL 21 20,oC 22 110 [oO 18,oO 19,oO 21],oM 17 22,o8 23 17 0,o8 24 17 1,oA 8 (.alloc oZ),oW 10 8 23,oM 9 24] [3,5,6,8] (oS (oX [o5 25 3 3,o5 26 10 8,o5 27 3 5,oC 28 152 [oO 25,oO 26,oO 27],oM 10 28] [5,6,8,10] (oX [oM 29 10,oB 30 .neq 3 29 (oN 0)] [5,6,8,10,30] (oI 30 (oX [oA 31 (.build oZ []),oM 32 10,oW 10 6 31,oM 7 32] [6,7] .ret)))) (oK [5,6,8] (oX [o5 33 10 8,o5 34 3 5,oC 35 153 [oO 33,oO 34],oW 10 8 35] [5,6,8] (oX [oF 36 1 5,oL 37 36,oF 38 0 8,oW 1 38 37] [6,8] (oX [o5 39 10 8,oW 10 6 39,oV 7 0] [6,7] .ret))))))))
def x4 : List RV:=[.cell 6 true 10,.tmp 7]
theorem is119 : FnIs Tryz.prog 119 40 c119 x4:=⟨⟨Tryz.f119,_,Tryz.func119,by kernel_rfl,rfl,rfl,by kernel_rfl,by kernel_rfl⟩,by decide⟩
def rv167 : List RV:=[.tmp 2,.tmp 3]
theorem is167 : FnIs Tryz.prog 167 15 c167 rv167:=⟨⟨Tryz.f167,_,Tryz.func167,by kernel_rfl,rfl,rfl,by kernel_rfl,by kernel_rfl⟩,by decide⟩
def c168 : AC:=oX [o7 1 0,oA 2 (.alloc oZ)] [1,2] (oS (oX [oF 3 5 1,oL 4 3,oB 5 .neq 3 4 (oN (-1)),oM 6 5,oE 7 6 true 6 1,oJ 8 6 true 7,oE 9 6 true 3 1,oJ 10 6 true 9,oG 11 6 true (.bin .eql 3 (oO 8) (oO 10)),oP 12 6 11,oM 13 12,oE 14 13 true 9 1,oJ 15 13 true 14,oE 16 13 true 5 1,oJ 17 13 true 16,oG 18 13 true (.iaddr 1 o0 (oO 15) (oO 17)),oJ 19 13 true 18,oG 20 13 true (.len false (oO 19)),oG 21 13 true (.bin .eql 3 (oO 20) (oN 0)),oP 22 13 21] [1,2,22] (oI 22 (oR [oF 23 5 1,oY false 1 (oO 23) (oN (-1))]))) (oK [1,2] (oX [o5 24 10 1,oW 10 2 24] [2] .ret)))
def yX : List RV:=[.cell 2 true 10]
theorem is168 : FnIs Tryz.prog 168 25 c168 yX:=⟨⟨Tryz.f168,_,Tryz.func168,by kernel_rfl,rfl,rfl,by kernel_rfl,by kernel_rfl⟩,by decide⟩
end Go.Proofs.YtcbabnbiinkafaaGreatDoor
end
section
open Go Go.Am
open Go.Am.Dat (cells)
namespace Go.Proofs.YtcbabnbiinkafaaGreatDoor.D7
set_option maxRecDepth 100000
def c60l1 : AC:=oS (oX [oM 5 4,oM 6 0,o4 7 6,oB 8 .lss 3 5 (oO 7)] [0,3,4,8] (.cond (oO 8) .skip (.exit 0))) (oK [0,3,4] (oS (.block 1 (oR [oM 11 3,oM 12 0,oM 13 4,oA 14 (.iaddr 1 o0 (oO 12) (oO 13)),oL 15 14,oC 16 24 [oO 15],oA 17 (.mkSl true 24 1 o0 1 [(0,oO 16)]),oA 18 (.app 51 24 1 24 o0 (oO 11) (oO 17)),oM 3 18])) (oK [0,3,4] (oR [oM 9 4,oB 10 .add 3 9 (oN 1),oM 4 10]))))
def c60 : AC:=oX [oA 2 (.mv (.const (.slice none 0 0)))] [0] (oX [oA 3 (.mv (.const (.slice none 0 0)))] [0,3] (.nilrow 3 1 24 (.deepen 3 1 3 (oS (oX [oV 4 0] [0,3,4] (.block 0 (.loop c60l1))) (oK [3] (oX [oM 19 3,oM 2 19] [2] .ret))))))
def rv60 : List RV:=[.tmp 2]
theorem is60 : FnIs Tryz.prog 60 20 c60 rv60:=⟨⟨Tryz.f60,_,Tryz.func60,by kernel_rfl,rfl,rfl,by kernel_rfl,by kernel_rfl⟩,by decide⟩
def c65 : AC:=oX [o7 1 0,oA 2 (.alloc oZ)] [1,2] (oX [oF 3 9 1,oL 4 3,oC 5 60 [oO 4],oF 6 9 1,oW 1 6 5] [1,2] (oX [o5 7 10 1,oW 10 2 7] [2] .ret))
def rv65 : List RV:=[.cell 2 true 10]
theorem is65 : FnIs Tryz.prog 65 8 c65 rv65:=⟨⟨Tryz.f65,_,Tryz.func65,by kernel_rfl,rfl,rfl,by kernel_rfl,by kernel_rfl⟩,by decide⟩
def c110 : AC:=oX [o7 3 0,o7 4 1,oA 6 (.alloc oZ),oV 7 0] [2,3,4,6] (oS (oX [o5 8 10 4,oC 9 112 [oO 8],oM 10 9,oE 11 10 true 2 4,oJ 12 10 true 11,oE 13 10 true 2 3,oJ 14 10 true 13,oG 15 10 true (.bin .add 3 (oO 12) (oO 14)),oD 16 10 true 2,oG 17 10 true (.bin .leq 3 (oO 15) (oO 16)),oP 18 10 17] [3,4,6,18] (oI 18 (oS (.draw 999 [6,12,13,102,105,106,112,113,205,206,212,213,304,305,306,312,313,405,406,412,413,506,512,513,612,613,708,711,713,811,813,910,911,913,1011,1013,1113,1213] [o5 19 10 4,oF 20 2 4,oL 21 20,oF 22 2 3,oL 23 22,oB 24 .add 3 21 (oO 23),oC 25 142 [oO 19,oN 0,oO 24],oF 26 2 4,oL 27 26,oF 28 2 3,oL 29 28,oB 30 .add 3 27 (oO 29),oW 10 6 25,oT 7 (.mv (oO 30))]) (oK [6,7] .ret)))) (oK [4,6] (oX [o5 31 10 4,oC 32 65 [oO 31],oW 10 6 32,oV 7 (-1)] [6,7] .ret)))
def rv110 : List RV:=[.cell 6 true 10,.tmp 7]
theorem is110 : FnIs Tryz.prog 110 33 c110 rv110:=⟨⟨Tryz.f110,_,Tryz.func110,by kernel_rfl,rfl,rfl,by kernel_rfl,by kernel_rfl⟩,by decide⟩
def c142l1 : AC:=oS (oX [oM 20 10,oF 21 9 3,oL 22 21,oM 23 9,oA 24 (.iaddr 1 o0 (oO 22) (oO 23)),oL 25 24,o4 26 25,oB 27 .lss 3 20 (oO 26)] [1,2,3,6,7,8,9,10,27] (.cond (oO 27) .skip (.exit 2))) (oK [1,2,3,6,7,8,9,10] (oS (.block 3 (oR [oM 30 8,oF 31 9 3,oL 32 31,oM 33 9,oA 34 (.iaddr 1 o0 (oO 32) (oO 33)),oL 35 34,oM 36 10,oA 37 (.iaddr 1 o1 (oO 35) (oO 36)),oL 38 37,oC 39 163 [oO 30,oO 38],oM 8 39])) (oK [1,2,3,6,7,8,9,10] (oR [oM 28 10,oB 29 .add 3 28 (oN 1),oM 10 29]))))
def c142l2 : AC:=oS (oX [oM 13 9,oF 14 9 3,oL 15 14,o4 16 15,oB 17 .lss 3 13 (oO 16)] [1,2,3,6,7,8,9,17] (.cond (oO 17) .skip (.exit 0))) (oK [1,2,3,6,7,8,9] (oS (.block 1 (oS (oX [oV 10 0] [1,2,3,6,7,8,9,10] (.block 2 (.loop c142l1))) (oK [1,2,3,6,7,8,9] (oR [oF 40 9 7,oL 41 40,oM 42 9,oA 43 (.iaddr 1 o0 (oO 41) (oO 42)),oY false 1 (oO 43) (.const (.slice none 0 0))])))) (oK [1,2,3,6,7,8,9] (oR [oM 18 9,oB 19 .add 3 18 (oN 1),oM 9 19]))))
def c142 : AC:=oX [o7 3 0,oA 6 (.alloc oZ)] [1,2,3,6] (oX [o5 11 10 3,oC 12 65 [oO 11],oA 7 (.alloc oZ),oW 10 7 12] [1,2,3,6,7] (oX [oA 8 (.mv (.const (.slice none 0 0)))] [1,2,3,6,7,8] (oS (oX [oV 9 0] [1,2,3,6,7,8,9] (.block 0 (.loop c142l2))) (oK [1,2,3,6,7,8] (oS (.draw 6 [0,1,2] [oF 44 9 7,oL 45 44,oA 46 (.mvs (oO 1)),oM 47 8,oF 48 8 3,oL 49 48,oT 50 (.call (.func 164) [oO 47,oO 49]),oT 51 (.iaddr 1 o0 (oO 45) (oO 46)),⟨none,none,.store false 1 (oO 51) (oO 50),true⟩]) (oK [1,2,6,7] (oX [oM 52 2,oM 53 1,oM 54 1,oF 55 1 7,oY false 1 (oO 55) (oN 0),oF 56 2 7,oW 1 56 52,oF 57 3 7,oW 1 57 53,oF 58 6 7,oW 1 58 54] [6,7] (oX [oF 59 4 7,oY false 1 (oO 59) (oN (-1)),oF 60 5 7,oY false 1 (oO 60) (oN (-1))] [6,7] (oX [o5 61 10 7,oW 10 6 61] [6] .ret)))))))))
def rv142 : List RV:=[.cell 6 true 10]
theorem is142 : FnIs Tryz.prog 142 62 c142 rv142:=⟨⟨Tryz.f142,_,Tryz.func142,by kernel_rfl,rfl,rfl,by kernel_rfl,by kernel_rfl⟩,by decide⟩
def c163l1 : AC:=oS (oX [oM 7 6,oM 8 0,o4 9 8,oB 10 .lss 3 7 (oO 9),oM 11 10,oD 12 11 true 0,oD 13 11 true 6,oG 14 11 true (.iaddr 1 o1 (oO 12) (oO 13)),oJ 15 11 true 14,oD 16 11 true 1,oG 17 11 true (.bin .lss 3 (oO 15) (oO 16)),oP 18 11 17] [0,1,5,6,18] (.cond (oO 18) .skip (.exit 0))) (oK [0,1,5,6] (.block 1 (oX [oM 19 5,oM 20 0,oM 21 6,oA 22 (.iaddr 1 o1 (oO 20) (oO 21)),oL 23 22,oA 24 (.mkSl false 3 1 o1 1 [(0,oO 23)]),oA 25 (.app 24 3 1 8 o1 (oO 19) (oO 24)),oM 5 25] [0,1,5,6] (oR [oM 26 6,oB 27 .add 3 26 (oN 1),oM 6 27]))))
def c163 : AC:=oX [oA 4 (.mv (.const (.slice none 0 0)))] [0,1] (oX [oA 5 (.mv (.const (.slice none 0 0)))] [0,1,5] (.nilrow 5 1 3 (oX [oV 6 0] [0,1,5,6] (oS (.block 0 (.loop c163l1)) (oK [0,1,5,6] (oS (.draw 3 [4,5,6] [oM 28 5,oA 29 (.mvs (oO 1)),oA 30 (.mkSl false 3 1 o1 1 [(0,oO 29)]),oT 31 (.app 24 3 1 8 o1 (oO 28) (oO 30)),oM 32 0,oM 33 6,oA 34 (.ssl 1 (oO 32) (some (oO 33)) none none),oT 35 (.app 24 3 1 8 o1 (oO 31) (oO 34)),oT 4 (.mv (oO 35))]) (oK [4] .ret)))))))
def rv163 : List RV:=[.tmp 4]
theorem is163 : FnIs Tryz.prog 163 36 c163 rv163:=⟨⟨Tryz.f163,_,Tryz.func163,by kernel_rfl,rfl,rfl,by kernel_rfl,by kernel_rfl⟩,by decide⟩
def c164l1 : AC:=oS (oX [oM 7 6,oM 8 0,o4 9 8,oB 10 .lss 3 7 (oO 9)] [0,1,5,6,10] (.cond (oO 10) .skip (.exit 0))) (oK [0,1,5,6] (oS (.block 1 (oX [oM 13 0,oM 14 6,oA 15 (.iaddr 1 o1 (oO 13) (oO 14)),oL 16 15,oM 17 1,oB 18 .geq 3 16 (oO 17)] [0,1,5,6,18] (oI 18 (oR [oM 19 5,oM 20 0,oM 21 6,oA 22 (.iaddr 1 o1 (oO 20) (oO 21)),oL 23 22,oA 24 (.mkSl false 3 1 o1 1 [(0,oO 23)]),oA 25 (.app 24 3 1 8 o1 (oO 19) (oO 24)),oM 5 25])))) (oK [0,1,5,6] (oR [oM 11 6,oB 12 .add 3 11 (oN 1),oM 6 12]))))
def c164 : AC:=oX [oA 4 (.mv (.const (.slice none 0 0)))] [0,1] (oX [oA 5 (.mv (.const (.slice none 0 0)))] [0,1,5] (.nilrow 5 1 3 (oS (oX [oV 6 0] [0,1,5,6] (.block 0 (.loop c164l1))) (oK [5] ((oX [oM 26 5,oM 4 26] [4] .ret))))))
def rv164 : List RV:=[.tmp 4]
theorem is164 : FnIs Tryz.prog 164 27 c164 rv164:=⟨⟨Tryz.f164,_,Tryz.func164,by kernel_rfl,rfl,rfl,by kernel_rfl,by kernel_rfl⟩,by decide⟩
def c152k1 : AC:=oX [o5 18 10 4,oC 19 116 [oO 18],oB 20 .geq 3 19 (oN 60),oM 21 20,oE 22 21 false 7 4,oJ 23 21 false 22,oG 24 21 false (.bin .geq 3 (oO 23) (oN 1000000)),oH 25 21 24] [25] (oI 25 (oX [oV 6 16] [6] .ret))
def c152k2 : AC:=oS (oX [o5 28 10 4,oC 29 112 [oO 28]] [4,7,29] (oI 29 (oX [oM 30 7,oM 6 30] [6] .ret))) (oK [4] (oS (oX [oF 31 9 4,oL 32 31,oF 33 3 4,oL 34 33,oA 35 (.iaddr 1 o0 (oO 32) (oO 34)),oL 36 35,o4 37 36,oB 38 .eql 3 37 (oN 0)] [4,38] (oI 38 (oX [oV 6 12] [6] .ret))) (oK [4] (oS (oQ [oF 39 9 4,oL 40 39,oF 41 3 4,oL 42 41,oA 43 (.iaddr 1 o0 (oO 40) (oO 42)),oL 44 43,oA 45 (.iaddr 1 o1 (oO 44) (oN 0)),oL 46 45,oF 47 8 4,oL 48 47,oT 49 (.bin .gtr 3 (oO 46) (oO 48))]) (oK [49] (oI 49 (oX [oV 6 14] [6] .ret)))))))
def c152k3 : AC:=oX [o5 52 10 4,oC 53 112 [oO 52]] [7,53] (oI 53 (oX [oM 54 7,oM 6 54] [6] .ret))
def c152k4 : AC:=oS (oX [oF 57 1 4,oL 58 57,oB 59 .neq 3 58 (oN 0)] [3,4,5,7,8,59] (oI 59 (oX [oM 60 7,oM 6 60] [6] .ret))) (oK [3,4,5,8] (oS (oX [oM 61 8] [3,4,5,61] (oI 61 (oX [oV 6 17] [6] .ret))) (oK [3,4,5] (oX [o5 62 3 3,oF 63 2 5,oL 64 63,oF 65 3 4,oL 66 65,oC 67 115 [oO 62,oO 64,oO 66],oA 68 (.un .not (oO 67))] [68] (oI 68 (oX [oV 6 6] [6] .ret))))))
def c152k5 : AC:=oX [oF 72 1 4,oL 73 72,oB 74 .neq 3 73 (oN 1)] [7,74] (oI 74 (oX [oM 75 7,oM 6 75] [6] .ret))
def c152k6 : AC:=oX [oF 78 1 4,oL 79 78,oB 80 .neq 3 79 (oN 2)] [7,80] (oI 80 (oX [oM 81 7,oM 6 81] [6] .ret))
def c152k7 : AC:=oS (oX [oF 84 1 4,oL 85 84,oB 86 .neq 3 85 (oN 2),oM 87 86,oE 88 87 true 1 4,oJ 89 87 true 88,oG 90 87 true (.bin .neq 3 (oO 89) (oN 0)),oD 91 87 true 90,oD 92 91 false 8,oG 93 91 false (.un .not (oO 92)),oG 94 87 true (.pick (oO 91) (.const (.bool true)) (oO 93)),oP 95 87 94] [4,7,95] (oI 95 (oX [oM 96 7,oM 6 96] [6] .ret))) (oK [4] (oX [o5 98 10 4,oC 99 167 [oO 98],oM 97 99,o8 100 97 0,o8 101 97 1,oM 9 100,oM 10 101] [4,9] (oX [oF 102 9 4,oL 103 102,oM 104 9,oA 105 (.iaddr 1 o0 (oO 103) (oO 104)),oL 106 105,o4 107 106,oB 108 .eql 3 107 (oN 0)] [108] (oI 108 (oX [oV 6 12] [6] .ret)))))
def c152k8 : AC:=oS (oX [oM 111 8,oA 112 (.un .not (oO 111))] [4,7,112] (oI 112 (oX [oV 6 12] [6] .ret))) (oK [4,7] (oS (oX [oF 113 1 4,oL 114 113,oB 115 .eql 3 114 (oN 3)] [4,7,115] (oI 115 (oX [oM 116 7,oM 6 116] [6] .ret))) (oK [4] (oX [oF 117 6 4,oL 118 117,oF 119 3 4,oL 120 119,oB 121 .eql 3 118 (oO 120)] [121] (oI 121 (oX [oV 6 26] [6] .ret))))))
def c152k9 : AC:=oX [oF 124 1 4,oL 125 124,oB 126 .eql 3 125 (oN 3)] [7,126] (oI 126 (oX [oM 127 7,oM 6 127] [6] .ret))
def c152k10 : AC:=oS (oX [oF 130 1 4,oL 131 130,oB 132 .neq 3 131 (oN 3)] [4,5,7,8,132] (oI 132 (oX [oM 133 7,oM 6 133] [6] .ret))) (oK [4,5,8] (oX [oF 134 2 5,oL 135 134,oF 136 3 4,oL 137 136,oB 138 .neq 3 135 (oO 137),oM 139 138,oE 140 139 true 4 4,oJ 141 139 true 140,oG 142 139 true (.bin .eql 3 (oO 141) (oN (-1))),oD 143 139 true 142,oE 144 143 false 2 5,oJ 145 143 false 144,oE 146 143 false 4 4,oJ 147 143 false 146,oG 148 143 false (.bin .neq 3 (oO 145) (oO 147)),oG 149 139 true (.pick (oO 143) (.const (.bool true)) (oO 148)),oP 150 139 149,oM 151 150,oD 152 151 true 8,oG 153 151 true (.un .not (oO 152)),oD 154 151 true 153,oE 155 154 false 2 5,oJ 156 154 false 155,oE 157 154 false 5 4,oJ 158 154 false 157,oG 159 154 false (.bin .neq 3 (oO 156) (oO 158)),oG 160 151 true (.pick (oO 154) (.const (.bool true)) (oO 159)),oP 161 151 160] [161] (oI 161 (oX [oV 6 6] [6] .ret))))
def c152 : AC:=oX [o7 3 0,o7 4 1,o7 5 2,oV 6 0] [3,4,5] (oX [oV 7 22] [3,4,5,7] (oX [oF 11 5 4,oL 12 11,oB 13 .neq 3 12 (oN (-1)),oM 8 13] [3,4,5,7,8] (oS (oX [oF 14 0 5,oL 15 14] [3,4,5,7,8,15] (.block 0 (oX [oB 17 .eql 3 15 (oN 0),oM 16 17] [3,4,5,7,8,15,16] (.cond (oO 16) (.cut c152k1) (oX [oB 27 .eql 3 15 (oN 1),oM 26 27] [3,4,5,7,8,15,26] (.cond (oO 26) (.cut c152k2) (oX [oB 51 .eql 3 15 (oN 2),oM 50 51] [3,4,5,7,8,15,50] (.cond (oO 50) (.cut c152k3) (oX [oB 56 .eql 3 15 (oN 3),oM 55 56] [3,4,5,7,8,15,55] (.cond (oO 55) (.cut c152k4) (oS (oX [oB 70 .eql 3 15 (oN 4),oM 69 70] [4,5,7,8,15,69] (.cond (oO 69) .skip (oR [oB 71 .eql 3 15 (oN 5),oM 69 71]))) (oK [4,5,7,8,15,69] (.cond (oO 69) (.cut c152k5) (oX [oB 77 .eql 3 15 (oN 6),oM 76 77] [4,5,7,8,15,76] (.cond (oO 76) (.cut c152k6) (oX [oB 83 .eql 3 15 (oN 7),oM 82 83] [4,5,7,8,15,82] (.cond (oO 82) (.cut c152k7) (oX [oB 110 .eql 3 15 (oN 8),oM 109 110] [4,5,7,8,15,109] (.cond (oO 109) (.cut c152k8) (oX [oB 123 .eql 3 15 (oN 9),oM 122 123] [4,5,7,8,15,122] (.cond (oO 122) (.cut c152k9) (oX [oB 129 .eql 3 15 (oN 10),oM 128 129] [4,5,7,8,128] (oI 128 (.cut c152k10)))))))))))))))))))))))) (oK [] (oX [oV 6 0] [6] .ret)))))
def rv152 : List RV:=[.tmp 6]
theorem is152 : FnIs Tryz.prog 152 162 c152 rv152:=⟨⟨Tryz.f152,_,Tryz.func152,by kernel_rfl,rfl,rfl,by kernel_rfl,by kernel_rfl⟩,by decide⟩
def c153k1 : AC:=oS (oQ [oF 32 9 2,oL 33 32,oF 34 3 2,oL 35 34,oA 36 (.iaddr 1 o0 (oO 33) (oO 35)),oL 37 36,oA 38 (.iaddr 1 o1 (oO 37) (oN 0)),oL 39 38,oF 40 8 2,oL 41 40,oT 42 (.bin .eql 3 (oO 39) (oO 41))]) (oK [2,4,42] (oI 42 (oR [oF 43 8 2,oL 44 43,oB 45 .add 3 44 (oN 1),oF 46 8 2,oW 1 46 45])))
def c153k2 : AC:=oX [o5 101 10 2,oC 102 167 [oO 101],oM 100 102,o8 103 100 0,o8 104 100 1,oM 5 103,oM 6 104] [2,4,5,6] (oS (.draw 999 [1,16,17,116,117,216,217,304,306,307,315,316,317,406,407,415,416,417,506,507,515,516,517,607,615,616,617,715,716,717,809,811,812,813,814,815,816,817,911,912,913,914,915,916,917,1011,1012,1013,1014,1015,1016,1017,1112,1113,1114,1115,1116,1117,1213,1214,1215,1216,1217,1314,1315,1316,1317,1415,1416,1417,1516,1517,1617] [oF 105 9 2,oL 106 105,oA 107 (.mvs (oO 6)),oF 108 9 2,oL 109 108,oA 110 (.mvs (oO 6)),oA 111 (.iaddr 1 o0 (oO 109) (oO 110)),oL 112 111,oF 113 9 2,oL 114 113,oM 115 5,oA 116 (.iaddr 1 o0 (oO 114) (oO 115)),oL 117 116,oA 118 (.iaddr 1 o1 (oO 117) (oN 0)),oL 119 118,oC 120 163 [oO 112,oO 119],oT 121 (.iaddr 1 o0 (oO 106) (oO 107)),⟨none,none,.store false 1 (oO 121) (oO 120),true⟩]) (oK [2,4,5] (.draw 999 [1,10,11,110,111,210,211,304,306,307,308,309,310,311,406,407,408,409,410,411,506,507,508,509,510,511,607,608,609,610,611,708,709,710,711,809,810,811,910,911,1011] [oF 122 9 2,oL 123 122,oA 124 (.mvs (oO 5)),oF 125 9 2,oL 126 125,oM 127 5,oA 128 (.iaddr 1 o0 (oO 126) (oO 127)),oL 129 128,oA 130 (.ssl 1 (oO 129) (some (oN 1)) none none),oC 131 24 [oO 130],oT 132 (.iaddr 1 o0 (oO 123) (oO 124)),⟨none,none,.store false 1 (oO 132) (oO 131),true⟩])))
def c153k3 : AC:=oS (oX [oF 140 1 2,oL 141 140,oB 142 .neq 3 141 (oN 2)] [2,3,4,142] (oI 142 (oR [oF 143 1 3,oL 144 143,oF 145 2 2,oW 1 145 144]))) (oK [2,4] (oR [oF 146 1 2,oY false 1 (oO 146) (oN 3)]))
def c153k4 : AC:=oX [o5 149 10 2,oF 150 2 3,oL 151 150,oF 152 1 3,oL 153 152,oC 154 142 [oO 149,oO 151,oO 153],oW 10 4 154] [4] .ret
def c153k5 : AC:=oX [o5 155 10 2,oC 156 168 [oO 155],oW 10 4 156] [4] .ret
def c153 : AC:=oX [o7 2 0,o7 3 1,oA 4 (.alloc oZ)] [2,3,4] (oS (oX [oF 7 0 3,oL 8 7] [2,3,4,8] (.block 0 (oX [oB 10 .eql 3 8 (oN 0),oM 9 10] [2,3,4,8,9] (.cond (oO 9) (oS (.draw 13 [0,1,2,3] [oF 11 9 2,oL 12 11,oF 13 6 2,oL 14 13,oF 15 9 2,oL 16 15,oF 17 6 2,oL 18 17,oA 19 (.iaddr 1 o0 (oO 16) (oO 18)),oL 20 19,oF 21 7 2,oL 22 21,oA 23 (.mkSl false 3 1 o1 1 [(0,oO 22)]),oT 24 (.app 24 3 1 8 o1 (oO 20) (oO 23)),oT 25 (.iaddr 1 o0 (oO 12) (oO 14)),⟨none,none,.store true 1 (oO 25) (oO 24),true⟩]) (oK [2,4] (oR [oF 26 7 2,oL 27 26,oB 28 .add 3 27 (oN 1),oF 29 7 2,oW 1 29 28]))) (oX [oB 31 .eql 3 8 (oN 1),oM 30 31] [2,3,4,8,30] (.cond (oO 30) (.cut c153k1) (oX [oB 48 .eql 3 8 (oN 2),oM 47 48] [2,3,4,8,47] (.cond (oO 47) (.draw 999 [1,13,14,113,114,203,213,214,313,314,405,408,409,412,413,414,508,509,512,513,514,607,608,609,612,613,614,708,709,712,713,714,809,812,813,814,912,913,914,1011,1012,1013,1014,1112,1113,1114,1213,1214,1314] [oF 49 9 2,oL 50 49,oF 51 3 2,oL 52 51,oF 53 9 2,oL 54 53,oF 55 3 2,oL 56 55,oA 57 (.iaddr 1 o0 (oO 54) (oO 56)),oL 58 57,oF 59 8 2,oL 60 59,oC 61 164 [oO 58,oO 60],oT 62 (.iaddr 1 o0 (oO 50) (oO 52)),⟨none,none,.store false 1 (oO 62) (oO 61),true⟩]) (oX [oB 64 .eql 3 8 (oN 3),oM 63 64] [2,3,4,8,63] (.cond (oO 63) (.draw 999 [1,6,7,8,9,106,107,108,109,203,208,209,308,309,405,406,407,408,409,506,507,508,509,607,608,609,708,709,809] [oF 65 1 3,oL 66 65,oF 67 2 3,oL 68 67,oF 69 1 2,oY false 1 (oO 69) (oN 1),oF 70 2 2,oW 1 70 66,oT 71 (.faddr 4 (oO 2)),⟨none,none,.store false 1 (oO 71) (oO 68),true⟩]) (oX [oB 73 .eql 3 8 (oN 4),oM 72 73] [2,3,4,8,72] (.cond (oO 72) (.draw 999 [1,4,5,6,7,104,105,106,107,203,204,205,206,207,304,305,306,307,405,406,407,506,507,607] [oF 74 1 3,oL 75 74,oF 76 1 2,oY false 1 (oO 76) (oN 0),oT 77 (.faddr 2 (oO 2)),⟨none,none,.store false 1 (oO 77) (oO 75),true⟩,oT 78 (.faddr 4 (oO 2)),⟨none,none,.store false 1 (oO 78) (oN (-1)),true⟩]) (oX [oB 80 .eql 3 8 (oN 5),oM 79 80] [2,3,4,8,79] (.cond (oO 79) (.draw 999 [1,4,5,104,105,203,204,205,304,305,405] [oF 81 1 3,oL 82 81,oF 83 1 2,oY false 1 (oO 83) (oN 2),oT 84 (.faddr 2 (oO 2)),⟨none,none,.store false 1 (oO 84) (oO 82),true⟩]) (oX [oB 86 .eql 3 8 (oN 6),oM 85 86] [2,3,4,8,85] (.cond (oO 85) (oS (.draw 999 [1,4,5,104,105,203,204,205,304,305,405] [oF 87 1 3,oL 88 87,oF 89 1 2,oY false 1 (oO 89) (oN 0),oT 90 (.faddr 2 (oO 2)),⟨none,none,.store false 1 (oO 90) (oO 88),true⟩]) (oK [2,4] (oR [oF 91 3 2,oL 92 91,oF 93 4 2,oL 94 93,oF 95 5 2,oW 1 95 92,oF 96 3 2,oW 1 96 94,oF 97 4 2,oY false 1 (oO 97) (oN (-1))]))) (oX [oB 99 .eql 3 8 (oN 7),oM 98 99] [2,3,4,8,98] (.cond (oO 98) (.cut c153k2) (oX [oB 134 .eql 3 8 (oN 8),oM 133 134] [2,3,4,8,133] (.cond (oO 133) (oR [oF 135 3 2,oL 136 135,oF 137 6 2,oW 1 137 136]) (oX [oB 139 .eql 3 8 (oN 9),oM 138 139] [2,3,4,8,138] (.cond (oO 138) (.cut c153k3) (oX [oB 148 .eql 3 8 (oN 10),oM 147 148] [2,3,4,147] (oI 147 (.cut c153k4))))))))))))))))))))))))) (oK [2,4] (.cut c153k5)))
def rv153 : List RV:=[.cell 4 true 10]
theorem is153 : FnIs Tryz.prog 153 157 c153 rv153:=⟨⟨Tryz.f153,_,Tryz.func153,by kernel_rfl,rfl,rfl,by kernel_rfl,by kernel_rfl⟩,by decide⟩
def c42l1 : AC:=oS (oX [oM 20 10,oM 21 2,o4 22 21,oB 23 .lss 3 20 (oO 22)] [2,3,6,9,10,23] (.cond (oO 23) .skip (.exit 0))) (oK [2,3,6,9,10] (oS (.block 1 (oS (.draw 999 [6,7,8,9,11,12,106,107,108,109,111,112,204,205,206,207,208,209,211,212,304,305,306,307,308,309,311,312,405,406,407,408,409,411,412,506,507,508,509,511,512,607,608,609,611,612,708,709,711,712,811,812,912,1011,1012,1112] [o5 27 3 3,o5 28 10 9,oM 29 2,oA 30 (.mvs (oO 10)),oA 31 (.iaddr 3 o3 (oO 29) (oO 30)),o5 32 3 31,oC 33 71 [oO 27,oO 28,oO 32],oM 26 33,o8 34 26 0,o8 35 26 1,oA 11 (.alloc oZ),oW 10 11 34,oT 12 (.mv (oO 35))]) (oK [2,3,6,9,10,11,12] (oS (oX [oM 36 12,oB 37 .neq 3 36 (oN 0)] [2,3,6,9,10,11,12,37] (oI 37 (oX [oA 38 (.build oZ []),oM 39 10,oM 40 12,oW 10 6 38,oM 7 39,oM 8 40] [6,7,8] .ret))) (oK [2,3,6,9,10,11] (oR [o5 41 10 11,oW 10 9 41])))))) (oK [2,3,6,9,10] (oR [oM 24 10,oB 25 .add 3 24 (oN 1),oM 10 25]))))
def c42 : AC:=oX [o7 3 0,oA 6 (.alloc oZ),oV 7 0,oV 8 0] [1,2,3,6] (oS (oX [oM 13 2,o4 14 13,oB 15 .gtr 3 14 (oN 200)] [1,2,3,6,15] (oI 15 (oX [oA 16 (.build oZ []),oW 10 6 16,oV 7 0,oV 8 8] [6,7,8] .ret))) (oK [1,2,3,6] (oX [o5 17 3 3,oM 18 1,oC 19 52 [oO 17,oO 18],oA 9 (.alloc oZ),oW 10 9 19] [2,3,6,9] (oS (oX [oV 10 0] [2,3,6,9,10] (.block 0 (.loop c42l1))) (oK [6,9] (oX [o5 42 10 9,oW 10 6 42,oV 7 0,oV 8 0] [6,7,8] .ret))))))
def rv42 : List RV:=[.cell 6 true 10,.tmp 7,.tmp 8]
theorem is42 : FnIs Tryz.prog 42 43 c42 rv42:=⟨⟨Tryz.f42,_,Tryz.func42,by kernel_rfl,rfl,rfl,by kernel_rfl,by kernel_rfl⟩,by decide⟩
end Go.Proofs.YtcbabnbiinkafaaGreatDoor.D7
end
section
open Go Go.Am
open Go.Am.Dat (cells)
namespace Go.Proofs.YtcbabnbiinkafaaGreatDoor.D8
set_option maxRecDepth 100000
def c55k1 : AC:=.ret
def c55k2 : AC:=.ret
def c55 : AC:=oX [o7 3 0,oA 6 (.mv (.const (.slice none 0 0))),oV 7 0] [1,2,3] (oX [o5 12 3 3,oM 13 1,oM 14 2,oC 15 97 [oO 12,oO 13,oO 14],oM 11 15,o8 16 11 0,o8 17 11 1,o8 18 11 2,oM 8 16,oM 9 17,oM 10 18] [8,10] (oS (oX [oM 19 10,oB 20 .neq 27 19 (oN 0)] [8,10,20] (oI 20 (oX [oM 21 10,oA 6 (.mv (.const (.slice none 0 0))),oM 7 21] [6,7] (.cut c55k1)))) (oK [8] (oX [oM 22 8,o6 23 22,oF 24 14 23,oL 25 24,oM 6 25,oV 7 0] [6,7] (.cut c55k2)))))
def rv55 : List RV:=[.tmp 6,.tmp 7]
theorem is55 : FnIs Tryz.prog 55 26 c55 rv55:=⟨⟨Tryz.f55,_,Tryz.func55,by kernel_rfl,rfl,rfl,by kernel_rfl,by kernel_rfl⟩,by decide⟩
end Go.Proofs.YtcbabnbiinkafaaGreatDoor.D8
end
section
open Go Go.Am
open Go.Am.Dat (cells)
namespace Go.Proofs.YtcbabnbiinkafaaGreatDoor.D9
set_option maxRecDepth 100000
def c58l1 : AC:=oS (oX [oM 21 11,oM 22 2,o4 23 22,oB 24 .lss 3 21 (oO 23)] [2,3,8,9,10,11,24] (.cond (oO 24) .skip (.exit 0))) (oK [2,3,8,9,10,11] (oS (.block 1 (oX [o5 27 10 10,oA 12 (.alloc oZ),oW 10 12 27] [2,3,8,9,10,11,12] (oS (.draw 999 [7,8,9,10,12,13,107,108,109,110,112,113,204,205,206,207,208,209,210,212,213,304,305,306,307,308,309,310,312,313,405,406,407,408,409,410,412,413,506,507,508,509,510,512,513,607,608,609,610,612,613,708,709,710,712,713,809,810,812,813,912,913,1013,1112,1113,1213] [o5 29 3 3,o5 30 10 10,oM 31 2,oA 32 (.mvs (oO 11)),oA 33 (.iaddr 3 o3 (oO 31) (oO 32)),oF 34 1 33,oL 35 34,oC 36 110 [oO 29,oO 30,oO 35],oM 28 36,o8 37 28 0,o8 38 28 1,oA 13 (.alloc oZ),oW 10 13 37,oT 14 (.mv (oO 38))]) (oK [2,3,8,9,10,11,12,13,14] (oS (oX [oM 39 14,oB 40 .geq 3 39 (oN 0)] [2,3,8,9,10,11,12,13,14,40] (oI 40 (oX [oM 41 9,oM 42 9,o4 43 42,oB 44 .sub 3 43 (oN 1),oM 45 14,oA 46 (.iaddr 2 o2 (oO 41) (oO 44)),oF 47 1 46,oW 1 47 45] [2,3,8,9,10,11,12,13,14] (oX [oM 48 8,oF 49 3 10,oL 50 49,oF 51 3 13,oL 52 51,oM 53 14,oC 54 111 [oO 48,oO 50,oO 52,oO 53],oM 8 54] [2,3,8,9,10,11,12,13] (oR [o5 55 10 13,oW 10 12 55]))))) (oK [2,3,8,9,10,11,12] (oS (.draw 999 [6,7,8,9,10,106,107,108,109,110,204,205,206,207,208,209,210,304,305,306,307,308,309,310,405,406,407,408,409,410,506,507,508,509,510,607,608,609,610,708,709,710,810] [o5 57 3 3,o5 58 10 10,oM 59 2,oM 60 11,oA 61 (.iaddr 3 o3 (oO 59) (oO 60)),o5 62 3 61,oT 63 (.call (.func 71) [oO 57,oO 58,oO 62]),oT 56 (.mv (oO 63)),o8 64 56 0,o8 65 56 1,oW 10 10 64]) (oK [2,3,8,9,10,11,12] (oS (oX [o5 66 10 12,oC 67 112 [oO 66],oA 68 (.un .not (oO 67)),oM 69 68,oG 70 69 true (.load true 10 (oO 10)),oG 71 69 true (.call (.func 112) [oO 70]),oP 72 69 71] [2,3,8,9,10,11,12,72] (oI 72 (oR [oM 73 9,oM 74 2,oM 75 11,oA 76 (.iaddr 3 o3 (oO 74) (oO 75)),oF 77 1 76,oL 78 77,oA 79 (.build o2 [(0,1,oO 78)]),oA 80 (.mkSl false 93 2 o2 1 [(0,oO 79)]),oA 81 (.app 89 93 2 16 o2 (oO 73) (oO 80)),oM 9 81]))) (oK [2,3,8,9,10,11,12] (oS (oX [o5 82 10 12,oC 83 112 [oO 82],oM 84 83,oG 85 84 true (.load true 10 (oO 10)),oG 86 84 true (.call (.func 112) [oO 85]),oG 87 84 true (.un .not (oO 86)),oP 88 84 87] [2,3,8,9,10,11,12,88] (oI 88 (oR [oM 89 9,oM 90 9,o4 91 90,oB 92 .sub 3 91 (oN 1),oM 93 2,oM 94 11,oA 95 (.iaddr 3 o3 (oO 93) (oO 94)),oF 96 1 95,oL 97 96,oA 98 (.iaddr 2 o2 (oO 89) (oO 92)),oF 99 1 98,oW 1 99 97]))) (oK [2,3,8,9,10,11,12] (oQ [oM 100 8,oF 101 3 12,oL 102 101,oF 103 3 10,oL 104 103,oM 105 2,oM 106 11,oA 107 (.iaddr 3 o3 (oO 105) (oO 106)),oF 108 1 107,oL 109 108,oT 110 (.call (.func 111) [oO 100,oO 102,oO 104,oO 109]),oT 8 (.mv (oO 110))]))))))))))))) (oK [2,3,8,9,10,11] (oR [oM 25 11,oB 26 .add 3 25 (oN 1),oM 11 26]))))
def c58 : AC:=oX [o7 3 0,oA 6 (.mv (.const (.slice none 0 0))),oA 7 (.mv (.const (.slice none 0 0)))] [1,2,3] (oX [oM 15 1,oA 16 (.build o3 [(0,1,oO 15)]),oA 17 (.mkSl true 138 3 o3 1 [(0,oO 16)]),oM 8 17] [1,2,3,8] (oX [oA 9 (.mv (.const (.slice none 0 0)))] [1,2,3,8,9] (.nilrow 9 2 93 (oX [o5 18 3 3,oM 19 1,oC 20 52 [oO 18,oO 19],oA 10 (.alloc oZ),oW 10 10 20] [2,3,8,9,10] (oS (oX [oV 11 0] [2,3,8,9,10,11] (.block 0 (.loop c58l1))) (oK [8,9,10] (oX [oM 111 8,oM 112 8,o4 113 112,oB 114 .sub 3 113 (oN 1),oF 115 0 10,oL 116 115,oA 117 (.iaddr 3 o3 (oO 111) (oO 114)),oF 118 2 117,oW 1 118 116] [8,9,10] (oS (oX [o5 119 10 10,oC 120 112 [oO 119]] [8,9,10,120] (oI 120 (oR [oM 121 9,oM 122 9,o4 123 122,oB 124 .sub 3 123 (oN 1),oF 125 0 10,oL 126 125,oA 127 (.iaddr 2 o2 (oO 121) (oO 124)),oF 128 1 127,oW 1 128 126]))) (oK [8,9] (.fz [8,9] (oX [oM 129 8,oM 130 9,oM 6 129,oM 7 130] [6,7] .ret)))))))))))
def rv58 : List RV:=[.tmp 6,.tmp 7]
theorem is58 : FnIs Tryz.prog 58 131 c58 rv58:=⟨⟨Tryz.f58,_,Tryz.func58,by kernel_rfl,rfl,rfl,by kernel_rfl,by kernel_rfl⟩,by decide⟩
end Go.Proofs.YtcbabnbiinkafaaGreatDoor.D9
end
section
open Go Go.Am
open Go.Am.Dat (cells)
namespace Go.Proofs.YtcbabnbiinkafaaGreatDoor
set_option maxHeartbeats 4000000
set_option maxRecDepth 100000
def cnt (p:Nat->Bool):Nat->Nat
 | 0=>0
 | t+1=>if p t then cnt p t+1 else 0
theorem yR (p:Nat->Bool):∀ (t m:Nat),m < cnt p t↔(m < t/\∀ k,k < t->t<=k+m+1->p k=true)
 | 0,m=>by simp[cnt]
 | t+1,m=>by
  rw[cnt];cases hp:p t with
  | false=>
   simp only[zr,if_false,Nat.not_lt_zero,false_iff,not_and];intro h1 h2;have:=h2 t (by omega) (by omega);rw[hp]at this;cases this
  | true=>
   simp only[if_true];cases m with
   | zero=>
    constructor
    . intro _;refine⟨by omega,fun k h1 h2=>?_⟩;have:k=t:=by omega
      rw[this];exact hp
    . intro _;omega
   | succ m=>
    have ih:=yR p t m;constructor
    . intro h;obtain⟨g1,g2⟩:=ih.1 (by omega);refine⟨by omega,fun k h1 h2=>?_⟩;by_cases hk:k=t
      . rw[hk];exact hp
      . exact g2 k (by omega) (by omega)
    . intro h;have:=ih.2 ⟨by omega,fun k h1 h2=>h.2 k (by omega) (by omega)⟩;omega
theorem Aq (p:Nat->Bool) (t:Nat):((cnt p (t+1):Nat):Int)=if p t then (cnt p t:Int)+1 else 0:=by
 rw[cnt];split <;> simp
theorem yU (n:Nw) (a b:Int) (h:NwS n):FC Tryz.prog 115 [enc n,enc a,enc b] [] (enc (nbr n a b)) []:=by
 have hb:=h.b;generalize hB:nbr n a b=B;refine dD [] is115 (by simp) trivial trivial trivial trivial (fun cx _ hl _=>dC [] 800 ?_);delta c115 oS oK oV oX o7 o9;simp (maxSteps:=9^7) -implicitDefEqProofs only[Aj,ed,WU,Ent.of0,Ent.of1,Ent.of2,Ent.of3,Ent.of4,V,W3,↓reduceIte,seval,reduceCtorEq];refine eN n.nb.length (fun i=>[(7,.s (.int .i64 (i:Int)))]) (fun _=>[]) (fun i=>B=(n.nb.drop i).any fun x=>decide (x=⟨min a b,max a b⟩)) (by rw[<- hB];rfl) ?_ (fun i hi hv=>dC [] 800 ?_)
 . simp (maxSteps:=9^7) -implicitDefEqProofs only[Ent.of0,Ent.of1,Ent.of2,Ent.of3,Ent.of4,V,W3,↓reduceIte,seval,reduceCtorEq]
   all_goals simp
 . by_cases h5:i < n.nb.length
   . have hi2:(i:Int) < (n.nb.length:Int):=by omega
     have hi0:(0:Int)<=i:=by omega
     have hgd:=p8 (n.nb.getD i ⟨0,0⟩) ⟨min a b,max a b⟩;rw[eg ⟨0,0⟩ h5,List.any_cons]at hv;cases hx:decide (n.nb.getD i ⟨0,0⟩=(⟨min a b,max a b⟩:Gs))
     all_goals
      rw[hx]at hgd hv;simp only[yz,zF]at hv;delta An oO oN oA oM oR oS oK oF oL oI oX oB o2 o4 o5 o9;simp (maxSteps:=9^7) -implicitDefEqProofs only[Aj,hi2,hi0,h5,hgd,InR,not_true_eq_false,WU,Ent.of0,Ent.of1,Ent.of2,Ent.of3,Ent.of4,V,W3,↓reduceIte,seval,reduceCtorEq];rw[show (if b < a then b else a)=min a b by omega,show (if b > a then b else a)=max a b by omega,hgd];simp only[if_true,zr,if_false]
      first | exact hv.symm | exact⟨by omega,hv,by omega⟩
   . have hi2:¬ (i:Int) < (n.nb.length:Int):=by omega
     rw[zv (by omega)]at hv;delta An oO oN oA oM oR oS oK oF oL oI oX oB o2 o4 o5 o9;simp (maxSteps:=9^7) -implicitDefEqProofs only[Aj,hi2,WU,Ent.of0,Ent.of1,Ent.of2,Ent.of3,Ent.of4,V,W3,↓reduceIte,seval,reduceCtorEq]
     try simp[hv]
def Ba : Ent Tryz.prog:=.of3 115 (fun n _ _=>NwS n) (fun (n:Nw) (a b:Int)=>enc (nbr n a b)) (fun _ _ _=>trivial) (fun n a b h=>yU n a b h)
def xE (n:Nw) (l:List T3):Int:=if l.length > 200 then 8 else stE n l 0 l
theorem AK (n:Nw) (l:List T3) (h:NwS n):FC Tryz.prog 47 [enc n,enc l] [] (enc (xE n l)) []:=by
 have hbc:=h.c;have hdn:=gO n;generalize hE:xE n l=e;refine dD [] is47 (by simp) trivial trivial trivial trivial (fun cx _ hl _=>dC [] 800 ?_);by_cases h1:200 < l.length
 . have h1':(200:Int) < (l.length:Int):=by omega
   have he:e=8:=by rw[<- hE,xE,if_pos (by omega)]
   delta c47 oN oM oS oK oV oI oX oB o4 o7;simp (maxSteps:=9^7) -implicitDefEqProofs only[rv47,hJ,gW,fK,ed,h1',he,not_true_eq_false,WU,Ent.of0,Ent.of1,Ent.of2,Ent.of3,Ent.of4,V,W3,↓reduceIte,seval,reduceCtorEq]
 have h1':¬ (200:Int) < (l.length:Int):=by omega
 have he:e=stE n l 0 l:=by rw[<- hE,xE,if_neg (by omega)]
 clear hE;delta c47 oN oM oS oK oV oI oX oB o4 o7;simp (maxSteps:=9^7) -implicitDefEqProofs only[rv47,hJ,gW,fK,ed,h1',not_true_eq_false,WU,Ent.of0,Ent.of1,Ent.of2,Ent.of3,Ent.of4,V,W3,↓reduceIte,seval,reduceCtorEq];refine eN l.length (fun i=>[(5,.s (.int .i64 (i:Int)))]) (fun _=>[]) (fun i=>e=stE n l i (l.drop i)) he ?_ (fun i hi hv=>dC [my,oa] 900 ?_)
 . simp (maxSteps:=9^7) -implicitDefEqProofs only[Ent.of0,Ent.of1,Ent.of2,Ent.of3,Ent.of4,V,W3,↓reduceIte,seval,reduceCtorEq]
   all_goals simp
 . by_cases h4:i < l.length
   . have hi2:(i:Int) < (l.length:Int):=by omega
     have hi0:(0:Int)<=i:=by omega
     rw[eg ⟨0,0,0⟩ h4,stE]at hv;have hok:(-9223372036854775808<=(i:Int)+1/\(i:Int)+1<=9223372036854775807):=by omega
     have hok2:(i:Int)+1=((i+1:Nat):Int):=by omega
     have htky:eM (l.getD i ⟨0,0,0⟩).y=decide (0<=(l.getD i ⟨0,0,0⟩).y/\(l.getD i ⟨0,0,0⟩).y<=1000000000):=rfl;have htkz:eM (l.getD i ⟨0,0,0⟩).z=decide (0<=(l.getD i ⟨0,0,0⟩).z/\(l.getD i ⟨0,0,0⟩).z<=1000000000):=rfl;unfold mJ at hv;rw[htky,htkz]at hv;clear htky htkz;cases i with
     | zero=>
      simp only[Nat.zero_sub,true_or,and_true,if_true]at hv;delta Ae oO oN oA oM oT oG oR oQ oS oK oF oL oV oC oW oI oX oH oB oD oE oJ o3 o4 o5;simp (maxSteps:=9^7) -implicitDefEqProofs only[my,oa,hdn,h,hJ,gW,fK,hi2,hi0,h4,z5,Int.toNat_zero,InR,Int.natCast_zero,not_true_eq_false,WU,Ent.of0,Ent.of1,Ent.of2,Ent.of3,Ent.of4,V,W3,↓reduceIte,seval,reduceCtorEq];have hpos:(0:Int) < (l.length:Int):=by omega
      rw[if_pos hpos];refine⟨hpos,?_⟩;generalize l.getD 0 ⟨0,0,0⟩=s at *;generalize stE n l (0+1) (List.drop (0+1) l)=X at *;have hlt:(s.z < s.y)=¬ (s.y<=s.z):=by rw[Int.not_le]
      cases hA:isC n s.x <;> rcases Classical.propComplete (0<=s.y/\s.y<=1000000000)with hY | hY <;> rcases Classical.propComplete (0<=s.z/\s.z<=1000000000)with hZ | hZ <;> rcases Classical.propComplete (s.y<=s.z)with hL | hL
      all_goals
       simp only[hA,hY,hZ,hlt,hL,decide_true,decide_false,Bool.not_true,Bool.not_false,zZ,yd,zY,z7,if_true,if_false,not_true_eq_false,not_false_eq_true,zr,ym,ne_eq,Int.reduceEq,reduceCtorEq]at hv ⊢
       first | exact hv.symm | exact hv
     | succ j=>
      have hm0:(0:Int)<=(j:Int):=by omega
      have hm1:(j:Int) < (l.length:Int):=by omega
      have hm2:j < l.length:=by omega
      have hm3:((j+1:Nat):Int) - 1=(j:Int):=by omega
      have hm4:(0:Int) < ((j+1:Nat):Int):=by omega
      simp only[Nat.add_sub_cancel,Nat.succ_ne_zero,false_or,if_false]at hv;delta Ae oO oN oA oM oT oG oR oQ oS oK oF oL oV oC oW oI oX oH oB oD oE oJ o3 o4 o5;simp (maxSteps:=9^7) -implicitDefEqProofs only[my,oa,hdn,h,hJ,gW,fK,hi2,hi0,h4,hm0,hm1,hm2,hm3,hm4,z5,InR,not_true_eq_false,WU,Ent.of0,Ent.of1,Ent.of2,Ent.of3,Ent.of4,V,W3,↓reduceIte,seval,reduceCtorEq];have hj:(-9223372036854775808<=(j:Int)/\(j:Int)<=9223372036854775807):=by omega
      generalize l.getD (j+1) ⟨0,0,0⟩=s at *;generalize l.getD j ⟨0,0,0⟩=p at *;generalize stE n l (j+1+1) (List.drop (j+1+1) l)=X at *;have hlt:(s.z < s.y)=¬ (s.y<=s.z):=by rw[Int.not_le]
      cases hA:isC n s.x <;> rcases Classical.propComplete (0<=s.y/\s.y<=1000000000)with hY | hY <;> rcases Classical.propComplete (0<=s.z/\s.z<=1000000000)with hZ | hZ <;> rcases Classical.propComplete (s.y<=s.z)with hL | hL <;> rcases Classical.propComplete (s.y=p.z)with hP | hP <;> rcases Classical.propComplete (s.x=p.x)with hQ | hQ
      all_goals
       simp only[hA,hY,hZ,hlt,hL,hP,hQ,decide_true,decide_false,Bool.not_true,Bool.not_false,zZ,yd,zY,z7,and_true,true_and,and_false,false_and,if_true,if_false,not_true_eq_false,not_false_eq_true,zr,ym,ne_eq,Int.reduceEq,reduceCtorEq]at hv ⊢
       first | exact hv.symm | exact⟨hj,hv.symm⟩ | exact⟨hj,hj,hv.symm⟩ | exact⟨hj,hj,hok,hv,hok2⟩
   . have hi2:¬ (i:Int) < (l.length:Int):=by omega
     rw[zv (by omega),stE]at hv;delta Ae oO oN oA oM oT oG oR oQ oS oK oF oL oV oC oW oI oX oH oB oD oE oJ o3 o4 o5;simp (maxSteps:=9^7) -implicitDefEqProofs only[my,oa,hi2,WU,Ent.of0,Ent.of1,Ent.of2,Ent.of3,Ent.of4,V,W3,↓reduceIte,seval,reduceCtorEq]
     try simp[hv]
def ent47 : Ent Tryz.prog:=.of2 47 (fun n _=>NwS n) (fun (n:Nw) (l:List T3)=>enc (xE n l)) (fun _ _=>trivial) (fun n l h=>AK n l h)
def btr (r:Rul) (s n:List Int) (k:Nat):Bool:=nG r (s.getD k 0) (n.getD k 0)
def ovk (r:Rul) (s n:List Int) (k:Nat):Bool:=over r (s.getD k 0) (n.getD k 0)
def GoodT (r:Rul) (s n:List Int):Option Int->List Int->Prop
 |_,[]=>True
 | prev,v :: l=>(r.trig<=v/\v<=(s.length:Int) - 1)/\(∀ k:Nat,v - r.trig<=(k:Int)->(k:Int)<=v->btr r s n k=true)/\(∀ u,prev=some u->u < v/\∃ k:Nat,u<=(k:Int)/\(k:Int) < v/\ovk r s n k=true)/\GoodT r s n (some v) l
theorem cnt_gt {r:Rul} {s n:List Int} {t:Nat} {run:Int} (ht:0<=r.trig) (hrun:run=(cnt (btr r s n) (t+1):Int)) (h:r.trig < run):r.trig<=t/\∀ k:Nat,(t:Int) - r.trig<=k->(k:Int)<=t->btr r s n k=true:=by
 obtain⟨T,hT⟩:∃ T:Nat,r.trig=(T:Int):=⟨r.trig.toNat,by omega⟩;rw[hT]at h ⊢;have h2:T < cnt (btr r s n) (t+1):=by omega
 rw[yR]at h2;exact⟨by omega,fun k h3 h4=>h2.2 k (by omega) (by omega)⟩
theorem goodT (r:Rul) (s n:List Int) (hl:n.length=s.length) (ht:0<=r.trig) (hh:0<=r.hyst):∀ (m t:Nat) (armed:Bool) (prev:Option Int),s.length - t=m ->
 (∀ u,prev=some u->u < (t:Int)/\(armed=true->∃ k:Nat,u<=(k:Int)/\(k:Int) < t/\ovk r s n k=true))->GoodT r s n prev (trg r (s.drop t) (n.drop t) t (cnt (btr r s n) t) armed)
 | 0,t,armed,prev,hm,hp=>by
  rw[zv (by omega:s.length<=t),tc];trivial
 | m+1,t,armed,prev,hm,hp=>by
  have h1:t < s.length:=by omega
  have h2:t < n.length:=by omega
  rw[eg 0 h1,eg 0 h2,trg];have hc:(if nG r (s.getD t 0) (n.getD t 0)then (cnt (btr r s n) t:Int)+1 else 0)=(cnt (btr r s n) (t+1):Int):=(Aq (btr r s n) t).symm;simp only[hc];by_cases hg:((armed || over r (s.getD t 0) (n.getD t 0)) && decide (r.trig < (cnt (btr r s n) (t+1):Int)))=true
  . rw[if_pos hg];simp only[zm,zV,decide_eq_true_eq]at hg;obtain⟨g1,g2⟩:=hg;obtain⟨g3,g4⟩:=cnt_gt ht rfl g2;have g5:=g4 t (by omega) (by omega);refine⟨⟨g3,by omega⟩,g4,fun u hu=>?_,goodT r s n hl ht hh m (t+1) false (some t) (by omega) (fun u hu=>?_)⟩
    . obtain⟨q1,q2⟩:=hp u hu;refine⟨q1,?_⟩;rcases g1 with g1 | g1
      . exact q2 g1
      . exfalso
        simp only[btr,nG,decide_eq_true_eq]at g5;simp only[over,decide_eq_true_eq]at g1;omega
    . cases hu;exact⟨by omega,fun h=>by cases h⟩
  . rw[if_neg hg];refine goodT r s n hl ht hh m (t+1) _ prev (by omega) (fun u hu=>?_);obtain⟨q1,q2⟩:=hp u hu;refine⟨by omega,fun ha=>?_⟩;simp only[zV]at ha;rcases ha with ha | ha
    . obtain⟨k,k1,k2,k3⟩:=q2 ha;exact⟨k,k1,by omega,k3⟩
    . exact⟨t,by omega,by omega,ha⟩
theorem goodT0 {r:Rul} {s n:List Int} (h:TrgOk r s n):GoodT r s n none (iv r s n):=by
 have h2:=h.hr;simp only[j4,zm,decide_eq_true_eq]at h2;have:=goodT r s n h.hln h2.2.1 h2.1.2.1 s.length 0 true none (by omega) (fun u hu=>by cases hu);simpa[cnt,iv]using this
theorem Ab (r:Rul) (s n:List Int) (hl:n.length=s.length):∀ (m t v:Nat),s.length - t=m->t<=v->v < s.length->r.trig < (cnt (btr r s n) (v+1):Int) ->
 ∃ u l,trg r (s.drop t) (n.drop t) t (cnt (btr r s n) t) true=u :: l/\u<=(v:Int)
 | 0,t,v,hm,h1,h2,h3=>by omega
 | m+1,t,v,hm,h1,h2,h3=>by
  have g1:t < s.length:=by omega
  have g2:t < n.length:=by omega
  rw[eg 0 g1,eg 0 g2,trg];have hc:(if nG r (s.getD t 0) (n.getD t 0)then (cnt (btr r s n) t:Int)+1 else 0)=(cnt (btr r s n) (t+1):Int):=(Aq (btr r s n) t).symm;simp only[hc,yz,zY,decide_eq_true_eq];by_cases hg:r.trig < (cnt (btr r s n) (t+1):Int)
  . rw[if_pos hg];exact⟨_,_,rfl,by omega⟩
  . rw[if_neg hg];have:t≠v:=fun e=>hg (e ▸ h3)
    exact Ab r s n hl m (t+1) v (by omega) (by omega) h2 h3
theorem Ap {p q:Nat->Bool} (h:∀ k,p k=true->q k=true):∀ t,cnt p t<=cnt q t
 | 0=>zw _
 | t+1=>by
  have:=Ap h t;rw[cnt,cnt];cases hp:p t with
  | false=>simp
  | true=>rw[h t hp];simp;omega
theorem later {r r':Rul} {s n:List Int} (h:TrgOk r s n) (h':TrgOk r' s n) (h1:r.trig<=r'.trig) (h2:r.off<=r'.off) (h3:r.hyst=r'.hyst) (hne:iv r' s n≠[]) :
 iv r s n≠[]/\(iv r s n).getD 0 0<=(iv r' s n).getD 0 0:=by
 cases hL:iv r' s n with
 | nil=>exact absurd hL hne
 | cons v l=>
  have hg:=goodT0 h';rw[hL]at hg;obtain⟨⟨g1,g2⟩,g3,_,_⟩:=hg;have hr':=h'.hr;simp only[j4,zm,decide_eq_true_eq]at hr';obtain⟨V,rfl⟩:∃ V:Nat,v=(V:Int):=⟨v.toNat,by omega⟩;obtain⟨T,hT⟩:∃ T:Nat,r'.trig=(T:Int):=⟨r'.trig.toNat,by omega⟩;have hc':T < cnt (btr r' s n) (V+1):=by
   rw[yR];exact⟨by omega,fun k q1 q2=>g3 k (by omega) (by omega)⟩
  have hm:=Ap (p:=btr r' s n) (q:=btr r s n) (fun k hk=>by
   simp only[btr,nG,decide_eq_true_eq]at hk ⊢
   omega) (V+1)
  obtain⟨u,l',e1,e2⟩:=Ab r s n h.hln s.length 0 V (by omega) (by omega) (by omega) (by omega);have e3:iv r s n=u :: l':=by simpa[cnt,iv]using e1
  rw[e3];exact⟨by simp,by simpa using e2⟩
theorem xl (m:Ms):fy (.agg [C.s (.int .i64 m.at_),.s (.int .i64 m.phase),.s (.int .i64 m.since),.s (.int .i64 m.serving),.s (.int .i64 m.target),.s (.int .i64 m.source),.s (.int .i64 m.path),.s (.int .i64 m.fresh),.s (.int .i64 m.got),.sl 1 (m.buf.map Dat.cells)])=some m:=by
 unfold fy;have:Dat.dec (α:=Ms) [C.s (.int .i64 m.at_),.s (.int .i64 m.phase),.s (.int .i64 m.since),.s (.int .i64 m.serving),.s (.int .i64 m.target),.s (.int .i64 m.source),.s (.int .i64 m.path),.s (.int .i64 m.fresh),.s (.int .i64 m.got),.sl 1 (m.buf.map Dat.cells)]=(fh (m.buf.map Dat.cells)).map fun r'=>(⟨m.at_,m.phase,m.since,m.serving,m.target,m.source,m.path,m.fresh,m.got,r'⟩:Ms):=rfl
 simp only[this,fq];rw[if_pos (show (Dat.agg Ms)=true from rfl)];rfl
theorem Bi (m:Ms) (h1:m.buf.length<=1000000) (h2:fj m.buf<=1000000000):FC Tryz.prog 116 [enc m] [] (enc (fj m.buf)) []:=by
 refine dD [] is116 (by simp) trivial trivial trivial trivial (fun cx _ hl _=>dC [] 800 ?_);generalize hT:fj m.buf=T at *;delta c116 oM oS oK oV oX o7;simp (maxSteps:=9^7) -implicitDefEqProofs only[Ak,kN,WU,Ent.of0,Ent.of1,Ent.of2,Ent.of3,Ent.of4,V,W3,↓reduceIte,seval,reduceCtorEq];refine eN m.buf.length (fun i=>[(3,.s (.int .i64 (T - fj (m.buf.drop i)))),(4,.s (.int .i64 (i:Int)))]) (fun _=>[]) (fun i=>0<=T - fj (m.buf.drop i)) (by simp[hT]) ?_ (fun i hi hv=>dC [] 800 ?_)
 . simp (maxSteps:=9^7) -implicitDefEqProofs only[Ent.of0,Ent.of1,Ent.of2,Ent.of3,Ent.of4,V,W3,↓reduceIte,seval,reduceCtorEq]
   all_goals simp[hT]
 . by_cases h:i < m.buf.length
   . have hi2:(i:Int) < (m.buf.length:Int):=by omega
     have hi0:(0:Int)<=i:=by omega
     have hgx:List.getD (m.buf.map Dat.cells) i [C.sl 0 []]=[C.sl 1 ((m.buf.getD i []).map Dat.cells)]:=by
      rw[zb,zb,zh,ze h];rfl
     have hd:=eg (d:=[]) h;have hnn:=s5 (m.buf.drop (i+1));rw[hd,fj]at hv;generalize m.buf.getD i []=p at *;delta Ao oO oN oA oM oR oS oK oF oL oX oB o0 o4;simp (maxSteps:=9^7) -implicitDefEqProofs only[Ak,hi0,hi2,h,hgx,hd,fj,InR,WU,Ent.of0,Ent.of1,Ent.of2,Ent.of3,Ent.of4,V,W3,↓reduceIte,seval,reduceCtorEq];omega
   . have hi2:¬ (i:Int) < (m.buf.length:Int):=by omega
     have hd:m.buf.drop i=[]:=zv (by omega);delta Ao oO oN oA oM oR oS oK oF oL oX oB o0 o4;simp (maxSteps:=9^7) -implicitDefEqProofs only[Ak,hi2,hd,fj,WU,Ent.of0,Ent.of1,Ent.of2,Ent.of3,Ent.of4,V,W3,↓reduceIte,seval,reduceCtorEq];omega
def Bb : Ent Tryz.prog:=.of1 116 (fun m:Ms=>m.buf.length<=1000000/\fj m.buf<=1000000000) (fun m=>enc (fj m.buf)) (fun _=>trivial) (fun m h=>Bi m h.1 h.2)
def xy (n:Nw) (m:Ms) (e:T3):Ms:=if gi n m e≠0 then ms0 else rf n m e
def msC (m:Ms) (kB:Nat):List C:=[.s (.int .i64 m.at_),.s (.int .i64 m.phase),.s (.int .i64 m.since),.s (.int .i64 m.serving),.s (.int .i64 m.target),.s (.int .i64 m.source),.s (.int .i64 m.path),.s (.int .i64 m.fresh),.s (.int .i64 m.got),.own kB]
def recR (n:Nw) (m:Ms):List T3->List Int
 |[]=>[]
 | e :: l=>(if m.got < (rf n m e).got then [m.got]else [])++recR n (rf n m e) l
theorem AP (m:Ms):(settle m).got=m.got:=by
 unfold Go.Proofs.YtcbabnbiinkafaaGreatDoor.settle;split <;> rfl
theorem Bf (n:Nw) (m:Ms) (t:Int):(qN n m t).got=m.got:=by unfold qN;split <;> rfl
theorem got_act (m:Ms) (e:T3):(eK m e).got=if e.x=1/\(dQ m m.serving).headD 0=m.got then m.got+1 else m.got:=by
 unfold eK;by_cases h:e.x=1
 . simp only[h,Int.reduceEq,if_true,if_false,true_and];split <;> rfl
 . simp only[h,false_and,if_false]
   repeat' split
   all_goals rfl
theorem AQ (n:Nw) (p:Ph) (e:T3):(kL n p e).recv=p.recv++(if p.m.got < (rf n p.m e).got then [p.m.got]else []):=by
 have hg:(eP n p e.y).m.got=p.m.got:=by rw[pI,Bf]
 have hr:=(qg n p e.y).2.1;have hA:(rf n p.m e).got=(doP (eP n p e.y) e).m.got:=by
  rw[<- rc];rfl
 rw[hA];show (doP (eP n p e.y) e).recv=_
 rw[<- hr,<- hg];generalize eP n p e.y=q;unfold doP;by_cases h10:e.x=10
 . simp only[if_pos h10];show q.recv=q.recv++(if q.m.got < q.m.got then [q.m.got]else [])
   simp
 . simp only[if_neg h10,AP,got_act];split
   . rw[if_pos (by omega)]
   . simp
theorem yW (n:Nw):∀ (l:List T3) (p:Ph),(jy n p l).recv=p.recv++recR n p.m l
 |[],p=>by simp[jy,recR]
 | e :: l,p=>by
  rw[jy,yW n l,AQ,rc,recR,ye]
structure Rw where
 m:Ms
 st:List T3
 ouw:List Gs
def xm (l:List Gs) (t:Int):List Gs:=l.set (l.length - 1) ⟨(l.getD (l.length - 1) ⟨0,0⟩).re,t⟩
def xp (n:Nw) (w:Rw) (t:Int):Rw:=
 if jJ n w.m t=true then ⟨qN n w.m t,chg w.st w.m.serving (qN n w.m t).serving (w.m.since+n.limit),xm w.ouw (w.m.since+n.limit)⟩else w
def xo (b:Rw) (x:Ms) (t:Int):Rw:=
 ⟨x,chg b.st b.m.serving x.serving t,
  let o:=if ej b.m=false/\ej x=true then b.ouw++[⟨t,0⟩]else b.ouw
  if ej b.m=true/\ej x=false then xm o t else o⟩
def xz (n:Nw) (w:Rw) (e:T3):Rw:=xo (xp n w e.y) (rf n w.m e) e.y
def xj (n:Nw) (w:Rw):List T3->Rw
 |[]=>w
 | e :: l=>xj n (xz n w e) l
def xi (n:Nw) (c:Int):Rw:=⟨eR n c,[⟨c,0,0⟩],[]⟩
def xB (w:Rw):List T3×List Gs:=(jL w.st w.m.at_,if ej w.m=true then xm w.ouw w.m.at_ else w.ouw)
def xw (l:List Gs):Int:=l.foldl (fun a o=>max a (o.im - o.re)) 0
theorem xJ (l:List Gs) (o:Gs):xw (l++[o])=max (xw l) (o.im - o.re):=by simp[xw]
theorem xR (l:List Gs) (o:Gs) (t:Int):xm (l++[o]) t=l++[⟨o.re,t⟩]:=by
 unfold xm;have h1:(l++[o]).length - 1=l.length:=by simp
 rw[h1];have h2:(l++[o]).getD l.length ⟨0,0⟩=o:=by simp[zb]
 rw[h2,List.set_append_right _ _ (zw _)];simp
structure RwOk (n:Nw) (p:Ph) (w:Rw):Prop where
 m:w.m=p.m
 st:w.st=p.stays
 no:ej p.m=false->p.out=-1/\xw w.ouw=p.longest
 yes:ej p.m=true->p.out=p.m.since/\∃ l,w.ouw=l++[⟨p.out,0⟩]/\xw l=p.longest
 lim:p.longest<=n.limit
 nnw:0<=p.longest
theorem RwOk.begin {n:Nw} (hn:NetOk n) (c:Int):RwOk n (gz n c) (xi n c):=by
 have:=hn.lim;refine⟨rfl,rfl,fun _=>⟨rfl,rfl⟩,fun h=>by simp[ej,gz,eR]at h,?_,?_⟩
 . show (0:Int)<=n.limit;omega
 . exact Int.le_refl 0
theorem yO {o l t:Int} (h:0<=o):kW o l t=max l (t - o):=by unfold kW;rw[if_neg (by omega)]
theorem RwOk.pass {n:Nw} {p:Ph} {w:Rw} (hn:NetOk n) (r:RwOk n p w) (hs:0<=p.m.since) (t:Int):RwOk n (eP n p t) (xp n w t):=by
 unfold eP xp;rw[r.m];by_cases h:jJ n p.m t=true
 . rw[if_pos h,if_pos h];have ha:ej p.m=true:=by simp only[jJ,zm]at h;exact h.1
   obtain⟨ho,l,hl,hL⟩:=r.yes ha;have hbk:=yO (o:=p.out) (l:=p.longest) (t:=p.m.since+n.limit) (by omega);have hP:qN n p.m t=iP p.m 0 (p.m.since+n.limit):=by unfold qN;rw[if_pos h]
   have h1:=r.lim;have h2:=r.nnw;refine⟨hP,by rw[hP,r.st];rfl,fun _=>⟨rfl,?_⟩,fun q=>by simp[ej,lg,iP]at q,?_,?_⟩
   . show xw (xm w.ouw _)=kW _ _ _
     rw[hl,xR,xJ,hL,hbk]
   . show kW _ _ _<=_
     rw[hbk];omega
   . show 0<=kW _ _ _
     rw[hbk];omega
 . rw[if_neg h,if_neg h];exact r
theorem xn (l:List T3) (a t:Int):chg l a a t=l:=by unfold chg;rw[if_pos rfl]
theorem xD (m:Ms):(settle m).serving=m.serving/\(settle m).phase=m.phase/\(settle m).since=m.since:=by
 unfold Go.Proofs.YtcbabnbiinkafaaGreatDoor.settle;split <;> exact⟨rfl,rfl,rfl⟩
theorem away_eq {m k:Ms} (h:m.phase=k.phase):ej m=ej k:=by unfold ej;rw[h]
theorem Az (m:Ms):ej (settle m)=ej m:=away_eq (xD m).2.1
theorem RwOk.act {n:Nw} {p:Ph} {w:Rw} {e:T3} (hn:NetOk n) (r:RwOk n p w) (hk:0<=e.x/\e.x<=11) (hy:0<=e.y) (hs:0<=p.m.since) (hdue:ej p.m=true->e.y < p.m.since+n.limit) (hd:eA n p.m e=0) {x:Ms} (hx:x=(atP (doP p e) e.y).m) :
 RwOk n (atP (doP p e) e.y) (xo w x e.y):=by
 obtain⟨wmw,ws,wow⟩:=w;obtain⟨r1,r2,r3,r4,r5,r6⟩:=r;simp only at r1 r2 r3 r4 r5 r6;subst r1 r2;have hA:ej x=ej (doP p e).m:=by rw[hx];rfl
 have hS:x.serving=(doP p e).m.serving:=by rw[hx];rfl
 have hI:(atP (doP p e) e.y).m.since=(doP p e).m.since:=rfl;have hW:ej (atP (doP p e) e.y).m=ej (doP p e).m:=rfl;have key:(chg p.stays p.m.serving x.serving e.y=(doP p e).stays) ->
  (ej p.m=false->ej (doP p e).m=false->(doP p e).out=p.out/\(doP p e).longest=p.longest) ->
  (ej p.m=false->ej (doP p e).m=true->(doP p e).out=e.y/\(doP p e).m.since=e.y/\(doP p e).longest=p.longest) ->
  (ej p.m=true->ej (doP p e).m=true->(doP p e).out=p.out/\(doP p e).m.since=p.m.since/\(doP p e).longest=p.longest) ->
  (ej p.m=true->ej (doP p e).m=false->(doP p e).out=-1/\(doP p e).longest=kW p.out p.longest e.y) ->
  RwOk n (atP (doP p e) e.y) (xo ⟨p.m,p.stays,wow⟩ x e.y):=by
  intro k0 k1 k2 k3 k4;cases ha:ej p.m <;> cases hb:ej (doP p e).m
  . obtain⟨q1,q2⟩:=k1 ha hb;obtain⟨s1,s2⟩:=r3 ha;refine⟨hx,k0,fun _=>⟨q1.trans s1,?_⟩,fun q=>(by rw[hW,hb]at q;cases q),?_,?_⟩
    . show xw (xo _ _ _).ouw=(doP p e).longest
      simp only[xo,ha,hA,hb,zr,and_false,false_and,if_false];rw[s2,q2]
    . show (doP p e).longest<=_;omega
    . show 0<=(doP p e).longest;omega
  . obtain⟨q1,q2,q3⟩:=k2 ha hb;obtain⟨s1,s2⟩:=r3 ha;refine⟨hx,k0,fun q=>(by rw[hW,hb]at q;cases q),fun _=>⟨?_,wow,?_,?_⟩,?_,?_⟩
    . show (doP p e).out=(doP p e).m.since;omega
    . show (xo _ _ _).ouw=wow++[⟨(doP p e).out,0⟩]
      simp only[xo,ha,hA,hb,zr,ym,and_false,and_true,false_and,and_self,if_false,if_true];rw[q1]
    . show xw wow=(doP p e).longest
      rw[s2,q3]
    . show (doP p e).longest<=_;omega
    . show 0<=(doP p e).longest;omega
  . obtain⟨q1,q2⟩:=k4 ha hb;obtain⟨s1,l,s2,s3⟩:=r4 ha;have hbk:=yO (o:=p.out) (l:=p.longest) (t:=e.y) (by omega);have hdd:=hdue ha;refine⟨hx,k0,fun _=>⟨q1,?_⟩,fun q=>(by rw[hW,hb]at q;cases q),?_,?_⟩
    . show xw (xo _ _ _).ouw=(doP p e).longest
      simp only[xo,ha,hA,hb,zr,ym,and_false,and_true,false_and,and_self,if_false,if_true];rw[s2,xR,xJ,s3,q2,hbk]
    . show (doP p e).longest<=_;rw[q2,hbk];omega
    . show 0<=(doP p e).longest;rw[q2,hbk];omega
  . obtain⟨q1,q2,q3⟩:=k3 ha hb;obtain⟨s1,l,s2,s3⟩:=r4 ha;refine⟨hx,k0,fun q=>(by rw[hW,hb]at q;cases q),fun _=>⟨?_,l,?_,?_⟩,?_,?_⟩
    . show (doP p e).out=(doP p e).m.since;omega
    . show (xo _ _ _).ouw=l++[⟨(doP p e).out,0⟩]
      simp only[xo,ha,hA,hb,zr,ym,and_false,and_true,false_and,and_self,if_false,if_true];rw[s2,q1]
    . show xw l=(doP p e).longest
      rw[s3,q3]
    . show (doP p e).longest<=_;omega
    . show 0<=(doP p e).longest;omega
 by_cases h10:e.x=10
 . have h3:p.m.phase=3:=by
    unfold eA at hd;simp only[h10,Int.reduceEq,if_true,if_false]at hd;rcases Classical.em (p.m.phase=3)with q | q
    . exact q
    . rw[if_pos q]at hd;cases hd
   have hD:doP p e=lg p e.z e.y:=by unfold doP;rw[if_pos h10]
   have ha:ej p.m=true:=by simp[ej,h3]
   refine key (by rw[hS,hD];rfl) (fun q=>(by rw[ha]at q;cases q)) (fun q=>(by rw[ha]at q;cases q)) (fun _ q=>(by rw[hD]at q;simp[ej,lg,iP]at q)) (fun _ _=>by rw[hD];exact⟨rfl,rfl⟩)
 . have hD:doP p e={ m:=settle (eK p.m e),recv:=if e.x=1/\(dQ p.m p.m.serving).headD 0=p.m.got then p.recv++[p.m.got]else p.recv,stays:=if e.x=6 then chg p.stays p.m.serving p.m.target e.y else p.stays,out:=if e.x=5\/e.x=9 then (if p.out=-1 then e.y else p.out)else if e.x=6 then -1 else p.out,longest:=if e.x=6 then kW p.out p.longest e.y else p.longest }:=by
    unfold doP;rw[if_neg h10]
   have hm:(doP p e).m=settle (eK p.m e):=by rw[hD]
   have hsv:(doP p e).m.serving=(eK p.m e).serving:=by rw[hm];exact (xD _).1
   have haw:ej (doP p e).m=ej (eK p.m e):=by rw[hm];exact Az _
   have hsi:(doP p e).m.since=(eK p.m e).since:=by rw[hm];exact (xD _).2.2
   have hst:(doP p e).stays=if e.x=6 then chg p.stays p.m.serving p.m.target e.y else p.stays:=by rw[hD]
   have hou:(doP p e).out=if e.x=5\/e.x=9 then (if p.out=-1 then e.y else p.out)else if e.x=6 then -1 else p.out:=by rw[hD]
   have hlo:(doP p e).longest=if e.x=6 then kW p.out p.longest e.y else p.longest:=by rw[hD]
   rw[hS,hst,hou,hlo,haw,hsi,hsv]at key;clear hD hm hst hou hlo hS hA hI hW hsv haw hsi;unfold eK at key;unfold eA at hd;have hph:ej p.m=true↔p.m.phase=2\/p.m.phase=3:=by simp[ej]
   have hpf:ej p.m=false↔¬ (p.m.phase=2\/p.m.phase=3):=by rw[<- hph];simp
   have k:e.x=0\/e.x=1\/e.x=2\/e.x=3\/e.x=4\/e.x=5\/e.x=6\/e.x=7\/e.x=8\/e.x=9\/e.x=11:=by omega
   rcases k with k | k | k | k | k | k | k | k | k | k | k <;> rw[k]at hd key <;> simp only[Int.reduceEq,if_true,if_false,or_false,false_or,or_true,or_self]at hd key
   ·
    refine key (xn _ _ _) (fun _ _=>⟨by trivial,by trivial⟩) (fun q1 q2=>absurd (q1.symm.trans q2) (by decide)) (fun _ _=>⟨by trivial,by trivial,by trivial⟩) (fun q1 q2=>absurd (q2.symm.trans q1) (by decide))
   ·
    by_cases hq:(dQ p.m p.m.serving).headD 0=p.m.got
    . rw[if_pos hq]at key;refine key (xn _ _ _) (fun _ _=>⟨by trivial,by trivial⟩) (fun q1 q2=>absurd (q1.symm.trans q2) (by decide)) (fun _ _=>⟨by trivial,by trivial,by trivial⟩) (fun q1 q2=>absurd (q2.symm.trans q1) (by decide))
    . rw[if_neg hq]at key;refine key (xn _ _ _) (fun _ _=>⟨by trivial,by trivial⟩) (fun q1 q2=>absurd (q1.symm.trans q2) (by decide)) (fun _ _=>⟨by trivial,by trivial,by trivial⟩) (fun q1 q2=>absurd (q2.symm.trans q1) (by decide))
   ·
    refine key (xn _ _ _) (fun _ _=>⟨by trivial,by trivial⟩) (fun q1 q2=>absurd (q1.symm.trans q2) (by decide)) (fun _ _=>⟨by trivial,by trivial,by trivial⟩) (fun q1 q2=>absurd (q2.symm.trans q1) (by decide))
   ·
    have h0:p.m.phase=0:=by
     rcases Classical.em (p.m.phase=0)with q | q
     . exact q
     . rw[if_pos q]at hd;cases hd
    refine key (xn _ _ _) (fun _ _=>⟨by trivial,by trivial⟩) (fun _ q2=>by simp[ej]at q2) (fun q=>(by rw[hph]at q;omega)) (fun q=>(by rw[hph]at q;omega))
   ·
    have h0:p.m.phase=1:=by
     rcases Classical.em (p.m.phase=1)with q | q
     . exact q
     . rw[if_pos q]at hd;cases hd
    refine key (xn _ _ _) (fun _ _=>⟨by trivial,by trivial⟩) (fun _ q2=>by simp[ej]at q2) (fun q=>(by rw[hph]at q;omega)) (fun q=>(by rw[hph]at q;omega))
   ·
    have h0:p.m.phase=1:=by
     rcases Classical.em (p.m.phase=1)with q | q
     . exact q
     . rw[if_pos q]at hd;cases hd
    refine key (xn _ _ _) (fun _ q=>by simp[ej]at q) (fun q _=>⟨by rw[if_pos (r3 q).1],by trivial,by trivial⟩) (fun q=>(by rw[hph]at q;omega)) (fun q=>(by rw[hph]at q;omega))
   ·
    have h0:p.m.phase=2:=by
     rcases Classical.em (p.m.phase=2)with q | q
     . exact q
     . rw[if_pos q]at hd;cases hd
    refine key (by trivial) (fun q=>(by rw[hpf]at q;omega)) (fun q=>(by rw[hpf]at q;omega)) (fun _ q=>by simp[ej]at q) (fun _ _=>⟨by trivial,by trivial⟩)
   ·
    refine key (xn _ _ _) (fun _ _=>⟨by trivial,by trivial⟩) (fun q1 q2=>absurd (q1.symm.trans q2) (by decide)) (fun _ _=>⟨by trivial,by trivial,by trivial⟩) (fun q1 q2=>absurd (q2.symm.trans q1) (by decide))
   ·
    refine key (xn _ _ _) (fun _ _=>⟨by trivial,by trivial⟩) (fun q1 q2=>absurd (q1.symm.trans q2) (by decide)) (fun _ _=>⟨by trivial,by trivial,by trivial⟩) (fun q1 q2=>absurd (q2.symm.trans q1) (by decide))
   ·
    have h3:p.m.phase≠3:=fun q=>by rw[if_pos q]at hd;cases hd
    refine key (xn _ _ _) (fun _ q=>by simp[ej]at q) (fun q _=>⟨by rw[if_pos (r3 q).1],?_,by trivial⟩) (fun q _=>⟨?_,?_,by trivial⟩) (fun _ q=>by simp[ej]at q)
    . rw[hpf]at q;show (if p.m.phase=2 then p.m.since else e.y)=e.y
      rw[if_neg (by omega)]
    . have:=(r4 q).1;rw[if_neg (by omega)]
    . rw[hph]at q;show (if p.m.phase=2 then p.m.since else e.y)=p.m.since
      rw[if_pos (by omega)]
   ·
    refine key (xn _ _ _) (fun _ _=>⟨by trivial,by trivial⟩) (fun q1 q2=>absurd (q1.symm.trans q2) (by decide)) (fun _ _=>⟨by trivial,by trivial,by trivial⟩) (fun q1 q2=>absurd (q2.symm.trans q1) (by decide))
abbrev t0 : T3:=⟨0,0,0⟩
structure Chn (n:Nw) (l:List T3) (c t:Int):Prop where
 ne:0 < l.length
 last:(l.getD (l.length - 1) t0).x=c/\(l.getD (l.length - 1) t0).y<=t
 cell:∀ i,i < l.length->isC n (l.getD i t0).x=true/\0<=(l.getD i t0).y/\(l.getD i t0).y<=t
 nxw:∀ i,i+1 < l.length->(l.getD i t0).y<=(l.getD i t0).z/\(l.getD i t0).z=(l.getD (i+1) t0).y/\(l.getD (i+1) t0).x≠(l.getD i t0).x
theorem Chn.later {n:Nw} {l:List T3} {c t u:Int} (h:Chn n l c t) (hu:t<=u):Chn n l c u:=
 ⟨h.ne,⟨h.last.1,by have:=h.last.2;omega⟩,fun i hi=>by have:=h.cell i hi;exact⟨this.1,this.2.1,by omega⟩,h.nxw⟩
theorem Be (l:List T3) (i j:Nat) (v:T3):(l.set i v).getD j t0=if i=j/\j < l.length then v else l.getD j t0:=by
 rw[zb,zb,zJ];by_cases h:i=j
 . subst h;by_cases h2:i < l.length
   . simp[h2]
   . simp[h2]
 . simp[h]
theorem AN (l:List T3) (j:Nat) (v:T3):(l++[v]).getD j t0=if j < l.length then l.getD j t0 else if j=l.length then v else t0:=by
 rw[zb,zb,zS];by_cases h:j < l.length
 . rw[if_pos h,if_pos h]
 . rw[if_neg h,if_neg h];by_cases h2:j=l.length
   . subst h2;simp
   . rw[if_neg h2];have:j - l.length=(j - l.length - 1)+1:=by omega
     rw[this];simp
theorem xP (l:List T3) (t:Int) (j:Nat):(jL l t).getD j t0=if j=l.length - 1/\j < l.length then ⟨(l.getD j t0).x,(l.getD j t0).y,t⟩else l.getD j t0:=by
 unfold jL;rw[Be];by_cases h:l.length - 1=j/\j < l.length
 . rw[if_pos h,if_pos ⟨h.1.symm,h.2⟩,<- h.1]
 . rw[if_neg h,if_neg (fun q=>h ⟨q.1.symm,q.2⟩)]
theorem Chn.chg {n:Nw} {l:List T3} {c d t:Int} (h:Chn n l c t) (ht:0<=t) (hd:isC n d=true):Chn n (chg l c d t) d t:=by
 unfold Go.Proofs.YtcbabnbiinkafaaGreatDoor.chg;by_cases hcd:c=d
 . rw[if_pos hcd];subst hcd;exact h
 rw[if_neg hcd];have hne:=h.ne;have hl:(jL l t).length=l.length:=vC l t;have hg:∀ j,(jL l t++[(⟨d,t,0⟩:T3)]).getD j t0=if j < l.length then (if j=l.length - 1 then ⟨(l.getD j t0).x,(l.getD j t0).y,t⟩else l.getD j t0)else if j=l.length then (⟨d,t,0⟩:T3)else t0:=fun j=>by
  rw[AN,hl,xP];by_cases h1:j < l.length
  . rw[if_pos h1,if_pos h1];by_cases h2:j=l.length - 1
    . rw[if_pos ⟨h2,h1⟩,if_pos h2]
    . rw[if_neg (fun q=>h2 q.1),if_neg h2]
  . rw[if_neg h1,if_neg h1]
 have hlen:(jL l t++[(⟨d,t,0⟩:T3)]).length=l.length+1:=by simp[hl]
 refine⟨by omega,?_,fun i hi=>?_,fun i hi=>?_⟩
 . rw[hlen,hg,Nat.add_sub_cancel,if_neg (by omega),if_pos rfl];exact⟨rfl,Int.le_refl _⟩
 . rw[hg];by_cases h1:i < l.length
   . rw[if_pos h1];have hc:=h.cell i h1;by_cases h2:i=l.length - 1
     . rw[if_pos h2];exact hc
     . rw[if_neg h2];exact hc
   . rw[if_neg h1,if_pos (by omega)];exact⟨hd,ht,Int.le_refl _⟩
 . rw[hg,hg];by_cases h2:i=l.length - 1
   . have h1:i < l.length:=by omega
     rw[if_pos h1,if_pos h2,if_neg (by omega),if_pos (by omega)];have hla:=h.last;rw[<- h2]at hla;refine⟨hla.2,rfl,?_⟩;show d≠(l.getD i t0).x
     rw[hla.1];exact fun q=>hcd q.symm
   . have h1:i < l.length:=by omega
     have h3:i+1 < l.length:=by omega
     have hn:=h.nxw i h3;rw[if_pos h1,if_neg h2,if_pos h3];by_cases h4:i+1=l.length - 1
     . rw[if_pos h4];exact hn
     . rw[if_neg h4];exact hn
theorem Chn.stE {n:Nw} {l:List T3} {c t:Int} (h:Chn n l c t) (ht:t<=1000000000):∀ (k i:Nat),i+k=l.length->Go.Proofs.YtcbabnbiinkafaaGreatDoor.stE n (jL l t) i ((jL l t).drop i)=0
 | 0,i,hi=>by
  rw[zv (by rw[vC];omega)];rfl
 | k+1,i,hi=>by
  have hlt:i < l.length:=by omega
  have ih:=Chn.stE h ht k (i+1) (by omega);rw[eg t0 (by rw[vC];exact hlt),Go.Proofs.YtcbabnbiinkafaaGreatDoor.stE];have hs:mJ n i ((jL l t).getD (i - 1) ⟨0,0,0⟩) ((jL l t).getD i t0)=0:=by
   have e0:((jL l t).getD (i - 1) ⟨0,0,0⟩:T3)=(jL l t).getD (i - 1) t0:=rfl;rw[e0,xP,xP];have hc:=h.cell i hlt;have hla:=h.last;unfold mJ;have hx:∀ (s p:T3),isC n s.x=true->0<=s.y->s.y<=s.z->s.z<=1000000000->(i=0\/(s.y=p.z/\s.x≠p.x))->(if isC n s.x=false then (6:Int)else if (eM s.y && eM s.z)=false then 2 else if ¬ (s.y<=s.z/\(i=0\/s.y=p.z))then 9 else if i=0\/s.x≠p.x then 0 else 26)=0:=by
    intro s p q1 q2 q3 q4 q5;have b1:eM s.y=true:=by simp only[eM,decide_eq_true_eq];omega
    have b2:eM s.z=true:=by simp only[eM,decide_eq_true_eq];omega
    rw[if_neg (by rw[q1];simp),if_neg (by rw[b1,b2];simp),if_neg (fun hh=>hh ⟨q3,q5.imp id And.left⟩),if_pos (by rcases q5 with q | q;exact .inl q;exact .inr q.2)]
   refine hx _ _ ?_ ?_ ?_ ?_ ?_
   . split <;> exact hc.1
   . split <;> exact hc.2.1
   . split
     . exact hc.2.2
     . exact (h.nxw i (by omega)).1
   . split
     . exact ht
     . have:=h.nxw i (by omega);have h2:=h.cell (i+1) (by omega);omega
   . by_cases hi0:i=0
     . exact .inl hi0
     . refine .inr ?_;have hn:=h.nxw (i - 1) (by omega);have e1:i - 1+1=i:=by omega
       rw[e1]at hn;rw[if_neg (show ¬ (i - 1=l.length - 1/\i - 1 < l.length) by omega)];split
       . exact⟨hn.2.1.symm,hn.2.2⟩
       . exact⟨hn.2.1.symm,hn.2.2⟩
  rw[if_neg (by rw[hs];simp)];exact ih
theorem Chn.begin {n:Nw} {c:Int} (hc:isC n c=true):Chn n [⟨c,0,0⟩] c 0:=
 ⟨by simp,⟨rfl,Int.le_refl _⟩,fun i hi=>by
  have:i=0:=by simpa using hi
  subst this;exact⟨hc,Int.le_refl _,Int.le_refl _⟩,fun i hi=>by simp at hi⟩
theorem Chn.pass {n:Nw} {p:Ph} (hn:NetOk n) (g:dP n p.m) (h:Chn n p.stays p.m.serving p.m.at_) {t:Int} (ht:p.m.at_<=t):Chn n (eP n p t).stays (eP n p t).m.serving t:=by
 unfold eP;by_cases hp:jJ n p.m t=true
 . rw[if_pos hp];have hq:=hp;simp only[jJ,zm,decide_eq_true_eq]at hq;have hdue:=g.due hq.1;have hsi:=g.since;have hli:=hn.lim;have hz:isC n 0=true:=by simp only[isC,decide_eq_true_eq];have:=hn.len;omega
   exact ((h.later (u:=p.m.since+n.limit) (by omega)).chg (by omega) hz).later hq.2
 . rw[if_neg hp];exact h.later ht
end Go.Proofs.YtcbabnbiinkafaaGreatDoor
end
