/- Part 1 of the proof of: TopMoveOnceInOrder returns true for every input and never panics: behind any log the phone can get all packets that wait, once and in order; conditions: those of the given statement, that the package variables it lists hold what their initialisers lay. -/
import Derived.WideShapes
import Derived.ChangeArms
import Derived.OpenShut
import Derived.LaidLaws
import Derived.Lib.LaidTab
import Derived.Stop.LaidErr
import Derived.Test.YtcbabnbiinkafaaGreatDoorProg
import Derived.KernelRfl
import Derived.Test.YtcbabnbiinkafaaGreatDoorBt21
set_option linter.all false
section
namespace Go.Am
theorem dM.ownI {E:Env} {U:Nat->Prop} {h:Array Obj} {k:Nat} {c:Ch} (hc:dM E U h k c) {i:Nat} {q:Nat×TypeId×List (List C)} (hi:chI c i=some q) (hn:((E k).inn i).nil=false):(E k).fp ((E k).inn i).blk:=by
 cases c with
 | box cs=>exact (hc.2.1.fp _).2 (.inr ⟨i,q,hi,hn,rfl⟩)
 | row sz ty es=>cases hi
 | deep isz ity ty hole rows=>exact (hc.2.1.fp _).2 (.inr ⟨i,q,hi,hn,rfl⟩)
 | res R=>cases hi
end Go.Am
end
section
namespace Go.Am
open Dat (cells)
variable {P : Program}
theorem ReadsAs.arg {t e:TypeId} {α:Type} [DatL α] (h:ReadsAs P t (List α)) (ht:P.underlying t=some (.slice e)) {H:Type} {en:TypeId×Value->H} {W:World} {r:Reach} {base:Nat} {sp:Nat->Bool} {v:Value} {d:DataW H} {ps:List MemPlace}
 (hval:Value.okWide P W r base t v) (hd:DataW.Trod en P W 0 sp true t v d ps):∃ l:List α,∀ E,Rep E (fun b=>b < W.heap.size) W.heap (enc l) v:=by
 obtain⟨a,len,cap,rfl⟩:=WideShapes.okWide_slice ht hval;obtain⟨fuel,hf⟩:=hd;obtain⟨l,_,_,h3⟩:=h.rd en W sp fuel _ _ hf;exact⟨l,fun E=>.d (h3 0 _ rfl).1⟩
theorem ReadsP.arg {t e:TypeId} {α:Type} [DatL α] {p:List α->Prop} (h:ReadsP P t (List α) p) (ht:P.underlying t=some (.slice e)) {H:Type} {en:TypeId×Value->H} {W:World} {r:Reach} {base:Nat} {sp:Nat->Bool} {v:Value} {d:DataW H} {ps:List MemPlace}
 (hval:Value.okWide P W r base t v) (hd:DataW.Trod en P W 0 sp true t v d ps):∃ l:List α,p l/\∀ E,Rep E (fun b=>b < W.heap.size) W.heap (enc l) v:=by
 obtain⟨a,len,cap,rfl⟩:=WideShapes.okWide_slice ht hval;obtain⟨fuel,hf⟩:=hd;obtain⟨l,h0,_,_,h3⟩:=h.rd en W sp fuel _ _ hf;exact⟨l,h0,fun E=>.d (h3 0 _ rfl).1⟩
end Go.Am
end
section
namespace Go.Am
open Dat (cells)
variable {P : Program} [Glob P] {ro : Option Nat} {ρ : Operand → C} {ch : Chs} {d : Nat}
inductive Lend (ch:Chs):C->C->Prop
 | same (c:C):Lend ch c c
 | any (c:C):Lend ch c .any
 | own {k:Nat} {c0:Ch} {x:C} (h:lk ch k=some c0) (hx:bz c0=some x):Lend ch (.own k) x
 | inn {k i n:Nat} {t:TypeId} {es:List (List C)} {q:Prop} (h:aN ch k i=some (q,n,t,es)) (hq:q):Lend ch (.inn k i) (.sl n es)
 | agg {cs cs':List C} (hl:cs.length=cs'.length) (h:∀ (j:Nat) (a b:C),cs[j]? = some a->cs'[j]? = some b->Lend ch a b):Lend ch (.agg cs) (.agg cs')
def wa (ch:Chs):List C->List C->Prop
 |[],[]=>True
 | a :: l,b :: m=>Lend ch a b/\wa ch l m
 |_,_=>False
def lntU (E:Env) (U:Nat->Prop) (ch:Chs):Nat->Prop:=fun b=>U b\/∃ k c,(k,c)∈ch/\(E k).fp b
theorem Lend.rep {E:Env} {U:Nat->Prop} {h:Array Obj} (hi:Inv E U h ch) {c c':C} (hl:Lend ch c c'):∀ {v:Value},Rep E U h c v->Rep E (lntU E U ch) h c' v:=by
 have hk:∀ b,U b->lntU E U ch b/\h[b]? = h[b]?:=fun b hb=>⟨.inl hb,rfl⟩
 induction hl with
 | same c=>exact fun hr=>hr.same hk
 | any c=>exact fun _=>.d (.any _)
 | own g hx=>exact fun hr=>.d (mJ (hi.ok _ _ (dH g)) hx hr hk (fun b hb=>⟨.inr ⟨_,_,dH g,hb⟩,rfl⟩))
 | inn g hq=>
  intro v hr;obtain⟨c0,g1,g2,_,g4⟩:=gM g hq;have hc:=hi.ok _ _ (dH g1);rw[kx hr];exact .d (mM ((hc.inns g4).2 _ _ _ _ g2) hk (fun hn=>⟨.inr ⟨_,_,dH g1,hc.ownI g2 hn⟩,rfl⟩))
 | agg hl h ih=>
  intro v hr;cases hr with
  | d hd=>cases hd
  | agg _ vs q1 q2 q3=>
   refine .agg _ vs (q1.trans hl) (fun j c hj=>?_) q3;have hlt:j < _:=(zi.1 hj).1;rw[<- hl]at hlt;exact ih j _ c (ze hlt) hj (q2 j _ (ze hlt))
theorem wa.args {E:Env} {U:Nat->Prop} {h:Array Obj} (hi:Inv E U h ch):∀ {cs ds:List C} {vs:List Value},wa ch cs ds->vs.length=cs.length->(∀ (j:Nat) (c:C),cs[j]? = some c->Rep E U h c (vs.getD j undef))->vs.length=ds.length/\∀ (j:Nat) (c:C),ds[j]? = some c->Rep E (lntU E U ch) h c (vs.getD j undef)
 |[],[],vs,_,hv,_=>⟨hv,fun j c hj=>by simp at hj⟩
 | a :: l,b :: m,[],_,hv,_=>by simp at hv
 | a :: l,b :: m,v :: vs,hL,hv,hr=>by
  obtain⟨h1,h2⟩:=wa.args hi (vs:=vs) hL.2 (by simpa using hv) (fun j c hj=>hr (j+1) c hj);refine⟨by simp[h1],fun j c hj=>?_⟩;cases j with
  | zero=>cases hj;exact hL.1.rep hi (hr 0 _ rfl)
  | succ j=>exact h2 j c hj
 |[],_ :: _,_,hL,_,_=>hL.elim
 |_ :: _,[],_,hL,_,_=>hL.elim
def wF (kow:Option Nat):C->Bool
 |.s _=>true
 |.any=>true
 |.own j=>decide (kow=some j)
 |_=>false
def xX (kow:Option Nat):C->Bool
 |.agg cs=>cs.all (wF kow)
 |.tup cs=>cs.all fun c=>match c with | .agg ds=>ds.all (wF kow) | c=>wF kow c
 | c=>wF kow c
def renO (kow:Option Nat) (d:Nat):List (Nat×Nat):=match kow with | some k=>[(k,d)] | none=>[]
end Go.Am
end
section
namespace Go.Am
open Dat (cells)
variable {P : Program} [Glob P] {ro : Option Nat} {ρ : Operand → C} {ch : Chs} {d : Nat}
section
variable {E E' : Env} {U U' : Nat → Prop} {h h' : Array Obj} {kow : Option Nat}
theorem wM (hk:∀ k,kow=some k->(E' d).toKE0=(E k).toKE0) {c:C} {v:Value} (hs:wF kow c=true) (hr:Rep E U h c v):Rep E' U' h' (ak (renO kow d) c) v:=by
 cases c <;> simp only[wF,zr,decide_eq_true_eq]at hs
 . exact .d (.any _)
 . rename_i x;rw[dK hr];exact .d (.s _)
 . subst hs;rw[eS hr,<- hk _ rfl];simp only[renO,ak,rn,lk,if_true,zN];exact .own d
theorem xG (hk:∀ k,kow=some k->(E' d).toKE0=(E k).toKE0) {cs:List C} {v:Value} (hs:cs.all (wF kow)=true) (hr:Rep E U h (.agg cs) v):Rep E' U' h' (ak (renO kow d) (.agg cs)) v:=by
 cases hr with
 | d hd=>cases hd
 | agg _ vs q1 q2 q3=>
  simp only[ak,e8];refine .agg _ vs (by simpa using q1) (fun j c hj=>?_) q3;simp only[zh,za]at hj;obtain⟨c0,h0,rfl⟩:=hj;exact wM hk (zx.1 hs c0 (zp h0)) (q2 j c0 h0)
theorem xh (hk:∀ k,kow=some k->(E' d).toKE0=(E k).toKE0) {c:C} {v:Value} (hs:xX kow c=true) (hr:Rep E U h c v):Rep E' U' h' (ak (renO kow d) c) v:=by
 cases c with
 | agg cs=>exact xG hk hs hr
 | tup cs=>
  cases hr with
  | d hd=>cases hd
  | tup _ vs q1 q2=>
   simp only[ak,e8];refine .tup _ vs (by simpa using q1) (fun j c hj=>?_);simp only[zh,za]at hj;obtain⟨c0,h0,rfl⟩:=hj;have hs0:=zx.1 hs c0 (zp h0);have hq:=q2 j c0 h0;generalize vs.getD j undef=u at *;cases c0 with
   | agg ds=>exact xG hk hs0 hq
   |_=>exact wM hk hs0 hq
 |_=>exact wM hk hs hr
end
end Go.Am
end
section
namespace Go.Am
open Dat (cells)
variable {P : Program} [Glob P] {ro : Option Nat} {ρ : Operand → C} {ch : Chs} {d : Nat}
def yZ (es:List (List C)):Prop:=∀ e∈es,∀ c∈e,∃ v,c=.s v
def xq : Ch->Prop
 |.row _ _ es=>yZ es
 |.deep _ _ _ none rows=>∀ es∈rows,yZ es
 |_=>False
theorem yX {U U':Nat->Prop} {h:Array Obj} {y:KE0} {sz:Nat} {ty:TypeId} {es:List (List C)} (hs:yZ es) (hr:fa U h y sz ty es):fa U' h y sz ty es:=by
 obtain⟨h1,h2,h3,h4⟩:=hr;refine⟨h1,h2,h3,?_⟩;rcases h4 with h4 | ⟨h4,h5,h6,arr,h7,h8,h9⟩
 . exact .inl h4
 . refine .inr ⟨h4,h5,h6,arr,h7,h8,fun i e j c he hj=>⟨?_,(h9 i e j c he hj).2⟩⟩;obtain⟨v,rfl⟩:=hs e (zp he) c (zp hj);have:=(h9 i e j _ he hj).1;generalize arr.getD (y.off+i*sz+j) undef=u at *;cases this;exact .s _
theorem xH {E E':Env} {U U':Nat->Prop} {h:Array Obj} {k d:Nat} (hk:E' d=E k) {c:Ch} (hs:xq c) (hc:dM E U h k c):dM E' U' h d c:=by
 cases c with
 | row sz ty es=>
  simp only[dM,hk]at hc ⊢;exact⟨yX hs hc.1,hc.2⟩
 | deep isz ity ty hole rows=>
  cases hole with
  | some i=>exact hs.elim
  | none=>
   simp only[dM,hk]at hc ⊢;refine⟨hc.1,hc.2.1,fun i n t es hI=>yX ?_ (hc.2.2 i n t es hI)⟩;simp only[eh,reduceCtorEq,if_false,za,zf]at hI;obtain⟨es',g1,rfl,rfl,rfl⟩:=hI;exact hs _ (zp g1)
 |_=>exact hs.elim
theorem lnt_inv {E:Env} {U:Nat->Prop} {h:Array Obj} (hi:Inv E U h ch):Inv E (lntU E U ch) h [] where
 nd:=by simp
 ok:=fun k c hm=>by simp at hm
 sep:=fun k c k' c' hm=>by simp at hm
 out:=fun k c hm=>by simp at hm
 fpl:=fun k c hm=>by simp at hm
 lt:=fun b hb=>by
  rcases hb with hb | ⟨k,c,h1,h2⟩
  . exact hi.lt b hb
  . exact hi.fpl k c h1 b h2
theorem Ao : qi ch []:=fun k s h=>by simp at h
theorem wK {f:FuncId} {cs ds:List C} {r:C} {chs:Chs} (hfc:FC P f ds [] r chs) (ha:wa ch cs ds) {E:Env} {U:Nat->Prop} {w:World} {vs:Array Value} (hi:Inv E U w.heap ch) (hg:eT P U w.heap) (hargs:jp E U w.heap cs vs) :
 Calls P f vs w fun e w'=>∃ v E' U',e=.returned v/\Rep E' U' w'.heap r v/\CEv E (lntU E U ch) w [] E' U' w' chs:=by
 obtain⟨a1,a2⟩:=wa.args hi (vs:=vs.toList) ha (by simpa using hargs.1) (fun j c hj=>by
  have:=hargs.2 j c hj
  rwa[zc,<- zM,<- zb]at this)
 refine hfc.2 E (lntU E U ch) vs w (hg.mono fun b hb=>⟨.inl hb,rfl⟩) ⟨by simpa using a1,fun j c hj=>?_⟩ (lnt_inv hi);have:=a2 j c hj;rwa[zb,zM,<- zc]at this
theorem OpM.lend0 {f:FuncId} {fo:Operand} {aS:List Operand} {ds:List C} {r:C} (hfc:FC P f ds [] r []) (hfo:ρ fo=.fn (.func f) [] []) (ha:wa ch (aS.map ρ) ds) (hr:xX none r=true) (hr0:ak [] r=r) :
 OpM P ro ρ ch d (.call fo aS) (fun ef=>ef=⟨True,r,ch,[]⟩):=by
 refine OpM.calls hfc.1 hfo (fun E U w vs hi hg hargs=>(wK hfc ha hi hg hargs).mono fun e w' hh=>?_);obtain⟨v,E1,U1,he,hrep,hc⟩:=hh;have hev:=Ev.freeze (w1:=w') hi (Ao (ch:=ch)) hc.os hc.tape hc.output hc.size (fun b hb=>hc.rest b hb (fun k c hm=>by simp at hm)) (fun _=>False) (fun b hb=>hb.elim) d;rw[j3]at hev;have hrep':=xh (E':=E) (U':=fun b=>U b\/False\/∃ k s,([]:List (Nat×Sb)).lookup k=some s/\(E k).fp b) (h':=w'.heap) (d:=d) (fun k hk=>by cases hk) hr hrep;exact⟨v,_,_,he,hr0 ▸ hrep',hev⟩
theorem OpM.lend1 {f:FuncId} {fo:Operand} {aS:List Operand} {ds:List C} {r:C} {k0:Nat} {c:Ch} (hfc:FC P f ds [] r [(k0,c)]) (hfo:ρ fo=.fn (.func f) [] []) (ha:wa ch (aS.map ρ) ds) (hr:xX (some k0) r=true) (hs:xq c) :
 OpM P ro ρ ch d (.call fo aS) (fun ef=>ef=⟨True,ak [(k0,d)] r,(d,c) :: ae [(d,.c .any)] (af ch d),[(d,.c .any)]⟩):=by
 refine OpM.calls hfc.1 hfo (fun E U w vs hi hg hargs=>(wK hfc ha hi hg hargs).mono fun e w' hh=>?_);obtain⟨v,E1,U1,he,hrep,hc⟩:=hh;have hm:(k0,c)∈[(k0,c)]:=zg.2 rfl;have hev:=Ev.one (w1:=w') hi d (E1 k0) c hc.os hc.tape hc.output hc.size (fun b hb=>hc.rest b hb (fun k c hm=>by simp at hm))
  (fun b hb=>⟨(hc.live k0 c hm b hb).resolve_right (fun⟨k,c,h1,_⟩=>by simp at h1),hc.inv.fpl k0 c hm b hb⟩) (xH (updE_same _ _ _) hs (hc.inv.ok k0 c hm))
 have hrep':=xh (kow:=some k0) (E':=dQ E d (E1 k0)) (U':=U) (h':=w'.heap) (d:=d) (fun k hk=>by cases hk;rw[updE_same]) hr hrep;exact⟨v,_,_,he,hrep',hev⟩
theorem wa.same : ∀ cs:List C,wa ch cs cs
 |[]=>trivial
 |_ :: l=>⟨.same _,wa.same l⟩
theorem FC.own {f:FuncId} {ds:List C} {r:C} {n:Nat} {t:TypeId} {es:List (List C)} {chs:Chs} (hfc:FC P f (.sl n es :: ds) [] r chs) (hk:∀ k c,(k,c)∈chs->k≠100000):FC P f (.own 100000 :: ds) [(100000,.row n t es)] r chs:=by
 refine⟨hfc.1,fun E U vs w hg hargs hi=>?_⟩;have ha:wa [(100000,.row n t es)] (.own 100000 :: ds) (.sl n es :: ds):=⟨.own (c0:=.row n t es) rfl rfl,wa.same ds⟩;refine (wK hfc ha hi hg hargs).mono fun e w' hh=>?_
 obtain⟨v,E1,U1,he,hrep,hc⟩:=hh;refine⟨v,E1,U1,he,hrep,⟨hc.os,hc.tape,hc.output,hc.size,fun b hb=>hc.keep b (.inl hb),fun b hb _=>hc.rest b hb (fun k c hm=>by simp at hm),fun k c hm b hb=>.inl ((hc.live k c hm b hb).resolve_right fun⟨_,_,q,_⟩=>by simp at q),fun b hb=>?_,fun k cs hm ⟨c,q⟩=>?_,hc.inv⟩⟩
 . rcases hc.newU b hb with (q | q) | q | ⟨_,_,q,_⟩
   . exact .inl q
   . exact .inr (.inr q)
   . exact .inr (.inl q)
   . simp at q
 . simp only[zg,zf]at q;exact absurd q.1 (hk k _ hm)
theorem FC.frz {f:FuncId} {cs:List C} {r x:C} {k:Nat} {c:Ch} (hfc:FC P f cs [] r [(k,c)]) (hx:bz c=some x):FC P f cs [] (ah [(k,.c x)] r) []:=by
 refine⟨hfc.1,fun E U vs w hg hargs hi=>(hfc.2 E U vs w hg hargs hi).mono fun e w' hh=>?_⟩;obtain⟨v,E1,U1,he,hrep,hc⟩:=hh;have hfz:qi [(k,c)] [(k,.c x)]:=fun k' s hs=>by
  rw[fW]at hs;split at hs
  . rename_i e;subst e;cases hs;exact⟨c,x,by simp[lk],hx,rfl⟩
  . cases hs
 have hev:=Ev.freeze (w1:=w') hc.inv hfz rfl rfl rfl (zw _) (fun b _=>rfl) (fun _=>False) (fun b hb=>hb.elim) 0;have hnil:ae [(k,.c x)] (aB [(k,c)] [(k,Sb.c x)])=[]:=by simp[aB,af,ae]
 rw[hnil]at hev;refine⟨v,_,_,he,hev.rep hrep,⟨hc.os,hc.tape,hc.output,hc.size,fun b hb=>⟨(hev.keep b (hc.keep b hb).1).1,(hc.keep b hb).2⟩,hc.rest,fun k c hm=>by simp at hm,fun b hb=>?_,fun k cs hm=>by simp at hm,hev.inv⟩⟩;rcases hev.newU b hb with q | q | ⟨k',c',q,h2⟩
 . exact hc.newU b q
 . have:=hc.size;exact .inr (.inl (by omega))
 . exact .inr (.inl ((hc.live k' c' q b h2).resolve_right fun⟨_,_,q,_⟩=>by simp at q))
theorem FC.rekey {f:FuncId} {cs:List C} {r:C} {k:Nat} {c:Ch} (hfc:FC P f cs [] r [(k,c)]) (k':Nat) (hr:xX (some k) r=true) (hs:xq c):FC P f cs [] (ak [(k,k')] r) [(k',c)]:=by
 refine⟨hfc.1,fun E U vs w hg hargs hi=>(hfc.2 E U vs w hg hargs hi).mono fun e w' hh=>?_⟩;obtain⟨v,E1,U1,he,hrep,hc⟩:=hh;have hm:(k,c)∈[(k,c)]:=zg.2 rfl;have h1:∀ j x,(j,x)∈[(k',c)]->j=k'/\x=c:=fun j x h=>by simpa using h
 refine⟨v,dQ E1 k' (E1 k),U1,he,xh (kow:=some k) (fun j hj=>by cases hj;rw[updE_same]) hr hrep,⟨hc.os,hc.tape,hc.output,hc.size,hc.keep,hc.rest,fun j x hj b hb=>?_,hc.newU,fun j xs hj ⟨_,q⟩=>(by simp at q),⟨by simp,fun j x hj=>?_,fun j x j' x' hj hj' hne=>?_,fun j x hj b hb=>?_,fun j x hj b hb=>?_,hc.inv.lt⟩⟩⟩
 . obtain⟨rfl,rfl⟩:=h1 j x hj;rw[updE_same]at hb;exact hc.live k x hm b hb
 . obtain⟨rfl,rfl⟩:=h1 j x hj;exact xH (updE_same _ _ _) hs (hc.inv.ok k x hm)
 . exact absurd ((h1 j x hj).1.trans (h1 j' x' hj').1.symm) hne
 . obtain⟨rfl,rfl⟩:=h1 j x hj;rw[updE_same]at hb;exact hc.inv.out k x hm b hb
 . obtain⟨rfl,rfl⟩:=h1 j x hj;rw[updE_same]at hb;exact hc.inv.fpl k x hm b hb
def yS : Operand->Bool
 |.const (.slice none 0 0)=>true
 |_=>false
def yT (d1:Nat) (ρ:Operand->C):Operand->C:=fun z=>if yS z=true then .own d1 else ah [(d1,.c .any)] (ρ z)
theorem OpM.nilled {op:AOp} {ef:Eff} (d1 n:Nat) (ty:TypeId) (hd:d1 < 100000) (h:OpR P (yT d1 ρ) ((d1,.row n ty []) :: ae [(d1,.c .any)] (af ch d1)) d op ef) :
 OpM P ro ρ ch d op (fun e=>e=⟨True,ef.v,ef.ch,a6 [(d1,.c .any)] ef.sub⟩):=by
 intro own o a E U w hc hi hg hρ K Q hK;have hev:=Ev.freshNil hi d1 (ke0 ⟨0,0,0,0,n,true⟩) (.row n ty []) (fun b hb=>by cases ((gp (y:=⟨0,0,0,0,n,true⟩)).fp b).1 hb with | inl q=>cases q.1 | inr q=>obtain⟨_,_,q,_⟩:=q;cases q) (vo (c0:=.row n ty []) rfl);refine h.sound hc hev.inv hg (fun x hx=>?_) (fun v E' U' w' hr hev2=>hK _ rfl v E' U' w' hr (hev.trans hev2 hd));unfold yT;split
 . rename_i hn;unfold yS at hn;split at hn
   . have:=Rep.own (E:=dQ E d1 (ke0 ⟨0,0,0,0,n,true⟩)) (U:=U) (h:=w.heap) d1;rw[updE_same]at this;exact this
   . cases hn
 . exact hev.rep (hρ x hx)
mutual
theorem xK : ∀ (c:C),aD ch [] c=c
 |.agg cs=>by simp only[aD];rw[xt cs]
 |.own k=>by simp[aD]
 |.inn k i=>by simp[aD]
 |.any=>rfl
 |.s _=>rfl
 |.sl _ _=>rfl
 |.ref _=>rfl
 |.tup _=>rfl
 |.fn _ _ _=>rfl
 |.ptr _ _=>rfl
 |.eptr _ _ _=>rfl
 |.isl _ _ _=>rfl
 |.iptr _ _ _ _=>rfl
theorem xt : ∀ (cs:List C),aD.viewCs ch [] cs=cs
 |[]=>rfl
 | c :: cs=>by simp only[aD.viewCs];rw[xK c,xt cs]
end
mutual
theorem xu : ∀ (c:C),aY ch [] c
 |.agg cs=>by simp only[aY];exact wY cs
 |.inn k i=>by simp[aY]
 |.own k=>trivial
 |.any=>trivial
 |.s _=>trivial
 |.sl _ _=>trivial
 |.ref _=>trivial
 |.tup _=>trivial
 |.fn _ _ _=>trivial
 |.ptr _ _=>trivial
 |.eptr _ _ _=>trivial
 |.isl _ _ _=>trivial
 |.iptr _ _ _ _=>trivial
theorem wY : ∀ (cs:List C),aY.viewOks ch [] cs
 |[]=>trivial
 | c :: cs=>⟨xu c,wY cs⟩
end
theorem OpR.give {fo:Operand} {aS:List Operand} {f:FuncId} {ds:List C} {r:C} {k:Nat} {c:Ch} (hf:ρ fo=.fn (.func f) [] []) (h:FC P f ds [(k,c)] r []) (hd:aS.map ρ=ds) (hl:lk ch k=some c) (hb:∀ cs,c≠.box cs) (hr:dG [] r) :
 OpR P ρ ch d (.call fo aS) ⟨True,r,a7 ch [(k,c)] [] [],az [] [(k,c)]⟩:=by
 refine .call ⟨⟨f,[],[],[],by rw[hf];rfl,?_,fun c _=>xu c,fun k' c' hm=>?_,.inl rfl⟩,by simp,fun k cs hm=>by simp at hm,fun k cs hm=>by simp at hm,fun k' cs hm=>?_,hr,fun k c hm=>by simp at hm⟩
 . have e:([]++aS.map ρ++[]).map (aD ch [])=ds:=by
    rw[<- hd];simp only[yb,z4,zT];exact zH fun x _=>xK _
   rw[e];exact h
 . simp only[zg,zf]at hm;obtain⟨rfl,rfl⟩:=hm;exact⟨hl,by simp,by simp⟩
 . simp only[zg,zf]at hm;exact absurd hm.2.symm (hb cs)
end Go.Am
end
section
namespace Go.Am
open Dat (cells)
variable {P : Program} [Glob P] {ro : Option Nat} {ρ : Operand → C} {ch : Chs} {d : Nat}
section
variable {cx : Cx} {Q : ASt → Prop} {k : List It} {st : ASt}
def addE3 (pur:List Nat) (op:AOp) (j:Nat) (ef:Eff) (E:EL):EL:=match av pur j with | true=>E | false=>lP op j ef E
def wz (P:Program) [Glob P] (L:List (Ent P)) (cx:Cx) (Q:ASt->Prop) (k:List It) (rb:List Nat) (all:List AO) (s0:ASt) (pur:List Nat):Nat->Md->List AO->ASt->Nat->List C->EL->Prop
 |_+1,.run,[],_,_,vs,E=>mFin2 P L cx Q k rb all s0 vs E
 | n+1,.run,⟨dst,none,op,tot⟩ :: os,s,j,vs,E=>wz P L cx Q k rb all s0 pur n (.eff (ai (aq P s.t) s.ch (dst.getD 0) op)) (⟨dst,none,op,tot⟩ :: os) s j vs E
 | n+1,.eff (some ef),⟨dst,none,op,_⟩ :: os,s,j,vs,E=>wz P L cx Q k rb all s0 pur n .run os ⟨aU dst ef.sub ef.v s.t,ef.ch⟩ (j+1) (vs++[ef.v]) (addE3 pur op j ef E)
 | n+1,.eff none,⟨dst,none,op,tot⟩ :: os,s,j,vs,E=>wz P L cx Q k rb all s0 pur n (aE L (aq P s.t) s.ch (dst.getD 0) op) (⟨dst,none,op,tot⟩ :: os) s j vs E
 | n+1,.cal (.eff ef),⟨dst,none,op,_⟩ :: os,s,j,vs,E=>wz P L cx Q k rb all s0 pur n .run os ⟨aU dst ef.sub ef.v s.t,ef.ch⟩ (j+1) (vs++[ef.v]) (addE3 pur op j ef E)
 |_,_,_,_,_,_,_=>False
theorem An {L:List (Ent P)} {rb:List Nat} {all:List AO} {s0:ASt} {pur:List Nat}:∀ (n:Nat) (m:Md) (os:List AO) (s:ASt) (j:Nat) (vs:List C) (E:EL),wz P L cx Q k rb all s0 pur n m os s j vs E->SG P cx Q (.c (.draw 999 rb all) :: k) s0:=by
 intro n
 induction n with
 | zero=>intro m os s j vs E h;simp[wz]at h
 | succ n ih=>
  intro m os s j vs E h;cases os with
  | nil=>
   cases m <;> simp only[wz]at h;obtain⟨h0,h1,h2,h3,h4⟩:=h;exact uz h0 h1 h2 h3 h4
  | cons o os=>
   unfold wz at h;split at h <;> first | exact h.elim | exact ih _ _ _ _ _ _ h | (simp at*<;> (subst_vars;exact ih _ _ _ _ _ _ h))
theorem AW {rb:List Nat} {os:List AO} (L:List (Ent P)) (n:Nat) (pur:List Nat) (h:wz P L cx Q k rb os st pur n .run os st 0 [] []):SG P cx Q (.c (.draw 999 rb os) :: k) st:=
 An n .run os st 0 [] [] h
end
end Go.Am
end
section
namespace Go.Am
open Dat (cells)
variable {P : Program} [Glob P] {cx : Cx} {Q : ASt → Prop} {k : List It} {st : ASt}
inductive MR where
 | run
 | g (b:Option Bool)
 | eff (e:Option Eff)
 | cal (m:Md)
end Go.Am
end
section
open Go Go.Am
open Go.Am.Dat (cells)
namespace Go.Proofs.YtcbabnbiinkafaaGreatDoor
set_option maxRecDepth 100000
def c24 : AC:=oX [oA 2 (.mv (.const (.slice none 0 0)))] [0] (oX [oA 3 (.mkSl true 3 1 o1 0 []),oM 4 0,oA 5 (.app 24 3 1 8 o1 (oO 3) (oO 4)),oM 2 5] [2] .ret)
def rv24 : List RV:=[.tmp 2]
theorem is24 : FnIs Tryz.prog 24 6 c24 rv24:=⟨⟨Tryz.f24,_,Tryz.func24,by kernel_rfl,rfl,rfl,by kernel_rfl,by kernel_rfl⟩,by decide⟩
def c31 : AC:=oX [o9 6 false] [0,1,2] (oX [oM 7 1,oM 8 0,oB 9 .leq 3 7 (oO 8),oM 10 9,oD 11 10 true 0,oD 12 10 true 2,oG 13 10 true (.bin .leq 3 (oO 11) (oO 12)),oP 14 10 13,oM 6 14] [6] .ret)
def rv31 : List RV:=[.tmp 6]
theorem is31 : FnIs Tryz.prog 31 15 c31 rv31:=⟨⟨Tryz.f31,_,Tryz.func31,by kernel_rfl,rfl,rfl,by kernel_rfl,by kernel_rfl⟩,by decide⟩
def c38 : AC:=oX [oA 2 (.mv (.const (.slice none 0 0)))] [0] (oX [oA 3 (.mkSl true 83 3 o3 0 []),oM 4 0,oA 5 (.app 48 83 3 24 o3 (oO 3) (oO 4)),oM 2 5] [2] .ret)
def rv38 : List RV:=[.tmp 2]
theorem is38 : FnIs Tryz.prog 38 6 c38 rv38:=⟨⟨Tryz.f38,_,Tryz.func38,by kernel_rfl,rfl,rfl,by kernel_rfl,by kernel_rfl⟩,by decide⟩
def c40 : AC:=oX [o7 2 0,oV 4 0] [1,2] (oS (oX [o5 6 3 2,oC 7 46 [oO 6],oM 5 7] [1,2,5] (oX [oM 8 5,oB 9 .neq 3 8 (oN 0)] [1,2,5,9] (oI 9 (oX [oM 10 5,oM 4 10] [4] .ret)))) (oK [1,2] (oS (oX [o5 11 3 2,oM 12 1,oC 13 99 [oO 11,oO 12],oA 14 (.un .not (oO 13))] [14] (oI 14 (oX [oV 4 6] [4] .ret))) (oK [] (oX [oV 4 0] [4] .ret)))))
def rv40 : List RV:=[.tmp 4]
theorem is40 : FnIs Tryz.prog 40 15 c40 rv40:=⟨⟨Tryz.f40,_,Tryz.func40,by kernel_rfl,rfl,rfl,by kernel_rfl,by kernel_rfl⟩,by decide⟩
def c42l1 : AC:=oS (oX [oM 20 10,oM 21 2,o4 22 21,oB 23 .lss 3 20 (oO 22)] [2,3,6,9,10,23] (.cond (oO 23) .skip (.exit 0))) (oK [2,3,6,9,10] (oS (.block 1 (oS (oQ [o5 27 3 3,o5 28 10 9,oM 29 2,oA 30 (.mvs (oO 10)),oA 31 (.iaddr 3 o3 (oO 29) (oO 30)),o5 32 3 31,oC 33 71 [oO 27,oO 28,oO 32],oM 26 33,o8 34 26 0,o8 35 26 1,oA 11 (.alloc oZ),oW 10 11 34,oT 12 (.mv (oO 35))]) (oK [2,3,6,9,10,11,12] (oS (oX [oM 36 12,oB 37 .neq 3 36 (oN 0)] [2,3,6,9,10,11,12,37] (oI 37 (oX [oA 38 (.build oZ []),oM 39 10,oM 40 12,oW 10 6 38,oM 7 39,oM 8 40] [6,7,8] .ret))) (oK [2,3,6,9,10,11] (oR [o5 41 10 11,oW 10 9 41])))))) (oK [2,3,6,9,10] (oR [oM 24 10,oB 25 .add 3 24 (oN 1),oM 10 25]))))
def c42 : AC:=oX [o7 3 0,oA 6 (.alloc oZ),oV 7 0,oV 8 0] [1,2,3,6] (oS (oX [oM 13 2,o4 14 13,oB 15 .gtr 3 14 (oN 200)] [1,2,3,6,15] (oI 15 (oX [oA 16 (.build oZ []),oW 10 6 16,oV 7 0,oV 8 8] [6,7,8] .ret))) (oK [1,2,3,6] (oX [o5 17 3 3,oM 18 1,oC 19 52 [oO 17,oO 18],oA 9 (.alloc oZ),oW 10 9 19] [2,3,6,9] (oS (oX [oV 10 0] [2,3,6,9,10] (.block 0 (.loop c42l1))) (oK [6,9] (oX [o5 42 10 9,oW 10 6 42,oV 7 0,oV 8 0] [6,7,8] .ret))))))
def rv42 : List RV:=[.cell 6 true 10,.tmp 7,.tmp 8]
theorem is42 : FnIs Tryz.prog 42 43 c42 rv42:=⟨⟨Tryz.f42,_,Tryz.func42,by kernel_rfl,rfl,rfl,by kernel_rfl,by kernel_rfl⟩,by decide⟩
def c46 : AC:=oX [o7 1 0,oV 2 0] [1] (oX [o5 6 3 1,oC 7 51 [oO 6],oM 5 7,o8 8 5 0,o8 9 5 1,oM 3 8,oM 4 9] [4] (oX [oM 10 4,oM 2 10] [2] .ret))
def rv46 : List RV:=[.tmp 2]
theorem is46 : FnIs Tryz.prog 46 11 c46 rv46:=⟨⟨Tryz.f46,_,Tryz.func46,by kernel_rfl,rfl,rfl,by kernel_rfl,by kernel_rfl⟩,by decide⟩
def c51l1 : AC:=oS (oX [oM 16 4,oF 17 0 1,oL 18 17,o4 19 18,oB 20 .lss 3 16 (oO 19)] [1,4,20] (.cond (oO 20) .skip (.exit 0))) (oK [1,4] (oS (.block 1 (oS (oX [oF 23 0 1,oL 24 23,oM 25 4,⟨some 26,none,.iaddr 1 [.string ⟨#[]⟩] (oO 24) (oO 25),false⟩,oL 27 26,oC 28 108 [oO 27],oA 29 (.un .not (oO 28))] [1,4,29] (oI 29 (oX [oM 30 4,oM 2 30,oV 3 4] [2,3] .ret))) (oK [1,4] (oS (oQ [oF 31 0 1,oL 32 31,oA 33 (.mvs (oO 4)),oA 34 (.ssl 1 (oO 32) none (some (oO 33)) none),oF 35 0 1,oL 36 35,oM 37 4,⟨some 38,none,.iaddr 1 [.string ⟨#[]⟩] (oO 36) (oO 37),false⟩,oL 39 38,oT 40 (.call (.func 109) [oO 34,oO 39])]) (oK [1,4,40] (oI 40 (oX [oM 41 4,oM 2 41,oV 3 5] [2,3] .ret))))))) (oK [1,4] (oR [oM 21 4,oB 22 .add 3 21 (oN 1),oM 4 22]))))
def xN : AC:=oS (oX [oM 73 7,oM 74 5,oB 75 .lss 3 73 (oO 74)] [1,5,6,7,75] (.cond (oO 75) .skip (.exit 4))) (oK [1,5,6,7] (oS (.block 5 (oS (oQ [oF 78 1 1,oL 79 78,oA 80 (.mvs (oO 7)),oA 81 (.iaddr 2 o2 (oO 79) (oO 80)),o5 82 2 81,o5 83 2 6,oT 84 (.ext (.eqs false [0,0]) [oO 82,oO 83])]) (oK [1,5,6,7,84] (oI 84 (oX [oM 85 5,oM 2 85,oV 3 26] [2,3] .ret))))) (oK [1,5,6,7] (oR [oM 76 7,oB 77 .add 3 76 (oN 1),oM 7 77]))))
def c51l3 : AC:=oS (oX [oM 42 5,oF 43 1 1,oL 44 43,o4 45 44,oB 46 .lss 3 42 (oO 45)] [1,5,46] (.cond (oO 46) .skip (.exit 2))) (oK [1,5] (oS (.block 3 (oX [oF 49 1 1,oL 50 49,oM 51 5,oA 52 (.iaddr 2 o2 (oO 50) (oO 51)),o5 53 2 52,oA 6 (.alloc o2),oW 2 6 53] [1,5,6] (oS (oX [o5 54 3 1,oA 55 (.iarr 2 1 (oO 6) (oN 0)),oL 56 55,oC 57 99 [oO 54,oO 56],oA 58 (.un .not (oO 57)),oM 59 58,oG 60 59 false (.load true 3 (oO 1)),oG 61 59 false (.iarr 2 1 (oO 6) (oN 1)),oJ 62 59 false 61,oG 63 59 false (.call (.func 99) [oO 60,oO 62]),oG 64 59 false (.un .not (oO 63)),oH 65 59 64] [1,5,6,65] (oI 65 (oX [oM 66 5,oM 2 66,oV 3 6] [2,3] .ret))) (oK [1,5,6] (oS (oX [oA 67 (.iarr 2 1 (oO 6) (oN 0)),oL 68 67,oA 69 (.iarr 2 1 (oO 6) (oN 1)),oL 70 69,oB 71 .geq 3 68 (oO 70)] [1,5,6,71] (oI 71 (oX [oM 72 5,oM 2 72,oV 3 9] [2,3] .ret))) (oK [1,5,6] (oX [oV 7 0] [1,5,6,7] (.block 4 (.loop xN))))))))) (oK [1,5] (oR [oM 47 5,oB 48 .add 3 47 (oN 1),oM 5 48]))))
def c51 : AC:=oX [o7 1 0,oV 2 0,oV 3 0] [1] (oS (oX [oF 8 0 1,oL 9 8,o4 10 9,oB 11 .eql 3 10 (oN 0)] [1,11] (oI 11 (oX [oV 2 0,oV 3 10] [2,3] .ret))) (oK [1] (oS (oX [oF 12 0 1,oL 13 12,o4 14 13,oB 15 .gtr 3 14 (oN 6)] [1,15] (oI 15 (oX [oV 2 0,oV 3 8] [2,3] .ret))) (oK [1] (oS (oX [oV 4 0] [1,4] (.block 0 (.loop c51l1))) (oK [1] (oS (oX [oV 5 0] [1,5] (.block 2 (.loop c51l3))) (oK [1] (oS (oX [oF 86 2 1,oL 87 86,oC 88 31 [oO 87,oN 1,oN 100000],oA 89 (.un .not (oO 88))] [89] (oI 89 (oX [oV 2 0,oV 3 2] [2,3] .ret))) (oK [] (oX [oV 2 0,oV 3 0] [2,3] .ret)))))))))))
def rv51 : List RV:=[.tmp 2,.tmp 3]
theorem is51 : FnIs Tryz.prog 51 90 c51 rv51:=⟨⟨Tryz.f51,_,Tryz.func51,by kernel_rfl,rfl,rfl,by kernel_rfl,by kernel_rfl⟩,by decide⟩
def c52 : AC:=oX [o7 2 0,oA 4 (.alloc oZ)] [1,2,4] (oX [oM 5 1,oM 6 1,oF 7 0 2,oL 8 7,o4 9 8,oA 10 (.makeSl 24 1 24 o0 (oO 9) (oO 9)),oA 11 (.build oZ [(3,1,oO 5),(4,1,oN (-1)),(5,1,oN (-1)),(6,1,oO 6),(9,1,oO 10)]),oW 10 4 11] [4] .ret)
def rv52 : List RV:=[.cell 4 true 10]
theorem is52 : FnIs Tryz.prog 52 12 c52 rv52:=⟨⟨Tryz.f52,_,Tryz.func52,by kernel_rfl,rfl,rfl,by kernel_rfl,by kernel_rfl⟩,by decide⟩
def c53 : AC:=oX [o7 3 0,oV 6 0] [1,2,3] (oS (oX [o5 11 3 3,oM 12 1,oC 13 40 [oO 11,oO 12],oM 7 13] [1,2,3,7] (oX [oM 14 7,oB 15 .neq 3 14 (oN 0)] [1,2,3,7,15] (oI 15 (oX [oM 16 7,oM 6 16] [6] .ret)))) (oK [1,2,3] (oX [o5 18 3 3,oM 19 1,oM 20 2,oC 21 42 [oO 18,oO 19,oO 20],oM 17 21,o8 22 17 0,o8 23 17 1,o8 24 17 2,oA 8 (.alloc oZ),oW 10 8 22,oM 9 23,oM 10 24] [10] (oX [oM 25 10,oM 6 25] [6] .ret))))
def rv53 : List RV:=[.tmp 6]
theorem is53 : FnIs Tryz.prog 53 26 c53 rv53:=⟨⟨Tryz.f53,_,Tryz.func53,by kernel_rfl,rfl,rfl,by kernel_rfl,by kernel_rfl⟩,by decide⟩
def xO : AC:=oS (oX [oM 8 3,oF 9 9 1,oL 10 9,o4 11 10,oB 12 .lss 3 8 (oO 11)] [1,3,12] (.cond (oO 12) .skip (.exit 0))) (oK [1,3] (oS (.block 1 (oX [oF 15 9 1,oL 16 15,oM 17 3,oA 18 (.iaddr 1 o0 (oO 16) (oO 17)),oL 19 18,o4 20 19,oB 21 .gtr 3 20 (oN 64)] [1,3,21] (oI 21 (oX [o9 2 false] [2] .ret)))) (oK [1,3] (oR [oM 13 3,oB 14 .add 3 13 (oN 1),oM 3 14]))))
def c63 : AC:=oX [o7 1 0,o9 2 false] [1] (oS (oX [oF 4 9 1,oL 5 4,o4 6 5,oB 7 .gtr 3 6 (oN 8)] [1,7] (oI 7 (oX [o9 2 false] [2] .ret))) (oK [1] (oS (oX [oV 3 0] [1,3] (.block 0 (.loop xO))) (oK [] (oX [o9 2 true] [2] .ret)))))
def rv63 : List RV:=[.tmp 2]
theorem is63 : FnIs Tryz.prog 63 22 c63 rv63:=⟨⟨Tryz.f63,_,Tryz.func63,by kernel_rfl,rfl,rfl,by kernel_rfl,by kernel_rfl⟩,by decide⟩
def c68 : AC:=oX [o7 2 0,o7 3 1,oV 4 0] [2,3] (oS (oX [oF 5 0 3,oL 6 5,oC 7 31 [oO 6,oN 0,oN 11],oA 8 (.un .not (oO 7))] [2,3,8] (oI 8 (oX [oV 4 15] [4] .ret))) (oK [2,3] (oS (oX [oF 9 1 3,oL 10 9,oC 11 31 [oO 10,oN 0,oN 1000000000],oA 12 (.un .not (oO 11))] [2,3,12] (oI 12 (oX [oV 4 2] [4] .ret))) (oK [2,3] (oS (oX [oF 13 0 3,oL 14 13,oB 15 .eql 3 14 (oN 3),oM 16 15,oE 17 16 false 0 3,oJ 18 16 false 17,oG 19 16 false (.bin .eql 3 (oO 18) (oN 10)),oH 20 16 19] [2,3,20] (oI 20 (oS (oX [o5 21 3 2,oF 22 2 3,oL 23 22,oC 24 99 [oO 21,oO 23],oA 25 (.un .not (oO 24))] [25] (oI 25 (oX [oV 4 6] [4] .ret))) (oK [] (oX [oV 4 0] [4] .ret))))) (oK [3] (oS (oX [oF 26 2 3,oL 27 26,oB 28 .neq 3 27 (oN 0)] [28] (oI 28 (oX [oV 4 3] [4] .ret))) (oK [] (oX [oV 4 0] [4] .ret)))))))))
def rv68 : List RV:=[.tmp 4]
theorem is68 : FnIs Tryz.prog 68 29 c68 rv68:=⟨⟨Tryz.f68,_,Tryz.func68,by kernel_rfl,rfl,rfl,by kernel_rfl,by kernel_rfl⟩,by decide⟩
def c71 : AC:=oX [o7 3 0,o7 4 1,o7 5 2,oA 6 (.alloc oZ),oV 7 0] [3,4,5,6] (oS (oX [o5 9 3 3,o5 10 3 5,oC 11 68 [oO 9,oO 10],oM 8 11] [3,4,5,6,8] (oX [oM 12 8,oB 13 .neq 3 12 (oN 0)] [3,4,5,6,8,13] (oI 13 (oX [oA 14 (.build oZ []),oM 15 8,oW 10 6 14,oM 7 15] [6,7] .ret)))) (oK [3,4,5,6] (oX [o5 16 3 3,o5 17 10 4,o5 18 3 5,oC 19 119 [oO 16,oO 17,oO 18],o8 20 19 0,o8 21 19 1,oW 10 6 20,oM 7 21] [6,7] .ret)))
def rv71 : List RV:=[.cell 6 true 10,.tmp 7]
theorem is71 : FnIs Tryz.prog 71 22 c71 rv71:=⟨⟨Tryz.f71,_,Tryz.func71,by kernel_rfl,rfl,rfl,by kernel_rfl,by kernel_rfl⟩,by decide⟩
def c75l1 : AC:=oS (oX [oM 6 5,oM 7 0,o4 8 7,oB 9 .lss 3 6 (oO 8)] [0,1,5,9] (.cond (oO 9) .skip (.exit 0))) (oK [0,1,5] (oS (.block 1 (oX [oM 12 0,oM 13 5,oA 14 (.iaddr 1 o1 (oO 12) (oO 13)),oL 15 14,oM 16 1,oB 17 .eql 3 15 (oO 16)] [0,1,5,17] (oI 17 (oX [o9 4 true] [4] .ret)))) (oK [0,1,5] (oR [oM 10 5,oB 11 .add 3 10 (oN 1),oM 5 11]))))
def c75 : AC:=oX [o9 4 false] [0,1] (oS (oX [oV 5 0] [0,1,5] (.block 0 (.loop c75l1))) (oK [] (oX [o9 4 false] [4] .ret)))
def rv75 : List RV:=[.tmp 4]
theorem is75 : FnIs Tryz.prog 75 18 c75 rv75:=⟨⟨Tryz.f75,_,Tryz.func75,by kernel_rfl,rfl,rfl,by kernel_rfl,by kernel_rfl⟩,by decide⟩
def c87 : AC:=oX [o9 0 false] [] (oX [oC 7 89 [],oC 8 90 [],oC 9 39 [oO 7,oN 0,oO 8],oM 6 9,o8 10 6 0,o8 11 6 1,oM 1 10,oM 2 11] [1,2] (oX [oC 13 89 [],oC 14 90 [],oA 15 (.ssl 3 (oO 14) none (some (oN 3)) none),oC 16 36 [oO 13,oN 0,oO 15],oM 12 16,o8 17 12 0,o8 18 12 1,o8 19 12 2,oA 3 (.alloc oZ),oW 10 3 17,oM 4 18,oM 5 19] [1,2,3,5] (oX [oM 20 2,oB 21 .eql 27 20 (oN 0),oM 22 21,oD 23 22 true 1,oG 24 22 true (.mkSl false 3 1 o1 2 [(0,oN 0),(1,oN 1)]),oG 25 22 true (.call (.func 30) [oO 23,oO 24]),oP 26 22 25,oM 27 26,oD 28 27 true 5,oG 29 27 true (.bin .eql 27 (oO 28) (oN 0)),oP 30 27 29,oM 31 30,oG 32 31 true (.load true 10 (oO 3)),oG 33 31 true (.call (.func 80) [oO 32]),⟨some 34,some (31,true),.bin .eql 9 (oO 33) (.const (.string ⟨#[51,32,48,32,48,32,48,32,45,49,32,45,49,32,48,32,50,32,49,124,48,32,49,124,124]⟩)),false⟩,oP 35 31 34,oM 0 35] [0] .ret)))
def rv87 : List RV:=[.tmp 0]
theorem is87 : FnIs Tryz.prog 87 36 c87 rv87:=⟨⟨Tryz.f87,_,Tryz.func87,by kernel_rfl,rfl,rfl,by kernel_rfl,by kernel_rfl⟩,by decide⟩
def c89 : AC:=oX [oA 0 (.alloc [.slice none 0 0,.slice none 0 0,.int .i64 0])] [0] (oX [⟨some 1,none,.mkSl false 9 1 [.string ⟨#[]⟩] 3 [(0,(.const (.string ⟨#[97]⟩))),(1,(.const (.string ⟨#[98]⟩))),(2,(.const (.string ⟨#[99]⟩)))],false⟩,oA 2 (.build o2 [(0,1,oN 0),(1,1,oN 1)]),oA 3 (.build o2 [(0,1,oN 1),(1,1,oN 2)]),oA 4 (.mkSl false 40 2 o2 2 [(0,oO 2),(1,oO 3)]),oA 5 (.build [.slice none 0 0,.slice none 0 0,.int .i64 0] [(0,1,oO 1),(1,1,oO 4),(2,1,oN 100)]),oW 3 0 5] [0] .ret)
def rv89 : List RV:=[.cell 0 true 3]
theorem is89 : FnIs Tryz.prog 89 6 c89 rv89:=⟨⟨Tryz.f89,_,Tryz.func89,by kernel_rfl,rfl,rfl,by kernel_rfl,by kernel_rfl⟩,by decide⟩
def c90 : AC:=oX [oA 0 (.mv (.const (.slice none 0 0)))] [] (oX [oA 1 (.build o3 [(1,1,oN 1)]),oA 2 (.build o3 [(1,1,oN 2)]),oA 3 (.build o3 [(0,1,oN 1),(1,1,oN 3)]),oA 4 (.build o3 [(0,1,oN 3),(1,1,oN 4),(2,1,oN 1)]),oA 5 (.build o3 [(0,1,oN 5),(1,1,oN 5)]),oA 6 (.build o3 [(0,1,oN 7),(1,1,oN 6)]),oA 7 (.build o3 [(0,1,oN 7),(1,1,oN 7)]),oA 8 (.build o3 [(0,1,oN 6),(1,1,oN 8)]),oA 9 (.build o3 [(0,1,oN 1),(1,1,oN 9)]),oA 10 (.build o3 [(0,1,oN 2),(1,1,oN 10)]),oA 11 (.build o3 [(0,1,oN 1),(1,1,oN 11)]),oA 12 (.build o3 [(0,1,oN 2),(1,1,oN 12)]),oA 13 (.mkSl false 83 3 o3 12 [(0,oO 1),(1,oO 2),(2,oO 3),(3,oO 4),(4,oO 5),(5,oO 6),(6,oO 7),(7,oO 8),(8,oO 9),(9,oO 10),(10,oO 11),(11,oO 12)]),oM 0 13] [0] .ret)
def rv90 : List RV:=[.tmp 0]
theorem is90 : FnIs Tryz.prog 90 14 c90 rv90:=⟨⟨Tryz.f90,_,Tryz.func90,by kernel_rfl,rfl,rfl,by kernel_rfl,by kernel_rfl⟩,by decide⟩
def c99 : AC:=oX [o7 2 0,o9 4 false] [1,2] (oX [oM 5 1,oF 6 0 2,oL 7 6,o4 8 7,oB 9 .sub 3 8 (oN 1),oC 10 31 [oO 5,oN 0,oO 9],oM 4 10] [4] .ret)
def rv99 : List RV:=[.tmp 4]
theorem is99 : FnIs Tryz.prog 99 11 c99 rv99:=⟨⟨Tryz.f99,_,Tryz.func99,by kernel_rfl,rfl,rfl,by kernel_rfl,by kernel_rfl⟩,by decide⟩
def x3 : AC:=oS (oX [oM 14 3,oM 15 0,oA 16 (.len true (oO 15)),oB 17 .lss 3 14 (oO 16)] [0,3,17] (.cond (oO 17) .skip (.exit 0))) (oK [0,3] (oS (.block 1 (oX [oM 20 0,oM 21 3,oA 22 (.istr (oO 20) (oO 21)),oM 4 22] [0,3,4] (oX [oM 23 4,oA 24 (.bin .geq 5 (oO 23) (.const (.int .u8 97))),oM 25 24,oD 26 25 true 4,oG 27 25 true (.bin .leq 5 (oO 26) (.const (.int .u8 122))),oP 28 25 27,oM 29 28,oD 30 29 false 4,oG 31 29 false (.bin .geq 5 (oO 30) (.const (.int .u8 65))),oD 32 29 false 31,oD 33 32 true 4,oG 34 32 true (.bin .leq 5 (oO 33) (.const (.int .u8 90))),oG 35 29 false (.pick (oO 32) (oO 34) (.const (.bool false))),oH 36 29 35,oM 5 36] [0,3,4,5] (oX [oM 37 5,oA 38 (.un .not (oO 37)),oM 39 38,oD 40 39 true 3,oG 41 39 true (.bin .eql 3 (oO 40) (oN 0)),oD 42 39 true 41,oD 43 42 false 4,oG 44 42 false (.bin .neq 5 (oO 43) (.const (.int .u8 45))),oD 45 42 false 44,oD 46 45 true 4,oG 47 45 true (.bin .lss 5 (oO 46) (.const (.int .u8 48))),oD 48 45 true 47,oD 49 48 false 4,oG 50 48 false (.bin .gtr 5 (oO 49) (.const (.int .u8 57))),oG 51 45 true (.pick (oO 48) (.const (.bool true)) (oO 50)),oG 52 42 false (.pick (oO 45) (oO 51) (.const (.bool false))),oG 53 39 true (.pick (oO 42) (.const (.bool true)) (oO 52)),oP 54 39 53] [0,3,54] (oI 54 (oX [o9 2 false] [2] .ret)))))) (oK [0,3] (oR [oM 18 3,oB 19 .add 3 18 (oN 1),oM 3 19]))))
def c108 : AC:=oX [o9 2 false] [0] (oS (oX [oM 6 0,oA 7 (.len true (oO 6)),oB 8 .lss 3 7 (oN 1),oM 9 8,oD 10 9 false 0,oG 11 9 false (.len true (oO 10)),oG 12 9 false (.bin .gtr 3 (oO 11) (oN 12)),oH 13 9 12] [0,13] (oI 13 (oX [o9 2 false] [2] .ret))) (oK [0] (oS (oX [oV 3 0] [0,3] (.block 0 (.loop x3))) (oK [] (oX [o9 2 true] [2] .ret)))))
def wQ : List RV:=[.tmp 2]
theorem is108 : FnIs Tryz.prog 108 55 c108 wQ:=⟨⟨Tryz.f108,_,Tryz.func108,by kernel_rfl,rfl,rfl,by kernel_rfl,by kernel_rfl⟩,by decide⟩
def x4 : AC:=oS (oX [oM 6 5,oM 7 0,o4 8 7,oB 9 .lss 3 6 (oO 8)] [0,1,5,9] (.cond (oO 9) .skip (.exit 0))) (oK [0,1,5] (oS (.block 1 (oX [oM 12 0,oM 13 5,⟨some 14,none,.iaddr 1 [.string ⟨#[]⟩] (oO 12) (oO 13),false⟩,oL 15 14,oM 16 1,oB 17 .eql 9 15 (oO 16)] [0,1,5,17] (oI 17 (oX [o9 4 true] [4] .ret)))) (oK [0,1,5] (oR [oM 10 5,oB 11 .add 3 10 (oN 1),oM 5 11]))))
def c109 : AC:=oX [o9 4 false] [0,1] (oS (oX [oV 5 0] [0,1,5] (.block 0 (.loop x4))) (oK [] (oX [o9 4 false] [4] .ret)))
def xS : List RV:=[.tmp 4]
theorem is109 : FnIs Tryz.prog 109 18 c109 xS:=⟨⟨Tryz.f109,_,Tryz.func109,by kernel_rfl,rfl,rfl,by kernel_rfl,by kernel_rfl⟩,by decide⟩
def c112 : AC:=oX [o7 1 0,o9 2 false] [1] (oX [oF 3 1 1,oL 4 3,oB 5 .eql 3 4 (oN 2),oM 6 5,oE 7 6 false 1 1,oJ 8 6 false 7,oG 9 6 false (.bin .eql 3 (oO 8) (oN 3)),oH 10 6 9,oM 2 10] [2] .ret)
def rv112 : List RV:=[.tmp 2]
theorem is112 : FnIs Tryz.prog 112 11 c112 rv112:=⟨⟨Tryz.f112,_,Tryz.func112,by kernel_rfl,rfl,rfl,by kernel_rfl,by kernel_rfl⟩,by decide⟩
def x5 : AC:=oS (oX [oM 8 7,oF 9 1 3,oL 10 9,o4 11 10,oB 12 .lss 3 8 (oO 11)] [1,2,3,7,12] (.cond (oO 12) .skip (.exit 0))) (oK [1,2,3,7] (oS (.block 1 (oX [oF 15 1 3,oL 16 15,oM 17 7,oA 18 (.iaddr 2 o2 (oO 16) (oO 17)),o5 19 2 18,oM 20 1,oM 21 2,oA 22 (.ext (.mx false) [oO 20,oO 21]),oM 23 1,oM 24 2,oA 25 (.ext (.mx true) [oO 23,oO 24]),oA 26 (.build o2 [(0,1,oO 22),(1,1,oO 25)]),oA 27 (.ext (.eqs false [0,0]) [oO 19,oO 26])] [1,2,3,7,27] (oI 27 (oX [o9 6 true] [6] .ret)))) (oK [1,2,3,7] (oR [oM 13 7,oB 14 .add 3 13 (oN 1),oM 7 14]))))
def c115 : AC:=oX [o7 3 0,o9 6 false] [1,2,3] (oS (oX [oV 7 0] [1,2,3,7] (.block 0 (.loop x5))) (oK [] (oX [o9 6 false] [6] .ret)))
def xU : List RV:=[.tmp 6]
theorem is115 : FnIs Tryz.prog 115 28 c115 xU:=⟨⟨Tryz.f115,_,Tryz.func115,by kernel_rfl,rfl,rfl,by kernel_rfl,by kernel_rfl⟩,by decide⟩
def x6 : AC:=oS (oX [oM 5 4,oF 6 9 1,oL 7 6,o4 8 7,oB 9 .lss 3 5 (oO 8)] [1,3,4,9] (.cond (oO 9) .skip (.exit 0))) (oK [1,3,4] (oS (.block 1 (oR [oM 12 3,oF 13 9 1,oL 14 13,oM 15 4,oA 16 (.iaddr 1 o0 (oO 14) (oO 15)),oL 17 16,o4 18 17,oB 19 .add 3 12 (oO 18),oM 3 19])) (oK [1,3,4] (oR [oM 10 4,oB 11 .add 3 10 (oN 1),oM 4 11]))))
def c116 : AC:=oX [o7 1 0,oV 2 0] [1] (oX [oV 3 0] [1,3] (oS (oX [oV 4 0] [1,3,4] (.block 0 (.loop x6))) (oK [3] (oX [oM 20 3,oM 2 20] [2] .ret))))
def xV : List RV:=[.tmp 2]
theorem is116 : FnIs Tryz.prog 116 21 c116 xV:=⟨⟨Tryz.f116,_,Tryz.func116,by kernel_rfl,rfl,rfl,by kernel_rfl,by kernel_rfl⟩,by decide⟩
def x7 : AC:=oS (oX [oM 8 7,oM 9 1,oB 10 .lss 3 8 (oO 9)] [1,2,3,7,10] (.cond (oO 10) .skip (.exit 0))) (oK [1,2,3,7] (oS (.block 1 (oX [oF 13 9 3,oL 14 13,oM 15 7,oA 16 (.iaddr 1 o0 (oO 14) (oO 15)),oL 17 16,oM 18 2,oC 19 75 [oO 17,oO 18]] [1,2,3,7,19] (oI 19 (oX [oM 20 7,oM 6 20] [6] .ret)))) (oK [1,2,3,7] (oR [oM 11 7,oB 12 .add 3 11 (oN 1),oM 7 12]))))
def c117 : AC:=oX [o7 3 0,oV 6 0] [1,2,3] (oS (oX [oV 7 0] [1,2,3,7] (.block 0 (.loop x7))) (oK [] (oX [oV 6 (-1)] [6] .ret)))
def xW : List RV:=[.tmp 6]
theorem is117 : FnIs Tryz.prog 117 21 c117 xW:=⟨⟨Tryz.f117,_,Tryz.func117,by kernel_rfl,rfl,rfl,by kernel_rfl,by kernel_rfl⟩,by decide⟩
def c119 : AC:=oX [o7 3 0,o7 4 1,o7 5 2,oA 6 (.alloc oZ),oV 7 0] [3,4,5,6] (oS (oX [oF 11 1 5,oL 12 11,oF 13 0 4,oL 14 13,oB 15 .lss 3 12 (oO 14)] [3,4,5,6,15] (oI 15 (oX [oA 16 (.build oZ []),oW 10 6 16,oV 7 9] [6,7] .ret))) (oK [3,4,5,6] (oX [o5 18 3 3,o5 19 10 4,oF 20 1 5,oL 21 20,oC 22 110 [oO 18,oO 19,oO 21],oM 17 22,o8 23 17 0,o8 24 17 1,oA 8 (.alloc oZ),oW 10 8 23,oM 9 24] [3,5,6,8] (oS (oX [o5 25 3 3,o5 26 10 8,o5 27 3 5,oC 28 152 [oO 25,oO 26,oO 27],oM 10 28] [5,6,8,10] (oX [oM 29 10,oB 30 .neq 3 29 (oN 0)] [5,6,8,10,30] (oI 30 (oX [oA 31 (.build oZ []),oM 32 10,oW 10 6 31,oM 7 32] [6,7] .ret)))) (oK [5,6,8] (oX [o5 33 10 8,o5 34 3 5,oC 35 153 [oO 33,oO 34],oW 10 8 35] [5,6,8] (oX [oF 36 1 5,oL 37 36,oF 38 0 8,oW 1 38 37] [6,8] (oX [o5 39 10 8,oW 10 6 39,oV 7 0] [6,7] .ret))))))))
def wR : List RV:=[.cell 6 true 10,.tmp 7]
theorem is119 : FnIs Tryz.prog 119 40 c119 wR:=⟨⟨Tryz.f119,_,Tryz.func119,by kernel_rfl,rfl,rfl,by kernel_rfl,by kernel_rfl⟩,by decide⟩
def rv167 : List RV:=[.tmp 2,.tmp 3]
theorem is167 : FnIs Tryz.prog 167 15 c167 rv167:=⟨⟨Tryz.f167,_,Tryz.func167,by kernel_rfl,rfl,rfl,by kernel_rfl,by kernel_rfl⟩,by decide⟩
def c168 : AC:=oX [o7 1 0,oA 2 (.alloc oZ)] [1,2] (oS (oX [oF 3 5 1,oL 4 3,oB 5 .neq 3 4 (oN (-1)),oM 6 5,oE 7 6 true 6 1,oJ 8 6 true 7,oE 9 6 true 3 1,oJ 10 6 true 9,oG 11 6 true (.bin .eql 3 (oO 8) (oO 10)),oP 12 6 11,oM 13 12,oE 14 13 true 9 1,oJ 15 13 true 14,oE 16 13 true 5 1,oJ 17 13 true 16,oG 18 13 true (.iaddr 1 o0 (oO 15) (oO 17)),oJ 19 13 true 18,oG 20 13 true (.len false (oO 19)),oG 21 13 true (.bin .eql 3 (oO 20) (oN 0)),oP 22 13 21] [1,2,22] (oI 22 (oR [oF 23 5 1,oY false 1 (oO 23) (oN (-1))]))) (oK [1,2] (oX [o5 24 10 1,oW 10 2 24] [2] .ret)))
def xp : List RV:=[.cell 2 true 10]
theorem is168 : FnIs Tryz.prog 168 25 c168 xp:=⟨⟨Tryz.f168,_,Tryz.func168,by kernel_rfl,rfl,rfl,by kernel_rfl,by kernel_rfl⟩,by decide⟩
end Go.Proofs.YtcbabnbiinkafaaGreatDoor
end
section
open Go Go.Am
open Go.Am.Dat (cells)
namespace Go.Proofs.YtcbabnbiinkafaaGreatDoor.D7
set_option maxRecDepth 100000
def c60l1 : AC:=oS (oX [oM 5 4,oM 6 0,o4 7 6,oB 8 .lss 3 5 (oO 7)] [0,3,4,8] (.cond (oO 8) .skip (.exit 0))) (oK [0,3,4] (oS (.block 1 (oR [oM 11 3,oM 12 0,oM 13 4,oA 14 (.iaddr 1 o0 (oO 12) (oO 13)),oL 15 14,oC 16 24 [oO 15],oA 17 (.mkSl true 24 1 o0 1 [(0,oO 16)]),oA 18 (.app 51 24 1 24 o0 (oO 11) (oO 17)),oM 3 18])) (oK [0,3,4] (oR [oM 9 4,oB 10 .add 3 9 (oN 1),oM 4 10]))))
def c60 : AC:=oX [oA 2 (.mv (.const (.slice none 0 0)))] [0] (oX [oA 3 (.mv (.const (.slice none 0 0)))] [0,3] (.nilrow 3 1 24 (.deepen 3 1 3 (oS (oX [oV 4 0] [0,3,4] (.block 0 (.loop c60l1))) (oK [3] (oX [oM 19 3,oM 2 19] [2] .ret))))))
def rv60 : List RV:=[.tmp 2]
theorem is60 : FnIs Tryz.prog 60 20 c60 rv60:=⟨⟨Tryz.f60,_,Tryz.func60,by kernel_rfl,rfl,rfl,by kernel_rfl,by kernel_rfl⟩,by decide⟩
def c65 : AC:=oX [o7 1 0,oA 2 (.alloc oZ)] [1,2] (oX [oF 3 9 1,oL 4 3,oC 5 60 [oO 4],oF 6 9 1,oW 1 6 5] [1,2] (oX [o5 7 10 1,oW 10 2 7] [2] .ret))
def rv65 : List RV:=[.cell 2 true 10]
theorem is65 : FnIs Tryz.prog 65 8 c65 rv65:=⟨⟨Tryz.f65,_,Tryz.func65,by kernel_rfl,rfl,rfl,by kernel_rfl,by kernel_rfl⟩,by decide⟩
def c110 : AC:=oX [o7 3 0,o7 4 1,oA 6 (.alloc oZ),oV 7 0] [2,3,4,6] (oS (oX [o5 8 10 4,oC 9 112 [oO 8],oM 10 9,oE 11 10 true 2 4,oJ 12 10 true 11,oE 13 10 true 2 3,oJ 14 10 true 13,oG 15 10 true (.bin .add 3 (oO 12) (oO 14)),oD 16 10 true 2,oG 17 10 true (.bin .leq 3 (oO 15) (oO 16)),oP 18 10 17] [3,4,6,18] (oI 18 (oS (.draw 999 [6,12,13,102,105,106,112,113,205,206,212,213,304,305,306,312,313,405,406,412,413,506,512,513,612,613,708,711,713,811,813,910,911,913,1011,1013,1113,1213] [o5 19 10 4,oF 20 2 4,oL 21 20,oF 22 2 3,oL 23 22,oB 24 .add 3 21 (oO 23),oC 25 142 [oO 19,oN 0,oO 24],oF 26 2 4,oL 27 26,oF 28 2 3,oL 29 28,oB 30 .add 3 27 (oO 29),oW 10 6 25,oT 7 (.mv (oO 30))]) (oK [6,7] .ret)))) (oK [4,6] (oX [o5 31 10 4,oC 32 65 [oO 31],oW 10 6 32,oV 7 (-1)] [6,7] .ret)))
def rv110 : List RV:=[.cell 6 true 10,.tmp 7]
theorem is110 : FnIs Tryz.prog 110 33 c110 rv110:=⟨⟨Tryz.f110,_,Tryz.func110,by kernel_rfl,rfl,rfl,by kernel_rfl,by kernel_rfl⟩,by decide⟩
def c142l1 : AC:=oS (oX [oM 20 10,oF 21 9 3,oL 22 21,oM 23 9,oA 24 (.iaddr 1 o0 (oO 22) (oO 23)),oL 25 24,o4 26 25,oB 27 .lss 3 20 (oO 26)] [1,2,3,6,7,8,9,10,27] (.cond (oO 27) .skip (.exit 2))) (oK [1,2,3,6,7,8,9,10] (oS (.block 3 (oR [oM 30 8,oF 31 9 3,oL 32 31,oM 33 9,oA 34 (.iaddr 1 o0 (oO 32) (oO 33)),oL 35 34,oM 36 10,oA 37 (.iaddr 1 o1 (oO 35) (oO 36)),oL 38 37,oC 39 163 [oO 30,oO 38],oM 8 39])) (oK [1,2,3,6,7,8,9,10] (oR [oM 28 10,oB 29 .add 3 28 (oN 1),oM 10 29]))))
def c142l2 : AC:=oS (oX [oM 13 9,oF 14 9 3,oL 15 14,o4 16 15,oB 17 .lss 3 13 (oO 16)] [1,2,3,6,7,8,9,17] (.cond (oO 17) .skip (.exit 0))) (oK [1,2,3,6,7,8,9] (oS (.block 1 (oS (oX [oV 10 0] [1,2,3,6,7,8,9,10] (.block 2 (.loop c142l1))) (oK [1,2,3,6,7,8,9] (oR [oF 40 9 7,oL 41 40,oM 42 9,oA 43 (.iaddr 1 o0 (oO 41) (oO 42)),oY false 1 (oO 43) (.const (.slice none 0 0))])))) (oK [1,2,3,6,7,8,9] (oR [oM 18 9,oB 19 .add 3 18 (oN 1),oM 9 19]))))
def c142 : AC:=oX [o7 3 0,oA 6 (.alloc oZ)] [1,2,3,6] (oX [o5 11 10 3,oC 12 65 [oO 11],oA 7 (.alloc oZ),oW 10 7 12] [1,2,3,6,7] (oX [oA 8 (.mv (.const (.slice none 0 0)))] [1,2,3,6,7,8] (oS (oX [oV 9 0] [1,2,3,6,7,8,9] (.block 0 (.loop c142l2))) (oK [1,2,3,6,7,8] (oS (.draw 6 [0,1,2] [oF 44 9 7,oL 45 44,oA 46 (.mvs (oO 1)),oM 47 8,oF 48 8 3,oL 49 48,oT 50 (.call (.func 164) [oO 47,oO 49]),oT 51 (.iaddr 1 o0 (oO 45) (oO 46)),⟨none,none,.store false 1 (oO 51) (oO 50),true⟩]) (oK [1,2,6,7] (oX [oM 52 2,oM 53 1,oM 54 1,oF 55 1 7,oY false 1 (oO 55) (oN 0),oF 56 2 7,oW 1 56 52,oF 57 3 7,oW 1 57 53,oF 58 6 7,oW 1 58 54] [6,7] (oX [oF 59 4 7,oY false 1 (oO 59) (oN (-1)),oF 60 5 7,oY false 1 (oO 60) (oN (-1))] [6,7] (oX [o5 61 10 7,oW 10 6 61] [6] .ret)))))))))
def rv142 : List RV:=[.cell 6 true 10]
theorem is142 : FnIs Tryz.prog 142 62 c142 rv142:=⟨⟨Tryz.f142,_,Tryz.func142,by kernel_rfl,rfl,rfl,by kernel_rfl,by kernel_rfl⟩,by decide⟩
def c163l1 : AC:=oS (oX [oM 7 6,oM 8 0,o4 9 8,oB 10 .lss 3 7 (oO 9),oM 11 10,oD 12 11 true 0,oD 13 11 true 6,oG 14 11 true (.iaddr 1 o1 (oO 12) (oO 13)),oJ 15 11 true 14,oD 16 11 true 1,oG 17 11 true (.bin .lss 3 (oO 15) (oO 16)),oP 18 11 17] [0,1,5,6,18] (.cond (oO 18) .skip (.exit 0))) (oK [0,1,5,6] (.block 1 (oX [oM 19 5,oM 20 0,oM 21 6,oA 22 (.iaddr 1 o1 (oO 20) (oO 21)),oL 23 22,oA 24 (.mkSl false 3 1 o1 1 [(0,oO 23)]),oA 25 (.app 24 3 1 8 o1 (oO 19) (oO 24)),oM 5 25] [0,1,5,6] (oR [oM 26 6,oB 27 .add 3 26 (oN 1),oM 6 27]))))
def c163 : AC:=oX [oA 4 (.mv (.const (.slice none 0 0)))] [0,1] (oX [oA 5 (.mv (.const (.slice none 0 0)))] [0,1,5] (.nilrow 5 1 3 (oX [oV 6 0] [0,1,5,6] (oS (.block 0 (.loop c163l1)) (oK [0,1,5,6] (oS (.draw 3 [4,5,6] [oM 28 5,oA 29 (.mvs (oO 1)),oA 30 (.mkSl false 3 1 o1 1 [(0,oO 29)]),oT 31 (.app 24 3 1 8 o1 (oO 28) (oO 30)),oM 32 0,oM 33 6,oA 34 (.ssl 1 (oO 32) (some (oO 33)) none none),oT 35 (.app 24 3 1 8 o1 (oO 31) (oO 34)),oT 4 (.mv (oO 35))]) (oK [4] .ret)))))))
def rv163 : List RV:=[.tmp 4]
theorem is163 : FnIs Tryz.prog 163 36 c163 rv163:=⟨⟨Tryz.f163,_,Tryz.func163,by kernel_rfl,rfl,rfl,by kernel_rfl,by kernel_rfl⟩,by decide⟩
def c164l1 : AC:=oS (oX [oM 7 6,oM 8 0,o4 9 8,oB 10 .lss 3 7 (oO 9)] [0,1,5,6,10] (.cond (oO 10) .skip (.exit 0))) (oK [0,1,5,6] (oS (.block 1 (oX [oM 13 0,oM 14 6,oA 15 (.iaddr 1 o1 (oO 13) (oO 14)),oL 16 15,oM 17 1,oB 18 .geq 3 16 (oO 17)] [0,1,5,6,18] (oI 18 (oR [oM 19 5,oM 20 0,oM 21 6,oA 22 (.iaddr 1 o1 (oO 20) (oO 21)),oL 23 22,oA 24 (.mkSl false 3 1 o1 1 [(0,oO 23)]),oA 25 (.app 24 3 1 8 o1 (oO 19) (oO 24)),oM 5 25])))) (oK [0,1,5,6] (oR [oM 11 6,oB 12 .add 3 11 (oN 1),oM 6 12]))))
def c164 : AC:=oX [oA 4 (.mv (.const (.slice none 0 0)))] [0,1] (oX [oA 5 (.mv (.const (.slice none 0 0)))] [0,1,5] (.nilrow 5 1 3 (oS (oX [oV 6 0] [0,1,5,6] (.block 0 (.loop c164l1))) (oK [5] ((oX [oM 26 5,oM 4 26] [4] .ret))))))
def rv164 : List RV:=[.tmp 4]
theorem is164 : FnIs Tryz.prog 164 27 c164 rv164:=⟨⟨Tryz.f164,_,Tryz.func164,by kernel_rfl,rfl,rfl,by kernel_rfl,by kernel_rfl⟩,by decide⟩
def c152k1 : AC:=oX [o5 18 10 4,oC 19 116 [oO 18],oB 20 .geq 3 19 (oN 60),oM 21 20,oE 22 21 false 7 4,oJ 23 21 false 22,oG 24 21 false (.bin .geq 3 (oO 23) (oN 1000000)),oH 25 21 24] [25] (oI 25 (oX [oV 6 16] [6] .ret))
def c152k2 : AC:=oS (oX [o5 28 10 4,oC 29 112 [oO 28]] [4,7,29] (oI 29 (oX [oM 30 7,oM 6 30] [6] .ret))) (oK [4] (oS (oX [oF 31 9 4,oL 32 31,oF 33 3 4,oL 34 33,oA 35 (.iaddr 1 o0 (oO 32) (oO 34)),oL 36 35,o4 37 36,oB 38 .eql 3 37 (oN 0)] [4,38] (oI 38 (oX [oV 6 12] [6] .ret))) (oK [4] (oS (oQ [oF 39 9 4,oL 40 39,oF 41 3 4,oL 42 41,oA 43 (.iaddr 1 o0 (oO 40) (oO 42)),oL 44 43,oA 45 (.iaddr 1 o1 (oO 44) (oN 0)),oL 46 45,oF 47 8 4,oL 48 47,oT 49 (.bin .gtr 3 (oO 46) (oO 48))]) (oK [49] (oI 49 (oX [oV 6 14] [6] .ret)))))))
def c152k3 : AC:=oX [o5 52 10 4,oC 53 112 [oO 52]] [7,53] (oI 53 (oX [oM 54 7,oM 6 54] [6] .ret))
def c152k4 : AC:=oS (oX [oF 57 1 4,oL 58 57,oB 59 .neq 3 58 (oN 0)] [3,4,5,7,8,59] (oI 59 (oX [oM 60 7,oM 6 60] [6] .ret))) (oK [3,4,5,8] (oS (oX [oM 61 8] [3,4,5,61] (oI 61 (oX [oV 6 17] [6] .ret))) (oK [3,4,5] (oX [o5 62 3 3,oF 63 2 5,oL 64 63,oF 65 3 4,oL 66 65,oC 67 115 [oO 62,oO 64,oO 66],oA 68 (.un .not (oO 67))] [68] (oI 68 (oX [oV 6 6] [6] .ret))))))
def c152k5 : AC:=oX [oF 72 1 4,oL 73 72,oB 74 .neq 3 73 (oN 1)] [7,74] (oI 74 (oX [oM 75 7,oM 6 75] [6] .ret))
def c152k6 : AC:=oX [oF 78 1 4,oL 79 78,oB 80 .neq 3 79 (oN 2)] [7,80] (oI 80 (oX [oM 81 7,oM 6 81] [6] .ret))
def c152k7 : AC:=oS (oX [oF 84 1 4,oL 85 84,oB 86 .neq 3 85 (oN 2),oM 87 86,oE 88 87 true 1 4,oJ 89 87 true 88,oG 90 87 true (.bin .neq 3 (oO 89) (oN 0)),oD 91 87 true 90,oD 92 91 false 8,oG 93 91 false (.un .not (oO 92)),oG 94 87 true (.pick (oO 91) (.const (.bool true)) (oO 93)),oP 95 87 94] [4,7,95] (oI 95 (oX [oM 96 7,oM 6 96] [6] .ret))) (oK [4] (oX [o5 98 10 4,oC 99 167 [oO 98],oM 97 99,o8 100 97 0,o8 101 97 1,oM 9 100,oM 10 101] [4,9] (oX [oF 102 9 4,oL 103 102,oM 104 9,oA 105 (.iaddr 1 o0 (oO 103) (oO 104)),oL 106 105,o4 107 106,oB 108 .eql 3 107 (oN 0)] [108] (oI 108 (oX [oV 6 12] [6] .ret)))))
def c152k8 : AC:=oS (oX [oM 111 8,oA 112 (.un .not (oO 111))] [4,7,112] (oI 112 (oX [oV 6 12] [6] .ret))) (oK [4,7] (oS (oX [oF 113 1 4,oL 114 113,oB 115 .eql 3 114 (oN 3)] [4,7,115] (oI 115 (oX [oM 116 7,oM 6 116] [6] .ret))) (oK [4] (oX [oF 117 6 4,oL 118 117,oF 119 3 4,oL 120 119,oB 121 .eql 3 118 (oO 120)] [121] (oI 121 (oX [oV 6 26] [6] .ret))))))
def c152k9 : AC:=oX [oF 124 1 4,oL 125 124,oB 126 .eql 3 125 (oN 3)] [7,126] (oI 126 (oX [oM 127 7,oM 6 127] [6] .ret))
def c152k10 : AC:=oS (oX [oF 130 1 4,oL 131 130,oB 132 .neq 3 131 (oN 3)] [4,5,7,8,132] (oI 132 (oX [oM 133 7,oM 6 133] [6] .ret))) (oK [4,5,8] (oX [oF 134 2 5,oL 135 134,oF 136 3 4,oL 137 136,oB 138 .neq 3 135 (oO 137),oM 139 138,oE 140 139 true 4 4,oJ 141 139 true 140,oG 142 139 true (.bin .eql 3 (oO 141) (oN (-1))),oD 143 139 true 142,oE 144 143 false 2 5,oJ 145 143 false 144,oE 146 143 false 4 4,oJ 147 143 false 146,oG 148 143 false (.bin .neq 3 (oO 145) (oO 147)),oG 149 139 true (.pick (oO 143) (.const (.bool true)) (oO 148)),oP 150 139 149,oM 151 150,oD 152 151 true 8,oG 153 151 true (.un .not (oO 152)),oD 154 151 true 153,oE 155 154 false 2 5,oJ 156 154 false 155,oE 157 154 false 5 4,oJ 158 154 false 157,oG 159 154 false (.bin .neq 3 (oO 156) (oO 158)),oG 160 151 true (.pick (oO 154) (.const (.bool true)) (oO 159)),oP 161 151 160] [161] (oI 161 (oX [oV 6 6] [6] .ret))))
def c152 : AC:=oX [o7 3 0,o7 4 1,o7 5 2,oV 6 0] [3,4,5] (oX [oV 7 22] [3,4,5,7] (oX [oF 11 5 4,oL 12 11,oB 13 .neq 3 12 (oN (-1)),oM 8 13] [3,4,5,7,8] (oS (oX [oF 14 0 5,oL 15 14] [3,4,5,7,8,15] (.block 0 (oX [oB 17 .eql 3 15 (oN 0),oM 16 17] [3,4,5,7,8,15,16] (.cond (oO 16) (.cut c152k1) (oX [oB 27 .eql 3 15 (oN 1),oM 26 27] [3,4,5,7,8,15,26] (.cond (oO 26) (.cut c152k2) (oX [oB 51 .eql 3 15 (oN 2),oM 50 51] [3,4,5,7,8,15,50] (.cond (oO 50) (.cut c152k3) (oX [oB 56 .eql 3 15 (oN 3),oM 55 56] [3,4,5,7,8,15,55] (.cond (oO 55) (.cut c152k4) (oS (oX [oB 70 .eql 3 15 (oN 4),oM 69 70] [4,5,7,8,15,69] (.cond (oO 69) .skip (oR [oB 71 .eql 3 15 (oN 5),oM 69 71]))) (oK [4,5,7,8,15,69] (.cond (oO 69) (.cut c152k5) (oX [oB 77 .eql 3 15 (oN 6),oM 76 77] [4,5,7,8,15,76] (.cond (oO 76) (.cut c152k6) (oX [oB 83 .eql 3 15 (oN 7),oM 82 83] [4,5,7,8,15,82] (.cond (oO 82) (.cut c152k7) (oX [oB 110 .eql 3 15 (oN 8),oM 109 110] [4,5,7,8,15,109] (.cond (oO 109) (.cut c152k8) (oX [oB 123 .eql 3 15 (oN 9),oM 122 123] [4,5,7,8,15,122] (.cond (oO 122) (.cut c152k9) (oX [oB 129 .eql 3 15 (oN 10),oM 128 129] [4,5,7,8,128] (oI 128 (.cut c152k10)))))))))))))))))))))))) (oK [] (oX [oV 6 0] [6] .ret)))))
def rv152 : List RV:=[.tmp 6]
theorem is152 : FnIs Tryz.prog 152 162 c152 rv152:=⟨⟨Tryz.f152,_,Tryz.func152,by kernel_rfl,rfl,rfl,by kernel_rfl,by kernel_rfl⟩,by decide⟩
def c153k1 : AC:=oS (oQ [oF 32 9 2,oL 33 32,oF 34 3 2,oL 35 34,oA 36 (.iaddr 1 o0 (oO 33) (oO 35)),oL 37 36,oA 38 (.iaddr 1 o1 (oO 37) (oN 0)),oL 39 38,oF 40 8 2,oL 41 40,oT 42 (.bin .eql 3 (oO 39) (oO 41))]) (oK [2,4,42] (oI 42 (oR [oF 43 8 2,oL 44 43,oB 45 .add 3 44 (oN 1),oF 46 8 2,oW 1 46 45])))
def c153k2 : AC:=oX [o5 101 10 2,oC 102 167 [oO 101],oM 100 102,o8 103 100 0,o8 104 100 1,oM 5 103,oM 6 104] [2,4,5,6] (oS (.draw 999 [1,16,17,116,117,216,217,304,306,307,315,316,317,406,407,415,416,417,506,507,515,516,517,607,615,616,617,715,716,717,809,811,812,813,814,815,816,817,911,912,913,914,915,916,917,1011,1012,1013,1014,1015,1016,1017,1112,1113,1114,1115,1116,1117,1213,1214,1215,1216,1217,1314,1315,1316,1317,1415,1416,1417,1516,1517,1617] [oF 105 9 2,oL 106 105,oA 107 (.mvs (oO 6)),oF 108 9 2,oL 109 108,oA 110 (.mvs (oO 6)),oA 111 (.iaddr 1 o0 (oO 109) (oO 110)),oL 112 111,oF 113 9 2,oL 114 113,oM 115 5,oA 116 (.iaddr 1 o0 (oO 114) (oO 115)),oL 117 116,oA 118 (.iaddr 1 o1 (oO 117) (oN 0)),oL 119 118,oC 120 163 [oO 112,oO 119],oT 121 (.iaddr 1 o0 (oO 106) (oO 107)),⟨none,none,.store false 1 (oO 121) (oO 120),true⟩]) (oK [2,4,5] (.draw 999 [1,10,11,110,111,210,211,304,306,307,308,309,310,311,406,407,408,409,410,411,506,507,508,509,510,511,607,608,609,610,611,708,709,710,711,809,810,811,910,911,1011] [oF 122 9 2,oL 123 122,oA 124 (.mvs (oO 5)),oF 125 9 2,oL 126 125,oM 127 5,oA 128 (.iaddr 1 o0 (oO 126) (oO 127)),oL 129 128,oA 130 (.ssl 1 (oO 129) (some (oN 1)) none none),oC 131 24 [oO 130],oT 132 (.iaddr 1 o0 (oO 123) (oO 124)),⟨none,none,.store false 1 (oO 132) (oO 131),true⟩])))
def c153k3 : AC:=oS (oX [oF 140 1 2,oL 141 140,oB 142 .neq 3 141 (oN 2)] [2,3,4,142] (oI 142 (oR [oF 143 1 3,oL 144 143,oF 145 2 2,oW 1 145 144]))) (oK [2,4] (oR [oF 146 1 2,oY false 1 (oO 146) (oN 3)]))
def c153k4 : AC:=oX [o5 149 10 2,oF 150 2 3,oL 151 150,oF 152 1 3,oL 153 152,oC 154 142 [oO 149,oO 151,oO 153],oW 10 4 154] [4] .ret
def c153k5 : AC:=oX [o5 155 10 2,oC 156 168 [oO 155],oW 10 4 156] [4] .ret
def c153 : AC:=oX [o7 2 0,o7 3 1,oA 4 (.alloc oZ)] [2,3,4] (oS (oX [oF 7 0 3,oL 8 7] [2,3,4,8] (.block 0 (oX [oB 10 .eql 3 8 (oN 0),oM 9 10] [2,3,4,8,9] (.cond (oO 9) (oS (.draw 13 [0,1,2,3] [oF 11 9 2,oL 12 11,oF 13 6 2,oL 14 13,oF 15 9 2,oL 16 15,oF 17 6 2,oL 18 17,oA 19 (.iaddr 1 o0 (oO 16) (oO 18)),oL 20 19,oF 21 7 2,oL 22 21,oA 23 (.mkSl false 3 1 o1 1 [(0,oO 22)]),oT 24 (.app 24 3 1 8 o1 (oO 20) (oO 23)),oT 25 (.iaddr 1 o0 (oO 12) (oO 14)),⟨none,none,.store true 1 (oO 25) (oO 24),true⟩]) (oK [2,4] (oR [oF 26 7 2,oL 27 26,oB 28 .add 3 27 (oN 1),oF 29 7 2,oW 1 29 28]))) (oX [oB 31 .eql 3 8 (oN 1),oM 30 31] [2,3,4,8,30] (.cond (oO 30) (.cut c153k1) (oX [oB 48 .eql 3 8 (oN 2),oM 47 48] [2,3,4,8,47] (.cond (oO 47) (.draw 999 [1,13,14,113,114,203,213,214,313,314,405,408,409,412,413,414,508,509,512,513,514,607,608,609,612,613,614,708,709,712,713,714,809,812,813,814,912,913,914,1011,1012,1013,1014,1112,1113,1114,1213,1214,1314] [oF 49 9 2,oL 50 49,oF 51 3 2,oL 52 51,oF 53 9 2,oL 54 53,oF 55 3 2,oL 56 55,oA 57 (.iaddr 1 o0 (oO 54) (oO 56)),oL 58 57,oF 59 8 2,oL 60 59,oC 61 164 [oO 58,oO 60],oT 62 (.iaddr 1 o0 (oO 50) (oO 52)),⟨none,none,.store false 1 (oO 62) (oO 61),true⟩]) (oX [oB 64 .eql 3 8 (oN 3),oM 63 64] [2,3,4,8,63] (.cond (oO 63) (.draw 999 [1,6,7,8,9,106,107,108,109,203,208,209,308,309,405,406,407,408,409,506,507,508,509,607,608,609,708,709,809] [oF 65 1 3,oL 66 65,oF 67 2 3,oL 68 67,oF 69 1 2,oY false 1 (oO 69) (oN 1),oF 70 2 2,oW 1 70 66,oT 71 (.faddr 4 (oO 2)),⟨none,none,.store false 1 (oO 71) (oO 68),true⟩]) (oX [oB 73 .eql 3 8 (oN 4),oM 72 73] [2,3,4,8,72] (.cond (oO 72) (.draw 999 [1,4,5,6,7,104,105,106,107,203,204,205,206,207,304,305,306,307,405,406,407,506,507,607] [oF 74 1 3,oL 75 74,oF 76 1 2,oY false 1 (oO 76) (oN 0),oT 77 (.faddr 2 (oO 2)),⟨none,none,.store false 1 (oO 77) (oO 75),true⟩,oT 78 (.faddr 4 (oO 2)),⟨none,none,.store false 1 (oO 78) (oN (-1)),true⟩]) (oX [oB 80 .eql 3 8 (oN 5),oM 79 80] [2,3,4,8,79] (.cond (oO 79) (.draw 999 [1,4,5,104,105,203,204,205,304,305,405] [oF 81 1 3,oL 82 81,oF 83 1 2,oY false 1 (oO 83) (oN 2),oT 84 (.faddr 2 (oO 2)),⟨none,none,.store false 1 (oO 84) (oO 82),true⟩]) (oX [oB 86 .eql 3 8 (oN 6),oM 85 86] [2,3,4,8,85] (.cond (oO 85) (oS (.draw 999 [1,4,5,104,105,203,204,205,304,305,405] [oF 87 1 3,oL 88 87,oF 89 1 2,oY false 1 (oO 89) (oN 0),oT 90 (.faddr 2 (oO 2)),⟨none,none,.store false 1 (oO 90) (oO 88),true⟩]) (oK [2,4] (oR [oF 91 3 2,oL 92 91,oF 93 4 2,oL 94 93,oF 95 5 2,oW 1 95 92,oF 96 3 2,oW 1 96 94,oF 97 4 2,oY false 1 (oO 97) (oN (-1))]))) (oX [oB 99 .eql 3 8 (oN 7),oM 98 99] [2,3,4,8,98] (.cond (oO 98) (.cut c153k2) (oX [oB 134 .eql 3 8 (oN 8),oM 133 134] [2,3,4,8,133] (.cond (oO 133) (oR [oF 135 3 2,oL 136 135,oF 137 6 2,oW 1 137 136]) (oX [oB 139 .eql 3 8 (oN 9),oM 138 139] [2,3,4,8,138] (.cond (oO 138) (.cut c153k3) (oX [oB 148 .eql 3 8 (oN 10),oM 147 148] [2,3,4,147] (oI 147 (.cut c153k4))))))))))))))))))))))))) (oK [2,4] (.cut c153k5)))
def rv153 : List RV:=[.cell 4 true 10]
theorem is153 : FnIs Tryz.prog 153 157 c153 rv153:=⟨⟨Tryz.f153,_,Tryz.func153,by kernel_rfl,rfl,rfl,by kernel_rfl,by kernel_rfl⟩,by decide⟩
def c42l1 : AC:=oS (oX [oM 20 10,oM 21 2,o4 22 21,oB 23 .lss 3 20 (oO 22)] [2,3,6,9,10,23] (.cond (oO 23) .skip (.exit 0))) (oK [2,3,6,9,10] (oS (.block 1 (oS (.draw 999 [6,7,8,9,11,12,106,107,108,109,111,112,204,205,206,207,208,209,211,212,304,305,306,307,308,309,311,312,405,406,407,408,409,411,412,506,507,508,509,511,512,607,608,609,611,612,708,709,711,712,811,812,912,1011,1012,1112] [o5 27 3 3,o5 28 10 9,oM 29 2,oA 30 (.mvs (oO 10)),oA 31 (.iaddr 3 o3 (oO 29) (oO 30)),o5 32 3 31,oC 33 71 [oO 27,oO 28,oO 32],oM 26 33,o8 34 26 0,o8 35 26 1,oA 11 (.alloc oZ),oW 10 11 34,oT 12 (.mv (oO 35))]) (oK [2,3,6,9,10,11,12] (oS (oX [oM 36 12,oB 37 .neq 3 36 (oN 0)] [2,3,6,9,10,11,12,37] (oI 37 (oX [oA 38 (.build oZ []),oM 39 10,oM 40 12,oW 10 6 38,oM 7 39,oM 8 40] [6,7,8] .ret))) (oK [2,3,6,9,10,11] (oR [o5 41 10 11,oW 10 9 41])))))) (oK [2,3,6,9,10] (oR [oM 24 10,oB 25 .add 3 24 (oN 1),oM 10 25]))))
def c42 : AC:=oX [o7 3 0,oA 6 (.alloc oZ),oV 7 0,oV 8 0] [1,2,3,6] (oS (oX [oM 13 2,o4 14 13,oB 15 .gtr 3 14 (oN 200)] [1,2,3,6,15] (oI 15 (oX [oA 16 (.build oZ []),oW 10 6 16,oV 7 0,oV 8 8] [6,7,8] .ret))) (oK [1,2,3,6] (oX [o5 17 3 3,oM 18 1,oC 19 52 [oO 17,oO 18],oA 9 (.alloc oZ),oW 10 9 19] [2,3,6,9] (oS (oX [oV 10 0] [2,3,6,9,10] (.block 0 (.loop c42l1))) (oK [6,9] (oX [o5 42 10 9,oW 10 6 42,oV 7 0,oV 8 0] [6,7,8] .ret))))))
def rv42 : List RV:=[.cell 6 true 10,.tmp 7,.tmp 8]
theorem is42 : FnIs Tryz.prog 42 43 c42 rv42:=⟨⟨Tryz.f42,_,Tryz.func42,by kernel_rfl,rfl,rfl,by kernel_rfl,by kernel_rfl⟩,by decide⟩
end Go.Proofs.YtcbabnbiinkafaaGreatDoor.D7
end
section
open Go Go.Am
open Go.Am.Dat (cells)
namespace Go.Proofs.YtcbabnbiinkafaaGreatDoor.E4
set_option maxRecDepth 100000
def c67l1 : AC:=oS (oX [oM 205 10,oM 206 9,o4 207 206,oB 208 .lss 3 205 (oO 207)] [3,5,6,8,9,10,208] (.cond (oO 208) .skip (.exit 2))) (oK [3,5,6,8,9,10] (oS (.block 3 (oS (oS (oQ [oM 211 9,oA 212 (.mvs (oO 10)),oA 213 (.iaddr 1 o1 (oO 211) (oO 212)),oL 214 213,oF 215 7 3,oL 216 215,oB 217 .sub 3 216 (oN 1),oT 218 (.call (.func 31) [oO 214,oN 0,oO 217]),oT 219 (.un .not (oO 218))]) (oK [3,5,6,8,9,10,219] (oI 219 (oX [oV 4 2] [4] .ret)))) (oK [3,5,6,8,9,10] (oS (oS (oQ [oT 220 (.mv (oO 10)),oT 221 (.bin .gtr 3 (oO 220) (oN 0)),oT 222 (.mv (oO 221)),oD 223 222 true 9,oD 224 222 true 10,oG 225 222 true (.iaddr 1 o1 (oO 223) (oO 224)),oJ 226 222 true 225,oD 227 222 true 9,oD 228 222 true 10,oG 229 222 true (.bin .sub 3 (oO 228) (oN 1)),oG 230 222 true (.iaddr 1 o1 (oO 227) (oO 229)),oJ 231 222 true 230,⟨some 232,some (222,true),.bin .leq 3 (oO 226) (oO 231),true⟩,oT 233 (.pick (oO 222) (oO 232) (.const (.bool false)))]) (oK [3,5,6,8,9,10,233] (oI 233 (oX [oV 4 9] [4] .ret)))) (oK [3,5,6,8,9,10] (oS (oQ [o5 234 10 3,oA 235 (.mvs (oO 8)),oM 236 9,oM 237 10,oA 238 (.iaddr 1 o1 (oO 236) (oO 237)),oL 239 238,oT 240 (.call (.func 117) [oO 234,oO 235,oO 239]),oT 241 (.bin .geq 3 (oO 240) (oN 0))]) (oK [3,5,6,8,9,10,241] (oI 241 (oX [oV 4 26] [4] .ret))))))))) (oK [3,5,6,8,9,10] (oR [oM 209 10,oB 210 .add 3 209 (oN 1),oM 10 210]))))
def c67l2 : AC:=oS (oX [oM 193 8,oF 194 9 3,oL 195 194,o4 196 195,oB 197 .lss 3 193 (oO 196)] [3,5,6,8,197] (.cond (oO 197) .skip (.exit 0))) (oK [3,5,6,8] (oS (.block 1 (oX [oF 200 9 3,oL 201 200,oM 202 8,oA 203 (.iaddr 1 o0 (oO 201) (oO 202)),oL 204 203,oM 9 204] [3,5,6,8,9] (oX [oV 10 0] [3,5,6,8,9,10] (.block 2 (.loop c67l1))))) (oK [3,5,6,8] (oR [oM 198 8,oB 199 .add 3 198 (oN 1),oM 8 199]))))
def c67l3 : AC:=oS (oX [oM 242 11,oF 243 9 3,oL 244 243,o4 245 244,oB 246 .lss 3 242 (oO 245)] [3,5,6,11,246] (.cond (oO 246) .skip (.exit 4))) (oK [3,5,6,11] (oS (.block 5 (oX [oF 249 9 3,oL 250 249,oM 251 11,oA 252 (.iaddr 1 o0 (oO 250) (oO 251)),oL 253 252,o4 254 253,oB 255 .gtr 3 254 (oN 0),oM 256 255,oD 257 256 true 11,oE 258 256 true 3 3,oJ 259 256 true 258,oG 260 256 true (.bin .neq 3 (oO 257) (oO 259)),oP 261 256 260,oM 262 261,oD 263 262 true 6,oD 264 262 true 263,oD 265 264 true 11,oE 266 264 true 5 3,oJ 267 264 true 266,oG 268 264 true (.bin .eql 3 (oO 265) (oO 267)),oG 269 262 true (.pick (oO 264) (oO 268) (.const (.bool false))),oG 270 262 true (.un .not (oO 269)),oP 271 262 270,oM 272 271,oD 273 272 true 5,oD 274 272 true 273,oG 275 274 true (.load true 10 (oO 3)),oG 276 274 true (.call (.func 112) [oO 275]),oG 277 272 true (.pick (oO 274) (oO 276) (.const (.bool false))),oD 278 272 true 277,oD 279 278 true 11,oE 280 278 true 4 3,oJ 281 278 true 280,oG 282 278 true (.bin .eql 3 (oO 279) (oO 281)),oG 283 272 true (.pick (oO 278) (oO 282) (.const (.bool false))),oG 284 272 true (.un .not (oO 283)),oP 285 272 284] [3,5,6,11,285] (oI 285 (oX [oV 4 23] [4] .ret)))) (oK [3,5,6,11] (oR [oM 247 11,oB 248 .add 3 247 (oN 1),oM 11 248]))))
def c67l4 : AC:=oS (oX [oM 294 12,oF 295 7 3,oL 296 295,oB 297 .lss 3 294 (oO 296)] [3,12,297] (.cond (oO 297) .skip (.exit 6))) (oK [3,12] (oS (.block 7 (oX [o5 300 10 3,oF 301 9 3,oL 302 301,o4 303 302,oM 304 12,oC 305 117 [oO 300,oO 303,oO 304],oB 306 .lss 3 305 (oN 0)] [3,12,306] (oI 306 (oX [oV 4 14] [4] .ret)))) (oK [3,12] (oR [oM 298 12,oB 299 .add 3 298 (oN 1),oM 12 299]))))
def c67k5 : AC:=oS (oX [oF 286 7 3,oL 287 286,oF 288 8 3,oL 289 288,oB 290 .sub 3 287 (oO 289),oB 291 .gtr 3 290 (oN 60)] [3,291] (oI 291 (oX [oV 4 14] [4] .ret))) (oK [3] (oS (oX [oF 292 8 3,oL 293 292,oM 12 293] [3,12] (.block 6 (.loop c67l4))) (oK [] (oX [oV 4 0] [4] .ret))))
def c67k6 : AC:=oS (oX [oV 11 0] [3,5,6,11] (.block 4 (.loop c67l3))) (oK [3] (.cut c67k5))
def c67k7 : AC:=oS (oX [oV 8 0] [3,5,6,8] (.block 0 (.loop c67l2))) (oK [3,5,6] (.cut c67k6))
def c67k8 : AC:=oS (oX [o5 190 10 3,oC 191 116 [oO 190],oB 192 .gtr 3 191 (oN 60)] [3,5,6,192] (oI 192 (oX [oV 4 8] [4] .ret))) (oK [3,5,6] (.cut c67k7))
def c67k9 : AC:=oS (oX [o5 158 10 3,oC 159 112 [oO 158],oM 160 159,oE 161 160 true 2 3,oJ 162 160 true 161,oE 163 160 true 2 2,oJ 164 160 true 163,oG 165 160 true (.bin .add 3 (oO 162) (oO 164)),oE 166 160 true 0 3,oJ 167 160 true 166,oG 168 160 true (.bin .leq 3 (oO 165) (oO 167)),oP 169 160 168,oM 170 169,oD 171 170 false 6,oD 172 170 false 171,oE 173 172 true 9 3,oJ 174 172 true 173,oE 175 172 true 5 3,oJ 176 172 true 175,oG 177 172 true (.iaddr 1 o0 (oO 174) (oO 176)),oJ 178 172 true 177,oG 179 172 true (.len false (oO 178)),oG 180 172 true (.bin .eql 3 (oO 179) (oN 0)),oG 181 170 false (.pick (oO 172) (oO 180) (.const (.bool false))),oD 182 170 false 181,oE 183 182 true 6 3,oJ 184 182 true 183,oE 185 182 true 3 3,oJ 186 182 true 185,oG 187 182 true (.bin .eql 3 (oO 184) (oO 186)),oG 188 170 false (.pick (oO 182) (oO 187) (.const (.bool false))),oH 189 170 188] [3,5,6,189] (oI 189 (oX [oV 4 22] [4] .ret))) (oK [3,5,6] (.cut c67k8))
def c67k10 : AC:=oS (oX [oM 136 5,oM 137 136,oG 138 137 true (.load true 3 (oO 2)),oE 139 137 true 4 3,oJ 140 137 true 139,oE 141 137 true 3 3,oJ 142 137 true 141,oG 143 137 true (.call (.func 115) [oO 138,oO 140,oO 142]),oG 144 137 true (.un .not (oO 143)),oP 145 137 144,oM 146 145,oD 147 146 false 6,oD 148 146 false 147,oG 149 148 true (.load true 3 (oO 2)),oE 150 148 true 5 3,oJ 151 148 true 150,oE 152 148 true 3 3,oJ 153 148 true 152,oG 154 148 true (.call (.func 115) [oO 149,oO 151,oO 153]),oG 155 148 true (.un .not (oO 154)),oG 156 146 false (.pick (oO 148) (oO 155) (.const (.bool false))),oH 157 146 156] [2,3,5,6,157] (oI 157 (oX [oV 4 13] [4] .ret))) (oK [2,3,5,6] (.cut c67k9))
def c67k11 : AC:=oX [oF 88 1 3,oL 89 88,oB 90 .eql 3 89 (oN 1),oM 91 90,oE 92 91 false 1 3,oJ 93 91 false 92,oG 94 91 false (.bin .eql 3 (oO 93) (oN 2)),oH 95 91 94,oM 7 95] [2,3,5,6,7] (oS (oX [oM 96 5,oM 97 96,oE 98 97 true 1 3,oJ 99 97 true 98,oG 100 97 true (.bin .eql 3 (oO 99) (oN 0)),oP 101 97 100,oM 102 101,oD 103 102 false 5,oG 104 102 false (.un .not (oO 103)),oD 105 102 false 104,oD 106 105 true 7,oG 107 102 false (.pick (oO 105) (oO 106) (.const (.bool false))),oH 108 102 107,oM 109 108,oD 110 109 false 6,oD 111 109 false 110,oD 112 111 true 7,oD 113 111 true 112,oD 114 113 false 5,oG 115 111 true (.pick (oO 113) (.const (.bool true)) (oO 114)),oG 116 109 false (.pick (oO 111) (oO 115) (.const (.bool false))),oH 117 109 116,oM 118 117,oE 119 118 false 6 3,oJ 120 118 false 119,oE 121 118 false 3 3,oJ 122 118 false 121,oG 123 118 false (.bin .neq 3 (oO 120) (oO 122)),oD 124 118 false 123,oD 125 124 true 6,oG 126 124 true (.un .not (oO 125)),oD 127 124 true 126,oE 128 127 false 6 3,oJ 129 127 false 128,oE 130 127 false 5 3,oJ 131 127 false 130,oG 132 127 false (.bin .neq 3 (oO 129) (oO 131)),oG 133 124 true (.pick (oO 127) (.const (.bool true)) (oO 132)),oG 134 118 false (.pick (oO 124) (oO 133) (.const (.bool false))),oH 135 118 134] [2,3,5,6,135] (oI 135 (oX [oV 4 3] [4] .ret))) (oK [2,3,5,6] (.cut c67k10)))
def c67k12 : AC:=oS (oQ [oF 50 4 3,oL 51 50,oB 52 .neq 3 51 (oN (-1)),oF 53 5 3,oL 54 53,oB 55 .neq 3 54 (oN (-1)),oM 5 52,oT 6 (.mv (oO 55))]) (oK [2,3,5,6] (oS (oX [o5 56 3 2,oF 57 3 3,oL 58 57,oC 59 99 [oO 56,oO 58],oA 60 (.un .not (oO 59)),oM 61 60,oG 62 61 false (.load true 3 (oO 2)),oE 63 61 false 6 3,oJ 64 61 false 63,oG 65 61 false (.call (.func 99) [oO 62,oO 64]),oG 66 61 false (.un .not (oO 65)),oH 67 61 66,oM 68 67,oD 69 68 false 5,oD 70 68 false 69,oG 71 70 true (.load true 3 (oO 2)),oE 72 70 true 4 3,oJ 73 70 true 72,oG 74 70 true (.call (.func 99) [oO 71,oO 73]),oG 75 70 true (.un .not (oO 74)),oG 76 68 false (.pick (oO 70) (oO 75) (.const (.bool false))),oH 77 68 76,oM 78 77,oD 79 78 false 6,oD 80 78 false 79,oG 81 80 true (.load true 3 (oO 2)),oE 82 80 true 5 3,oJ 83 80 true 82,oG 84 80 true (.call (.func 99) [oO 81,oO 83]),oG 85 80 true (.un .not (oO 84)),oG 86 78 false (.pick (oO 80) (oO 85) (.const (.bool false))),oH 87 78 86] [2,3,5,6,87] (oI 87 (oX [oV 4 6] [4] .ret))) (oK [2,3,5,6] (.cut c67k11))))
def c67 : AC:=oX [o7 2 0,o7 3 1,oV 4 0] [2,3] (oS (oX [oF 13 9 3,oL 14 13,o4 15 14,oF 16 0 2,oL 17 16,o4 18 17,oB 19 .neq 3 15 (oO 18)] [2,3,19] (oI 19 (oX [oV 4 10] [4] .ret))) (oK [2,3] (oS (oX [oF 20 1 3,oL 21 20,oC 22 31 [oO 21,oN 0,oN 3],oA 23 (.un .not (oO 22))] [2,3,23] (oI 23 (oX [oV 4 15] [4] .ret))) (oK [2,3] (oS (oX [oF 24 0 3,oL 25 24,oC 26 31 [oO 25,oN 0,oN 1000000000],oA 27 (.un .not (oO 26)),oM 28 27,oE 29 28 false 2 3,oJ 30 28 false 29,oE 31 28 false 0 3,oJ 32 28 false 31,oG 33 28 false (.call (.func 31) [oO 30,oN 0,oO 32]),oG 34 28 false (.un .not (oO 33)),oH 35 28 34,oM 36 35,oE 37 36 false 7 3,oJ 38 36 false 37,oG 39 36 false (.call (.func 31) [oO 38,oN 0,oN 1000000]),oG 40 36 false (.un .not (oO 39)),oH 41 36 40,oM 42 41,oE 43 42 false 8 3,oJ 44 42 false 43,oE 45 42 false 7 3,oJ 46 42 false 45,oG 47 42 false (.call (.func 31) [oO 44,oN 0,oO 46]),oG 48 42 false (.un .not (oO 47)),oH 49 42 48] [2,3,49] (oI 49 (oX [oV 4 2] [4] .ret))) (oK [2,3] (.cut c67k12)))))))
def rv67 : List RV:=[.tmp 4]
theorem is67 : FnIs Tryz.prog 67 307 c67 rv67:=⟨⟨Tryz.f67,_,Tryz.func67,by kernel_rfl,rfl,rfl,by kernel_rfl,by kernel_rfl⟩,by decide⟩
end Go.Proofs.YtcbabnbiinkafaaGreatDoor.E4
end
section
open Go Go.Am
open Go.Am.Dat (cells)
namespace Go.Proofs.YtcbabnbiinkafaaGreatDoor.E6
set_option maxRecDepth 100000
def c18l1 : AC:=oS (oX [oM 114 12,oF 115 9 7,oL 116 115,oF 117 5 7,oL 118 117,oA 119 (.iaddr 1 o0 (oO 116) (oO 118)),oL 120 119,o4 121 120,oB 122 .lss 3 114 (oO 121)] [1,3,7,10,11,12,122] (.cond (oO 122) .skip (.exit 0))) (oK [1,3,7,10,11,12] (oS (.block 1 (oR [oM 125 10,oM 126 11,oA 127 (.build o3 [(0,1,oN 7),(1,1,oO 126)]),oA 128 (.mkSl false 83 3 o3 1 [(0,oO 127)]),oA 129 (.app 48 83 3 24 o3 (oO 125) (oO 128)),oM 10 129])) (oK [1,3,7,10,11,12] (oR [oM 123 12,oB 124 .add 3 123 (oN 1),oM 12 124]))))
def c18l2 : AC:=oS (oX [oM 132 13,oF 133 7 7,oL 134 133,oB 135 .lss 3 132 (oO 134)] [1,3,7,10,11,13,135] (.cond (oO 135) .skip (.exit 2))) (oK [1,3,7,10,11,13] (oS (.block 3 (oR [oM 138 10,oM 139 11,oA 140 (.build o3 [(0,1,oN 2),(1,1,oO 139)]),oM 141 11,oA 142 (.build o3 [(0,1,oN 1),(1,1,oO 141)]),oA 143 (.mkSl false 83 3 o3 2 [(0,oO 140),(1,oO 142)]),oA 144 (.app 48 83 3 24 o3 (oO 138) (oO 143)),oM 10 144])) (oK [1,3,7,10,11,13] (oR [oM 136 13,oB 137 .add 3 136 (oN 1),oM 13 137]))))
def c18l3 : AC:=oS (oX [oM 194 19,oM 195 17,o4 196 195,oB 197 .lss 3 194 (oO 196)] [17,19,197] (.cond (oO 197) .skip (.exit 4))) (oK [17,19] (oS (.block 5 (oX [oM 200 17,oM 201 19,oA 202 (.iaddr 1 o1 (oO 200) (oO 201)),oL 203 202,oM 204 19,oB 205 .neq 3 203 (oO 204)] [17,19,205] (oI 205 (oX [o9 6 false] [6] .ret)))) (oK [17,19] (oR [oM 198 19,oB 199 .add 3 198 (oN 1),oM 19 199]))))
def c18k4 : AC:=oS (oX [oM 145 10,o4 146 145,oB 147 .gtr 3 146 (oN 200)] [1,3,7,10,147] (oI 147 (oX [o9 6 true] [6] .ret))) (oK [1,3,7,10] (oX [o5 149 3 3,oC 150 37 [oO 149],oM 151 1,oM 152 10,oC 153 38 [oO 152],oC 154 36 [oO 150,oO 151,oO 153],oM 148 154,o8 155 148 0,o8 156 148 1,o8 157 148 2,oA 14 (.alloc oZ),oW 10 14 155,oM 15 156,oM 16 157] [1,3,7,10,14,16] (oX [o5 159 3 3,oC 160 37 [oO 159],oM 161 1,oM 162 10,oC 163 38 [oO 162],oC 164 39 [oO 160,oO 161,oO 163],oM 158 164,o8 165 158 0,o8 166 158 1,oM 17 165,oM 18 166] [7,14,16,17,18] (oS (oX [oM 167 16,oB 168 .neq 27 167 (oN 0),oM 169 168,oD 170 169 false 18,oG 171 169 false (.bin .neq 27 (oO 170) (oN 0)),oH 172 169 171,oM 173 172,oE 174 173 false 8 14,oJ 175 173 false 174,oE 176 173 false 7 14,oJ 177 173 false 176,oG 178 173 false (.bin .neq 3 (oO 175) (oO 177)),oH 179 173 178,oM 180 179,oE 181 180 false 7 14,oJ 182 180 false 181,oE 183 180 false 7 7,oJ 184 180 false 183,oG 185 180 false (.bin .neq 3 (oO 182) (oO 184)),oH 186 180 185,oM 187 186,oD 188 187 false 17,oG 189 187 false (.len false (oO 188)),oE 190 187 false 7 7,oJ 191 187 false 190,oG 192 187 false (.bin .neq 3 (oO 189) (oO 191)),oH 193 187 192] [17,193] (oI 193 (oX [o9 6 false] [6] .ret))) (oK [17] (oS (oX [oV 19 0] [17,19] (.block 4 (.loop c18l3))) (oK [] (oX [o9 6 true] [6] .ret))))))))
def c18k5 : AC:=oS (oX [oF 130 8 7,oL 131 130,oM 13 131] [1,3,7,10,11,13] (.block 2 (.loop c18l2))) (oK [1,3,7,10] (.fz [10] (.cut c18k4)))
def c18k6 : AC:=oS (oX [oF 106 1 7,oL 107 106,oB 108 .eql 3 107 (oN 0),oM 109 108,oE 110 109 true 5 7,oJ 111 109 true 110,oG 112 109 true (.bin .neq 3 (oO 111) (oN (-1))),oP 113 109 112] [1,3,7,10,11,113] (oI 113 (oX [oV 12 0] [1,3,7,10,11,12] (.block 0 (.loop c18l1))))) (oK [1,3,7,10,11] (.cut c18k5))
def c18k7 : AC:=oX [oF 94 0 7,oL 95 94,oM 11 95] [1,3,7,10,11] (oS (oX [oM 96 10,o4 97 96,oB 98 .gtr 3 97 (oN 0)] [1,3,7,10,11,98] (oI 98 (oR [oM 99 10,oM 100 10,o4 101 100,oB 102 .sub 3 101 (oN 1),oA 103 (.iaddr 3 o3 (oO 99) (oO 102)),oF 104 1 103,oL 105 104,oM 11 105]))) (oK [1,3,7,10,11] (.cut c18k6)))
def c18k8 : AC:=oS (oX [oF 85 1 7,oL 86 85,oB 87 .eql 3 86 (oN 1)] [1,3,7,10,87] (oI 87 (oR [oM 88 10,oF 89 0 7,oL 90 89,oA 91 (.build o3 [(0,1,oN 4),(1,1,oO 90)]),oA 92 (.mkSl false 83 3 o3 1 [(0,oO 91)]),oA 93 (.app 48 83 3 24 o3 (oO 88) (oO 92)),oM 10 93]))) (oK [1,3,7,10] (.cut c18k7))
def c18k9 : AC:=oX [oM 60 2,oC 61 38 [oO 60],oM 10 61] [1,3,7,10] (oS (oX [oF 62 1 7,oL 63 62,oB 64 .eql 3 63 (oN 2),oM 65 64,oE 66 65 false 1 7,oJ 67 65 false 66,oG 68 65 false (.bin .eql 3 (oO 67) (oN 3)),oH 69 65 68] [1,3,7,10,69] (oI 69 (oS (oX [oF 70 2 7,oL 71 70,oF 72 2 3,oL 73 72,oB 74 .add 3 71 (oO 73),oB 75 .gtr 3 74 (oN 1000000000)] [1,3,7,10,75] (oI 75 (oX [o9 6 true] [6] .ret))) (oK [1,3,7,10] (oR [oM 76 10,oF 77 2 7,oL 78 77,oF 79 2 3,oL 80 79,oB 81 .add 3 78 (oO 80),oA 82 (.build o3 [(0,1,oN 11),(1,1,oO 81)]),oA 83 (.mkSl false 83 3 o3 1 [(0,oO 82)]),oA 84 (.app 48 83 3 24 o3 (oO 76) (oO 83)),oM 10 84]))))) (oK [1,3,7,10] (.cut c18k8)))
def c18 : AC:=oX [o7 3 0,o9 6 false] [1,2,3] (oS (oX [oC 20 87 [],oA 21 (.un .not (oO 20))] [1,2,3,21] (oI 21 (oX [o9 6 false] [6] .ret))) (oK [1,2,3] (oS (oX [o5 22 3 3,oC 23 34 [oO 22],oA 24 (.un .not (oO 23)),oM 25 24,oD 26 25 false 2,oG 27 25 false (.len false (oO 26)),oG 28 25 false (.bin .gtr 3 (oO 27) (oN 30)),oH 29 25 28,oM 30 29,oG 31 30 false (.load true 3 (oO 3)),oD 32 30 false 1,oD 33 30 false 2,oG 34 30 false (.call (.func 53) [oO 31,oO 32,oO 33]),oG 35 30 false (.bin .neq 3 (oO 34) (oN 0)),oH 36 30 35] [1,2,3,36] (oI 36 (oX [o9 6 true] [6] .ret))) (oK [1,2,3] (oX [o5 38 3 3,oC 39 37 [oO 38],oM 40 1,oM 41 2,oC 42 38 [oO 41],oC 43 36 [oO 39,oO 40,oO 42],oM 37 43,o8 44 37 0,o8 45 37 1,o8 46 37 2,oA 7 (.alloc oZ),oW 10 7 44,oM 8 45,oM 9 46] [1,2,3,7,9] (oS (oX [oM 47 9,oB 48 .neq 27 47 (oN 0),oM 49 48,oG 50 49 false (.load true 10 (oO 7)),oG 51 49 false (.call (.func 63) [oO 50]),oG 52 49 false (.un .not (oO 51)),oH 53 49 52,oM 54 53,oG 55 54 false (.load true 3 (oO 3)),oG 56 54 false (.load true 10 (oO 7)),oG 57 54 false (.call (.func 67) [oO 55,oO 56]),oG 58 54 false (.bin .neq 3 (oO 57) (oN 0)),oH 59 54 58] [1,2,3,7,59] (oI 59 (oX [o9 6 false] [6] .ret))) (oK [1,2,3,7] (.cut c18k9))))))))
def rv18 : List RV:=[.tmp 6]
theorem is18 : FnIs Tryz.prog 18 206 c18 rv18:=⟨⟨Tryz.f18,_,Tryz.func18,by kernel_rfl,rfl,rfl,by kernel_rfl,by kernel_rfl⟩,by decide⟩
end Go.Proofs.YtcbabnbiinkafaaGreatDoor.E6
end
section
open Go Go.Am
open Go.Am.Dat (cells)
namespace Go.Proofs.YtcbabnbiinkafaaGreatDoor
set_option maxHeartbeats 4000000
set_option maxRecDepth 100000
theorem AX (n lo hi:Int):FC Tryz.prog 31 [enc n,enc lo,enc hi] [] (enc (decide (lo<=n/\n<=hi))) []:=by
 refine eP is31 (by simp) (fun cx hl=>dC [] 800 ?_);delta c31 oO oM oG oX oP oB oD o9;simp (maxSteps:=9^7) -implicitDefEqProofs only[rv31,Ent.of0,Ent.of1,Ent.of2,Ent.of3,Ent.of4,V,W3,↓reduceIte,seval,reduceCtorEq];by_cases h:lo<=n <;> simp[h]
def vW : Ent Tryz.prog:=.of3 31 (fun _ _ _=>True) (fun n lo hi:Int=>enc (decide (lo<=n/\n<=hi))) (fun _ _ _=>trivial) (fun n lo hi _=>AX n lo hi)
theorem enc_rul (r:Rul):enc r=.agg [.s (.int .i64 r.off),.s (.int .i64 r.hyst),.s (.int .i64 r.trig)]:=rfl
def wD (r:Rul) (s n:Int):Bool:=decide (s+r.off+r.hyst < n)
def over (r:Rul) (s n:Int):Bool:=decide (n < s+r.off - r.hyst)
def trg (r:Rul):List Int->List Int->Nat->Int->Bool->List Int
 | s :: l,n :: m,t,run,armed=>
  let run':=if wD r s n then run+1 else 0
  let armed':=armed || over r s n
  if armed' && decide (r.trig < run')then (t:Int) :: trg r l m (t+1) run' false else trg r l m (t+1) run' armed'
 |_,_,_,_,_=>[]
theorem trg_nil (r:Rul) (m:List Int) (t:Nat) (run:Int) (a:Bool):trg r [] m t run a=[]:=by cases m <;> rfl
def wB (r:Rul) (s n:List Int):List Int:=trg r s n 0 0 true
def cnt (p:Nat->Bool):Nat->Nat
 | 0=>0
 | t+1=>if p t then cnt p t+1 else 0
theorem xb (p:Nat->Bool):∀ (t m:Nat),m < cnt p t↔(m < t/\∀ k,k < t->t<=k+m+1->p k=true)
 | 0,m=>by simp[cnt]
 | t+1,m=>by
  rw[cnt];cases hp:p t with
  | false=>
   simp only[zr,if_false,Nat.not_lt_zero,false_iff,not_and];intro h1 h2;have:=h2 t (by omega) (by omega);rw[hp]at this;cases this
  | true=>
   simp only[if_true];cases m with
   | zero=>
    constructor
    . intro _;refine⟨by omega,fun k h1 h2=>?_⟩;have:k=t:=by omega
      rw[this];exact hp
    . intro _;omega
   | succ m=>
    have ih:=xb p t m;constructor
    . intro h;obtain⟨g1,g2⟩:=ih.1 (by omega);refine⟨by omega,fun k h1 h2=>?_⟩;by_cases hk:k=t
      . rw[hk];exact hp
      . exact g2 k (by omega) (by omega)
    . intro h;have:=ih.2 ⟨by omega,fun k h1 h2=>h.2 k (by omega) (by omega)⟩;omega
theorem x9 (p:Nat->Bool) (t:Nat):((cnt p (t+1):Nat):Int)=if p t then (cnt p t:Int)+1 else 0:=by
 rw[cnt];split <;> simp
theorem byI_get {s:ByteArray} {i:Nat} (h:i < s.size):((s.data.toList.getD i 0).toNat:Int)=(byI s).getD i 0:=by
 have h1:i < s.data.toList.length:=by rw[Array.length_toList];exact h
 rw[byI,zb,zb,zh,ze h1];rfl
theorem AT (s:ByteArray) (hs:s.size<=9223372036854775807):FC Tryz.prog 108 [enc s] [] (enc (l0 s)) []:=by
 refine eP is108 (by simp) (fun cx hl=>dC [] 800 ?_);by_cases g1:s.size < 1
 . have g1':(s.size:Int) < 1:=by omega
   have hn:l0 s=false:=by
    unfold l0;have:¬ 0 < s.size:=by omega
    simp[this]
   rw[hn];delta c108 oO oN oA oM oG oS oK oV oI oX oH oB oD o9;simp (maxSteps:=9^7) -implicitDefEqProofs only[wQ,g1',WU,Ent.of0,Ent.of1,Ent.of2,Ent.of3,Ent.of4,V,W3,↓reduceIte,seval,reduceCtorEq]
 by_cases g2:12 < s.size
 . have g1':¬ (s.size:Int) < 1:=by omega
   have g2':(12:Int) < s.size:=by omega
   have hn:l0 s=false:=by
    unfold l0;have:¬ s.size<=12:=by omega
    simp[this]
   rw[hn];delta c108 oO oN oA oM oG oS oK oV oI oX oH oB oD o9;simp (maxSteps:=9^7) -implicitDefEqProofs only[wQ,g1',g2',WU,Ent.of0,Ent.of1,Ent.of2,Ent.of3,Ent.of4,V,W3,↓reduceIte,seval,reduceCtorEq]
 have g1':¬ (s.size:Int) < 1:=by omega
 have g2':¬ (12:Int) < s.size:=by omega
 have hnb:l0 s=i6 true (byI s):=by
  unfold l0;have h1:0 < s.size:=by omega
  have h2:s.size<=12:=by omega
  simp[h1,h2]
 rw[hnb];generalize hB:i6 true (byI s)=B;delta c108 oO oN oA oM oG oS oK oV oI oX oH oB oD o9;simp (maxSteps:=9^7) -implicitDefEqProofs only[wQ,g1',g2',WU,Ent.of0,Ent.of1,Ent.of2,Ent.of3,Ent.of4,V,W3,↓reduceIte,seval,reduceCtorEq];refine fI s.size (fun i=>[(3,.s (.int .i64 (i:Int)))]) (fun _=>[]) (fun i=>B=i6 (decide (i=0)) ((byI s).drop i)) (by simp[hB]) ?_ (fun i hi hv=>dC [] 800 ?_)
 . simp (maxSteps:=9^7) -implicitDefEqProofs only[Ent.of0,Ent.of1,Ent.of2,Ent.of3,Ent.of4,V,W3,↓reduceIte,seval,reduceCtorEq]
   all_goals simp
 . by_cases h:i < s.size
   . have hi2:(i:Int) < (s.size:Int):=by omega
     have hg:=byI_get h;rw[fJ 0 (by rw[lR];exact h:i < (byI s).length),i6]at hv;generalize (byI s).getD i 0=c at *;have hnx:i6 (decide (i+1=0)) ((byI s).drop (i+1))=i6 false ((byI s).drop (i+1)):=by simp
     delta x3 oO oN oA oM oG oR oS oK oI oX oP oH oB oD o9;simp (maxSteps:=9^7) -implicitDefEqProofs only[wQ,hi2,h,hg,InR,WU,Ent.of0,Ent.of1,Ent.of2,Ent.of3,Ent.of4,V,W3,↓reduceIte,seval,reduceCtorEq];have hb2:badB (decide (i=0)) c=decide (¬ ((97<=c/\c<=122)\/(65<=c/\c<=90))/\(i=0\/(c≠45/\(c < 48\/57 < c)))):=by
      rw[yH];simp only[badB,rT,zm,zV,yC,Bool.or_eq_false_iff,decide_eq_true_eq,decide_eq_false_iff_not];omega
     rw[hb2]at hv;have hvt:(¬ ((97<=c/\c<=122)\/(65<=c/\c<=90))/\(i=0\/(c≠45/\(c < 48\/57 < c))))->B=false:=fun hb=>by rw[hv,decide_eq_true hb];rfl
     have hvf:¬ (¬ ((97<=c/\c<=122)\/(65<=c/\c<=90))/\(i=0\/(c≠45/\(c < 48\/57 < c))))->B=i6 false ((byI s).drop (i+1)):=fun hb=>by rw[hv,decide_eq_false hb];simp
     repeat' first | (refine And.intro (by omega) ?_) | split
     all_goals first
      | (exact (hvt (by omega)).symm)
      | (rw[hvt (by omega)];rfl)
      | exact⟨hvf (by omega),by omega⟩
      | exact hvf (by omega)
      | (push_cast;rfl)
      | omega
   . have hi2:¬ (i:Int) < (s.size:Int):=by omega
     rw[zv (by rw[lR];omega)]at hv;simp only[i6]at hv;subst hv;delta x3 oO oN oA oM oG oR oS oK oI oX oP oH oB oD o9;simp (maxSteps:=9^7) -implicitDefEqProofs only[wQ,hi2,WU,Ent.of0,Ent.of1,Ent.of2,Ent.of3,Ent.of4,V,W3,↓reduceIte,seval,reduceCtorEq]
def yN : Ent Tryz.prog:=.of1 108 (fun s=>s.size<=9223372036854775807) (fun s:ByteArray=>enc (l0 s)) (fun _=>trivial) (fun s h=>AT s h)
theorem Av (l:List ByteArray) (v:ByteArray):FC Tryz.prog 109 [enc l,enc v] [] (enc (l.any fun x=>decide (x=v))) []:=by
 refine eP is109 (by simp) (fun cx hl=>dC [] 800 ?_);simp only[V,W3,↓reduceIte,seval,reduceCtorEq]at hl;have hl1:=hl.list;generalize hB:(l.any fun x=>decide (x=v))=B;delta c109 oS oK oV oX o9;simp (maxSteps:=9^7) -implicitDefEqProofs only[xS,Ent.of0,Ent.of1,Ent.of2,Ent.of3,Ent.of4,V,W3,↓reduceIte,seval,reduceCtorEq];refine fI l.length (fun i=>[(5,.s (.int .i64 (i:Int)))]) (fun _=>[]) (fun i=>B=(l.drop i).any fun x=>decide (x=v)) (by simp[hB]) ?_ (fun i hi hv=>dC [] 800 ?_)
 . simp (maxSteps:=9^7) -implicitDefEqProofs only[Ent.of0,Ent.of1,Ent.of2,Ent.of3,Ent.of4,V,W3,↓reduceIte,seval,reduceCtorEq]
   all_goals simp
 . by_cases h:i < l.length
   . have hi2:(i:Int) < (l.length:Int):=by omega
     rw[fJ ⟨#[]⟩ h,List.any_cons]at hv;cases hx:decide (l.getD i ⟨#[]⟩=v)
     all_goals
      rw[hx]at hv;delta x4 oO oN oM oR oS oK oL oI oX oB o4 o9;simp (maxSteps:=9^7) -implicitDefEqProofs only[xS,hi2,h,hx,InR,WU,Ent.of0,Ent.of1,Ent.of2,Ent.of3,Ent.of4,V,W3,↓reduceIte,seval,reduceCtorEq];simp at hv;simp[hv]
      try omega
   . have hi2:¬ (i:Int) < (l.length:Int):=by omega
     rw[zv (by omega)]at hv;delta x4 oO oN oM oR oS oK oL oI oX oB o4 o9;simp (maxSteps:=9^7) -implicitDefEqProofs only[xS,hi2,WU,Ent.of0,Ent.of1,Ent.of2,Ent.of3,Ent.of4,V,W3,↓reduceIte,seval,reduceCtorEq];simp[hv]
def yO : Ent Tryz.prog:=.of2 109 (fun _ _=>True) (fun (l:List ByteArray) (v:ByteArray)=>enc (l.any fun x=>decide (x=v))) (fun _ _=>trivial) (fun l v _=>Av l v)
theorem isC_c (n:Nw) (c:Int) (h:NwS n):FC Tryz.prog 99 [enc n,enc c] [] (enc (isC n c)) []:=by
 have hb:=h.c;obtain⟨cs,nb,lim⟩:=n;simp only at hb;refine dD [] is99 (by simp) trivial trivial trivial trivial (fun cx _ hl _=>dC [vW] 800 ?_);delta c99 oO oN oM oF oL oC oX oB o4 o7 o9;simp (maxSteps:=9^7) -implicitDefEqProofs only[rv99,vW,eO,InR,isC,Ent.of0,Ent.of1,Ent.of2,Ent.of3,Ent.of4,V,W3,↓reduceIte,seval,reduceCtorEq];omega
def vZ : Ent Tryz.prog:=.of2 99 (fun n _=>NwS n) (fun (n:Nw) (c:Int)=>enc (isC n c)) (fun _ _=>trivial) (fun n c h=>isC_c n c h)
theorem xj (n:Nw) (h:NwS n):FC Tryz.prog 51 [enc n] [] (netR n) []:=by
 have hbc:=h.c;have hbb:=h.b;have hgs:=fun i hi=>h.get (i:=i) hi
 generalize hR:gP n=R;have hrR:netR n=.tup [.s (.int .i64 (R.1:Int)),.s (.int .i64 R.2)]:=by rw[<- hR];rfl
 rw[hrR];obtain⟨cs,nb,lim⟩:=n;simp only at hbc hbb hgs;refine dD [] is51 (by simp) trivial trivial trivial trivial (fun cx _ hl _=>dC [] 800 ?_);by_cases h1:cs.length=0
 . have h1':(cs.length:Int)=0:=by omega
   have hRe:R=(0,10):=by rw[<- hR,gP];simp[h1]
   delta c51 oO oN oA oS oK oF oL oV oC oI oX oB o4 o7;simp (maxSteps:=9^7) -implicitDefEqProofs only[rv51,eO,h1',hRe,WU,Ent.of0,Ent.of1,Ent.of2,Ent.of3,Ent.of4,V,W3,↓reduceIte,seval,reduceCtorEq]
   try simp
 have h1':¬ (cs.length:Int)=0:=by omega
 by_cases h2:6 < cs.length
 . have h2':(6:Int) < cs.length:=by omega
   have hRe:R=(0,8):=by rw[<- hR,gP];simp[h1,h2]
   delta c51 oO oN oA oS oK oF oL oV oC oI oX oB o4 o7;simp (maxSteps:=9^7) -implicitDefEqProofs only[rv51,eO,h1',h2',hRe,WU,Ent.of0,Ent.of1,Ent.of2,Ent.of3,Ent.of4,V,W3,↓reduceIte,seval,reduceCtorEq]
   try simp
 have h2':¬ (6:Int) < cs.length:=by omega
 have hRe:R=(match gS cs 0 cs with | some q=>q | none=>match nbE ⟨cs,nb,lim⟩ 0 nb with | some q=>q | none=>(0,limE ⟨cs,nb,lim⟩)):=by rw[<- hR,gP];simp only[h1,h2,if_false] <;> rfl
 clear hR;delta c51 oO oN oA oS oK oF oL oV oC oI oX oB o4 o7;simp (maxSteps:=9^7) -implicitDefEqProofs only[rv51,eO,h1',h2',not_true_eq_false,WU,Ent.of0,Ent.of1,Ent.of2,Ent.of3,Ent.of4,V,W3,↓reduceIte,seval,reduceCtorEq];generalize hN:(⟨cs,nb,lim⟩:Nw)=n at *;have hNc:n.cells=cs/\n.nb=nb/\n.limit=lim:=by rw[<- hN];exact⟨rfl,rfl,rfl⟩
 have hmt:∀ i,List.take i (List.map Dat.cells cs)=List.map Dat.cells (cs.take i):=fun i=>List.map_take.symm
 refine fI cs.length (fun i=>[(4,.s (.int .i64 (i:Int)))]) (fun _=>[]) (fun i=>gS cs 0 cs=gS cs i (cs.drop i)) rfl ?_ (fun i hi hv=>dC [yN,yO] 800 ?_)
 . simp (maxSteps:=9^7) -implicitDefEqProofs only[Ent.of0,Ent.of1,Ent.of2,Ent.of3,Ent.of4,V,W3,↓reduceIte,seval,reduceCtorEq]
   all_goals simp
 . by_cases h4:i < cs.length
   . have hi2:(i:Int) < (cs.length:Int):=by omega
     have hname:=hgs i h4;have hi0:(0:Int)<=i:=by omega
     have hi5:(i:Int)<=cs.length:=by omega
     rw[fJ ⟨#[]⟩ h4,gS]at hv;have han:((cs.take i).any fun x=>decide (x=cs.getD i ⟨#[]⟩))=((cs.take i).any fun x=>decide (cs.getD i ⟨#[]⟩=x)):=by
      congr 1;funext x;simp[eq_comm]
     cases hx:l0 (cs.getD i ⟨#[]⟩) <;> cases hy:((cs.take i).any fun x=>decide (cs.getD i ⟨#[]⟩=x))
     all_goals
      rw[hy]at han;simp only[hx,hy,if_true,if_false,zr,ym]at hv;have hRe2:=hRe;rw[hv]at hRe2
      try simp only at hRe2
      delta c51l1 oO oN oA oM oT oR oQ oS oK oF oL oV oC oI oX oB o4;simp (maxSteps:=9^7) -implicitDefEqProofs only[yN,yO,hi2,hi0,hi5,h4,hname,hmt,hx,han,z5,Int.toNat_zero,yB,InR,not_true_eq_false,WU,Ent.of0,Ent.of1,Ent.of2,Ent.of3,Ent.of4,V,W3,↓reduceIte,seval,reduceCtorEq]
      first | (rw[hRe2];done) | (rw[hRe2];simp;done) | exact⟨by omega,hv,by omega⟩
   . have hi2:¬ (i:Int) < (cs.length:Int):=by omega
     rw[zv (by omega),gS]at hv;rw[hv]at hRe;simp only at hRe;delta c51l1 oO oN oA oM oT oR oQ oS oK oF oL oV oC oI oX oB o4;simp (maxSteps:=9^7) -implicitDefEqProofs only[yN,yO,hi2,WU,Ent.of0,Ent.of1,Ent.of2,Ent.of3,Ent.of4,V,W3,↓reduceIte,seval,reduceCtorEq];refine fI nb.length (fun i=>[(5,.s (.int .i64 (i:Int)))]) (fun _=>[]) (fun i=>nbE n 0 nb=nbE n i (nb.drop i)) rfl ?_ (fun i hi hw=>dC [vZ,vW] 800 ?_)
     . simp (maxSteps:=9^7) -implicitDefEqProofs only[Ent.of0,Ent.of1,Ent.of2,Ent.of3,Ent.of4,V,W3,↓reduceIte,seval,reduceCtorEq]
       all_goals simp
     . by_cases h5:i < nb.length
       . have hi2:(i:Int) < (nb.length:Int):=by omega
         have hi0:(0:Int)<=i:=by omega
         have hi5:(i:Int)<=nb.length:=by omega
         have hi6:i<=nb.length:=by omega
         have hdn:fD (.agg [C.sl 1 (List.map Dat.cells cs),.sl 2 (List.map Dat.cells nb),.s (.int .i64 lim)])=some n:=by
          rw[decV_nw,fN,fN,<- hN];rfl
         rw[fJ ⟨0,0⟩ h5,nbE,hNc.2.1]at hw;cases hx:isC n (nb.getD i ⟨0,0⟩).re <;> cases hy:isC n (nb.getD i ⟨0,0⟩).im <;> by_cases hq:(nb.getD i ⟨0,0⟩).re < (nb.getD i ⟨0,0⟩).im
         all_goals
          have hq2:(nb.getD i ⟨0,0⟩).im<=(nb.getD i ⟨0,0⟩).re↔¬ (nb.getD i ⟨0,0⟩).re < (nb.getD i ⟨0,0⟩).im:=by omega
          simp only[hx,hy,hq,zZ,yd,zY,z7,if_true,if_false,not_true_eq_false,not_false_eq_true,zr,ym]at hw;have hRe2:=hRe;rw[hw]at hRe2
          try simp only at hRe2
          delta c51l3 oO oN oA oM oG oR oS oK oF oL oV oC oW oI oX oH oB oJ o2 o4 o5;simp (maxSteps:=9^7) -implicitDefEqProofs only[vZ,vW,hi2,hi0,hi5,hi6,h5,hdn,h,hx,hy,hq,hq2,hNc,z5,Int.toNat_zero,yB,InR,not_true_eq_false,WU,Ent.of0,Ent.of1,Ent.of2,Ent.of3,Ent.of4,V,W3,↓reduceIte,seval,reduceCtorEq]
          try (rw[hRe2];simp;done)
         generalize hp:nb.getD i ⟨0,0⟩=p at *;refine fI i (fun j=>[(7,.s (.int .i64 (j:Int)))]) (fun _=>[]) (fun j=>((nb.take i).any fun x=>decide (p=x))=((nb.drop j).take (i - j)).any fun x=>decide (p=x)) (by simp) ?_ (fun j hj hu=>dC [] 800 ?_)
         . simp (maxSteps:=9^7) -implicitDefEqProofs only[Ent.of0,Ent.of1,Ent.of2,Ent.of3,Ent.of4,V,W3,↓reduceIte,seval,reduceCtorEq]
           all_goals simp
         . by_cases h6:j < i
           . have hj2:(j:Int) < i:=by omega
             have hj3:(j:Int) < nb.length:=by omega
             have hj4:j < nb.length:=by omega
             have hj0:(0:Int)<=j:=by omega
             have hgd:=tH (nb.getD j ⟨0,0⟩) p;have hst:(nb.drop j).take (i - j)=nb.getD j ⟨0,0⟩ :: (nb.drop (j+1)).take (i - (j+1)):=by
              rw[fJ ⟨0,0⟩ hj4,show i - j=(i - (j+1))+1 by omega,yD]
             rw[hst,List.any_cons]at hu;by_cases hx2:nb.getD j ⟨0,0⟩=p
             . rw[decide_eq_true hx2]at hgd;rw[hx2,decide_eq_true (rfl:p=p),yz]at hu;rw[if_pos hu]at hRe2;simp only at hRe2;delta xN oO oN oA oM oT oR oQ oS oK oF oL oV oI oX oB o2 o5;simp (maxSteps:=9^7) -implicitDefEqProofs only[hj2,hj3,hj4,hj0,h5,hi2,hi0,hgd,zZ,z5,InR,not_true_eq_false,WU,Ent.of0,Ent.of1,Ent.of2,Ent.of3,Ent.of4,V,W3,↓reduceIte,seval,reduceCtorEq];rw[hRe2];try simp
             . rw[decide_eq_false hx2]at hgd;rw[decide_eq_false (fun e=>hx2 e.symm),zF]at hu;delta xN oO oN oA oM oT oR oQ oS oK oF oL oV oI oX oB o2 o5;simp (maxSteps:=9^7) -implicitDefEqProofs only[hj2,hj3,hj4,hj0,h5,hi2,hi0,hgd,zZ,z5,InR,not_true_eq_false,WU,Ent.of0,Ent.of1,Ent.of2,Ent.of3,Ent.of4,V,W3,↓reduceIte,seval,reduceCtorEq];exact⟨by omega,by omega,hu,by omega⟩
           . have hj2:¬ (j:Int) < i:=by omega
             have:i - j=0:=by omega
             rw[this,List.take_zero,List.any_nil]at hu;rw[hu]at hw;simp only[zr,if_false]at hw;delta xN oO oN oA oM oT oR oQ oS oK oF oL oV oI oX oB o2 o5;simp (maxSteps:=9^7) -implicitDefEqProofs only[hj2,InR,WU,Ent.of0,Ent.of1,Ent.of2,Ent.of3,Ent.of4,V,W3,↓reduceIte,seval,reduceCtorEq];exact⟨by omega,h5,hw,by omega⟩
       . have hi2:¬ (i:Int) < (nb.length:Int):=by omega
         rw[zv (by omega),nbE]at hw;rw[hw]at hRe;simp only at hRe;delta c51l3 oO oN oA oM oG oR oS oK oF oL oV oC oW oI oX oH oB oJ o2 o4 o5;simp (maxSteps:=9^7) -implicitDefEqProofs only[vZ,vW,hi2,WU,Ent.of0,Ent.of1,Ent.of2,Ent.of3,Ent.of4,V,W3,↓reduceIte,seval,reduceCtorEq];rw[hRe,limE,hNc.2.2];by_cases h6:1<=lim/\lim<=100000 <;> simp[h6]
def ent51 : Ent Tryz.prog:=.of1 51 NwS netR (fun _=>⟨trivial,trivial,trivial⟩) xj
theorem xL (n:Nw) (h:NwS n):FC Tryz.prog 46 [enc n] [] (enc (gP n).2) []:=by
 have hdn:=je n;refine dD [] is46 (by simp) trivial trivial trivial trivial (fun cx _ hl _=>dC [ent51] 800 ?_);delta c46 oO oM oV oC oX o5 o7 o8;simp (maxSteps:=9^7) -implicitDefEqProofs only[rv46,ent51,eO,hdn,h,netR,Ent.of0,Ent.of1,Ent.of2,Ent.of3,Ent.of4,V,W3,↓reduceIte,seval,reduceCtorEq]
def ent46 : Ent Tryz.prog:=.of1 46 NwS (fun n=>enc (gP n).2) (fun _=>trivial) xL
def v8 (n:Nw) (c:Int):Int:=if (gP n).2≠0 then (gP n).2 else if isC n c then 0 else 6
theorem As (n:Nw) (c:Int) (h:NwS n):FC Tryz.prog 40 [enc n,enc c] [] (enc (v8 n c)) []:=by
 have hdn:=je n;refine dD [] is40 (by simp) trivial trivial trivial trivial (fun cx _ hl _=>dC [ent46,vZ] 800 ?_);unfold v8;by_cases h1:(gP n).2=0
 . cases h2:isC n c
   all_goals
    delta c40 oO oN oA oM oS oK oV oC oI oX oB o5 o7;simp (maxSteps:=9^7) -implicitDefEqProofs only[rv40,ent46,vZ,eO,hdn,h,h1,h2,not_true_eq_false,WU,Ent.of0,Ent.of1,Ent.of2,Ent.of3,Ent.of4,V,W3,↓reduceIte,seval,reduceCtorEq]
    try simp
 . delta c40 oO oN oA oM oS oK oV oC oI oX oB o5 o7;simp (maxSteps:=9^7) -implicitDefEqProofs only[rv40,ent46,vZ,eO,hdn,h,h1,not_true_eq_false,WU,Ent.of0,Ent.of1,Ent.of2,Ent.of3,Ent.of4,V,W3,↓reduceIte,seval,reduceCtorEq]
   try simp
def xQ : Ent Tryz.prog:=.of2 40 (fun n _=>NwS n) (fun (n:Nw) (c:Int)=>enc (v8 n c)) (fun _ _=>trivial) (fun n c h=>As n c h)
end Go.Proofs.YtcbabnbiinkafaaGreatDoor
end
