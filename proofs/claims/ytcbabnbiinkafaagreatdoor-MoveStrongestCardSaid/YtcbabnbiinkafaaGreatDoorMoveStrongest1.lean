/- Part 1 of the proof of: MoveStrongest returns true for every input and never panics: the strongest neighbour at the first tick at which one triggers is as the reference says, or the error; conditions: those of the given statement, that the package variables it lists hold what their initialisers lay. -/
import Derived.WideShapes
import Derived.ChangeArms
import Derived.OpenShut
import Derived.LaidLaws
import Derived.Lib.LaidTab
import Derived.Stop.LaidErr
import Derived.Test.YtcbabnbiinkafaaGreatDoorProg
import Derived.KernelRfl
import Derived.Test.YtcbabnbiinkafaaGreatDoorRows
import Derived.Test.YtcbabnbiinkafaaGreatDoorTie
import Derived.Test.YtcbabnbiinkafaaGreatDoorCards
import Derived.SevenTiedAt
import Derived.ProofKit
import Derived.Lay
import Derived.LaidMore
import Derived.LaidOnce
import Derived.LaidHandle
import Derived.Stop.Joined
import Derived.ChangeMaps5
import Derived.Test.YtcbabnbiinkafaaGreatDoorBp21
set_option linter.all false
section
namespace Go.Am
theorem dN.ownI {E:Env} {U:Nat->Prop} {h:Array Obj} {k:Nat} {c:Ch} (hc:dN E U h k c) {i:Nat} {q:Nat×TypeId×List (List C)} (hi:chI c i=some q) (hn:((E k).inn i).nil=false):(E k).fp ((E k).inn i).blk:=by
 cases c with
 | box cs=>exact (hc.2.1.fp _).2 (.inr ⟨i,q,hi,hn,rfl⟩)
 | row sz ty es=>cases hi
 | deep isz ity ty hole rows=>exact (hc.2.1.fp _).2 (.inr ⟨i,q,hi,hn,rfl⟩)
 | res R=>cases hi
end Go.Am
end
section
namespace Go.Am
open Dat (cells)
variable {P : Program}
theorem ReadsAs.arg {t e:TypeId} {α:Type} [DatL α] (h:ReadsAs P t (List α)) (ht:P.underlying t=some (.slice e)) {H:Type} {en:TypeId×Value->H} {W:World} {r:Reach} {base:Nat} {sp:Nat->Bool} {v:Value} {d:DataW H} {ps:List MemPlace}
 (hval:Value.okWide P W r base t v) (hd:DataW.Trod en P W 0 sp true t v d ps):∃ l:List α,∀ E,Rep E (fun b=>b < W.heap.size) W.heap (enc l) v:=by
 obtain⟨a,len,cap,rfl⟩:=WideShapes.okWide_slice ht hval;obtain⟨fuel,hf⟩:=hd;obtain⟨l,_,_,h3⟩:=h.rd en W sp fuel _ _ hf;exact⟨l,fun E=>.d (h3 0 _ rfl).1⟩
theorem ReadsP.arg {t e:TypeId} {α:Type} [DatL α] {p:List α->Prop} (h:ReadsP P t (List α) p) (ht:P.underlying t=some (.slice e)) {H:Type} {en:TypeId×Value->H} {W:World} {r:Reach} {base:Nat} {sp:Nat->Bool} {v:Value} {d:DataW H} {ps:List MemPlace}
 (hval:Value.okWide P W r base t v) (hd:DataW.Trod en P W 0 sp true t v d ps):∃ l:List α,p l/\∀ E,Rep E (fun b=>b < W.heap.size) W.heap (enc l) v:=by
 obtain⟨a,len,cap,rfl⟩:=WideShapes.okWide_slice ht hval;obtain⟨fuel,hf⟩:=hd;obtain⟨l,h0,_,_,h3⟩:=h.rd en W sp fuel _ _ hf;exact⟨l,h0,fun E=>.d (h3 0 _ rfl).1⟩
end Go.Am
end
section
namespace Go.Am
open Dat (cells)
variable {P : Program} [Glob P] {ro : Option Nat} {ρ : Operand → C} {ch : Chs} {d : Nat}
inductive Lend (ch:Chs):C->C->Prop
 | same (c:C):Lend ch c c
 | any (c:C):Lend ch c .any
 | own {k:Nat} {c0:Ch} {x:C} (h:lk ch k=some c0) (hx:bz c0=some x):Lend ch (.own k) x
 | inn {k i n:Nat} {t:TypeId} {es:List (List C)} {q:Prop} (h:aN ch k i=some (q,n,t,es)) (hq:q):Lend ch (.inn k i) (.sl n es)
 | agg {cs cs':List C} (hl:cs.length=cs'.length) (h:∀ (j:Nat) (a b:C),cs[j]? = some a->cs'[j]? = some b->Lend ch a b):Lend ch (.agg cs) (.agg cs')
def xl (ch:Chs):List C->List C->Prop
 |[],[]=>True
 | a :: l,b :: m=>Lend ch a b/\xl ch l m
 |_,_=>False
def lntU (E:Env) (U:Nat->Prop) (ch:Chs):Nat->Prop:=fun b=>U b\/∃ k c,(k,c)∈ch/\(E k).fp b
theorem Lend.rep {E:Env} {U:Nat->Prop} {h:Array Obj} (hi:Inv E U h ch) {c c':C} (hl:Lend ch c c'):∀ {v:Value},Rep E U h c v->Rep E (lntU E U ch) h c' v:=by
 have hk:∀ b,U b->lntU E U ch b/\h[b]? = h[b]?:=fun b hb=>⟨.inl hb,rfl⟩
 induction hl with
 | same c=>exact fun hr=>hr.same hk
 | any c=>exact fun _=>.d (.any _)
 | own g hx=>exact fun hr=>.d (nq (hi.ok _ _ (dH g)) hx hr hk (fun b hb=>⟨.inr ⟨_,_,dH g,hb⟩,rfl⟩))
 | inn g hq=>
  intro v hr;obtain⟨c0,g1,g2,_,g4⟩:=gY g hq;have hc:=hi.ok _ _ (dH g1);rw[kU hr];exact .d (lD ((hc.inns g4).2 _ _ _ _ g2) hk (fun hn=>⟨.inr ⟨_,_,dH g1,hc.ownI g2 hn⟩,rfl⟩))
 | agg hl h ih=>
  intro v hr;cases hr with
  | d hd=>cases hd
  | agg _ vs q1 q2 q3=>
   refine .agg _ vs (q1.trans hl) (fun j c hj=>?_) q3;have hlt:j < _:=(zi.1 hj).1;rw[<- hl]at hlt;exact ih j _ c (ze hlt) hj (q2 j _ (ze hlt))
theorem xl.args {E:Env} {U:Nat->Prop} {h:Array Obj} (hi:Inv E U h ch):∀ {cs ds:List C} {vs:List Value},xl ch cs ds->vs.length=cs.length->(∀ (j:Nat) (c:C),cs[j]? = some c->Rep E U h c (vs.getD j undef))->vs.length=ds.length/\∀ (j:Nat) (c:C),ds[j]? = some c->Rep E (lntU E U ch) h c (vs.getD j undef)
 |[],[],vs,_,hv,_=>⟨hv,fun j c hj=>by simp at hj⟩
 | a :: l,b :: m,[],_,hv,_=>by simp at hv
 | a :: l,b :: m,v :: vs,hL,hv,hr=>by
  obtain⟨h1,h2⟩:=xl.args hi (vs:=vs) hL.2 (by simpa using hv) (fun j c hj=>hr (j+1) c hj);refine⟨by simp[h1],fun j c hj=>?_⟩;cases j with
  | zero=>cases hj;exact hL.1.rep hi (hr 0 _ rfl)
  | succ j=>exact h2 j c hj
 |[],_ :: _,_,hL,_,_=>hL.elim
 |_ :: _,[],_,hL,_,_=>hL.elim
theorem lnt_inv {E:Env} {U:Nat->Prop} {h:Array Obj} (hi:Inv E U h ch):Inv E (lntU E U ch) h [] where
 nd:=by simp
 ok:=fun k c hm=>by simp at hm
 sep:=fun k c k' c' hm=>by simp at hm
 out:=fun k c hm=>by simp at hm
 fpl:=fun k c hm=>by simp at hm
 lt:=fun b hb=>by
  rcases hb with hb | ⟨k,c,h1,h2⟩
  . exact hi.lt b hb
  . exact hi.fpl k c h1 b h2
theorem yP {f:FuncId} {cs ds:List C} {r:C} {chs:Chs} (hfc:FC P f ds [] r chs) (ha:xl ch cs ds) {E:Env} {U:Nat->Prop} {w:World} {vs:Array Value} (hi:Inv E U w.heap ch) (hg:eX P U w.heap) (hargs:jD E U w.heap cs vs) :
 Calls P f vs w fun e w'=>∃ v E' U',e=.returned v/\Rep E' U' w'.heap r v/\CEv E (lntU E U ch) w [] E' U' w' chs:=by
 obtain⟨a1,a2⟩:=xl.args hi (vs:=vs.toList) ha (by simpa using hargs.1) (fun j c hj=>by
  have:=hargs.2 j c hj
  rwa[zc,<- zM,<- zb]at this)
 refine hfc.2 E (lntU E U ch) vs w (hg.mono fun b hb=>⟨.inl hb,rfl⟩) ⟨by simpa using a1,fun j c hj=>?_⟩ (lnt_inv hi);have:=a2 j c hj;rwa[zb,zM,<- zc]at this
theorem xl.same : ∀ cs:List C,xl ch cs cs
 |[]=>trivial
 |_ :: l=>⟨.same _,xl.same l⟩
theorem FC.own {f:FuncId} {ds:List C} {r:C} {n:Nat} {t:TypeId} {es:List (List C)} {chs:Chs} (hfc:FC P f (.sl n es :: ds) [] r chs) (hk:∀ k c,(k,c)∈chs->k≠100000):FC P f (.own 100000 :: ds) [(100000,.row n t es)] r chs:=by
 refine⟨hfc.1,fun E U vs w hg hargs hi=>?_⟩;have ha:xl [(100000,.row n t es)] (.own 100000 :: ds) (.sl n es :: ds):=⟨.own (c0:=.row n t es) rfl rfl,xl.same ds⟩;refine (yP hfc ha hi hg hargs).mono fun e w' hh=>?_
 obtain⟨v,E1,U1,he,hrep,hc⟩:=hh;refine⟨v,E1,U1,he,hrep,⟨hc.os,hc.tape,hc.output,hc.size,fun b hb=>hc.keep b (.inl hb),fun b hb _=>hc.rest b hb (fun k c hm=>by simp at hm),fun k c hm b hb=>.inl ((hc.live k c hm b hb).resolve_right fun⟨_,_,q,_⟩=>by simp at q),fun b hb=>?_,fun k cs hm ⟨c,q⟩=>?_,hc.inv⟩⟩
 . rcases hc.newU b hb with (q | q) | q | ⟨_,_,q,_⟩
   . exact .inl q
   . exact .inr (.inr q)
   . exact .inr (.inl q)
   . simp at q
 . simp only[zg,zf]at q;exact absurd q.1 (hk k _ hm)
theorem FC.frz {f:FuncId} {cs:List C} {r x:C} {k:Nat} {c:Ch} (hfc:FC P f cs [] r [(k,c)]) (hx:bz c=some x):FC P f cs [] (ah [(k,.c x)] r) []:=by
 refine⟨hfc.1,fun E U vs w hg hargs hi=>(hfc.2 E U vs w hg hargs hi).mono fun e w' hh=>?_⟩;obtain⟨v,E1,U1,he,hrep,hc⟩:=hh;have hfz:qX [(k,c)] [(k,.c x)]:=fun k' s hs=>by
  rw[fl]at hs;split at hs
  . rename_i e;subst e;cases hs;exact⟨c,x,by simp[lk],hx,rfl⟩
  . cases hs
 have hev:=Ev.freeze (w1:=w') hc.inv hfz rfl rfl rfl (zw _) (fun b _=>rfl) (fun _=>False) (fun b hb=>hb.elim) 0;have hnil:ae [(k,.c x)] (aC [(k,c)] [(k,Sb.c x)])=[]:=by simp[aC,af,ae]
 rw[hnil]at hev;refine⟨v,_,_,he,hev.rep hrep,⟨hc.os,hc.tape,hc.output,hc.size,fun b hb=>⟨(hev.keep b (hc.keep b hb).1).1,(hc.keep b hb).2⟩,hc.rest,fun k c hm=>by simp at hm,fun b hb=>?_,fun k cs hm=>by simp at hm,hev.inv⟩⟩;rcases hev.newU b hb with q | q | ⟨k',c',q,h2⟩
 . exact hc.newU b q
 . have:=hc.size;exact .inr (.inl (by omega))
 . exact .inr (.inl ((hc.live k' c' q b h2).resolve_right fun⟨_,_,q,_⟩=>by simp at q))
mutual
theorem yR : ∀ (c:C),aD ch [] c=c
 |.agg cs=>by simp only[aD];rw[xL cs]
 |.own k=>by simp[aD]
 |.inn k i=>by simp[aD]
 |.any=>rfl
 |.s _=>rfl
 |.sl _ _=>rfl
 |.ref _=>rfl
 |.tup _=>rfl
 |.fn _ _ _=>rfl
 |.ptr _ _=>rfl
 |.eptr _ _ _=>rfl
 |.isl _ _ _=>rfl
 |.iptr _ _ _ _=>rfl
theorem xL : ∀ (cs:List C),aD.viewCs ch [] cs=cs
 |[]=>rfl
 | c :: cs=>by simp only[aD.viewCs];rw[yR c,xL cs]
end
mutual
theorem x8 : ∀ (c:C),aY ch [] c
 |.agg cs=>by simp only[aY];exact xx cs
 |.inn k i=>by simp[aY]
 |.own k=>trivial
 |.any=>trivial
 |.s _=>trivial
 |.sl _ _=>trivial
 |.ref _=>trivial
 |.tup _=>trivial
 |.fn _ _ _=>trivial
 |.ptr _ _=>trivial
 |.eptr _ _ _=>trivial
 |.isl _ _ _=>trivial
 |.iptr _ _ _ _=>trivial
theorem xx : ∀ (cs:List C),aY.viewOks ch [] cs
 |[]=>trivial
 | c :: cs=>⟨x8 c,xx cs⟩
end
end Go.Am
end
section
namespace Go.Am
open Dat (cells)
variable {P : Program} [Glob P] {ro : Option Nat} {ρ : Operand → C} {ch : Chs} {d : Nat}
section
variable {cx : Cx} {Q : ASt → Prop} {k : List It} {st : ASt}
def xF (pur:List Nat) (op:AOp) (j:Nat) (ef:Eff) (E:EL):EL:=match av pur j with | true=>E | false=>ml op j ef E
def xn (P:Program) [Glob P] (L:List (Ent P)) (cx:Cx) (Q:ASt->Prop) (k:List It) (rb:List Nat) (all:List AO) (s0:ASt) (pur:List Nat):Nat->Md->List AO->ASt->Nat->List C->EL->Prop
 |_+1,.run,[],_,_,vs,E=>mFin2 P L cx Q k rb all s0 vs E
 | n+1,.run,⟨dst,none,op,tot⟩ :: os,s,j,vs,E=>xn P L cx Q k rb all s0 pur n (.eff (ai (aq P s.t) s.ch (dst.getD 0) op)) (⟨dst,none,op,tot⟩ :: os) s j vs E
 | n+1,.eff (some ef),⟨dst,none,op,_⟩ :: os,s,j,vs,E=>xn P L cx Q k rb all s0 pur n .run os ⟨aU dst ef.sub ef.v s.t,ef.ch⟩ (j+1) (vs++[ef.v]) (xF pur op j ef E)
 | n+1,.eff none,⟨dst,none,op,tot⟩ :: os,s,j,vs,E=>xn P L cx Q k rb all s0 pur n (aF L (aq P s.t) s.ch (dst.getD 0) op) (⟨dst,none,op,tot⟩ :: os) s j vs E
 | n+1,.cal (.eff ef),⟨dst,none,op,_⟩ :: os,s,j,vs,E=>xn P L cx Q k rb all s0 pur n .run os ⟨aU dst ef.sub ef.v s.t,ef.ch⟩ (j+1) (vs++[ef.v]) (xF pur op j ef E)
 |_,_,_,_,_,_,_=>False
theorem x7 {L:List (Ent P)} {rb:List Nat} {all:List AO} {s0:ASt} {pur:List Nat}:∀ (n:Nat) (m:Md) (os:List AO) (s:ASt) (j:Nat) (vs:List C) (E:EL),xn P L cx Q k rb all s0 pur n m os s j vs E->SG P cx Q (.c (.draw 999 rb all) :: k) s0:=by
 intro n
 induction n with
 | zero=>intro m os s j vs E h;simp[xn]at h
 | succ n ih=>
  intro m os s j vs E h;cases os with
  | nil=>
   cases m <;> simp only[xn]at h;obtain⟨h0,h1,h2,h3,h4⟩:=h;exact vM h0 h1 h2 h3 h4
  | cons o os=>
   unfold xn at h;split at h <;> first | exact h.elim | exact ih _ _ _ _ _ _ h | (simp at*<;> (subst_vars;exact ih _ _ _ _ _ _ h))
theorem xy {rb:List Nat} {os:List AO} (L:List (Ent P)) (n:Nat) (pur:List Nat) (h:xn P L cx Q k rb os st pur n .run os st 0 [] []):SG P cx Q (.c (.draw 999 rb os) :: k) st:=
 x7 n .run os st 0 [] [] h
end
end Go.Am
end
section
open Go Go.Am
open Go.Am.Dat (cells)
namespace Go.Proofs.YtcbabnbiinkafaaGreatDoor
set_option maxRecDepth 100000
def c22 : AC:=oX [o9 2 false] [0] (oX [oM 3 0,o4 4 3,oB 5 .leq 3 4 (oN 62),oM 2 5] [2] .ret)
def rv22 : List RV:=[.tmp 2]
theorem is22 : FnIs Tryz.prog 22 6 c22 rv22:=⟨⟨Tryz.f22,_,Tryz.func22,by kernel_rfl,rfl,rfl,by kernel_rfl,by kernel_rfl⟩,by decide⟩
def c24 : AC:=oX [oA 2 (.mv (.const (.slice none 0 0)))] [0] (oX [oA 3 (.mkSl true 3 1 o1 0 []),oM 4 0,oA 5 (.app 24 3 1 8 o1 (oO 3) (oO 4)),oM 2 5] [2] .ret)
def rv24 : List RV:=[.tmp 2]
theorem is24 : FnIs Tryz.prog 24 6 c24 rv24:=⟨⟨Tryz.f24,_,Tryz.func24,by kernel_rfl,rfl,rfl,by kernel_rfl,by kernel_rfl⟩,by decide⟩
def c27 : AC:=oX [o7 1 0,oV 2 0] [1] (oS (oX [oF 3 0 1,oL 4 3,oC 5 31 [oO 4,oN (-300),oN 300],oA 6 (.un .not (oO 5)),oM 7 6,oE 8 7 false 1 1,oJ 9 7 false 8,oG 10 7 false (.call (.func 31) [oO 9,oN 0,oN 300]),oG 11 7 false (.un .not (oO 10)),oH 12 7 11,oM 13 12,oE 14 13 false 2 1,oJ 15 13 false 14,oG 16 13 false (.call (.func 31) [oO 15,oN 0,oN 40]),oG 17 13 false (.un .not (oO 16)),oH 18 13 17] [18] (oI 18 (oX [oV 2 2] [2] .ret))) (oK [] (oX [oV 2 0] [2] .ret)))
def rv27 : List RV:=[.tmp 2]
theorem is27 : FnIs Tryz.prog 27 19 c27 rv27:=⟨⟨Tryz.f27,_,Tryz.func27,by kernel_rfl,rfl,rfl,by kernel_rfl,by kernel_rfl⟩,by decide⟩
def c28l1 : AC:=oS (oX [oM 14 5,oM 15 0,o4 16 15,oB 17 .lss 3 14 (oO 16)] [0,1,5,17] (.cond (oO 17) .skip (.exit 0))) (oK [0,1,5] (oS (.block 1 (oX [oM 20 0,oM 21 5,oA 22 (.iaddr 1 o1 (oO 20) (oO 21)),oL 23 22,oC 24 31 [oO 23,oN (-2000),oN 1000],oA 25 (.un .not (oO 24)),oM 26 25,oD 27 26 false 1,oD 28 26 false 5,oG 29 26 false (.iaddr 1 o1 (oO 27) (oO 28)),oJ 30 26 false 29,oG 31 26 false (.call (.func 31) [oO 30,oN (-2000),oN 1000]),oG 32 26 false (.un .not (oO 31)),oH 33 26 32] [0,1,5,33] (oI 33 (oX [oV 4 2] [4] .ret)))) (oK [0,1,5] (oR [oM 18 5,oB 19 .add 3 18 (oN 1),oM 5 19]))))
def c28 : AC:=oX [oV 4 0] [0,1] (oS (oX [oM 6 1,o4 7 6,oM 8 0,o4 9 8,oB 10 .neq 3 7 (oO 9)] [0,1,10] (oI 10 (oX [oV 4 10] [4] .ret))) (oK [0,1] (oS (oX [oM 11 0,o4 12 11,oB 13 .gtr 3 12 (oN 60)] [0,1,13] (oI 13 (oX [oV 4 8] [4] .ret))) (oK [0,1] (oS (oX [oV 5 0] [0,1,5] (.block 0 (.loop c28l1))) (oK [] (oX [oV 4 0] [4] .ret)))))))
def rv28 : List RV:=[.tmp 4]
theorem is28 : FnIs Tryz.prog 28 34 c28 rv28:=⟨⟨Tryz.f28,_,Tryz.func28,by kernel_rfl,rfl,rfl,by kernel_rfl,by kernel_rfl⟩,by decide⟩
def xP : AC:=oS (oX [oM 31 11,oB 32 .geq 3 31 (oN 0),oM 33 32,oD 34 33 true 11,oD 35 33 true 9,oE 36 33 true 2 3,oJ 37 33 true 36,oG 38 33 true (.bin .sub 3 (oO 35) (oO 37)),oG 39 33 true (.bin .geq 3 (oO 34) (oO 38)),oP 40 33 39] [1,2,3,7,8,9,10,11,40] (.cond (oO 40) .skip (.exit 2))) (oK [1,2,3,7,8,9,10,11] (oS (.block 3 (oR [oM 43 10,oM 44 43,oG 45 44 true (.load true 3 (oO 3)),oD 46 44 true 1,oD 47 44 true 2,oD 48 44 true 11,oG 49 44 true (.call (.func 32) [oO 45,oO 46,oO 47,oO 48]),oP 50 44 49,oM 10 50])) (oK [1,2,3,7,8,9,10,11] (oR [oM 41 11,oB 42 .sub 3 41 (oN 1),oM 11 42]))))
def c29l2 : AC:=oS (oX [oM 12 9,oM 13 1,o4 14 13,oB 15 .lss 3 12 (oO 14)] [1,2,3,7,8,9,15] (.cond (oO 15) .skip (.exit 0))) (oK [1,2,3,7,8,9] (oS (.block 1 (oX [oM 18 8,oM 19 18,oG 20 19 false (.load true 3 (oO 3)),oD 21 19 false 1,oD 22 19 false 2,oD 23 19 false 9,oG 24 19 false (.call (.func 33) [oO 20,oO 21,oO 22,oO 23]),oH 25 19 24,oM 8 25] [1,2,3,7,8,9] (oX [oM 26 9,oF 27 2 3,oL 28 27,oB 29 .geq 3 26 (oO 28),oM 10 29] [1,2,3,7,8,9,10] (oS (oX [oM 30 9,oM 11 30] [1,2,3,7,8,9,10,11] (.block 2 (.loop xP))) (oK [1,2,3,7,8,9,10] (oX [oM 51 10,oM 52 51,oD 53 52 true 8,oP 54 52 53] [1,2,3,7,8,9,54] (oI 54 (oR [oM 55 7,oM 56 9,oA 57 (.mkSl false 3 1 o1 1 [(0,oO 56)]),oA 58 (.app 24 3 1 8 o1 (oO 55) (oO 57)),oM 7 58,o9 8 false])))))))) (oK [1,2,3,7,8,9] (oR [oM 16 9,oB 17 .add 3 16 (oN 1),oM 9 17]))))
def c29 : AC:=oX [o7 3 0,oA 6 (.mv (.const (.slice none 0 0)))] [1,2,3] (oX [oA 7 (.mv (.const (.slice none 0 0)))] [1,2,3,7] (.nilrow 7 1 3 (oX [o9 8 true] [1,2,3,7,8] (oS (oX [oV 9 0] [1,2,3,7,8,9] (.block 0 (.loop c29l2))) (oK [7] (.fz [7] (oX [oM 59 7,oM 6 59] [6] .ret)))))))
def rv29 : List RV:=[.tmp 6]
theorem is29 : FnIs Tryz.prog 29 60 c29 rv29:=⟨⟨Tryz.f29,_,Tryz.func29,by kernel_rfl,rfl,rfl,by kernel_rfl,by kernel_rfl⟩,by decide⟩
def c32 : AC:=oX [o7 4 0,o9 8 false] [1,2,3,4] (oS (oQ [oM 9 2,oA 10 (.mvs (oO 3)),oA 11 (.iaddr 1 o1 (oO 9) (oO 10)),oL 12 11,oM 13 1,oA 14 (.mvs (oO 3)),oA 15 (.iaddr 1 o1 (oO 13) (oO 14)),oL 16 15,oF 17 0 4,oL 18 17,oB 19 .add 3 16 (oO 18),oF 20 1 4,oL 21 20,oB 22 .add 3 19 (oO 21),oT 23 (.bin .gtr 3 (oO 12) (oO 22)),oT 8 (.mv (oO 23))]) (oK [8] .ret))
def rv32 : List RV:=[.tmp 8]
theorem is32 : FnIs Tryz.prog 32 24 c32 rv32:=⟨⟨Tryz.f32,_,Tryz.func32,by kernel_rfl,rfl,rfl,by kernel_rfl,by kernel_rfl⟩,by decide⟩
def c33 : AC:=oX [o7 4 0,o9 8 false] [1,2,3,4] (oS (oQ [oM 9 2,oA 10 (.mvs (oO 3)),oA 11 (.iaddr 1 o1 (oO 9) (oO 10)),oL 12 11,oM 13 1,oA 14 (.mvs (oO 3)),oA 15 (.iaddr 1 o1 (oO 13) (oO 14)),oL 16 15,oF 17 0 4,oL 18 17,oB 19 .add 3 16 (oO 18),oF 20 1 4,oL 21 20,oB 22 .sub 3 19 (oO 21),oT 23 (.bin .lss 3 (oO 12) (oO 22)),oT 8 (.mv (oO 23))]) (oK [8] .ret))
def rv33 : List RV:=[.tmp 8]
theorem is33 : FnIs Tryz.prog 33 24 c33 rv33:=⟨⟨Tryz.f33,_,Tryz.func33,by kernel_rfl,rfl,rfl,by kernel_rfl,by kernel_rfl⟩,by decide⟩
def xG : AC:=oS (oX [oM 19 5,oM 20 0,o4 21 20,oB 22 .lss 3 19 (oO 21)] [0,1,5,22] (.cond (oO 22) .skip (.exit 0))) (oK [0,1,5] (oS (.block 1 (oS (oX [oM 25 5,oM 26 1,oB 27 .eql 3 25 (oO 26)] [0,1,5,27] (oI 27 (.exit 1))) (oK [0,1,5] (oS (oQ [oM 28 0,oA 29 (.mvs (oO 1)),oA 30 (.iaddr 1 o0 (oO 28) (oO 29)),oL 31 30,oM 32 0,oM 33 5,oA 34 (.iaddr 1 o0 (oO 32) (oO 33)),oL 35 34,oT 36 (.call (.func 28) [oO 31,oO 35]),oT 6 (.mv (oO 36))]) (oK [0,1,5,6] (oX [oM 37 6,oB 38 .neq 3 37 (oN 0)] [0,1,5,6,38] (oI 38 (oX [oM 39 6,oM 4 39] [4] .ret)))))))) (oK [0,1,5] (oR [oM 23 5,oB 24 .add 3 23 (oN 1),oM 5 24]))))
def c61 : AC:=oX [oV 4 0] [0,1] (oS (oX [oM 7 0,o4 8 7,oB 9 .eql 3 8 (oN 0)] [0,1,9] (oI 9 (oX [oV 4 10] [4] .ret))) (oK [0,1] (oS (oX [oM 10 0,o4 11 10,oB 12 .gtr 3 11 (oN 6)] [0,1,12] (oI 12 (oX [oV 4 8] [4] .ret))) (oK [0,1] (oS (oX [oM 13 1,oM 14 0,o4 15 14,oB 16 .sub 3 15 (oN 1),oC 17 31 [oO 13,oN 0,oO 16],oA 18 (.un .not (oO 17))] [0,1,18] (oI 18 (oX [oV 4 6] [4] .ret))) (oK [0,1] (oS (oX [oV 5 0] [0,1,5] (.block 0 (.loop xG))) (oK [] (oX [oV 4 0] [4] .ret)))))))))
def xu : List RV:=[.tmp 4]
theorem is61 : FnIs Tryz.prog 61 40 c61 xu:=⟨⟨Tryz.f61,_,Tryz.func61,by kernel_rfl,rfl,rfl,by kernel_rfl,by kernel_rfl⟩,by decide⟩
def xp : AC:=oS (oX [oM 20 10,oM 21 1,o4 22 21,oB 23 .lss 3 20 (oO 22)] [1,2,3,6,8,9,10,23] (.cond (oO 23) .skip (.exit 2))) (oK [1,2,3,6,8,9,10] (oS (.block 3 (oS (oQ [oA 26 (.mvs (oO 10)),oT 27 (.mv (oO 2)),oT 28 (.bin .neq 3 (oO 26) (oO 27)),oT 29 (.mv (oO 28)),oG 30 29 true (.load true 3 (oO 3)),oD 31 29 true 1,oD 32 29 true 2,oG 33 29 true (.iaddr 1 o0 (oO 31) (oO 32)),oJ 34 29 true 33,oD 35 29 true 1,oD 36 29 true 10,oG 37 29 true (.iaddr 1 o0 (oO 35) (oO 36)),oJ 38 29 true 37,oG 39 29 true (.call (.func 29) [oO 30,oO 34,oO 38]),oD 40 29 true 8,⟨some 41,some (29,true),.call (.func 75) [oO 39,oO 40],true⟩,oT 42 (.pick (oO 29) (oO 41) (.const (.bool false))),oT 43 (.mv (oO 42)),⟨some 44,some (43,true),.mv (oO 9),true⟩,⟨some 45,some (43,true),.bin .lss 3 (oO 44) (oN 0),true⟩,⟨some 46,some (43,true),.mv (oO 45),true⟩,oD 47 46 false 1,oD 48 46 false 10,oG 49 46 false (.iaddr 1 o0 (oO 47) (oO 48)),oJ 50 46 false 49,oD 51 46 false 8,oG 52 46 false (.iaddr 1 o1 (oO 50) (oO 51)),oJ 53 46 false 52,oD 54 46 false 1,oD 55 46 false 9,oG 56 46 false (.iaddr 1 o0 (oO 54) (oO 55)),oJ 57 46 false 56,oD 58 46 false 8,oG 59 46 false (.iaddr 1 o1 (oO 57) (oO 58)),oJ 60 46 false 59,⟨some 61,some (46,false),.bin .gtr 3 (oO 53) (oO 60),true⟩,⟨some 62,some (43,true),.pick (oO 46) (.const (.bool true)) (oO 61),true⟩,oT 63 (.pick (oO 43) (oO 62) (.const (.bool false)))]) (oK [1,2,3,6,8,9,10,63] (oI 63 (oR [oM 64 10,oM 9 64]))))) (oK [1,2,3,6,8,9,10] (oR [oM 24 10,oB 25 .add 3 24 (oN 1),oM 10 25]))))
def c62l2 : AC:=oS (oX [oM 11 8,oM 12 1,oM 13 2,oA 14 (.iaddr 1 o0 (oO 12) (oO 13)),oL 15 14,o4 16 15,oB 17 .lss 3 11 (oO 16)] [1,2,3,6,8,17] (.cond (oO 17) .skip (.exit 0))) (oK [1,2,3,6,8] (oS (.block 1 (oX [oV 9 (-1)] [1,2,3,6,8,9] (oS (oX [oV 10 0] [1,2,3,6,8,9,10] (.block 2 (.loop xp))) (oK [1,2,3,6,8,9] (oX [oM 65 9,oB 66 .geq 3 65 (oN 0)] [1,2,3,6,8,9,66] (oI 66 (oX [oM 67 8,oM 68 9,oA 69 (.build o2 [(0,1,oO 67),(1,1,oO 68)]),oW 2 6 69,o9 7 true] [6,7] .ret))))))) (oK [1,2,3,6,8] (oR [oM 18 8,oB 19 .add 3 18 (oN 1),oM 8 19]))))
def c62 : AC:=oX [o7 3 0,oA 6 (.alloc o2),o9 7 false] [1,2,3,6] (oS (oX [oV 8 0] [1,2,3,6,8] (.block 0 (.loop c62l2))) (oK [6] (oX [oA 70 (.build o2 []),oW 2 6 70,o9 7 false] [6,7] .ret)))
def rv62 : List RV:=[.cell 6 true 2,.tmp 7]
theorem is62 : FnIs Tryz.prog 62 71 c62 rv62:=⟨⟨Tryz.f62,_,Tryz.func62,by kernel_rfl,rfl,rfl,by kernel_rfl,by kernel_rfl⟩,by decide⟩
def c75l1 : AC:=oS (oX [oM 6 5,oM 7 0,o4 8 7,oB 9 .lss 3 6 (oO 8)] [0,1,5,9] (.cond (oO 9) .skip (.exit 0))) (oK [0,1,5] (oS (.block 1 (oX [oM 12 0,oM 13 5,oA 14 (.iaddr 1 o1 (oO 12) (oO 13)),oL 15 14,oM 16 1,oB 17 .eql 3 15 (oO 16)] [0,1,5,17] (oI 17 (oX [o9 4 true] [4] .ret)))) (oK [0,1,5] (oR [oM 10 5,oB 11 .add 3 10 (oN 1),oM 5 11]))))
def c75 : AC:=oX [o9 4 false] [0,1] (oS (oX [oV 5 0] [0,1,5] (.block 0 (.loop c75l1))) (oK [] (oX [o9 4 false] [4] .ret)))
def rv75 : List RV:=[.tmp 4]
theorem is75 : FnIs Tryz.prog 75 18 c75 rv75:=⟨⟨Tryz.f75,_,Tryz.func75,by kernel_rfl,rfl,rfl,by kernel_rfl,by kernel_rfl⟩,by decide⟩
end Go.Proofs.YtcbabnbiinkafaaGreatDoor
end
section
open Go Go.Am
open Go.Am.Dat (cells)
namespace Go.Proofs.YtcbabnbiinkafaaGreatDoor.D7
set_option maxRecDepth 100000
def c60l1 : AC:=oS (oX [oM 5 4,oM 6 0,o4 7 6,oB 8 .lss 3 5 (oO 7)] [0,3,4,8] (.cond (oO 8) .skip (.exit 0))) (oK [0,3,4] (oS (.block 1 (oR [oM 11 3,oM 12 0,oM 13 4,oA 14 (.iaddr 1 o0 (oO 12) (oO 13)),oL 15 14,oC 16 24 [oO 15],oA 17 (.mkSl true 24 1 o0 1 [(0,oO 16)]),oA 18 (.app 51 24 1 24 o0 (oO 11) (oO 17)),oM 3 18])) (oK [0,3,4] (oR [oM 9 4,oB 10 .add 3 9 (oN 1),oM 4 10]))))
def c60 : AC:=oX [oA 2 (.mv (.const (.slice none 0 0)))] [0] (oX [oA 3 (.mv (.const (.slice none 0 0)))] [0,3] (.nilrow 3 1 24 (.deepen 3 1 3 (oS (oX [oV 4 0] [0,3,4] (.block 0 (.loop c60l1))) (oK [3] (oX [oM 19 3,oM 2 19] [2] .ret))))))
def rv60 : List RV:=[.tmp 2]
theorem is60 : FnIs Tryz.prog 60 20 c60 rv60:=⟨⟨Tryz.f60,_,Tryz.func60,by kernel_rfl,rfl,rfl,by kernel_rfl,by kernel_rfl⟩,by decide⟩
end Go.Proofs.YtcbabnbiinkafaaGreatDoor.D7
end
section
open Go Go.Am
open Go.Am.Dat (cells)
namespace Go.Proofs.YtcbabnbiinkafaaGreatDoor.E1
set_option maxRecDepth 100000
def c59l1 : AC:=oX [oB 70 .lss 3 69 (oO 68)] [2,3,6,9,10,11,12,13,14,46,47,48,67,68,69,70] (oS (.cond (oO 70) .skip (.exit 2)) (oK [2,3,6,9,10,11,12,13,14,46,47,48,67,68,69] (oS (.block 3 (oX [oA 71 (.iaddr 1 o1 (oO 67) (oO 69)),oL 72 71,oM 18 72] [2,3,6,9,10,11,12,13,14,18,46,47,48,67,68,69] (oX [oM 73 12,oA 74 (.un .not (oO 73)),oM 75 74,oD 76 75 false 18,oE 77 75 false 0 10,oJ 78 75 false 77,oG 79 75 false (.bin .lss 3 (oO 76) (oO 78)),oH 80 75 79,oM 81 80,oD 82 81 false 18,oE 83 81 false 0 10,oJ 84 81 false 83,oG 85 81 false (.bin .eql 3 (oO 82) (oO 84)),oD 86 81 false 85,oD 87 86 true 14,oD 88 86 true 18,oG 89 86 true (.iaddr 1 o1 (oO 87) (oO 88)),oJ 90 86 true 89,oD 91 86 true 11,oG 92 86 true (.bin .gtr 3 (oO 90) (oO 91)),oG 93 81 false (.pick (oO 86) (oO 92) (.const (.bool false))),oH 94 81 93] [2,3,6,9,10,11,12,13,14,18,46,47,48,67,68,69,94] (oI 94 (.draw 999 [2,7,8,9,102,107,108,109,207,208,209,305,306,308,309,405,406,408,409,506,508,509,608,609,708,709,809] [oA 95 (.mvs (oO 18)),oA 96 (.mvs (oO 13)),oA 97 (.build o2 [(0,1,oO 95),(1,1,oO 96)]),oM 98 14,oA 99 (.mvs (oO 18)),oA 100 (.iaddr 1 o1 (oO 98) (oO 99)),oL 101 100,oW 2 10 97,oT 11 (.mv (oO 101)),oT 12 (.mv (.const (.bool true)))]))))) (oK [2,3,6,9,10,11,12,13,14,46,47,48,67,68,69] (oR [oB 102 .add 3 69 (oN 1),oM 69 102])))))
def c59l2 : AC:=oX [oB 49 .lss 3 48 (oO 47)] [2,3,6,9,10,11,12,46,47,48,49] (oS (.cond (oO 49) .skip (.exit 0)) (oK [2,3,6,9,10,11,12,46,47,48] (oS (.block 1 (oX [oM 50 48,oA 51 (.iaddr 1 o0 (oO 46) (oO 48)),oL 52 51,oM 13 50,oM 14 52] [2,3,6,9,10,11,12,13,14,46,47,48] (oS (oX [oM 53 13,oM 54 2,oB 55 .eql 3 53 (oO 54)] [2,3,6,9,10,11,12,13,14,46,47,48,55] (oI 55 (.exit 1))) (oK [2,3,6,9,10,11,12,13,14,46,47,48] (oX [o5 57 3 3,oM 58 9,oM 59 14,oC 60 23 [oO 57,oO 58,oO 59],oM 56 60,o8 61 56 0,o8 62 56 1,oM 15 61,oM 16 62] [2,3,6,9,10,11,12,13,14,15,16,46,47,48] (oS (oX [oM 63 16,oB 64 .neq 27 63 (oN 0)] [2,3,6,9,10,11,12,13,14,15,16,46,47,48,64] (oI 64 (oX [oA 65 (.build o2 []),oM 66 16,oW 2 6 65,oM 7 66] [6,7] .ret))) (oK [2,3,6,9,10,11,12,13,14,15,46,47,48] (oX [oM 67 15,o4 68 67,oV 69 0] [2,3,6,9,10,11,12,13,14,46,47,48,67,68,69] (.block 2 (.loop c59l1)))))))))) (oK [2,3,6,9,10,11,12,46,47,48] (oR [oB 103 .add 3 48 (oN 1),oM 48 103])))))
def c59 : AC:=oX [o7 3 0,oA 6 (.alloc o2),oV 7 0] [1,2,3,6] (oX [o5 19 3 3,oC 20 26 [oO 19],oM 21 1,o4 22 21,oB 23 .gtr 3 22 (oN 0),oC 24 95 [oO 23,oN 10],oM 25 1,o4 26 25,oB 27 .leq 3 26 (oN 6),oC 28 95 [oO 27,oN 8],oM 29 2,oM 30 1,o4 31 30,oB 32 .sub 3 31 (oN 1),oC 33 96 [oO 29,oN 0,oO 32],oC 34 95 [oO 33,oN 6],oA 35 (.mkSl false 27 1 o1 4 [(0,oO 20),(1,oO 24),(2,oO 28),(3,oO 34)]),oC 36 91 [oO 35],oM 8 36] [1,2,3,6,8] (oS (oX [oM 37 8,oB 38 .neq 27 37 (oN 0)] [1,2,3,6,8,38] (oI 38 (oX [oA 39 (.build o2 []),oM 40 8,oW 2 6 39,oM 7 40] [6,7] .ret))) (oK [1,2,3,6] (oX [oM 41 1,oM 42 2,oA 43 (.iaddr 1 o0 (oO 41) (oO 42)),oL 44 43,oM 9 44] [1,2,3,6,9] (oX [oA 45 (.build o2 []),oA 10 (.alloc o2),oW 2 10 45,oV 11 0,o9 12 false] [1,2,3,6,9,10,11,12] (oS (oX [oM 46 1,o4 47 46,oV 48 0] [2,3,6,9,10,11,12,46,47,48] (.block 0 (.loop c59l2))) (oK [6,10,12] (oS (.draw 999 [3,4,102,103,104,203,204,304] [o5 104 2 10,oM 105 12,oC 106 95 [oO 105,oN 12],⟨none,none,.store false 2 (oO 6) (oO 104),true⟩,oT 7 (.mv (oO 106))]) (oK [6,7] .ret)))))))))
def rv59 : List RV:=[.cell 6 true 2,.tmp 7]
theorem is59 : FnIs Tryz.prog 59 107 c59 rv59:=⟨⟨Tryz.f59,_,Tryz.func59,by kernel_rfl,rfl,rfl,by kernel_rfl,by kernel_rfl⟩,by decide⟩
def c10l1 : AC:=oS (oX [oM 19 7,oM 20 1,o4 21 20,oB 22 .lss 3 19 (oO 21)] [1,2,3,7,22] (.cond (oO 22) .skip (.exit 0))) (oK [1,2,3,7] (oS (.block 1 (oX [oM 25 1,oM 26 7,oA 27 (.iaddr 1 o0 (oO 25) (oO 26)),oL 28 27,oC 29 22 [oO 28],oA 30 (.un .not (oO 29))] [1,2,3,7,30] (oI 30 (oX [o9 6 true] [6] .ret)))) (oK [1,2,3,7] (oR [oM 23 7,oB 24 .add 3 23 (oN 1),oM 7 24]))))
def c10 : AC:=oX [o7 3 0,o9 6 false] [1,2,3] (oS (oX [oC 14 21 [],oA 15 (.un .not (oO 14))] [1,2,3,15] (oI 15 (oX [o9 6 false] [6] .ret))) (oK [1,2,3] (oS (oX [oM 16 1,o4 17 16,oB 18 .gtr 3 17 (oN 8)] [1,2,3,18] (oI 18 (oX [o9 6 true] [6] .ret))) (oK [1,2,3] (oS (oX [oV 7 0] [1,2,3,7] (.block 0 (.loop c10l1))) (oK [1,2,3] (oS (.draw 999 [4,5,6,7,9,10,102,104,105,106,107,109,110,204,205,206,207,209,210,304,305,306,307,309,310,405,406,407,409,410,506,507,509,510,609,610,710,809,810,910] [o5 32 3 3,oM 33 1,oC 34 60 [oO 33],oA 35 (.mvs (oO 2)),oC 36 59 [oO 32,oO 34,oO 35],oM 31 36,o8 37 31 0,o8 38 31 1,oA 8 (.alloc o2),oW 2 8 37,oT 9 (.mv (oO 38))]) (oK [1,2,3,8,9] (oX [o5 39 3 3,oC 40 27 [oO 39],oM 10 40] [1,2,3,8,9,10] (oS (oX [oM 41 10,oB 42 .eql 3 41 (oN 0)] [1,2,3,8,9,10,42] (oI 42 (oR [oM 43 1,oM 44 2,oC 45 61 [oO 43,oO 44],oM 10 45]))) (oK [1,2,3,8,9,10] (oX [oA 11 (.alloc o2)] [1,2,3,8,9,10,11] (oS (oX [oM 46 10,oB 47 .eql 3 46 (oN 0)] [1,2,3,8,9,10,11,47] (oI 47 (oX [o5 49 3 3,oM 50 1,oM 51 2,oC 52 62 [oO 49,oO 50,oO 51],oM 48 52,o8 53 48 0,o8 54 48 1,oA 12 (.alloc o2),oW 2 12 53,oM 13 54] [8,9,10,11,12,13] (oX [o5 55 2 12,oW 2 11 55] [8,9,10,11,13] (oX [oM 56 13,oA 57 (.un .not (oO 56))] [8,9,10,11,57] (oI 57 (oR [oV 10 12]))))))) (oK [8,9,10,11] (oX [oM 58 9,oM 59 10,oB 60 .eql 3 58 (oO 59),oM 61 60,oG 62 61 true (.load true 2 (oO 8)),oG 63 61 true (.load true 2 (oO 11)),oG 64 61 true (.ext (.eqs false [0,0]) [oO 62,oO 63]),oP 65 61 64,oM 6 65] [6] .ret)))))))))))))))
def rv10 : List RV:=[.tmp 6]
theorem is10 : FnIs Tryz.prog 10 66 c10 rv10:=⟨⟨Tryz.f10,_,Tryz.func10,by kernel_rfl,rfl,rfl,by kernel_rfl,by kernel_rfl⟩,by decide⟩
end Go.Proofs.YtcbabnbiinkafaaGreatDoor.E1
end
section
open Go Go.Am
open Go.Am.Dat (cells)
namespace Go.Proofs.YtcbabnbiinkafaaGreatDoor
set_option maxHeartbeats 4000000
set_option maxRecDepth 100000
theorem x9 (r:Rul):FC Tryz.prog 27 [enc r] [] (enc (km r)) []:=by
 obtain⟨a,b,c⟩:=r;refine eh is27 (by simp) (fun cx hl=>dC [oa] 800 ?_);delta c27 oO oN oA oM oG oS oK oF oL oV oC oI oX oH oE oJ o7;simp (maxSteps:=9^7) -implicitDefEqProofs only[rv27,oa,iy,Ent.of0,Ent.of1,Ent.of2,Ent.of3,Ent.of4,V,W3,↓reduceIte,seval,reduceCtorEq];unfold km j4;by_cases h1:-300<=a/\a<=300 <;> by_cases h2:0<=b/\b<=300 <;> by_cases h3:0<=c/\c<=40 <;> simp[h1,h2,h3]
def xt : Ent Tryz.prog:=.of1 27 (fun _=>True) (fun r:Rul=>enc (km r)) (fun _=>trivial) (fun r _=>x9 r)
theorem xY (s n:List Int):FC Tryz.prog 28 [enc s,enc n] [] (enc (ma s n)) []:=by
 refine eh is28 (by simp) (fun cx hl=>dC [oa] 800 ?_);simp only[V,W3,↓reduceIte,seval,reduceCtorEq]at hl;have hl1:=hl.1.list;have hl2:=hl.2.list;unfold ma;by_cases h1:n.length=s.length
 . have h1':(n.length:Int)=s.length:=by omega
   rw[if_neg (by simp[h1])];by_cases h2:s.length > 60
   . have h2':(60:Int) < s.length:=by omega
     rw[if_pos h2];delta c28 oO oN oM oS oK oV oI oX oB o4;simp (maxSteps:=9^7) -implicitDefEqProofs only[rv28,h1',h2',WU,Ent.of0,Ent.of1,Ent.of2,Ent.of3,Ent.of4,V,W3,↓reduceIte,seval,reduceCtorEq]
   . have h2':¬ (60:Int) < s.length:=by omega
     rw[if_neg h2];generalize hB:gP s n=B;delta c28 oO oN oM oS oK oV oI oX oB o4;simp (maxSteps:=9^7) -implicitDefEqProofs only[rv28,h1',h2',WU,Ent.of0,Ent.of1,Ent.of2,Ent.of3,Ent.of4,V,W3,↓reduceIte,seval,reduceCtorEq];refine eN s.length (fun i=>[(5,.s (.int .i64 (i:Int)))]) (fun _=>[]) (fun i=>B=gP (s.drop i) (n.drop i)) (by simp[hB]) ?_ (fun i hi hv=>dC [oa] 800 ?_)
     . simp (maxSteps:=9^7) -implicitDefEqProofs only[Ent.of0,Ent.of1,Ent.of2,Ent.of3,Ent.of4,V,W3,↓reduceIte,seval,reduceCtorEq]
       all_goals simp
     . by_cases h:i < s.length
       . have hi2:(i:Int) < (s.length:Int):=by omega
         have hi3:(i:Int) < (n.length:Int):=by omega
         rw[eg 0 h,eg 0 (by omega:i < n.length),gP]at hv;unfold kg at hv;by_cases hx:-2000<=s.getD i 0/\s.getD i 0<=1000 <;> by_cases hy:-2000<=n.getD i 0/\n.getD i 0<=1000
         all_goals
          simp only[hx,hy,decide_true,decide_false,zY,z7,yd]at hv;delta c28l1 oO oN oA oM oG oR oS oK oL oV oC oI oX oH oB oD oJ o1 o4;simp (maxSteps:=9^7) -implicitDefEqProofs only[rv28,oa,hi2,hi3,h,hx,hy,InR,WU,Ent.of0,Ent.of1,Ent.of2,Ent.of3,Ent.of4,V,W3,↓reduceIte,seval,reduceCtorEq];grind
       . have hi2:¬ (i:Int) < (s.length:Int):=by omega
         rw[zv (by omega)]at hv;simp[gP]at hv;delta c28l1 oO oN oA oM oG oR oS oK oL oV oC oI oX oH oB oD oJ o1 o4;simp (maxSteps:=9^7) -implicitDefEqProofs only[rv28,hi2,WU,Ent.of0,Ent.of1,Ent.of2,Ent.of3,Ent.of4,V,W3,↓reduceIte,seval,reduceCtorEq];simp[hv]
 . have h1':¬ (n.length:Int)=s.length:=by omega
   rw[if_pos h1];delta c28 oO oN oM oS oK oV oI oX oB o4;simp (maxSteps:=9^7) -implicitDefEqProofs only[rv28,h1',WU,Ent.of0,Ent.of1,Ent.of2,Ent.of3,Ent.of4,V,W3,↓reduceIte,seval,reduceCtorEq]
def ent28 : Ent Tryz.prog:=.of2 28 (fun _ _=>True) (fun s n:List Int=>enc (ma s n)) (fun _ _=>trivial) (fun s n _=>xY s n)
def bett (r:Rul) (s n:List Int) (t:Int):Bool:=nG r (s.getD t.toNat 0) (n.getD t.toNat 0)
def ovr (r:Rul) (s n:List Int) (t:Int):Bool:=over r (s.getD t.toNat 0) (n.getD t.toNat 0)
theorem yS (r:Rul) (s n:List Int) (t:Int) (h:TickOk r s n t):FC Tryz.prog 32 [enc r,enc s,enc n,enc t] [] (enc (bett r s n t)) []:=by
 obtain⟨h,h0,h1⟩:=h;have hi:t.toNat < s.length:=by omega
 have hln:=h.hln;have h1':t < n.length:=by omega
 have hi2:t.toNat < n.length:=by omega
 have hb:=h.get hi;obtain⟨off,hyst,trig⟩:=r;simp only at hb;refine dD [] is32 (by simp) trivial trivial trivial trivial (fun cx _ hl _=>dC [] 800 ?_);delta c32 oO oA oM oT oQ oS oK oF oL oX oB o1 o7 o9;simp (maxSteps:=9^7) -implicitDefEqProofs only[rv32,iy,h0,h1,h1',hi,hi2,InR,bett,nG,WU,Ent.of0,Ent.of1,Ent.of2,Ent.of3,Ent.of4,V,W3,↓reduceIte,seval,reduceCtorEq];omega
def ent32 : Ent Tryz.prog:=.of4 32 (fun (r:Rul) (s n:List Int) (t:Int)=>TickOk r s n t) (fun (r:Rul) (s n:List Int) (t:Int)=>enc (bett r s n t)) (fun _ _ _ _=>trivial) (fun r s n t h=>yS r s n t h)
theorem Over_c (r:Rul) (s n:List Int) (t:Int) (h:TickOk r s n t):FC Tryz.prog 33 [enc r,enc s,enc n,enc t] [] (enc (ovr r s n t)) []:=by
 obtain⟨h,h0,h1⟩:=h;have hi:t.toNat < s.length:=by omega
 have hln:=h.hln;have h1':t < n.length:=by omega
 have hi2:t.toNat < n.length:=by omega
 have hb:=h.get hi;obtain⟨off,hyst,trig⟩:=r;simp only at hb;refine dD [] is33 (by simp) trivial trivial trivial trivial (fun cx _ hl _=>dC [] 800 ?_);delta c33 oO oA oM oT oQ oS oK oF oL oX oB o1 o7 o9;simp (maxSteps:=9^7) -implicitDefEqProofs only[rv33,iy,h0,h1,h1',hi,hi2,InR,ovr,over,WU,Ent.of0,Ent.of1,Ent.of2,Ent.of3,Ent.of4,V,W3,↓reduceIte,seval,reduceCtorEq];omega
def ent33 : Ent Tryz.prog:=.of4 33 (fun (r:Rul) (s n:List Int) (t:Int)=>TickOk r s n t) (fun (r:Rul) (s n:List Int) (t:Int)=>enc (ovr r s n t)) (fun _ _ _ _=>trivial) (fun r s n t h=>Over_c r s n t h)
def cnt (p:Nat->Bool):Nat->Nat
 | 0=>0
 | t+1=>if p t then cnt p t+1 else 0
theorem yN (p:Nat->Bool):∀ t,cnt p t<=t
 | 0=>zw _
 | t+1=>by rw[cnt];have:=yN p t;split <;> omega
theorem xq (p:Nat->Bool):∀ (t m:Nat),m < cnt p t↔(m < t/\∀ k,k < t->t<=k+m+1->p k=true)
 | 0,m=>by simp[cnt]
 | t+1,m=>by
  rw[cnt];cases hp:p t with
  | false=>
   simp only[zr,if_false,Nat.not_lt_zero,false_iff,not_and];intro h1 h2;have:=h2 t (by omega) (by omega);rw[hp]at this;cases this
  | true=>
   simp only[if_true];cases m with
   | zero=>
    constructor
    . intro _;refine⟨by omega,fun k h1 h2=>?_⟩;have:k=t:=by omega
      rw[this];exact hp
    . intro _;omega
   | succ m=>
    have ih:=xq p t m;constructor
    . intro h;obtain⟨g1,g2⟩:=ih.1 (by omega);refine⟨by omega,fun k h1 h2=>?_⟩;by_cases hk:k=t
      . rw[hk];exact hp
      . exact g2 k (by omega) (by omega)
    . intro h;have:=ih.2 ⟨by omega,fun k h1 h2=>h.2 k (by omega) (by omega)⟩;omega
theorem xA (p:Nat->Bool) (t:Nat):((cnt p (t+1):Nat):Int)=if p t then (cnt p t:Int)+1 else 0:=by
 rw[cnt];split <;> simp
theorem xZ (r:Rul) (s n:List Int) (h:TrgOk r s n):FC Tryz.prog 29 [enc r,enc s,enc n] [] (enc (iv r s n)) []:=by
 have hln:=h.hln;have h60:=h.h60;have hr0:=h.hr;obtain⟨off,hyst,trig⟩:=r;simp only[j4,zm,decide_eq_true_eq]at hr0;have hlv:(iv ⟨off,hyst,trig⟩ s n).length<=60:=z6 (mK _ s n 0 0 true) h60;refine dD [] is29 (by simp) trivial trivial trivial trivial (fun cx _ hl _=>dC [] 800 ?_);delta c29 oA oM oS oK oV oX o7 o9;simp (maxSteps:=9^7) -implicitDefEqProofs only[rv29,iy,Ent.of0,Ent.of1,Ent.of2,Ent.of3,Ent.of4,V,W3,↓reduceIte,seval,reduceCtorEq];generalize hr:(⟨off,hyst,trig⟩:Rul)=r at *;have hre:r.off=off/\r.hyst=hyst/\r.trig=trig:=by rw[<- hr];exact⟨rfl,rfl,rfl⟩
 generalize hp:(fun k:Nat=>nG r (s.getD k 0) (n.getD k 0))=p;have hpk:∀ k,p k=nG r (s.getD k 0) (n.getD k 0):=fun k=>by rw[<- hp]
 refine sJ (α:=Nat×List Int×Bool) (fun v=>[(7,.own 7),(8,.s (.bool v.2.2)),(9,.s (.int .i64 (v.1:Int)))]) (fun v=>[(7,.row 1 3 (v.2.1.map cells))])
  (fun v=>v.1<=s.length/\iv r s n=v.2.1++trg r (s.drop v.1) (n.drop v.1) v.1 (cnt p v.1) v.2.2) (fun v=>s.length - v.1) (0,[],true)
  ⟨yF _,by simp[iv,cnt]⟩ ?_ (fun v hv=>?_)
 . simp (maxSteps:=9^7) -implicitDefEqProofs only[Ent.of0,Ent.of1,Ent.of2,Ent.of3,Ent.of4,V,W3,↓reduceIte,seval,reduceCtorEq]
   all_goals simp
 . obtain⟨i,out,ov⟩:=v;simp only at hv;obtain⟨v1,v2⟩:=hv;refine dC [ent33] 800 ?_;have hcl:=yN p i;have hol:out.length<=60:=by
    have:=congrArg List.length v2;rw[zK]at this;omega
   by_cases h1:i < s.length
   . have hi2:(i:Int) < (s.length:Int):=by omega
     have hi4:i < n.length:=by omega
     have htk:TickOk r s n (i:Int):=⟨h,by omega,hi2⟩;rw[eg 0 h1,eg 0 hi4,trg]at v2;have hob:ovr r s n (i:Int)=over r (s.getD i 0) (n.getD i 0):=by simp[ovr]
     have hcs:=xA p i;rw[hpk i]at hcs;rw[<- hcs]at v2;rw[<- hr]at htk hob;obtain⟨T,rfl⟩:∃ T:Nat,trig=(T:Int):=⟨trig.toNat,by omega⟩;have hlong:∀ m:Nat,m<=i+1->m<=T+1->(i < m\/T < m)->(decide ((T:Int)<=(i:Int)) && (List.range m).all fun j=>p (i - j))=decide (T < cnt p (i+1)):=fun m g1 g2 g3=>by
      rw[yH];simp only[zm,decide_eq_true_eq,zx,zE];rw[xq];constructor
      . intro ⟨q1,q2⟩;refine⟨by omega,fun k q3 q4=>?_⟩;have:=q2 (i - k) (by omega);rwa[show i - (i - k)=k by omega]at this
      . intro ⟨q1,q2⟩;exact⟨by omega,fun j q3=>q2 (i - j) (by omega) (by omega)⟩
     have hret:r.trig=(T:Int):=hre.2.2;have htc:decide (r.trig < (cnt p (i+1):Int))=decide (T < cnt p (i+1)):=by rw[hret];simp
     rw[htc]at v2;cases ov
     all_goals
      delta c29l2 oO oN oA oM oG oR oS oK oF oL oI oX oP oH oB oD o1 o4 o9;simp (maxSteps:=9^7) -implicitDefEqProofs only[rv29,ent33,jU,hi2,htk,hob,h1,InR,yz,zF,WU,Ent.of0,Ent.of1,Ent.of2,Ent.of3,Ent.of4,V,W3,↓reduceIte,seval,reduceCtorEq];simp only[yz,zF]at v2;refine sJ (α:=Nat) (fun m=>[(10,.s (.bool (decide ((T:Int)<=(i:Int)) && (List.range m).all fun j=>p (i - j)))),(11,.s (.int .i64 ((i:Int) - m)))]) (fun _=>[]) (fun m=>m<=i+1/\m<=T+1) (fun m=>i+1 - m) 0 ⟨yF _,yF _⟩ ?_ (fun m hm=>dC [ent32] 800 ?_)
      . simp (maxSteps:=9^7) -implicitDefEqProofs only[Ent.of0,Ent.of1,Ent.of2,Ent.of3,Ent.of4,V,W3,↓reduceIte,seval,reduceCtorEq]
        all_goals simp
      obtain⟨m1,m2⟩:=hm;by_cases h2:m<=i/\m<=T
      . have e1:(0:Int)<=(i:Int) - m:=by omega
        have e2:(i:Int) - T<=(i:Int) - m:=by omega
        have htk2:TickOk ⟨off,hyst,T⟩ s n ((i:Int) - m):=by rw[hr];exact⟨h,e1,by omega⟩
        have hbb:bett ⟨off,hyst,T⟩ s n ((i:Int) - m)=p (i - m):=by
         rw[hr,hpk,bett];have:((i:Int) - m).toNat=i - m:=by omega
         rw[this]
        have hrs:(List.range (m+1)).all (fun j=>p (i - j))=((List.range m).all (fun j=>p (i - j)) && p (i - m)):=by rw[List.range_succ,List.all_append];simp
        generalize hA:(decide ((T:Int)<=(i:Int)) && (List.range m).all fun j=>p (i - j))=A;cases A
        all_goals
         delta xP oO oN oM oG oR oS oK oX oP oB oD oE oJ;simp (maxSteps:=9^7) -implicitDefEqProofs only[ent32,jU,e1,e2,htk2,hbb,InR,WU,Ent.of0,Ent.of1,Ent.of2,Ent.of3,Ent.of4,V,W3,↓reduceIte,seval,reduceCtorEq];refine⟨by omega,by omega,m+1,⟨by omega,by omega⟩,by omega,?_,by push_cast;omega⟩;rw[hrs,<- Bool.and_assoc,hA];simp
      . have hL:=hlong m m1 m2 (by omega);rw[hL];have e0:InR .i64 ((i:Int) - T):=by simp only[InR];omega
        have e5:InR .i64 ((i:Int)+1):=by simp only[InR];omega
        have e6:(out.length+1)*8<=140737488355328:=by omega
        have e7:out.length+1<=9223372036854775807:=by omega
        have hmc:∀ x:Int,List.map cells out++[[C.s (.int .i64 x)]]=List.map cells (out++[x]):=fun x=>by rw[yg];rfl
        have hout:∀ (B:Bool) (l:List Int),iv r s n=out++l->iv r s n=out++l:=fun _ _ h=>h
        simp only[hr]at *;generalize hA:decide (T < cnt p (i+1))=A at *;generalize hB:over r (s.getD i 0) (n.getD i 0)=B at *;by_cases e1:(0:Int)<=(i:Int) - m
        . have e2:¬ (i:Int) - T<=(i:Int) - m:=by omega
          cases A <;> cases B
          all_goals
           simp only[zY,z7,zZ,yd,zr,if_true,if_false]at v2;delta xP oO oN oM oG oR oS oK oX oP oB oD oE oJ;simp (maxSteps:=9^7) -implicitDefEqProofs only[e1,e2,e0,e5,e6,e7,zy,WU,Ent.of0,Ent.of1,Ent.of2,Ent.of3,Ent.of4,V,W3,↓reduceIte,seval,reduceCtorEq]
           first
           | exact⟨(i+1,out,_),⟨h1,v2⟩,by simp only;omega,⟨rfl,by push_cast;rfl⟩,rfl⟩
           | exact⟨(i+1,out++[(i:Int)],_),⟨h1,by rw[v2];simp⟩,by simp only;omega,⟨rfl,by push_cast;rfl⟩,by rw[hmc]⟩
        . cases A <;> cases B
          all_goals
           simp only[zY,z7,zZ,yd,zr,if_true,if_false]at v2;delta xP oO oN oM oG oR oS oK oX oP oB oD oE oJ;simp (maxSteps:=9^7) -implicitDefEqProofs only[e1,e0,e5,e6,e7,zy,WU,Ent.of0,Ent.of1,Ent.of2,Ent.of3,Ent.of4,V,W3,↓reduceIte,seval,reduceCtorEq]
           first
           | exact⟨(i+1,out,_),⟨h1,v2⟩,by simp only;omega,⟨rfl,by push_cast;rfl⟩,rfl⟩
           | exact⟨(i+1,out++[(i:Int)],_),⟨h1,by rw[v2];simp⟩,by simp only;omega,⟨rfl,by push_cast;rfl⟩,by rw[hmc]⟩
   . have hi2:¬ (i:Int) < (s.length:Int):=by omega
     have en:s.drop i=[]:=zv (by omega);rw[en,tc,z4]at v2;rw[v2];delta c29l2 oO oN oA oM oG oR oS oK oF oL oI oX oP oH oB oD o1 o4 o9;simp (maxSteps:=9^7) -implicitDefEqProofs only[rv29,hi2,WU,Ent.of0,Ent.of1,Ent.of2,Ent.of3,Ent.of4,V,W3,↓reduceIte,seval,reduceCtorEq]
def xv : Ent Tryz.prog:=.of3 29 (fun r s n=>TrgOk r s n) (fun (r:Rul) (s n:List Int)=>enc (iv r s n)) (fun _ _ _=>trivial) (fun r s n h=>xZ r s n h)
theorem ticks_c (l:List Int):FC Tryz.prog 22 [enc l] [] (enc (decide (l.length<=62))) []:=by
 refine eh is22 (by simp) (fun cx hl=>dC [] 800 ?_);have hle:((l.length:Int)<=62)=(l.length<=62):=by simp;omega
 delta c22 oN oM oX oB o4 o9;simp (maxSteps:=9^7) -implicitDefEqProofs only[rv22,hle,Ent.of0,Ent.of1,Ent.of2,Ent.of3,Ent.of4,V,W3,↓reduceIte,seval,reduceCtorEq]
def ent22 : Ent Tryz.prog:=.of1 22 (fun _=>True) (fun l:List Int=>enc (decide (l.length<=62))) (fun _=>trivial) (fun l _=>ticks_c l)
theorem xI (a b:Int):dM [a,b]=if a≠0 then a else b:=by
 simp only[dM];by_cases h:a=0 <;> by_cases g:b=0 <;> simp[h,g]
def btr (r:Rul) (s n:List Int) (k:Nat):Bool:=nG r (s.getD k 0) (n.getD k 0)
def ovk (r:Rul) (s n:List Int) (k:Nat):Bool:=over r (s.getD k 0) (n.getD k 0)
def xD (r:Rul) (s n:List Int):Option Int->List Int->Prop
 |_,[]=>True
 | prev,v :: l=>(r.trig<=v/\v<=(s.length:Int) - 1)/\(∀ k:Nat,v - r.trig<=(k:Int)->(k:Int)<=v->btr r s n k=true)/\(∀ u,prev=some u->u < v/\∃ k:Nat,u<=(k:Int)/\(k:Int) < v/\ovk r s n k=true)/\xD r s n (some v) l
theorem cnt_gt {r:Rul} {s n:List Int} {t:Nat} {run:Int} (ht:0<=r.trig) (hrun:run=(cnt (btr r s n) (t+1):Int)) (h:r.trig < run):r.trig<=t/\∀ k:Nat,(t:Int) - r.trig<=k->(k:Int)<=t->btr r s n k=true:=by
 obtain⟨T,hT⟩:∃ T:Nat,r.trig=(T:Int):=⟨r.trig.toNat,by omega⟩;rw[hT]at h ⊢;have h2:T < cnt (btr r s n) (t+1):=by omega
 rw[xq]at h2;exact⟨by omega,fun k h3 h4=>h2.2 k (by omega) (by omega)⟩
theorem goodT (r:Rul) (s n:List Int) (hl:n.length=s.length) (ht:0<=r.trig) (hh:0<=r.hyst):∀ (m t:Nat) (armed:Bool) (prev:Option Int),s.length - t=m ->
 (∀ u,prev=some u->u < (t:Int)/\(armed=true->∃ k:Nat,u<=(k:Int)/\(k:Int) < t/\ovk r s n k=true))->xD r s n prev (trg r (s.drop t) (n.drop t) t (cnt (btr r s n) t) armed)
 | 0,t,armed,prev,hm,hp=>by
  rw[zv (by omega:s.length<=t),tc];trivial
 | m+1,t,armed,prev,hm,hp=>by
  have h1:t < s.length:=by omega
  have h2:t < n.length:=by omega
  rw[eg 0 h1,eg 0 h2,trg];have hc:(if nG r (s.getD t 0) (n.getD t 0)then (cnt (btr r s n) t:Int)+1 else 0)=(cnt (btr r s n) (t+1):Int):=(xA (btr r s n) t).symm;simp only[hc];by_cases hg:((armed || over r (s.getD t 0) (n.getD t 0)) && decide (r.trig < (cnt (btr r s n) (t+1):Int)))=true
  . rw[if_pos hg];simp only[zm,zV,decide_eq_true_eq]at hg;obtain⟨g1,g2⟩:=hg;obtain⟨g3,g4⟩:=cnt_gt ht rfl g2;have g5:=g4 t (by omega) (by omega);refine⟨⟨g3,by omega⟩,g4,fun u hu=>?_,goodT r s n hl ht hh m (t+1) false (some t) (by omega) (fun u hu=>?_)⟩
    . obtain⟨q1,q2⟩:=hp u hu;refine⟨q1,?_⟩;rcases g1 with g1 | g1
      . exact q2 g1
      . exfalso
        simp only[btr,nG,decide_eq_true_eq]at g5;simp only[over,decide_eq_true_eq]at g1;omega
    . cases hu;exact⟨by omega,fun h=>by cases h⟩
  . rw[if_neg hg];refine goodT r s n hl ht hh m (t+1) _ prev (by omega) (fun u hu=>?_);obtain⟨q1,q2⟩:=hp u hu;refine⟨by omega,fun ha=>?_⟩;simp only[zV]at ha;rcases ha with ha | ha
    . obtain⟨k,k1,k2,k3⟩:=q2 ha;exact⟨k,k1,by omega,k3⟩
    . exact⟨t,by omega,by omega,ha⟩
theorem xS {r:Rul} {s n:List Int} (h:TrgOk r s n):xD r s n none (iv r s n):=by
 have h2:=h.hr;simp only[j4,zm,decide_eq_true_eq]at h2;have:=goodT r s n h.hln h2.2.1 h2.1.2.1 s.length 0 true none (by omega) (fun u hu=>by cases hu);simpa[cnt,iv]using this
theorem xO (r:Rul) (s n:List Int) (hl:n.length=s.length):∀ (m t v:Nat),s.length - t=m->t<=v->v < s.length->r.trig < (cnt (btr r s n) (v+1):Int) ->
 ∃ u l,trg r (s.drop t) (n.drop t) t (cnt (btr r s n) t) true=u :: l/\u<=(v:Int)
 | 0,t,v,hm,h1,h2,h3=>by omega
 | m+1,t,v,hm,h1,h2,h3=>by
  have g1:t < s.length:=by omega
  have g2:t < n.length:=by omega
  rw[eg 0 g1,eg 0 g2,trg];have hc:(if nG r (s.getD t 0) (n.getD t 0)then (cnt (btr r s n) t:Int)+1 else 0)=(cnt (btr r s n) (t+1):Int):=(xA (btr r s n) t).symm;simp only[hc,yz,zY,decide_eq_true_eq];by_cases hg:r.trig < (cnt (btr r s n) (t+1):Int)
  . rw[if_pos hg];exact⟨_,_,rfl,by omega⟩
  . rw[if_neg hg];have:t≠v:=fun e=>hg (e ▸ h3)
    exact xO r s n hl m (t+1) v (by omega) (by omega) h2 h3
theorem xR {p q:Nat->Bool} (h:∀ k,p k=true->q k=true):∀ t,cnt p t<=cnt q t
 | 0=>zw _
 | t+1=>by
  have:=xR h t;rw[cnt,cnt];cases hp:p t with
  | false=>simp
  | true=>rw[h t hp];simp;omega
theorem later {r r':Rul} {s n:List Int} (h:TrgOk r s n) (h':TrgOk r' s n) (h1:r.trig<=r'.trig) (h2:r.off<=r'.off) (h3:r.hyst=r'.hyst) (hne:iv r' s n≠[]) :
 iv r s n≠[]/\(iv r s n).getD 0 0<=(iv r' s n).getD 0 0:=by
 cases hL:iv r' s n with
 | nil=>exact absurd hL hne
 | cons v l=>
  have hg:=xS h';rw[hL]at hg;obtain⟨⟨g1,g2⟩,g3,_,_⟩:=hg;have hr':=h'.hr;simp only[j4,zm,decide_eq_true_eq]at hr';obtain⟨V,rfl⟩:∃ V:Nat,v=(V:Int):=⟨v.toNat,by omega⟩;obtain⟨T,hT⟩:∃ T:Nat,r'.trig=(T:Int):=⟨r'.trig.toNat,by omega⟩;have hc':T < cnt (btr r' s n) (V+1):=by
   rw[xq];exact⟨by omega,fun k q1 q2=>g3 k (by omega) (by omega)⟩
  have hm:=xR (p:=btr r' s n) (q:=btr r s n) (fun k hk=>by
   simp only[btr,nG,decide_eq_true_eq]at hk ⊢
   omega) (V+1)
  obtain⟨u,l',e1,e2⟩:=xO r s n h.hln s.length 0 V (by omega) (by omega) (by omega) (by omega);have e3:iv r s n=u :: l':=by simpa[cnt,iv]using e1
  rw[e3];exact⟨by simp,by simpa using e2⟩
theorem Has_c (l:List Int) (v:Int):FC Tryz.prog 75 [enc l,enc v] [] (enc (l.any fun x=>decide (x=v))) []:=by
 refine eh is75 (by simp) (fun cx hl=>dC [] 800 ?_);simp only[V,W3,↓reduceIte,seval,reduceCtorEq]at hl;have hl1:=hl.list;generalize hB:(l.any fun x=>decide (x=v))=B;delta c75 oS oK oV oX o9;simp (maxSteps:=9^7) -implicitDefEqProofs only[rv75,Ent.of0,Ent.of1,Ent.of2,Ent.of3,Ent.of4,V,W3,↓reduceIte,seval,reduceCtorEq];refine eN l.length (fun i=>[(5,.s (.int .i64 (i:Int)))]) (fun _=>[]) (fun i=>B=(l.drop i).any fun x=>decide (x=v)) (by simp[hB]) ?_ (fun i hi hv=>dC [] 800 ?_)
 . simp (maxSteps:=9^7) -implicitDefEqProofs only[Ent.of0,Ent.of1,Ent.of2,Ent.of3,Ent.of4,V,W3,↓reduceIte,seval,reduceCtorEq]
   all_goals simp
 . by_cases h:i < l.length
   . have hi2:(i:Int) < (l.length:Int):=by omega
     rw[eg 0 h,List.any_cons]at hv;generalize hg:l.getD i 0=g at hv;cases hx:decide (g=v)
     all_goals
      rw[hx]at hv;have hx2:=hx;simp only[decide_eq_true_eq,decide_eq_false_iff_not]at hx2;delta c75l1 oO oN oA oM oR oS oK oL oI oX oB o1 o4 o9;simp (maxSteps:=9^7) -implicitDefEqProofs only[rv75,hi2,h,hg,hx2,InR,WU,Ent.of0,Ent.of1,Ent.of2,Ent.of3,Ent.of4,V,W3,↓reduceIte,seval,reduceCtorEq];simp at hv;simp[hv]
      try omega
   . have hi2:¬ (i:Int) < (l.length:Int):=by omega
     rw[zv (by omega)]at hv;delta c75l1 oO oN oA oM oR oS oK oL oI oX oB o1 o4 o9;simp (maxSteps:=9^7) -implicitDefEqProofs only[rv75,hi2,WU,Ent.of0,Ent.of1,Ent.of2,Ent.of3,Ent.of4,V,W3,↓reduceIte,seval,reduceCtorEq];simp[hv]
def xw : Ent Tryz.prog:=.of2 75 (fun _ _=>True) (fun (l:List Int) (v:Int)=>enc (l.any fun x=>decide (x=v))) (fun _ _=>trivial) (fun l v _=>Has_c l v)
end Go.Proofs.YtcbabnbiinkafaaGreatDoor
end
section
open Go Go.Am
open Go.Am.Dat (cells)
namespace Go.Proofs.YtcbabnbiinkafaaGreatDoor
open Go.ChangeShapes Go.WideShapes Go.ChangeAt Go.RowKit
open Go.ChangeMaps (open_string shut_string)
set_option maxRecDepth 100000
theorem rRul : ReadsP Tryz.prog 23 Rul (fun _=>True):=by
 refine⟨by kernel_rfl,by decide,fun en w sp fuel cs x h=>?_⟩;obtain⟨l,a0,p0,e0,h0⟩:=lY rInt Tryz.underlying23 h 0 rfl rfl;obtain⟨_,a1,p1,e1,h1⟩:=lY rInt Tryz.underlying23 h 1 rfl rfl;obtain⟨_,a2,p2,e2,h2⟩:=lY rInt Tryz.underlying23 h 2 rfl rfl;refine⟨⟨a0,a1,a2⟩,trivial,rfl,l.trans (by kernel_rfl),fun j c hj=>?_⟩
 match j,hj with
 | 0,hj=>cases hj;exact h0 0 _ rfl
 | 1,hj=>cases hj;exact h1 0 _ rfl
 | 2,hj=>cases hj;exact h2 0 _ rfl
end Go.Proofs.YtcbabnbiinkafaaGreatDoor
end
section
open Go Go.Am
open Go.Am.Dat (cells)
namespace Go.Proofs.YtcbabnbiinkafaaGreatDoor
set_option maxHeartbeats 4000000
set_option maxRecDepth 100000
def entN (f:FuncId) (as0:List C) (r:C) (k:Nat) (c:Ch) (hr:dF [k] r) (hc:gm [k] c) (h:FC Tryz.prog f as0 [] r [(k,c)]):Ent Tryz.prog:=.mk3 f (fun args chs=>some (args=as0/\chs=[],r,[(k,c)],[k])) (by
 intro args chs pp r' chs' nk hs hq;simp only[zn,zf]at hs;obtain⟨rfl,rfl,rfl,rfl⟩:=hs;obtain⟨rfl,rfl⟩:=hq;refine⟨h,⟨fun k' c' hm=>.inl ?_,fun k cs hm=>(by simp at hm),hr,fun k' c' hm=>?_⟩⟩
 . simp only[zg,zf]at hm ⊢;exact hm.1
 . simp only[zg,zf]at hm;obtain⟨rfl,rfl⟩:=hm
   exact hc)
theorem x6 (l:List Int) (h:l.length<=1000000):FC Tryz.prog 24 [enc l] [] (.own 3) [(3,.row 1 3 (l.map Dat.cells))]:=by
 refine dD [3] is24 (by simp) (by simp[bk]) (by simp[an,ag]) (by simp[an,ag,av]) (by simp[aB,lk]) (fun cx _ hl _=>dC [] 800 ?_);delta c24 oO oA oM oX o1;simp (maxSteps:=9^7) -implicitDefEqProofs only[rv24,InR,WU,Ent.of0,Ent.of1,Ent.of2,Ent.of3,Ent.of4,V,W3,↓reduceIte,seval,reduceCtorEq];omega
def yO (l:List Int) (h:l.length<=1000000):Ent Tryz.prog:=entN 24 [enc l] (.own 3) 3 (.row 1 3 (l.map Dat.cells)) (by simp[dF]) (by simp[gm]) (x6 l h)
structure BufS (b:List (List Int)):Prop where
 l:b.length<=1000000
 r:∀ x∈b,x.length<=1000000
theorem xX (b:List (List Int)) (h:BufS b):FC Tryz.prog 60 [enc b] [] (.own 3) [(3,.deep 1 3 24 none (fP b))]:=by
 have h1:=h.l;refine dD [3] D7.is60 (by simp) (by simp[bk]) (by simp[an,ag]) (by simp[an,ag,av]) (by simp[aB,lk]) (fun cx _ hl _=>dC [] 800 ?_);delta D7.c60 oA oM oS oK oV oX;simp (maxSteps:=9^7) -implicitDefEqProofs only[D7.rv60,InR,WU,Ent.of0,Ent.of1,Ent.of2,Ent.of3,Ent.of4,V,W3,↓reduceIte,seval,reduceCtorEq];refine⟨by simp,?_⟩;refine eN b.length (fun i=>[(4,.s (.int .i64 (i:Int)))]) (fun i=>[(3,.deep 1 3 24 none (fP (b.take i)))]) (fun _=>True) trivial ?_ (fun i hi _=>?_)
 . simp (maxSteps:=9^7) -implicitDefEqProofs only[Ent.of0,Ent.of1,Ent.of2,Ent.of3,Ent.of4,V,W3,↓reduceIte,seval,reduceCtorEq]
   all_goals rfl
 . by_cases hlt:i < b.length
   . have hi2:(i:Int) < (b.length:Int):=by omega
     have hi0:(0:Int)<=i:=by omega
     have hgx:List.getD (b.map Dat.cells) i [C.sl 0 []]=[C.sl 1 ((b.getD i []).map Dat.cells)]:=by
      rw[zb,zb,zh,ze hlt];rfl
     have hx:=h.r _ (yy hlt);have hgd:b.getD i []=b[i]:=by rw[zb,ze hlt];rfl
     have hap:fP (b.take i)++[(b.getD i []).map Dat.cells]=fP (b.take (i+1)):=by
      rw[hgd,yI hlt,fP,fP,yg];rfl
     have hlen:(b.take i).length=i:=by rw[List.length_take];omega
     rw[<- hgd]at hx;refine dC [yO (b.getD i []) hx] 800 ?_;delta D7.c60l1 oO oN oA oM oR oS oK oL oC oX oB o0 o4;simp (maxSteps:=9^7) -implicitDefEqProofs only[yO,entN,hi0,hi2,hlt,hgx,hap,eu,hlen,InR,WU,Ent.of0,Ent.of1,Ent.of2,Ent.of3,Ent.of4,V,W3,↓reduceIte,seval,reduceCtorEq];omega
   . have hi2:¬ (i:Int) < (b.length:Int):=by omega
     have htk:b.take i=b:=List.take_of_length_le (by omega);refine dC [] 800 ?_;delta D7.c60l1 oO oN oA oM oR oS oK oL oC oX oB o0 o4;simp (maxSteps:=9^7) -implicitDefEqProofs only[D7.rv60,hi2,htk,WU,Ent.of0,Ent.of1,Ent.of2,Ent.of3,Ent.of4,V,W3,↓reduceIte,seval,reduceCtorEq]
structure Bst where
 f:Bool
 t:Int
 c:Int
 v:Int
def xg (l:List Int) (k:Int) (b:Bst) (t:Int):Bst:=if b.f=false\/t < b.t\/(t=b.t/\b.v < l.getD t.toNat 0)then ⟨true,t,k,l.getD t.toNat 0⟩else b
def sgT (r:Rul) (L:List (List Int)) (s:Int) (k:Nat):List Int:=iv r (L.getD s.toNat []) (L.getD k [])
def xo (r:Rul) (L:List (List Int)) (s:Int) (b:Bst) (k:Nat):Bst:=if (k:Int)=s then b else (sgT r L s k).foldl (xg (L.getD k []) k) b
def xh (r:Rul) (L:List (List Int)) (s:Int):Nat->Bst
 | 0=>⟨false,0,0,0⟩
 | k+1=>xo r L s (xh r L s k) k
def xf (r:Rul) (L:List (List Int)) (s t:Int):Nat->Int
 | 0=>-1
 | k+1=>if (k:Int)≠s/\t∈sgT r L s k/\(xf r L s t k < 0\/(L.getD (xf r L s t k).toNat []).getD t.toNat 0 < (L.getD k []).getD t.toNat 0)then (k:Int)else xf r L s t k
def xi (r:Rul) (L:List (List Int)) (s:Int):Nat->Int->Gs×Bool
 | 0,_=>(⟨0,0⟩,false)
 | m+1,t=>if 0<=xf r L s t L.length then (⟨t,xf r L s t L.length⟩,true)else xi r L s m (t+1)
def Asc (n:Int):List Int->Prop
 |[]=>True
 | t :: l=>(0<=t/\t < n/\∀ u∈l,t < u)/\Asc n l
theorem xz {r:Rul} {s n:List Int} (h0:0<=r.trig):∀ {l:List Int} {p:Option Int},xD r s n p l->Asc s.length l
 |[],_,_=>trivial
 | v :: l,p,h=>by
  obtain⟨h1,_,_,h4⟩:=h;have ih:=xz h0 h4;refine⟨⟨by omega,by omega,?_⟩,ih⟩;have key:∀ (l:List Int) (q:Int),xD r s n (some q) l->∀ u∈l,q < u:=by
   intro l
   induction l with
   | nil=>intro q _ u hu;cases hu
   | cons w l ihl=>
    intro q hq u hu;obtain⟨_,_,g3,g4⟩:=hq;have hw:=(g3 q rfl).1;rcases zl.1 hu with rfl | hu
    . exact hw
    . have:=ihl w g4 u hu;omega
  exact key l v h4
theorem xC (l:List Int) (k:Int) (b:Bst) (t:Int):(xg l k b t).f=true/\(xg l k b t).t<=t:=by
 unfold xg;split
 . exact⟨rfl,Int.le_refl _⟩
 . rename_i h;cases hb:b.f with
   | false=>exact absurd (.inl hb) h
   | true=>
    refine⟨rfl,?_⟩;rcases Int.lt_or_le t b.t with q | q
    . exact absurd (.inr (.inl q)) h
    . exact q
theorem xN (l:List Int) (k:Int):∀ (T:List Int) (b:Bst),b.f=true->(∀ u∈T,b.t < u)->T.foldl (xg l k) b=b
 |[],b,_,_=>rfl
 | t :: T,b,hf,hb=>by
  have h1:=hb t (by simp);have e:xg l k b t=b:=by
   unfold xg;rw[if_neg]
   rintro (q | q | ⟨q,_⟩)
   . rw[hf]at q;cases q
   . omega
   . omega
  rw[List.foldl_cons,e];exact xN l k T b hf (fun u hu=>hb u (by simp[hu]))
theorem sgFold {n:Int} (l:List Int) (k:Int) (t:Int) (T:List Int) (b:Bst) (h:Asc n (t :: T)):(t :: T).foldl (xg l k) b=xg l k b t:=by
 rw[List.foldl_cons];obtain⟨h1,h2⟩:=xC l k b t;exact xN l k T _ h1 (fun u hu=>by have:=h.1.2.2 u hu;omega)
structure SgInv (r:Rul) (L:List (List Int)) (s:Int) (k:Nat) (b:Bst):Prop where
 no:b.f=false->∀ t,xf r L s t k=-1
 yes:b.f=true->xf r L s b.t k=b.c/\(0<=b.c/\b.c < k)/\b.v=(L.getD b.c.toNat []).getD b.t.toNat 0/\(∀ t,t < b.t->xf r L s t k=-1)/\0<=b.t/\b.t < (L.getD s.toNat []).length
theorem SgInv.step {r:Rul} {L:List (List Int)} {s:Int} {k:Nat} {b:Bst} (h:SgInv r L s k b) (ha:(k:Int)≠s->Asc (L.getD s.toNat []).length (sgT r L s k)):SgInv r L s (k+1) (xo r L s b k):=by
 unfold xo;by_cases hs:(k:Int)=s
 . rw[if_pos hs];have e:∀ t,xf r L s t (k+1)=xf r L s t k:=fun t=>by rw[xf,if_neg (fun q=>q.1 hs)]
   refine⟨fun q t=>by rw[e];exact h.no q t,fun q=>?_⟩;obtain⟨y1,y2,y3,y4,y5⟩:=h.yes q;exact⟨by rw[e];exact y1,⟨y2.1,by push_cast;omega⟩,y3,fun t ht=>by rw[e];exact y4 t ht,y5⟩
 . rw[if_neg hs];have hA:=ha hs;cases hT:sgT r L s k with
   | nil=>
    show SgInv r L s (k+1) b
    have e:∀ t,xf r L s t (k+1)=xf r L s t k:=fun t=>by rw[xf,if_neg (fun q=>by rw[hT]at q;exact absurd q.2.1 (by simp))]
    refine⟨fun q t=>by rw[e];exact h.no q t,fun q=>?_⟩;obtain⟨y1,y2,y3,y4,y5⟩:=h.yes q;exact⟨by rw[e];exact y1,⟨y2.1,by push_cast;omega⟩,y3,fun t ht=>by rw[e];exact y4 t ht,y5⟩
   | cons t0 T=>
    rw[hT]at hA;rw[sgFold _ _ t0 T b hA];obtain⟨⟨a1,a2,a3⟩,_⟩:=hA;have hmem:∀ t,t < t0->t∉sgT r L s k:=fun t ht q=>by
     rw[hT]at q;rcases zl.1 q with q | q
     . omega
     . have:=a3 t q;omega
    have hlow:∀ t,t < t0->xf r L s t (k+1)=xf r L s t k:=fun t ht=>by rw[xf,if_neg (fun q=>hmem t ht q.2.1)]
    have h0:t0∈sgT r L s k:=by rw[hT];simp
    unfold xg;by_cases hc:b.f=false\/t0 < b.t\/(t0=b.t/\b.v < (L.getD k []).getD t0.toNat 0)
    . rw[if_pos hc];refine⟨fun q=>(by cases q),fun _=>⟨?_,⟨Int.natCast_nonneg k,by push_cast;omega⟩,by simp,fun t ht=>?_,a1,a2⟩⟩
      . show xf r L s t0 (k+1)=k
        rw[xf,if_pos];refine⟨hs,h0,?_⟩;cases hb:b.f with
        | false=>left;rw[h.no hb];decide
        | true=>
         obtain⟨y1,y2,y3,y4,y5⟩:=h.yes hb;rcases hc with q | q | ⟨q,q2⟩
         . rw[hb]at q;cases q
         . left;rw[y4 t0 q];decide
         . right;subst q;rw[y1,<- y3];exact q2
      . show xf r L s t (k+1)=-1
        rw[hlow t ht];cases hb:b.f with
        | false=>exact h.no hb t
        | true=>
         obtain⟨y1,y2,y3,y4,y5⟩:=h.yes hb;have ht':t < t0:=ht;rcases hc with q | q | ⟨q,q2⟩
         . rw[hb]at q;cases q
         . exact y4 t (by omega)
         . exact y4 t (by omega)
    . rw[if_neg hc];have hb:b.f=true:=by
       cases hb:b.f with
       | false=>exact absurd (.inl hb) hc
       | true=>rfl
      obtain⟨y1,y2,y3,y4,y5⟩:=h.yes hb;have hle:b.t<=t0:=by
       rcases Int.lt_or_le t0 b.t with q | q
       . exact absurd (.inr (.inl q)) hc
       . exact q
      refine⟨fun q=>(by rw[hb]at q;cases q),fun _=>⟨?_,⟨y2.1,by push_cast;omega⟩,y3,fun t ht=>by rw[hlow t (by omega)];exact y4 t ht,y5⟩⟩;rw[xf,if_neg]
      . exact y1
      . rintro⟨q1,q2,q3⟩
        rw[hT]at q2;rcases zl.1 q2 with q | q
        . rw[y1]at q3;rcases q3 with q3 | q3
          . omega
          . rw[<- y3]at q3;exact hc (.inr (.inr ⟨q.symm,by rw[<- q];exact q3⟩))
        . have:=a3 _ q;omega
def SgOk (r:Rul) (L:List (List Int)) (s:Int):Prop:=∀ k:Nat,k < L.length->(k:Int)≠s->TrgOk r (L.getD s.toNat []) (L.getD k [])
theorem yQ {r:Rul} {L:List (List Int)} {s:Int} (h:SgOk r L s):∀ k,k<=L.length->SgInv r L s k (xh r L s k)
 | 0,_=>⟨fun _ _=>rfl,fun q=>(by cases q)⟩
 | k+1,hk=>(yQ h k (by omega)).step fun hs=>by
  have g:=h k (by omega) hs;have hr:=g.hr;simp only[j4,zm,decide_eq_true_eq]at hr;exact xz hr.2.1 (xS g)
theorem xJ {r:Rul} {L:List (List Int)} {s:Int} (h:∀ t,xf r L s t L.length=-1):∀ m t,xi r L s m t=(⟨0,0⟩,false)
 | 0,_=>rfl
 | m+1,t=>by rw[xi,h t,if_neg (by decide)];exact xJ h m _
theorem xK {r:Rul} {L:List (List Int)} {s u c:Int} (hc:xf r L s u L.length=c) (h0:0<=c) (h:∀ t,t < u->xf r L s t L.length=-1):∀ (m:Nat) (t:Int),t<=u->u < t+(m:Int)->xi r L s m t=(⟨u,c⟩,true)
 | 0,t,h1,h2=>by omega
 | m+1,t,h1,h2=>by
  rw[xi];by_cases ht:t=u
  . subst ht;rw[hc,if_pos h0]
  . rw[h t (by omega),if_neg (by decide)];exact xK hc h0 h m (t+1) (by omega) (by push_cast at h2;omega)
def xm (b:Bst):Gs×Bool:=(if b.f=true then ⟨b.t,b.c⟩else ⟨0,0⟩,b.f)
theorem sg_law {r:Rul} {L:List (List Int)} {s:Int} (h:SgOk r L s):xi r L s (L.getD s.toNat []).length 0=xm (xh r L s L.length):=by
 have i:=yQ h L.length (zw _);generalize xh r L s L.length=b at *;cases hb:b.f with
 | false=>rw[xJ (i.no hb),xm,hb,if_neg (by simp)]
 | true=>
  obtain⟨y1,y2,y3,y4,y5⟩:=i.yes hb;rw[xK y1 y2.1 y4 _ 0 y5.1 (by omega),xm,hb,if_pos rfl]
def sgE (L:List (List Int)) (s:Int):Nat->Nat->Int
 | 0,_=>0
 | m+1,k=>if (k:Int)=s then sgE L s m (k+1)else if ma (L.getD s.toNat []) (L.getD k [])≠0 then ma (L.getD s.toNat []) (L.getD k [])else sgE L s m (k+1)
theorem xB {L:List (List Int)} {s:Int}:∀ m k,sgE L s m k=0->∀ j,k<=j->j < k+m->(j:Int)≠s->ma (L.getD s.toNat []) (L.getD j [])=0
 | 0,k,_,j,h1,h2,_=>by omega
 | m+1,k,h,j,h1,h2,h3=>by
  rw[sgE]at h;by_cases hs:(k:Int)=s
  . rw[if_pos hs]at h
    exact xB m (k+1) h j (by
     rcases yu k j with q | q
     . exact q
     . have:j=k:=by omega
       exact absurd (this ▸ hs) h3) (by omega) h3
  . rw[if_neg hs]at h;by_cases hl:ma (L.getD s.toNat []) (L.getD k [])=0
    . rw[if_neg (fun q=>q hl)]at h;by_cases hj:j=k
      . rw[hj];exact hl
      . exact xB m (k+1) h j (by omega) (by omega) h3
    . rw[if_pos hl]at h;exact absurd h hl
theorem xW (b:List (List Int)) (h:BufS b):FC Tryz.prog 60 [enc b] [] (enc b) []:=by
 have:=FC.frz (xX b h) (x:=.sl 1 (b.map Dat.cells)) (by simp[bz,fP];intro a _;rfl);exact this
def ent60 : Ent Tryz.prog:=.of1 60 BufS (fun b:List (List Int)=>enc b) (fun _=>trivial) (fun b h=>xW b h)
theorem xj (L:List (List Int)) (i:Nat) (h:i < L.length):List.getD (L.map Dat.cells) i [C.sl 0 []]=[C.sl 1 ((L.getD i []).map Dat.cells)]:=by
 rw[zb,zb,zh,ze h];rfl
def sgF (L:List (List Int)) (s:Int):Int:=if L.length=0 then 10 else if 6 < L.length then 8 else if 0<=s/\s<=(L.length:Int) - 1 then 0 else 6
def sgR (L:List (List Int)) (s:Int):Int:=if sgF L s≠0 then sgF L s else sgE L s L.length 0
theorem xM (L:List (List Int)) (s:Int) (hb:L.length<=1000000):FC Tryz.prog 61 [enc L,enc s] [] (enc (sgR L s)) []:=by
 generalize hR:sgR L s=R;refine eh is61 (by simp) (fun cx hl=>dC [oa] 800 ?_);unfold sgR sgF at hR;by_cases h1:L.length=0
 . have h1':(L.length:Int)=0:=by omega
   rw[if_pos h1,if_pos (by decide)]at hR;subst hR;delta c61 oO oN oA oM oS oK oV oC oI oX oB o4;simp (maxSteps:=9^7) -implicitDefEqProofs only[xu,h1',WU,Ent.of0,Ent.of1,Ent.of2,Ent.of3,Ent.of4,V,W3,↓reduceIte,seval,reduceCtorEq]
 have h1':¬ (L.length:Int)=0:=by omega
 rw[if_neg h1]at hR;by_cases h2:6 < L.length
 . have h2':(6:Int) < (L.length:Int):=by omega
   rw[if_pos h2,if_pos (by decide)]at hR;subst hR;delta c61 oO oN oA oM oS oK oV oC oI oX oB o4;simp (maxSteps:=9^7) -implicitDefEqProofs only[xu,h1',h2',WU,Ent.of0,Ent.of1,Ent.of2,Ent.of3,Ent.of4,V,W3,↓reduceIte,seval,reduceCtorEq]
 have h2':¬ (6:Int) < (L.length:Int):=by omega
 rw[if_neg h2]at hR;by_cases h3:0<=s/\s<=(L.length:Int) - 1
 rotate_left
 . have h3':=eq_false h3;rw[if_neg h3,if_pos (by decide)]at hR;subst hR;delta c61 oO oN oA oM oS oK oV oC oI oX oB o4;simp (maxSteps:=9^7) -implicitDefEqProofs only[xu,oa,h1',h2',h3,InR,WU,Ent.of0,Ent.of1,Ent.of2,Ent.of3,Ent.of4,V,W3,↓reduceIte,seval,reduceCtorEq];omega
 rw[if_pos h3,if_neg (by simp)]at hR;have h3':=eq_true h3;have hs0:=h3.1;have hs1:s < (L.length:Int):=by omega
 have hs2:s.toNat < L.length:=by omega
 have hgs:=xj L s.toNat hs2;delta c61 oO oN oA oM oS oK oV oC oI oX oB o4;simp (maxSteps:=9^7) -implicitDefEqProofs only[xu,oa,h1',h2',h3',InR,WU,Ent.of0,Ent.of1,Ent.of2,Ent.of3,Ent.of4,V,W3,↓reduceIte,seval,reduceCtorEq];refine⟨by omega,?_⟩;refine eN L.length (fun i=>[(5,.s (.int .i64 (i:Int)))]) (fun _=>[]) (fun i=>sgE L s (L.length - i) i=R) hR ?_ (fun i hi hv=>dC [ent28] 800 ?_)
 . simp (maxSteps:=9^7) -implicitDefEqProofs only[Ent.of0,Ent.of1,Ent.of2,Ent.of3,Ent.of4,V,W3,↓reduceIte,seval,reduceCtorEq]
   all_goals simp
 . by_cases h:i < L.length
   . have hi2:(i:Int) < (L.length:Int):=by omega
     have hi0:(0:Int)<=i:=by omega
     have hgi:=xj L i h;rw[show L.length - i=(L.length - (i+1))+1 by omega,sgE]at hv;by_cases his:(i:Int)=s
     . rw[if_pos his]at hv;have his':=eq_true his;delta xG oO oN oA oM oT oR oQ oS oK oL oI oX oB o0 o4;simp (maxSteps:=9^7) -implicitDefEqProofs only[xu,hi0,hi2,h,his',InR,WU,Ent.of0,Ent.of1,Ent.of2,Ent.of3,Ent.of4,V,W3,↓reduceIte,seval,reduceCtorEq];exact⟨by omega,hv,by omega⟩
     . rw[if_neg his]at hv;have his':=eq_false his;generalize hE:ma (L.getD s.toNat []) (L.getD i [])=E at *;by_cases h0:E=0
       . rw[if_neg (by simp[h0])]at hv;delta xG oO oN oA oM oT oR oQ oS oK oL oI oX oB o0 o4;simp (maxSteps:=9^7) -implicitDefEqProofs only[xu,ent28,hi0,hi2,h,his',hs0,hs1,hs2,hgs,hgi,hE,h0,InR,WU,Ent.of0,Ent.of1,Ent.of2,Ent.of3,Ent.of4,V,W3,↓reduceIte,seval,reduceCtorEq];exact⟨by omega,hv,by omega⟩
       . rw[if_pos h0]at hv;subst hv;delta xG oO oN oA oM oT oR oQ oS oK oL oI oX oB o0 o4;simp (maxSteps:=9^7) -implicitDefEqProofs only[xu,ent28,hi0,hi2,h,his',hs0,hs1,hs2,hgs,hgi,hE,h0,InR,WU,Ent.of0,Ent.of1,Ent.of2,Ent.of3,Ent.of4,V,W3,↓reduceIte,seval,reduceCtorEq]
   . have hi2:¬ (i:Int) < (L.length:Int):=by omega
     rw[show L.length - i=0 by omega,sgE]at hv;subst hv;delta xG oO oN oA oM oT oR oQ oS oK oL oI oX oB o0 o4;simp (maxSteps:=9^7) -implicitDefEqProofs only[xu,hi2,WU,Ent.of0,Ent.of1,Ent.of2,Ent.of3,Ent.of4,V,W3,↓reduceIte,seval,reduceCtorEq]
def xH : Ent Tryz.prog:=.of2 61 (fun L _=>L.length<=1000000) (fun (L:List (List Int)) (s:Int)=>enc (sgR L s)) (fun _ _=>trivial) (fun L s h=>xM L s h)
def sgP (r:Rul) (L:List (List Int)) (s:Int):Int:=if km r≠0 then km r else sgR L s
def sgO (r:Rul) (L:List (List Int)) (s:Int):Gs×Int:=if sgP r L s≠0 then (⟨0,0⟩,sgP r L s)else ((xm (xh r L s L.length)).1,if (xh r L s L.length).f=true then 0 else 12)
theorem yY (r:Rul) (L:List (List Int)) (s:Int):dM [km r,if 0 < (L.length:Int)then 0 else 10,if (L.length:Int)<=6 then 0 else 8,if 0<=s/\s<=(L.length:Int) - 1 then 0 else 6]=if km r≠0 then km r else sgF L s:=by
 unfold sgF;by_cases h0:km r=0 <;> by_cases h1:L.length=0 <;> by_cases h2:6 < L.length <;> by_cases h3:0<=s/\s<=(L.length:Int) - 1
 all_goals
  have e1:((0:Int) < (L.length:Int))=¬ (L.length=0):=by apply propext;omega
  have e2:((L.length:Int)<=6)=¬ (6 < L.length):=by apply propext;omega
  simp only[dM,h0,h1,h2,h3,e1,e2,if_true,if_false,not_true_eq_false,not_false_eq_true,ne_eq,Int.reduceEq,and_self]
  try simp
theorem x4 {n:Int}:∀ {T:List Int} (j:Nat),Asc n T->j < T.length->0<=T.getD j 0/\T.getD j 0 < n
 |[],j,_,h=>by simp at h
 | t :: T,0,a,_=>⟨a.1.1,a.1.2.1⟩
 | t :: T,j+1,a,h=>x4 (T:=T) j a.2 (by simpa using h)
theorem xU (l:List Int) (k:Int):∀ (T:List Int) (b:Bst),b.f=true->(T.foldl (xg l k) b).f=true
 |[],b,h=>h
 | t :: T,b,h=>xU l k T _ (xC l k b t).1
theorem sg_no (r:Rul) (L:List (List Int)) (s:Int):∀ k,(xh r L s k).f=false->(xh r L s k).t=0/\(xh r L s k).c=0
 | 0,_=>⟨rfl,rfl⟩
 | k+1,h=>by
  rw[xh]at h ⊢;unfold xo at h ⊢;by_cases hs:(k:Int)=s
  . rw[if_pos hs]at h ⊢;exact sg_no r L s k h
  . rw[if_neg hs]at h ⊢;cases hT:sgT r L s k with
    | nil=>rw[hT]at h;exact sg_no r L s k h
    | cons t T=>
     rw[hT,List.foldl_cons,xU _ _ _ _ (xC _ _ _ t).1]at h;cases h
theorem x3 (r:Rul) (L:List (List Int)) (s:Int) (hb:L.length<=1000000):FC Tryz.prog 59 [enc r,enc L,enc s] [] (.tup [enc (sgO r L s).1,enc (sgO r L s).2]) []:=by
 have hF:=yY r L s;by_cases hE:(if km r≠0 then km r else sgF L s)=0
 rotate_left
 . have hP:sgP r L s=if km r≠0 then km r else sgF L s:=by
    unfold sgP sgR;by_cases h0:km r=0
    . rw[if_neg (by simp[h0])]at hE ⊢;rw[if_pos hE,if_neg (by simp[h0])]
    . rw[if_pos h0,if_pos h0]
   have hO:sgO r L s=(⟨0,0⟩,sgP r L s):=by unfold sgO;rw[if_pos (by rw[hP];exact hE)]
   rw[hO,hP];rw[<- hF]at hE ⊢;generalize hFF:dM _=F at *;have hE':=eq_false hE;obtain⟨off,hyst,trig⟩:=r;refine dD [] E1.is59 (by simp) trivial trivial trivial trivial (fun cx _ hl _=>dC [ent26,dT,eZ,dS] 1500 ?_);delta E1.c59 oO oN oA oM oT oS oK oL oV oC oW oI oX oB o0 o1 o2 o4 o5 o7 o9;simp (maxSteps:=9^7) -implicitDefEqProofs only[E1.rv59,ent26,dT,eZ,dS,iy,jU,hFF,hE',InR,not_true_eq_false,not_false_eq_true,WU,Ent.of0,Ent.of1,Ent.of2,Ent.of3,Ent.of4,V,W3,↓reduceIte,seval,reduceCtorEq];omega
 have hr:km r=0:=by
  rcases Classical.em (km r=0)with q | q
  . exact q
  . rw[if_pos q]at hE;exact absurd hE q
 have hsf:sgF L s=0:=by rw[if_neg (by simp[hr])]at hE;exact hE
 have hlen:L.length≠0/\L.length<=6/\0<=s/\s < (L.length:Int):=by
  unfold sgF at hsf;by_cases h1:L.length=0
  . rw[if_pos h1]at hsf;cases hsf
  rw[if_neg h1]at hsf;by_cases h2:6 < L.length
  . rw[if_pos h2]at hsf;cases hsf
  rw[if_neg h2]at hsf;by_cases h3:0<=s/\s<=(L.length:Int) - 1
  . exact⟨h1,by omega,h3.1,by omega⟩
  . rw[if_neg h3]at hsf;cases hsf
 obtain⟨h1,h2,hs0,hs1⟩:=hlen;have hs2:s.toNat < L.length:=by omega
 have hgs:=xj L s.toNat hs2;have hPE:sgP r L s=sgE L s L.length 0:=by unfold sgP sgR;rw[if_neg (by simp[hr]),if_neg (by simp[hsf])]
 have hF0:=hF.trans hE;have hrE:∀ k,iY r (L.getD s.toNat []) (L.getD k [])=ma (L.getD s.toNat []) (L.getD k []):=fun k=>by rw[iY,xI,if_neg (by simp[hr])]
 generalize hO:sgO r L s=O;unfold sgO at hO;rw[hPE]at hO;refine dD [] E1.is59 (by simp) trivial trivial trivial trivial (fun cx _ hl _=>dC [ent26,dT,eZ,dS] 1500 ?_);have eta:(⟨r.off,r.hyst,r.trig⟩:Rul)=r:=rfl;have h1':(0:Int) < (L.length:Int):=by omega
 have h2':(L.length:Int)<=6:=by omega
 have hs3:s<=(L.length:Int) - 1:=by omega
 delta E1.c59 oO oN oA oM oT oS oK oL oV oC oW oI oX oB o0 o1 o2 o4 o5 o7 o9;simp (maxSteps:=9^7) -implicitDefEqProofs only[E1.rv59,ent26,dT,eZ,dS,iy,jU,eta,hr,dM,h1',h2',hs3,hs0,hs1,hs2,hgs,InR,not_true_eq_false,not_false_eq_true,WU,Ent.of0,Ent.of1,Ent.of2,Ent.of3,Ent.of4,V,W3,↓reduceIte,seval,reduceCtorEq];refine⟨by omega,?_⟩;generalize hE0:sgE L s L.length 0=E0 at *;have hgk:∀ k,k < L.length->(L.map Dat.cells).getD k [C.sl 0 []]=[C.sl 1 ((L.getD k []).map Dat.cells)]:=fun k h=>xj L k h
 obtain⟨bfw,hbf⟩:∃ bfw:Nat->Bst,∀ k,bfw k=xh r L s k:=⟨_,fun _=>rfl⟩;have hb0:bfw 0=⟨false,0,0,0⟩:=hbf 0;have hbs:∀ k,bfw (k+1)=xo r L s (bfw k) k:=fun k=>by rw[hbf,hbf];rfl
 have hno:∀ k,(bfw k).f=false->(bfw k).t=0/\(bfw k).c=0:=fun k q=>by rw[hbf]at q ⊢;exact sg_no r L s k q
 rw[<- hbf]at hO;clear hbf;refine eN L.length (fun k=>[(11,.s (.int .i64 (bfw k).v)),(12,.s (.bool (bfw k).f)),(48,.s (.int .i64 (k:Int)))]) (fun k=>[(10,.box [.s (.int .i64 (bfw k).t),.s (.int .i64 (bfw k).c)])]) (fun k=>sgE L s (L.length - k) k=E0) hE0 ?_ (fun k hk hv=>dC [qJ] 800 ?_)
 . simp (maxSteps:=9^7) -implicitDefEqProofs only[hb0,Ent.of0,Ent.of1,Ent.of2,Ent.of3,Ent.of4,V,W3,↓reduceIte,seval,reduceCtorEq]
   all_goals rfl
 . have hbk:=hbs k;by_cases h:k < L.length
   . have hk2:(k:Int) < (L.length:Int):=by omega
     have hk0:(0:Int)<=k:=by omega
     have hgi:=hgk k h;rw[show L.length - k=(L.length - (k+1))+1 by omega,sgE]at hv;by_cases hks:(k:Int)=s
     . rw[if_pos hks]at hv;have hks':=eq_true hks;unfold xo at hbk;rw[if_pos hks]at hbk;delta E1.c59l2 oO oN oA oM oR oS oK oL oV oC oW oI oX oB o0 o2 o4 o5 o8;simp (maxSteps:=9^7) -implicitDefEqProofs only[E1.rv59,hk0,hk2,h,hgi,hks',hbk,InR,WU,Ent.of0,Ent.of1,Ent.of2,Ent.of3,Ent.of4,V,W3,↓reduceIte,seval,reduceCtorEq];exact⟨by omega,hv,by omega⟩
     . rw[if_neg hks]at hv;have hks':=eq_false hks;have hrk:=hrE k;unfold xo at hbk;rw[if_neg hks]at hbk;generalize hl:L.getD k []=l at *;generalize hw:L.getD s.toNat []=w at *;by_cases h0:ma w l=0
       . rw[if_neg (fun q=>q h0)]at hv;rw[h0]at hrk;have g:=sc hrk;have hA:Asc (w.length:Int) (iv r w l):=by
          have hr2:=g.hr;simp only[j4,zm,decide_eq_true_eq]at hr2;exact xz hr2.2.1 (xS g)
         have hTl:(iv r w l).length<=60:=z6 (mK r w l 0 0 true) g.h60;have hln:=g.hln;have hsT:sgT r L s k=iv r w l:=by unfold sgT;rw[hl,hw]
         rw[hsT]at hbk;delta E1.c59l2 oO oN oA oM oR oS oK oL oV oC oW oI oX oB o0 o2 o4 o5 o8;simp (maxSteps:=9^7) -implicitDefEqProofs only[E1.rv59,qJ,iy,jU,eta,hk0,hk2,h,hgi,hks',hrk,InR,not_true_eq_false,WU,Ent.of0,Ent.of1,Ent.of2,Ent.of3,Ent.of4,V,W3,↓reduceIte,seval,reduceCtorEq];generalize iv r w l=T at *;obtain⟨cf,hcf⟩:∃ cf:Nat->Bst,∀ j,cf j=(T.take j).foldl (xg l k) (bfw k):=⟨_,fun _=>rfl⟩;have hc0:cf 0=bfw k:=hcf 0;have hce:cf T.length=bfw (k+1):=by rw[hcf,yo,hbk]
         refine eN T.length (fun j=>[(11,.s (.int .i64 (cf j).v)),(12,.s (.bool (cf j).f)),(69,.s (.int .i64 (j:Int)))]) (fun j=>[(10,.box [.s (.int .i64 (cf j).t),.s (.int .i64 (cf j).c)])]) (fun _=>True) trivial ?_ (fun j hj _=>dC [] 800 ?_)
         . simp (maxSteps:=9^7) -implicitDefEqProofs only[hc0,Ent.of0,Ent.of1,Ent.of2,Ent.of3,Ent.of4,V,W3,↓reduceIte,seval,reduceCtorEq]
           all_goals rfl
         . by_cases hjl:j < T.length
           . have hj2:(j:Int) < (T.length:Int):=by omega
             have hj0:(0:Int)<=j:=by omega
             have hu:=x4 j hA hjl;have hcs:cf (j+1)=xg l k (cf j) (T.getD j 0):=by
              rw[hcf,hcf,yI hjl,List.foldl_append,zb,ze hjl];rfl
             obtain⟨u,hgu⟩:∃ u,T.getD j 0=u:=⟨_,rfl⟩;rw[hgu]at hu hcs;have hu0:=hu.1;have hu1:u < (l.length:Int):=by omega
             have hu2:u.toNat < l.length:=by omega
             unfold xg at hcs;obtain⟨luw,hgl⟩:∃ luw,l.getD u.toNat 0=luw:=⟨_,rfl⟩;rw[hgl]at hcs;have key:((cf j).f=false/\True/\True/\True/\cf (j+1)=⟨true,u,k,luw⟩)\/((cf j).f=true/\(u < (cf j).t)=True/\True/\True/\cf (j+1)=⟨true,u,k,luw⟩)\/((cf j).f=true/\(u < (cf j).t)=False/\(u=(cf j).t)=True/\((cf j).v < luw)=True/\cf (j+1)=⟨true,u,k,luw⟩)\/((cf j).f=true/\(u < (cf j).t)=False/\(u=(cf j).t)=True/\((cf j).v < luw)=False/\cf (j+1)=cf j)\/((cf j).f=true/\(u < (cf j).t)=False/\(u=(cf j).t)=False/\True/\cf (j+1)=cf j):=by
              cases q0:(cf j).f
              . exact .inl ⟨rfl,trivial,trivial,trivial,by rw[hcs,if_pos (.inl q0)]⟩
              . by_cases q1:u < (cf j).t
                . exact .inr (.inl ⟨rfl,eq_true q1,trivial,trivial,by rw[hcs,if_pos (.inr (.inl q1))]⟩)
                . by_cases q2:u=(cf j).t
                  . by_cases q3:(cf j).v < luw
                    . exact .inr (.inr (.inl ⟨rfl,eq_false q1,eq_true q2,eq_true q3,by rw[hcs,if_pos (.inr (.inr ⟨q2,q3⟩))]⟩))
                    . exact .inr (.inr (.inr (.inl ⟨rfl,eq_false q1,eq_true q2,eq_false q3,(by
                       rw[hcs,if_neg]
                       rintro (q | q | ⟨q,r⟩)
                       . rw[q0]at q;cases q
                       . exact q1 q
                       . exact q3 r)⟩)))
                  . exact .inr (.inr (.inr (.inr ⟨rfl,eq_false q1,eq_false q2,trivial,(by
                     rw[hcs,if_neg]
                     rintro (q | q | ⟨q,r⟩)
                     . rw[q0]at q;cases q
                     . exact q1 q
                     . exact q2 q)⟩)))
             clear hcs;rcases key with⟨q0,q1,q2,q3,q4⟩ | ⟨q0,q1,q2,q3,q4⟩ | ⟨q0,q1,q2,q3,q4⟩ | ⟨q0,q1,q2,q3,q4⟩ | ⟨q0,q1,q2,q3,q4⟩
             all_goals
              delta E1.c59l1 oO oN oA oM oT oG oR oS oK oL oW oI oX oH oB oD oE oJ o1 o2;simp (maxSteps:=9^7) -implicitDefEqProofs only[hj0,hj2,hjl,hu0,hu1,hu2,hgu,hgl,q0,q1,q2,q3,InR,WU,Ent.of0,Ent.of1,Ent.of2,Ent.of3,Ent.of4,V,W3,↓reduceIte,seval,reduceCtorEq]
              first
              | (rw[q4];exact⟨by omega,⟨rfl,q0.symm,by omega⟩,rfl⟩)
              | skip
             all_goals
              refine xy [] 800 [] ?_;simp (maxSteps:=9^7) -implicitDefEqProofs only[xn,mFin2,xF,ml,pF,ops2,jo,reM2,oU,qO,qP,mE,finM,kE,ia,ip,gh,ft,fW,fW.fixBs,fV,ndE2,an,ag,av,aU,aF,kF,eQ,a6,bF,hu0,hu1,hu2,hgu,hgl,InR,WU,Ent.of0,Ent.of1,Ent.of2,Ent.of3,Ent.of4,V,W3,↓reduceIte,seval,reduceCtorEq];refine⟨rfl,?_⟩;refine dC [] 800 ?_;simp (maxSteps:=9^7) -implicitDefEqProofs only[E1.rv59,hj0,hj2,hjl,InR,WU,Ent.of0,Ent.of1,Ent.of2,Ent.of3,Ent.of4,V,W3,↓reduceIte,seval,reduceCtorEq];rw[q4];exact⟨by omega,⟨rfl,rfl,by omega⟩,rfl⟩
           . have hj2:¬ (j:Int) < (T.length:Int):=by omega
             have hjl2:j=T.length:=by omega
             subst hjl2;delta E1.c59l1 oO oN oA oM oT oG oR oS oK oL oW oI oX oH oB oD oE oJ o1 o2;simp (maxSteps:=9^7) -implicitDefEqProofs only[E1.rv59,hj2,hce,InR,WU,Ent.of0,Ent.of1,Ent.of2,Ent.of3,Ent.of4,V,W3,↓reduceIte,seval,reduceCtorEq];exact⟨by omega,h,hv,by omega⟩
       . rw[if_pos h0]at hv;rw[<- hv,if_pos h0]at hO;subst hO;have h0':=eq_false h0;delta E1.c59l2 oO oN oA oM oR oS oK oL oV oC oW oI oX oB o0 o2 o4 o5 o8;simp (maxSteps:=9^7) -implicitDefEqProofs only[E1.rv59,qJ,iy,jU,eta,hk0,hk2,h,hgi,hks',hrk,h0',InR,not_true_eq_false,not_false_eq_true,WU,Ent.of0,Ent.of1,Ent.of2,Ent.of3,Ent.of4,V,W3,↓reduceIte,seval,reduceCtorEq]
   . have hk2:¬ (k:Int) < (L.length:Int):=by omega
     have hkl:k=L.length:=by omega
     subst hkl;rw[show L.length - L.length=0 by omega,sgE]at hv;subst hv;rw[if_neg (by simp)]at hO;delta E1.c59l2 oO oN oA oM oR oS oK oL oV oC oW oI oX oB o0 o2 o4 o5 o8;simp (maxSteps:=9^7) -implicitDefEqProofs only[E1.rv59,hk2,WU,Ent.of0,Ent.of1,Ent.of2,Ent.of3,Ent.of4,V,W3,↓reduceIte,seval,reduceCtorEq];refine xy [dT] 800 [2] ?_;simp (maxSteps:=9^7) -implicitDefEqProofs only[xn,mFin2,xF,ml,pF,ops2,jo,reM2,oU,qO,qP,mE,finM,kE,ia,ip,gh,ft,fW,fW.fixBs,fV,ndE2,an,ag,av,aU,aF,kF,eQ,a6,bF,dT,InR,WU,Ent.of0,Ent.of1,Ent.of2,Ent.of3,Ent.of4,V,W3,↓reduceIte,seval,reduceCtorEq];refine⟨rfl,?_⟩;refine dC [] 800 ?_;simp (maxSteps:=9^7) -implicitDefEqProofs only[E1.rv59,InR,WU,Ent.of0,Ent.of1,Ent.of2,Ent.of3,Ent.of4,V,W3,↓reduceIte,seval,reduceCtorEq];have hno2:=hno L.length;rw[<- hO];unfold xm;cases hf:(bfw L.length).f
     . obtain⟨e1,e2⟩:=hno2 hf;rw[e1,e2];simp
     . simp
def ent59 : Ent Tryz.prog:=.of3 59 (fun _ L _=>L.length<=1000000) (fun (r:Rul) (L:List (List Int)) (s:Int)=>.tup [enc (sgO r L s).1,enc (sgO r L s).2]) (fun _ _ _=>⟨by rw[enc_gs];simp[dF,dF.keysIns],trivial,trivial⟩) (fun r L s h=>x3 r L s h)
theorem xV (r:Rul) (L:List (List Int)) (s t:Int):∀ k,xf r L s t k=-1\/∃ j:Nat,j < k/\xf r L s t k=(j:Int)/\(j:Int)≠s
 | 0=>.inl rfl
 | k+1=>by
  rw[xf];split
  . rename_i h;exact .inr ⟨k,by omega,rfl,h.1⟩
  . rcases xV r L s t k with h | ⟨j,h1,h2,h3⟩
    . exact .inl h
    . exact .inr ⟨j,by omega,h2,h3⟩
theorem xQ (r:Rul) (L:List (List Int)) (s:Int) (hs:0<=s/\s < (L.length:Int)) (hb:L.length<=1000000) (hw:(L.getD s.toNat []).length<=1000000) (hok:SgOk r L s) :
 FC Tryz.prog 62 [enc r,enc L,enc s] [] (.tup [enc (xi r L s (L.getD s.toNat []).length 0).1,enc (xi r L s (L.getD s.toNat []).length 0).2]) []:=by
 obtain⟨hs0,hs1⟩:=hs;have hs2:s.toNat < L.length:=by omega
 have hgs:=xj L s.toNat hs2;have eta:(⟨r.off,r.hyst,r.trig⟩:Rul)=r:=rfl;generalize hO:xi r L s (L.getD s.toNat []).length 0=O;have hgk:∀ k,k < L.length->(L.map Dat.cells).getD k [C.sl 0 []]=[C.sl 1 ((L.getD k []).map Dat.cells)]:=fun k h=>xj L k h
 obtain⟨w,hww⟩:∃ w,L.getD s.toNat []=w:=⟨_,rfl⟩;rw[hww]at hO hgs hw;refine dD [] is62 (by simp) trivial trivial trivial trivial (fun cx _ hl _=>dC [] 1500 ?_);delta c62 oA oS oK oV oW oX o2 o7 o9;simp (maxSteps:=9^7) -implicitDefEqProofs only[rv62,iy,hs0,hs1,hs2,hgs,InR,WU,Ent.of0,Ent.of1,Ent.of2,Ent.of3,Ent.of4,V,W3,↓reduceIte,seval,reduceCtorEq];refine eN w.length (fun i=>[(8,.s (.int .i64 (i:Int)))]) (fun _=>[]) (fun i=>xi r L s (w.length - i) (i:Int)=O) hO ?_ (fun i hi hv=>dC [] 800 ?_)
 . simp (maxSteps:=9^7) -implicitDefEqProofs only[Ent.of0,Ent.of1,Ent.of2,Ent.of3,Ent.of4,V,W3,↓reduceIte,seval,reduceCtorEq]
   all_goals rfl
 . by_cases h:i < w.length
   . have hi2:(i:Int) < (w.length:Int):=by omega
     have hi0:(0:Int)<=i:=by omega
     rw[show w.length - i=(w.length - (i+1))+1 by omega,xi]at hv;delta c62l2 oO oN oA oM oR oS oK oL oV oW oI oX oB o0 o2 o4 o9;simp (maxSteps:=9^7) -implicitDefEqProofs only[rv62,hs0,hs1,hs2,hgs,hi0,hi2,h,InR,WU,Ent.of0,Ent.of1,Ent.of2,Ent.of3,Ent.of4,V,W3,↓reduceIte,seval,reduceCtorEq];obtain⟨mfw,hmf⟩:∃ mfw:Nat->Int,∀ k,mfw k=xf r L s i k:=⟨_,fun _=>rfl⟩;have hm0:mfw 0=-1:=hmf 0;have hms:∀ k,mfw (k+1)=if (k:Int)≠s/\(i:Int)∈sgT r L s k/\(mfw k < 0\/(L.getD (mfw k).toNat []).getD i 0 < (L.getD k []).getD i 0)then (k:Int)else mfw k:=fun k=>by rw[hmf,hmf,xf];rfl
     have hrg:∀ k,mfw k=-1\/∃ j:Nat,j < k/\mfw k=(j:Int)/\(j:Int)≠s:=fun k=>by rw[hmf];exact xV r L s i k
     rw[<- hmf]at hv;clear hmf;refine eN L.length (fun k=>[(9,.s (.int .i64 (mfw k))),(10,.s (.int .i64 (k:Int)))]) (fun _=>[]) (fun _=>True) trivial ?_ (fun k hk _=>dC [xv,xw] 800 ?_)
     . simp (maxSteps:=9^7) -implicitDefEqProofs only[hm0,Ent.of0,Ent.of1,Ent.of2,Ent.of3,Ent.of4,V,W3,↓reduceIte,seval,reduceCtorEq]
       all_goals rfl
     . by_cases hkl:k < L.length
       . have hk2:(k:Int) < (L.length:Int):=by omega
         have hk0:(0:Int)<=k:=by omega
         have hgi:=hgk k hkl;have hmk:=hms k;by_cases hks:(k:Int)=s
         . have hks':=eq_true hks;rw[if_neg (fun q=>q.1 hks)]at hmk;delta xp oO oN oA oM oT oG oR oQ oS oK oI oX oB oD oJ o0 o1 o4;simp (maxSteps:=9^7) -implicitDefEqProofs only[xv,xw,hs0,hs1,hs2,hgs,hk0,hk2,hkl,hks',InR,not_true_eq_false,WU,Ent.of0,Ent.of1,Ent.of2,Ent.of3,Ent.of4,V,W3,↓reduceIte,seval,reduceCtorEq];rw[hmk];exact⟨by omega,rfl,by omega⟩
         . have hks':=eq_false hks;have g:=hok k hkl hks;have hln:=g.hln;rw[hww]at g hln;have hsT:sgT r L s k=iv r w (L.getD k []):=by unfold sgT;rw[hww]
           rw[hsT]at hmk;have hil:i < (L.getD k []).length:=by omega
           have hil2:(i:Int) < ((L.getD k []).length:Int):=by omega
           have hT:∀ T:List Int,(T.any fun x=>decide (x=(i:Int)))=decide ((i:Int)∈T):=fun T=>by rw[yH];simp
           have hT2:=hT (iv r w (L.getD k []));generalize hB:decide ((i:Int)∈iv r w (L.getD k []))=B at *;cases B
           . have hB2:=of_decide_eq_false hB;rw[if_neg (fun q=>hB2 q.2.1)]at hmk;delta xp oO oN oA oM oT oG oR oQ oS oK oI oX oB oD oJ o0 o1 o4;simp (maxSteps:=9^7) -implicitDefEqProofs only[xv,xw,iy,jU,eta,g,hs0,hs1,hs2,hgs,hk0,hk2,hkl,hgi,hks',hT2,InR,not_true_eq_false,not_false_eq_true,WU,Ent.of0,Ent.of1,Ent.of2,Ent.of3,Ent.of4,V,W3,↓reduceIte,seval,reduceCtorEq];rw[hmk];exact⟨by omega,rfl,by omega⟩
           . have hB2:=of_decide_eq_true hB;rcases hrg k with hm1 | ⟨j,hj,hmj,hjs⟩
             . rw[if_pos ⟨hks,hB2,.inl (by rw[hm1];decide)⟩]at hmk;delta xp oO oN oA oM oT oG oR oQ oS oK oI oX oB oD oJ o0 o1 o4;simp (maxSteps:=9^7) -implicitDefEqProofs only[xv,xw,iy,jU,eta,g,hs0,hs1,hs2,hgs,hk0,hk2,hkl,hgi,hks',hT2,hm1,InR,not_true_eq_false,not_false_eq_true,WU,Ent.of0,Ent.of1,Ent.of2,Ent.of3,Ent.of4,V,W3,↓reduceIte,seval,reduceCtorEq];rw[hmk];exact⟨by omega,rfl,by omega⟩
             . have hjL:j < L.length:=by omega
               have hj2:(j:Int) < (L.length:Int):=by omega
               have hj0:(0:Int)<=j:=by omega
               have hj3:¬ (j:Int) < 0:=by omega
               have hgj:=hgk j hjL;have hljn:=(hok j hjL hjs).hln;rw[hww]at hljn;have hlj:i < (L.getD j []).length:=by omega
               have hlj2:(i:Int) < ((L.getD j []).length:Int):=by omega
               by_cases hlt:(L.getD j []).getD i 0 < (L.getD k []).getD i 0
               . rw[if_pos ⟨hks,hB2,.inr (by rw[hmj];exact hlt)⟩]at hmk;delta xp oO oN oA oM oT oG oR oQ oS oK oI oX oB oD oJ o0 o1 o4;simp (maxSteps:=9^7) -implicitDefEqProofs only[xv,xw,iy,jU,eta,g,hs0,hs1,hs2,hgs,hi0,hk0,hk2,hkl,hgi,hil,hil2,hks',hT2,hmj,hj0,hj2,hj3,hjL,hgj,hlj,hlj2,hlt,InR,not_true_eq_false,not_false_eq_true,WU,Ent.of0,Ent.of1,Ent.of2,Ent.of3,Ent.of4,V,W3,↓reduceIte,seval,reduceCtorEq];rw[hmk];exact⟨by omega,rfl,by omega⟩
               . rw[if_neg (fun q=>q.2.2.elim (fun q=>by omega) (fun q=>hlt (by rw[hmj]at q;exact q))),hmj]at hmk;delta xp oO oN oA oM oT oG oR oQ oS oK oI oX oB oD oJ o0 o1 o4;simp (maxSteps:=9^7) -implicitDefEqProofs only[xv,xw,iy,jU,eta,g,hs0,hs1,hs2,hgs,hi0,hk0,hk2,hkl,hgi,hil,hil2,hks',hT2,hmj,hj0,hj2,hj3,hjL,hgj,hlj,hlj2,hlt,InR,not_true_eq_false,not_false_eq_true,WU,Ent.of0,Ent.of1,Ent.of2,Ent.of3,Ent.of4,V,W3,↓reduceIte,seval,reduceCtorEq];rw[hmk];exact⟨by omega,rfl,by omega⟩
       . have hk2:¬ (k:Int) < (L.length:Int):=by omega
         have hkl2:k=L.length:=by omega
         subst hkl2;by_cases h9:0<=mfw L.length
         . rw[if_pos h9]at hv;subst hv;delta xp oO oN oA oM oT oG oR oQ oS oK oI oX oB oD oJ o0 o1 o4;simp (maxSteps:=9^7) -implicitDefEqProofs only[rv62,hk2,h9,WU,Ent.of0,Ent.of1,Ent.of2,Ent.of3,Ent.of4,V,W3,↓reduceIte,seval,reduceCtorEq]
         . rw[if_neg h9]at hv;delta xp oO oN oA oM oT oG oR oQ oS oK oI oX oB oD oJ o0 o1 o4;simp (maxSteps:=9^7) -implicitDefEqProofs only[rv62,hk2,h9,InR,WU,Ent.of0,Ent.of1,Ent.of2,Ent.of3,Ent.of4,V,W3,↓reduceIte,seval,reduceCtorEq];exact⟨by omega,h,hv,by omega⟩
   . have hi2:¬ (i:Int) < (w.length:Int):=by omega
     have hil:i=w.length:=by omega
     subst hil;rw[show w.length - w.length=0 by omega,xi]at hv;subst hv;delta c62l2 oO oN oA oM oR oS oK oL oV oW oI oX oB o0 o2 o4 o9;simp (maxSteps:=9^7) -implicitDefEqProofs only[rv62,hs0,hs1,hs2,hgs,hi2,WU,Ent.of0,Ent.of1,Ent.of2,Ent.of3,Ent.of4,V,W3,↓reduceIte,seval,reduceCtorEq]
theorem sgF_ok {L:List (List Int)} {s:Int} (h:sgF L s=0):L.length≠0/\L.length<=6/\0<=s/\s < (L.length:Int):=by
 unfold sgF at h;by_cases h1:L.length=0
 . rw[if_pos h1]at h;cases h
 rw[if_neg h1]at h;by_cases h2:6 < L.length
 . rw[if_pos h2]at h;cases h
 rw[if_neg h2]at h;by_cases h3:0<=s/\s<=(L.length:Int) - 1
 . exact⟨h1,by omega,h3.1,by omega⟩
 . rw[if_neg h3]at h;cases h
end Go.Proofs.YtcbabnbiinkafaaGreatDoor
end
