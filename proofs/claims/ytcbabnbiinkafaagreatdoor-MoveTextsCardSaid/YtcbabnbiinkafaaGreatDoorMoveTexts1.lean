/- Part 1 of the proof of: MoveTexts returns true for every input and never panics: the texts of an event and of a state, and the event and the state with any text, are as specified, or the errors, and right ones are read back; conditions: those of the given statement, that the package variables it lists hold what their initialisers lay. -/
import Derived.Maps.RangeWalk
import Derived.Test.YtcbabnbiinkafaaGreatDoorProg
import Derived.KernelRfl
import Derived.Shelf.Strconv.ErrVarAll
import Derived.Shelf.Strings.Search3
import Derived.Shelf.Strings.Prefix
import Derived.Ground.NamesProg
import Derived.Ground.Names2Prog
import Derived.Test.YtcbabnbiinkafaaGreatDoorBq21
set_option linter.all false
section
namespace Go.Am
theorem dN.ownI {E:Env} {U:Nat->Prop} {h:Array Obj} {k:Nat} {c:Ch} (hc:dN E U h k c) {i:Nat} {q:Nat×TypeId×List (List C)} (hi:chI c i=some q) (hn:((E k).inn i).nil=false):(E k).fp ((E k).inn i).blk:=by
 cases c with
 | box cs=>exact (hc.2.1.fp _).2 (.inr ⟨i,q,hi,hn,rfl⟩)
 | row sz ty es=>cases hi
 | deep isz ity ty hole rows=>exact (hc.2.1.fp _).2 (.inr ⟨i,q,hi,hn,rfl⟩)
 | res R=>cases hi
end Go.Am
end
section
namespace Go.Am
open Dat (cells)
variable {P : Program}
theorem AU {own:Bool} {op o:Op} {ty ty':TypeId} (h:ic P own op ty=some (.opq o ty')):op=o/\ty=ty':=by
 unfold ic at h;split at h
 . cases h
 . cases op with
   | call c=>
    obtain⟨callee,args,argTypes⟩:=c;cases callee with
    | value f=>simp[eE]at h
    | invoke r m=>simp only[eE,zn,AOp.opq.injEq]at h;exact h
    | builtin b=>
     cases b <;> simp only[eE]at h
     case append=>
      split at h
      . split at h
        . simp only[zk]at h;obtain⟨i,_,z,_,h⟩:=h;split at h <;> cases h
        . cases h
      . cases h
     case len=>
      split at h
      . split at h <;> cases h
      . cases h
     all_goals cases h
   | buildSlice t len parts=>
    simp only[eE]at h;split at h
    . simp only[zk]at h;obtain⟨i,_,z,_,h⟩:=h;split at h <;> cases h
    . cases h
   | build t parts=>simp[eE,zk]at h
   | load t x=>simp[eE,zk]at h
   | binOp b t x y yt=>
    simp only[eE]at h;split at h <;> cases h
   | convert s t x=>
    simp only[eE]at h;split at h <;> cases h
   | makeSlice t l c=>
    simp only[eE]at h;split at h
    . simp only[zk]at h;obtain⟨i,_,z,_,h⟩:=h;split at h <;> cases h
    . cases h
   | slice t x lo hi mx=>
    simp only[eE]at h;split at h <;> simp at h;exact h
   | fieldAddr t x f=>
    simp only[eE]at h;split at h
    . simp only[zk]at h;obtain⟨i,_,z,_,h⟩:=h;split at h <;> cases h
    . cases h
   | field t x f=>
    simp only[eE]at h;split at h
    . simp[zk]at h
    . cases h
   | indexAddr t x i=>
    simp only[eE]at h;split at h
    . simp[zk]at h
    . simp at h
    . cases h
   | index t x i=>
    simp only[eE]at h;split at h <;> simp at h;exact h
   | move x=>cases own <;> simp[eE]at h
   | assign x=>cases own <;> simp[eE]at h
   | alloc t=>simp[eE]at h
   | store t a x=>simp[eE]at h
   |_=>simp only[eE,zn,AOp.opq.injEq,reduceCtorEq]at h <;> exact h
end Go.Am
end
section
namespace Go.Am
open Dat (cells)
variable {P : Program} [Glob P] {ro : Option Nat} {ρ : Operand → C} {ch : Chs} {d : Nat}
inductive Lend (ch:Chs):C->C->Prop
 | same (c:C):Lend ch c c
 | any (c:C):Lend ch c .any
 | own {k:Nat} {c0:Ch} {x:C} (h:lk ch k=some c0) (hx:bz c0=some x):Lend ch (.own k) x
 | inn {k i n:Nat} {t:TypeId} {es:List (List C)} {q:Prop} (h:aN ch k i=some (q,n,t,es)) (hq:q):Lend ch (.inn k i) (.sl n es)
 | agg {cs cs':List C} (hl:cs.length=cs'.length) (h:∀ (j:Nat) (a b:C),cs[j]? = some a->cs'[j]? = some b->Lend ch a b):Lend ch (.agg cs) (.agg cs')
def x9 (ch:Chs):List C->List C->Prop
 |[],[]=>True
 | a :: l,b :: m=>Lend ch a b/\x9 ch l m
 |_,_=>False
def lntU (E:Env) (U:Nat->Prop) (ch:Chs):Nat->Prop:=fun b=>U b\/∃ k c,(k,c)∈ch/\(E k).fp b
theorem Lend.rep {E:Env} {U:Nat->Prop} {h:Array Obj} (hi:Inv E U h ch) {c c':C} (hl:Lend ch c c'):∀ {v:Value},Rep E U h c v->Rep E (lntU E U ch) h c' v:=by
 have hk:∀ b,U b->lntU E U ch b/\h[b]? = h[b]?:=fun b hb=>⟨.inl hb,rfl⟩
 induction hl with
 | same c=>exact fun hr=>hr.same hk
 | any c=>exact fun _=>.d (.any _)
 | own g hx=>exact fun hr=>.d (nq (hi.ok _ _ (dH g)) hx hr hk (fun b hb=>⟨.inr ⟨_,_,dH g,hb⟩,rfl⟩))
 | inn g hq=>
  intro v hr;obtain⟨c0,g1,g2,_,g4⟩:=gY g hq;have hc:=hi.ok _ _ (dH g1);rw[kU hr];exact .d (lD ((hc.inns g4).2 _ _ _ _ g2) hk (fun hn=>⟨.inr ⟨_,_,dH g1,hc.ownI g2 hn⟩,rfl⟩))
 | agg hl h ih=>
  intro v hr;cases hr with
  | d hd=>cases hd
  | agg _ vs q1 q2 q3=>
   refine .agg _ vs (q1.trans hl) (fun j c hj=>?_) q3;have hlt:j < _:=(zi.1 hj).1;rw[<- hl]at hlt;exact ih j _ c (ze hlt) hj (q2 j _ (ze hlt))
theorem x9.args {E:Env} {U:Nat->Prop} {h:Array Obj} (hi:Inv E U h ch):∀ {cs ds:List C} {vs:List Value},x9 ch cs ds->vs.length=cs.length->(∀ (j:Nat) (c:C),cs[j]? = some c->Rep E U h c (vs.getD j undef))->vs.length=ds.length/\∀ (j:Nat) (c:C),ds[j]? = some c->Rep E (lntU E U ch) h c (vs.getD j undef)
 |[],[],vs,_,hv,_=>⟨hv,fun j c hj=>by simp at hj⟩
 | a :: l,b :: m,[],_,hv,_=>by simp at hv
 | a :: l,b :: m,v :: vs,hL,hv,hr=>by
  obtain⟨h1,h2⟩:=x9.args hi (vs:=vs) hL.2 (by simpa using hv) (fun j c hj=>hr (j+1) c hj);refine⟨by simp[h1],fun j c hj=>?_⟩;cases j with
  | zero=>cases hj;exact hL.1.rep hi (hr 0 _ rfl)
  | succ j=>exact h2 j c hj
 |[],_ :: _,_,hL,_,_=>hL.elim
 |_ :: _,[],_,hL,_,_=>hL.elim
theorem lnt_inv {E:Env} {U:Nat->Prop} {h:Array Obj} (hi:Inv E U h ch):Inv E (lntU E U ch) h [] where
 nd:=by simp
 ok:=fun k c hm=>by simp at hm
 sep:=fun k c k' c' hm=>by simp at hm
 out:=fun k c hm=>by simp at hm
 fpl:=fun k c hm=>by simp at hm
 lt:=fun b hb=>by
  rcases hb with hb | ⟨k,c,h1,h2⟩
  . exact hi.lt b hb
  . exact hi.fpl k c h1 b h2
theorem Da {f:FuncId} {cs ds:List C} {r:C} {chs:Chs} (hfc:FC P f ds [] r chs) (ha:x9 ch cs ds) {E:Env} {U:Nat->Prop} {w:World} {vs:Array Value} (hi:Inv E U w.heap ch) (hg:eX P U w.heap) (hargs:jD E U w.heap cs vs) :
 Calls P f vs w fun e w'=>∃ v E' U',e=.returned v/\Rep E' U' w'.heap r v/\CEv E (lntU E U ch) w [] E' U' w' chs:=by
 obtain⟨a1,a2⟩:=x9.args hi (vs:=vs.toList) ha (by simpa using hargs.1) (fun j c hj=>by
  have:=hargs.2 j c hj
  rwa[zc,<- zM,<- zb]at this)
 refine hfc.2 E (lntU E U ch) vs w (hg.mono fun b hb=>⟨.inl hb,rfl⟩) ⟨by simpa using a1,fun j c hj=>?_⟩ (lnt_inv hi);have:=a2 j c hj;rwa[zb,zM,<- zc]at this
theorem x9.same : ∀ cs:List C,x9 ch cs cs
 |[]=>trivial
 |_ :: l=>⟨.same _,x9.same l⟩
theorem FC.own {f:FuncId} {ds:List C} {r:C} {n:Nat} {t:TypeId} {es:List (List C)} {chs:Chs} (hfc:FC P f (.sl n es :: ds) [] r chs) (hk:∀ k c,(k,c)∈chs->k≠100000):FC P f (.own 100000 :: ds) [(100000,.row n t es)] r chs:=by
 refine⟨hfc.1,fun E U vs w hg hargs hi=>?_⟩;have ha:x9 [(100000,.row n t es)] (.own 100000 :: ds) (.sl n es :: ds):=⟨.own (c0:=.row n t es) rfl rfl,x9.same ds⟩;refine (Da hfc ha hi hg hargs).mono fun e w' hh=>?_
 obtain⟨v,E1,U1,he,hrep,hc⟩:=hh;refine⟨v,E1,U1,he,hrep,⟨hc.os,hc.tape,hc.output,hc.size,fun b hb=>hc.keep b (.inl hb),fun b hb _=>hc.rest b hb (fun k c hm=>by simp at hm),fun k c hm b hb=>.inl ((hc.live k c hm b hb).resolve_right fun⟨_,_,q,_⟩=>by simp at q),fun b hb=>?_,fun k cs hm ⟨c,q⟩=>?_,hc.inv⟩⟩
 . rcases hc.newU b hb with (q | q) | q | ⟨_,_,q,_⟩
   . exact .inl q
   . exact .inr (.inr q)
   . exact .inr (.inl q)
   . simp at q
 . simp only[zg,zf]at q;exact absurd q.1 (hk k _ hm)
theorem FC.frz {f:FuncId} {cs:List C} {r x:C} {k:Nat} {c:Ch} (hfc:FC P f cs [] r [(k,c)]) (hx:bz c=some x):FC P f cs [] (ah [(k,.c x)] r) []:=by
 refine⟨hfc.1,fun E U vs w hg hargs hi=>(hfc.2 E U vs w hg hargs hi).mono fun e w' hh=>?_⟩;obtain⟨v,E1,U1,he,hrep,hc⟩:=hh;have hfz:qY [(k,c)] [(k,.c x)]:=fun k' s hs=>by
  rw[fl]at hs;split at hs
  . rename_i e;subst e;cases hs;exact⟨c,x,by simp[lk],hx,rfl⟩
  . cases hs
 have hev:=Ev.freeze (w1:=w') hc.inv hfz rfl rfl rfl (zw _) (fun b _=>rfl) (fun _=>False) (fun b hb=>hb.elim) 0;have hnil:ae [(k,.c x)] (aC [(k,c)] [(k,Sb.c x)])=[]:=by simp[aC,af,ae]
 rw[hnil]at hev;refine⟨v,_,_,he,hev.rep hrep,⟨hc.os,hc.tape,hc.output,hc.size,fun b hb=>⟨(hev.keep b (hc.keep b hb).1).1,(hc.keep b hb).2⟩,hc.rest,fun k c hm=>by simp at hm,fun b hb=>?_,fun k cs hm=>by simp at hm,hev.inv⟩⟩;rcases hev.newU b hb with q | q | ⟨k',c',q,h2⟩
 . exact hc.newU b q
 . have:=hc.size;exact .inr (.inl (by omega))
 . exact .inr (.inl ((hc.live k' c' q b h2).resolve_right fun⟨_,_,q,_⟩=>by simp at q))
mutual
theorem Dj : ∀ (c:C),aD ch [] c=c
 |.agg cs=>by simp only[aD];rw[Bt cs]
 |.own k=>by simp[aD]
 |.inn k i=>by simp[aD]
 |.any=>rfl
 |.s _=>rfl
 |.sl _ _=>rfl
 |.ref _=>rfl
 |.tup _=>rfl
 |.fn _ _ _=>rfl
 |.ptr _ _=>rfl
 |.eptr _ _ _=>rfl
 |.isl _ _ _=>rfl
 |.iptr _ _ _ _=>rfl
theorem Bt : ∀ (cs:List C),aD.viewCs ch [] cs=cs
 |[]=>rfl
 | c :: cs=>by simp only[aD.viewCs];rw[Dj c,Bt cs]
end
mutual
theorem CL : ∀ (c:C),aY ch [] c
 |.agg cs=>by simp only[aY];exact AV cs
 |.inn k i=>by simp[aY]
 |.own k=>trivial
 |.any=>trivial
 |.s _=>trivial
 |.sl _ _=>trivial
 |.ref _=>trivial
 |.tup _=>trivial
 |.fn _ _ _=>trivial
 |.ptr _ _=>trivial
 |.eptr _ _ _=>trivial
 |.isl _ _ _=>trivial
 |.iptr _ _ _ _=>trivial
theorem AV : ∀ (cs:List C),aY.viewOks ch [] cs
 |[]=>trivial
 | c :: cs=>⟨CL c,AV cs⟩
end
end Go.Am
end
section
namespace Go.Am
open Dat (cells)
variable {P : Program} [Glob P] {ro : Option Nat} {ρ : Operand → C} {ch : Chs} {d : Nat}
section
variable {cx : Cx} {Q : ASt → Prop} {k : List It} {st : ASt}
def addE3 (pur:List Nat) (op:AOp) (j:Nat) (ef:Eff) (E:EL):EL:=match av pur j with | true=>E | false=>ml op j ef E
def Ak (P:Program) [Glob P] (L:List (Ent P)) (cx:Cx) (Q:ASt->Prop) (k:List It) (rb:List Nat) (all:List AO) (s0:ASt) (pur:List Nat):Nat->Md->List AO->ASt->Nat->List C->EL->Prop
 |_+1,.run,[],_,_,vs,E=>mFin2 P L cx Q k rb all s0 vs E
 | n+1,.run,⟨dst,none,op,tot⟩ :: os,s,j,vs,E=>Ak P L cx Q k rb all s0 pur n (.eff (ai (aq P s.t) s.ch (dst.getD 0) op)) (⟨dst,none,op,tot⟩ :: os) s j vs E
 | n+1,.eff (some ef),⟨dst,none,op,_⟩ :: os,s,j,vs,E=>Ak P L cx Q k rb all s0 pur n .run os ⟨aU dst ef.sub ef.v s.t,ef.ch⟩ (j+1) (vs++[ef.v]) (addE3 pur op j ef E)
 | n+1,.eff none,⟨dst,none,op,tot⟩ :: os,s,j,vs,E=>Ak P L cx Q k rb all s0 pur n (aF L (aq P s.t) s.ch (dst.getD 0) op) (⟨dst,none,op,tot⟩ :: os) s j vs E
 | n+1,.cal (.eff ef),⟨dst,none,op,_⟩ :: os,s,j,vs,E=>Ak P L cx Q k rb all s0 pur n .run os ⟨aU dst ef.sub ef.v s.t,ef.ch⟩ (j+1) (vs++[ef.v]) (addE3 pur op j ef E)
 |_,_,_,_,_,_,_=>False
theorem CF {L:List (Ent P)} {rb:List Nat} {all:List AO} {s0:ASt} {pur:List Nat}:∀ (n:Nat) (m:Md) (os:List AO) (s:ASt) (j:Nat) (vs:List C) (E:EL),Ak P L cx Q k rb all s0 pur n m os s j vs E->SG P cx Q (.c (.draw 999 rb all) :: k) s0:=by
 intro n
 induction n with
 | zero=>intro m os s j vs E h;simp[Ak]at h
 | succ n ih=>
  intro m os s j vs E h;cases os with
  | nil=>
   cases m <;> simp only[Ak]at h;obtain⟨h0,h1,h2,h3,h4⟩:=h;exact vN h0 h1 h2 h3 h4
  | cons o os=>
   unfold Ak at h;split at h <;> first | exact h.elim | exact ih _ _ _ _ _ _ h | (simp at*<;> (subst_vars;exact ih _ _ _ _ _ _ h))
theorem Dm {rb:List Nat} {os:List AO} (L:List (Ent P)) (n:Nat) (pur:List Nat) (h:Ak P L cx Q k rb os st pur n .run os st 0 [] []):SG P cx Q (.c (.draw 999 rb os) :: k) st:=
 CF n .run os st 0 [] [] h
end
end Go.Am
end
section
namespace Go.Am
open Dat (cells)
variable {P : Program} [Glob P] {cx : Cx} {Q : ASt → Prop} {k : List It} {st : ASt}
inductive MR where
 | run
 | g (b:Option Bool)
 | eff (e:Option Eff)
 | cal (m:Md)
end Go.Am
end
section
namespace Go.Am
open Dat (cells)
variable {P : Program} [Glob P] {ro : Option Nat} {ρ : Operand → C} {ch : Chs} {d : Nat}
theorem OpM.arrIx1 {t e ty:TypeId} {len:Nat} {k:IntKind} {n:Int} {x i:Operand} {cs:List C} {r:C} (ht:P.underlying t=some (.array len e)) (hb:js P e=some false) (hn:ez P e=some 1)
 (hx:ρ x=.agg cs) (hix:ρ i=.s (.int k n)) (h0:0<=n/\n < len) (hr0:cs[n.toNat]? = some r) :
 OpM P ro ρ ch d (.opq (.index t x i) ty) fun ef=>ef=⟨True,r,ch,[]⟩:=by
 intro own o a E U w hc hi hg hρ K Q hK;obtain⟨ho,_⟩:=AU hc;have rxw:=hx ▸ hρ x (by simp[AOp.reads,Op.operands]);have riw:a.eval i=.int k n:=dK (hix ▸ hρ i (by simp[AOp.reads,Op.operands]));obtain⟨vs,hv,hvl,hr,h1c⟩:=iE rxw;have hlt:n.toNat < vs.size:=by
  have:=(zi.1 hr0).1;omega
 obtain⟨u,hu⟩:∃ u,vs[n.toNat]? = some u:=⟨_,zj hlt⟩;refine wL (v:=u) (w':=w) (fun c=>by rw[ho];simp) ?_ ?_
 . have h0':0<=n/\n < (len:Int):=h0;simp[execOp,ho,hv,riw,Instr.index,asIntOf,run_underlying ht,h0',part,kn hb,eF hn,hu]
 . refine hK _ rfl _ E U w ?_ (Ev.refl hi d);rw[<- eB hu];exact hr _ _ hr0
def xQ (cs:List C) (sz len:Nat):List (List C):=(List.range len).map fun i=>(cs.drop (i*sz)).take sz
theorem OpM.sliceRef {t e ty:TypeId} {len sz:Nat} {x:Operand} {cs:List C} (ht:P.underlying t=some (.array len e)) (hn:ez P e=some sz)
 (hx:ρ x=.ref cs) (hl:cs.length=len*sz) (hm:len<=maxLen) :
 OpM P ro ρ ch d (.opq (.slice t x none none none) ty) fun ef=>ef=⟨True,.sl sz (xQ cs sz len),ch,[]⟩:=by
 intro own o a E U w hc hi hg hρ K Q hK;obtain⟨ho,_⟩:=AU hc;obtain⟨b,off,arr,tbw,fz,vf,hv,hU,hb,hvf,hd⟩:=pK (hx ▸ hρ x (by simp[AOp.reads,Op.operands]));refine wL (v:=.slice (some ⟨b,off,none⟩) len len) (w':=w) (fun c=>by rw[ho];simp) ?_ ?_
 . simp[execOp,ho,hv,Instr.sliceAt,run_underlying ht,Instr.sureAddr,Instr.sliceBounds,eF hn,Addr.add_lit]
 . refine hK _ rfl _ E U w ?_ (Ev.refl hi d);have hlen:(xQ cs sz len).length=len:=by simp[xQ]
   have hget:∀ (i:Nat) (r:List C),(xQ cs sz len)[i]? = some r->i < len/\r=(cs.drop (i*sz)).take sz:=fun i r h=>by
    have h1:i < len:=by have:=(zi.1 h).1;omega
    refine⟨h1,?_⟩;rw[xQ,zh,yv h1]at h;exact (Option.some.inj h).symm
   have hcell:∀ (i:Nat) (r:List C) (j:Nat) (c:C),(xQ cs sz len)[i]? = some r->r[j]? = some c->cs[i*sz+j]? = some c:=fun i r j c h1 h2=>by
    obtain⟨_,rfl⟩:=hget i r h1;obtain⟨h3,_⟩:=jr h2;rwa[zO]at h3
   have:=RepD.sl (U:=U) (h:=w.heap) (xQ cs sz len) b off len sz arr tbw fz (fun i j=>vf (i*sz+j)) hU hb (by rw[hlen];exact zw _) hm (fun i r h=>by
    obtain⟨h1,rfl⟩:=hget i r h;rw[List.length_take,List.length_drop,hl];have:(i+1)*sz<=len*sz:=zB _ h1;rw[zP]at this
    omega) (fun i r j c h1 h2=>by
     have:=hvf _ c (hcell i r j c h1 h2)
     rwa[<- yG]at this) (fun i r j c h1 h2=>hd _ c (hcell i r j c h1 h2))
   rw[hlen]at this;exact .d this
end Go.Am
end
section
open Go Go.Am
open Go.Am.Dat (cells)
namespace Go.Proofs.YtcbabnbiinkafaaGreatDoor
set_option maxRecDepth 100000
def c17 : AC:=oX [o7 3 0,o7 4 1,o7 5 2,o9 6 false] [3,4,5] (oS (oX [oC 21 21 [],oA 22 (.un .not (oO 21))] [3,4,5,22] (oI 22 (oX [o9 6 false] [6] .ret))) (oK [3,4,5] (oS (oX [o5 23 3 3,oC 24 34 [oO 23],oA 25 (.un .not (oO 24)),oM 26 25,oG 27 26 false (.load true 10 (oO 4)),oG 28 26 false (.call (.func 63) [oO 27]),oG 29 26 false (.un .not (oO 28)),oH 30 26 29,oM 31 30,oE 32 31 false 3 5,oJ 33 31 false 32,oG 34 31 false (.len true (oO 33)),oG 35 31 false (.bin .gtr 3 (oO 34) (oN 200)),oH 36 31 35] [3,4,5,36] (oI 36 (oX [o9 6 true] [6] .ret))) (oK [3,4,5] (oS (oQ [oF 37 0 5,o5 38 3 37,oC 39 79 [oO 38],o5 40 10 4,oT 41 (.call (.func 65) [oO 40]),oT 42 (.call (.func 80) [oO 41]),oT 7 (.mv (oO 39)),oT 8 (.mv (oO 42))]) (oK [3,4,5,7,8] (oX [oF 44 3 5,oL 45 44,oC 46 81 [oO 45],oM 43 46,o8 47 43 0,o8 48 43 1,oA 9 (.alloc o3),oW 3 9 47,oM 10 48] [3,4,5,7,8,9,10] (oX [oF 50 3 5,oL 51 50,oC 52 82 [oO 51],oM 49 52,o8 53 49 0,o8 54 49 1,oA 11 (.alloc oZ),oW 10 11 53,oM 12 54] [3,4,5,7,8,9,10,11,12] (oX [oF 56 3 5,oL 57 56,oC 58 83 [oO 57],oM 55 58,o8 59 55 0,o8 60 55 1,oA 13 (.alloc o3),oW 3 13 59,oM 14 60] [3,4,5,7,8,9,10,11,12,13,14] (oX [oF 62 3 5,oL 63 62,oC 64 84 [oO 63],oM 61 64,o8 65 61 0,o8 66 61 1,oA 15 (.alloc oZ),oW 10 15 65,oM 16 66] [3,4,5,7,8,9,10,11,12,13,14,15,16] (oS (oX [oM 67 7,oF 68 0 5,o5 69 3 68,oC 70 85 [oO 69],oB 71 .neq 9 67 (oO 70),oM 72 71,oD 73 72 false 8,oG 74 72 false (.load true 10 (oO 4)),oG 75 72 false (.call (.func 86) [oO 74]),oG 76 72 false (.bin .neq 9 (oO 73) (oO 75)),oH 77 72 76,oM 78 77,oD 79 78 false 10,oD 80 78 false 14,oG 81 78 false (.bin .neq 3 (oO 79) (oO 80)),oH 82 78 81,oM 83 82,oG 84 83 false (.load true 3 (oO 9)),oG 85 83 false (.load true 3 (oO 13)),oG 86 83 false (.ext (.eqs true [0,0,0]) [oO 84,oO 85]),oH 87 83 86,oM 88 87,oD 89 88 false 12,oD 90 88 false 16,oG 91 88 false (.bin .neq 3 (oO 89) (oO 90)),oH 92 88 91,oM 93 92,oG 94 93 false (.load true 10 (oO 11)),oG 95 93 false (.load true 10 (oO 15)),oG 96 93 false (.call (.func 41) [oO 94,oO 95]),oG 97 93 false (.un .not (oO 96)),oH 98 93 97] [3,4,5,7,8,98] (oI 98 (oX [o9 6 false] [6] .ret))) (oK [3,4,5,7,8] (oS (oX [o5 99 3 3,oC 100 46 [oO 99],oB 101 .neq 3 100 (oN 0)] [3,4,5,7,8,101] (oI 101 (oX [o9 6 true] [6] .ret))) (oK [3,4,5,7,8] (oS (oX [o5 102 3 3,oF 103 0 5,o5 104 3 103,oC 105 68 [oO 102,oO 104],oB 106 .eql 3 105 (oN 0)] [3,4,5,7,8,106] (oI 106 (oX [oM 108 7,oC 109 81 [oO 108],oM 107 109,o8 110 107 0,o8 111 107 1,oA 17 (.alloc o3),oW 3 17 110,oM 18 111] [3,4,5,8,17,18] (oX [oM 112 18,oB 113 .neq 27 112 (oN 0),oM 114 113,oG 115 114 false (.load true 3 (oO 17)),oE 116 114 false 0 5,oG 117 114 false (.load true 3 (oO 116)),oG 118 114 false (.ext (.eqs true [0,0,0]) [oO 115,oO 117]),oH 119 114 118] [3,4,8,119] (oI 119 (oX [o9 6 false] [6] .ret)))))) (oK [3,4,8] (oS (oX [o5 120 3 3,o5 121 10 4,oC 122 67 [oO 120,oO 121],oB 123 .eql 3 122 (oN 0)] [4,8,123] (oI 123 (oX [oM 125 8,oC 126 82 [oO 125],oM 124 126,o8 127 124 0,o8 128 124 1,oA 19 (.alloc oZ),oW 10 19 127,oM 20 128] [4,19,20] (oX [oM 129 20,oB 130 .neq 27 129 (oN 0),oM 131 130,oG 132 131 false (.load true 10 (oO 19)),oG 133 131 false (.load true 10 (oO 4)),oG 134 131 false (.call (.func 41) [oO 132,oO 133]),oG 135 131 false (.un .not (oO 134)),oH 136 131 135] [136] (oI 136 (oX [o9 6 false] [6] .ret)))))) (oK [] (oX [o9 6 true] [6] .ret)))))))))))))))))))
def AB : List RV:=[.tmp 6]
theorem AI : FnIs Tryz.prog 17 137 c17 AB:=⟨⟨Tryz.f17,_,Tryz.func17,by kernel_rfl,rfl,rfl,by kernel_rfl,by kernel_rfl⟩,by decide⟩
def c20l1 : AC:=oS (oX [oM 47 8,oM 48 2,o4 49 48,oB 50 .lss 3 47 (oO 49)] [1,2,3,7,8,50] (.cond (oO 50) .skip (.exit 0))) (oK [1,2,3,7,8] (oS (.block 1 (oX [oM 54 2,oM 55 8,oA 56 (.iaddr 3 o3 (oO 54) (oO 55)),o5 57 3 56,oC 58 79 [oO 57],oC 59 81 [oO 58],oM 53 59,o8 60 53 0,o8 61 53 1,oA 9 (.alloc o3),oW 3 9 60,oM 10 61] [1,2,3,7,8,9,10] (oS (oX [oM 62 10,oB 63 .neq 27 62 (oN 0)] [1,2,3,7,8,9,63] (oI 63 (oX [o9 6 false] [6] .ret))) (oK [1,2,3,7,8,9] (oR [oM 64 7,o5 65 3 9,oA 66 (.mkSl false 83 3 o3 1 [(0,oO 65)]),oA 67 (.app 48 83 3 24 o3 (oO 64) (oO 66)),oM 7 67]))))) (oK [1,2,3,7,8] (oR [oM 51 8,oB 52 .add 3 51 (oN 1),oM 8 52]))))
def c20l2 : AC:=oS (oX [oM 134 23,oM 135 2,o4 136 135,oB 137 .lss 3 134 (oO 136)] [2,3,11,21,23,137] (.cond (oO 137) .skip (.exit 2))) (oK [2,3,11,21,23] (oS (.block 3 (oS (oQ [o5 141 3 3,oC 142 37 [oO 141],o5 143 10 21,oC 144 65 [oO 143],oM 145 2,oA 146 (.mvs (oO 23)),oA 147 (.iaddr 3 o3 (oO 145) (oO 146)),o5 148 3 147,oC 149 69 [oO 142,oO 144,oO 148],oM 140 149,o8 150 140 0,o8 151 140 1,oA 24 (.alloc oZ),oW 10 24 150,oT 25 (.mv (oO 151))]) (oK [2,3,11,21,23,24,25] (oS (oX [oM 152 25,oB 153 .neq 27 152 (oN 0)] [2,3,11,21,23,24,153] (oI 153 (oX [o9 6 false] [6] .ret))) (oK [2,3,11,21,23,24] (oR [o5 154 10 24,oW 10 21 154])))))) (oK [2,3,11,21,23] (oR [oM 138 23,oB 139 .add 3 138 (oN 1),oM 23 139]))))
def c20 : AC:=oX [o7 3 0,o9 6 false] [1,2,3] (oS (oX [oC 30 87 [],oA 31 (.un .not (oO 30))] [1,2,3,31] (oI 31 (oX [o9 6 false] [6] .ret))) (oK [1,2,3] (oS (oX [o5 32 3 3,oC 33 34 [oO 32],oA 34 (.un .not (oO 33)),oM 35 34,oD 36 35 false 2,oG 37 35 false (.len false (oO 36)),oG 38 35 false (.bin .gtr 3 (oO 37) (oN 30)),oH 39 35 38,oM 40 39,oG 41 40 false (.load true 3 (oO 3)),oD 42 40 false 1,oD 43 40 false 2,oG 44 40 false (.call (.func 53) [oO 41,oO 42,oO 43]),oG 45 40 false (.bin .neq 3 (oO 44) (oN 0)),oH 46 40 45] [1,2,3,46] (oI 46 (oX [o9 6 true] [6] .ret))) (oK [1,2,3] (oX [oA 7 (.mv (.const (.slice none 0 0)))] [1,2,3,7] (.nilrow 7 3 83 (oS (oX [oV 8 0] [1,2,3,7,8] (.block 0 (.loop c20l1))) (oK [1,2,3,7] (.fz [7] (oX [o5 69 3 3,oC 70 37 [oO 69],oM 71 1,oM 72 2,oC 73 38 [oO 72],oC 74 36 [oO 70,oO 71,oO 73],oM 68 74,o8 75 68 0,o8 76 68 1,o8 77 68 2,oA 11 (.alloc oZ),oW 10 11 75,oM 12 76,oM 13 77] [1,2,3,7,11,13] (oX [o5 79 3 3,oC 80 37 [oO 79],oM 81 1,oM 82 7,oC 83 36 [oO 80,oO 81,oO 82],oM 78 83,o8 84 78 0,o8 85 78 1,o8 86 78 2,oA 14 (.alloc oZ),oW 10 14 84,oM 15 85,oM 16 86] [1,2,3,11,13,14,16] (oX [oM 87 2,o4 88 87,oB 89 .quo 3 88 (oN 2),oM 17 89] [1,2,3,11,13,14,16,17] (oS (oQ [o5 91 3 3,oC 92 37 [oO 91],oA 93 (.mvs (oO 1)),oM 94 2,oA 95 (.mvs (oO 17)),oA 96 (.ssl 3 (oO 94) none (some (oO 95)) none),oC 97 38 [oO 96],oC 98 36 [oO 92,oO 93,oO 97],oM 90 98,o8 99 90 0,o8 100 90 1,o8 101 90 2,oA 18 (.alloc oZ),oW 10 18 99,oM 19 100,oT 20 (.mv (oO 101))]) (oK [2,3,11,13,14,16,17,18,20] (oS (oX [oM 102 13,oB 103 .neq 27 102 (oN 0),oM 104 103,oD 105 104 false 16,oG 106 104 false (.bin .neq 27 (oO 105) (oN 0)),oH 107 104 106,oM 108 107,oD 109 108 false 20,oG 110 108 false (.bin .neq 27 (oO 109) (oN 0)),oH 111 108 110,oM 112 111,oG 113 112 false (.load true 10 (oO 11)),oG 114 112 false (.load true 10 (oO 14)),oG 115 112 false (.call (.func 41) [oO 113,oO 114]),oG 116 112 false (.un .not (oO 115)),oH 117 112 116] [2,3,11,17,18,117] (oI 117 (oX [o9 6 false] [6] .ret))) (oK [2,3,11,17,18] (oX [o5 119 10 18,oC 120 65 [oO 119],oC 121 80 [oO 120],oC 122 82 [oO 121],oM 118 122,o8 123 118 0,o8 124 118 1,oA 21 (.alloc oZ),oW 10 21 123,oM 22 124] [2,3,11,17,18,21,22] (oS (oX [oM 125 22,oB 126 .neq 27 125 (oN 0),oM 127 126,oG 128 127 false (.load true 10 (oO 21)),oG 129 127 false (.load true 10 (oO 18)),oG 130 127 false (.call (.func 41) [oO 128,oO 129]),oG 131 127 false (.un .not (oO 130)),oH 132 127 131] [2,3,11,17,21,132] (oI 132 (oX [o9 6 false] [6] .ret))) (oK [2,3,11,17,21] (oS (oX [oM 133 17,oM 23 133] [2,3,11,21,23] (.block 2 (.loop c20l2))) (oK [3,11,21] (oS (oQ [o5 156 3 3,oC 157 37 [oO 156],o5 158 10 21,oC 159 65 [oO 158],oF 160 0 21,oL 161 160,oT 162 (.call (.func 76) [oO 157,oO 159,oO 161]),oT 155 (.mv (oO 162)),o8 163 155 0,o8 164 155 1,oM 26 163,oT 27 (.mv (oO 164))]) (oK [3,11,21,26,27] (oS (oQ [o5 166 3 3,oC 167 37 [oO 166],o5 168 10 11,oC 169 65 [oO 168],oF 170 0 11,oL 171 170,oT 172 (.call (.func 76) [oO 167,oO 169,oO 171]),oT 165 (.mv (oO 172)),o8 173 165 0,o8 174 165 1,oM 28 173,oT 29 (.mv (oO 174))]) (oK [11,21,26,27,28,29] (oX [o5 175 10 21,o5 176 10 11,oC 177 41 [oO 175,oO 176],oM 178 177,oD 179 178 true 27,oG 180 178 true (.bin .eql 27 (oO 179) (oN 0)),oP 181 178 180,oM 182 181,oD 183 182 true 29,oG 184 182 true (.bin .eql 27 (oO 183) (oN 0)),oP 185 182 184,oM 186 185,oD 187 186 true 26,oD 188 186 true 28,oG 189 186 true (.call (.func 77) [oO 187,oO 188]),oP 190 186 189,oM 191 190,oD 192 191 true 26,oG 193 191 true (.len false (oO 192)),oG 194 191 true (.bin .gtr 3 (oO 193) (oN 0)),oP 195 191 194,oM 6 195] [6] .ret))))))))))))))))))))))))))
def c24 : AC:=oX [oA 2 (.mv (.const (.slice none 0 0)))] [0] (oX [oA 3 (.mkSl true 3 1 o1 0 []),oM 4 0,oA 5 (.app 24 3 1 8 o1 (oO 3) (oO 4)),oM 2 5] [2] .ret)
def rv24 : List RV:=[.tmp 2]
theorem is24 : FnIs Tryz.prog 24 6 c24 rv24:=⟨⟨Tryz.f24,_,Tryz.func24,by kernel_rfl,rfl,rfl,by kernel_rfl,by kernel_rfl⟩,by decide⟩
def c37 : AC:=oX [o7 1 0,oA 2 (.alloc [.slice none 0 0,.slice none 0 0,.int .i64 0])] [1,2] (oS (oQ [oF 3 0 1,oL 4 3,oC 5 98 [oO 4],oA 6 (.mkSl true 40 2 o2 0 []),oF 7 1 1,oL 8 7,oA 9 (.app 45 40 2 16 o2 (oO 6) (oO 8)),oF 10 2 1,oL 11 10,oT 12 (.build [.slice none 0 0,.slice none 0 0,.int .i64 0] [(0,1,oO 5),(1,1,oO 9),(2,1,oO 11)]),⟨none,none,.store false 3 (oO 2) (oO 12),true⟩]) (oK [2] .ret))
def c53 : AC:=oX [o7 3 0,oV 6 0] [1,2,3] (oS (oX [o5 11 3 3,oM 12 1,oC 13 40 [oO 11,oO 12],oM 7 13] [1,2,3,7] (oX [oM 14 7,oB 15 .neq 3 14 (oN 0)] [1,2,3,7,15] (oI 15 (oX [oM 16 7,oM 6 16] [6] .ret)))) (oK [1,2,3] (oX [o5 18 3 3,oM 19 1,oM 20 2,oC 21 42 [oO 18,oO 19,oO 20],oM 17 21,o8 22 17 0,o8 23 17 1,o8 24 17 2,oA 8 (.alloc oZ),oW 10 8 22,oM 9 23,oM 10 24] [10] (oX [oM 25 10,oM 6 25] [6] .ret))))
def BP : AC:=oS (oX [oM 8 3,oF 9 9 1,oL 10 9,o4 11 10,oB 12 .lss 3 8 (oO 11)] [1,3,12] (.cond (oO 12) .skip (.exit 0))) (oK [1,3] (oS (.block 1 (oX [oF 15 9 1,oL 16 15,oM 17 3,oA 18 (.iaddr 1 o0 (oO 16) (oO 17)),oL 19 18,o4 20 19,oB 21 .gtr 3 20 (oN 64)] [1,3,21] (oI 21 (oX [o9 2 false] [2] .ret)))) (oK [1,3] (oR [oM 13 3,oB 14 .add 3 13 (oN 1),oM 3 14]))))
def c63 : AC:=oX [o7 1 0,o9 2 false] [1] (oS (oX [oF 4 9 1,oL 5 4,o4 6 5,oB 7 .gtr 3 6 (oN 8)] [1,7] (oI 7 (oX [o9 2 false] [2] .ret))) (oK [1] (oS (oX [oV 3 0] [1,3] (.block 0 (.loop BP))) (oK [] (oX [o9 2 true] [2] .ret)))))
def rv63 : List RV:=[.tmp 2]
theorem is63 : FnIs Tryz.prog 63 22 c63 rv63:=⟨⟨Tryz.f63,_,Tryz.func63,by kernel_rfl,rfl,rfl,by kernel_rfl,by kernel_rfl⟩,by decide⟩
def c65 : AC:=oX [o7 1 0,oA 2 (.alloc oZ)] [1,2] (oX [oF 3 9 1,oL 4 3,oC 5 60 [oO 4],oF 6 9 1,oW 1 6 5] [1,2] (oX [o5 7 10 1,oW 10 2 7] [2] .ret))
def rv65 : List RV:=[.cell 2 true 10]
theorem is65 : FnIs Tryz.prog 65 8 c65 rv65:=⟨⟨Tryz.f65,_,Tryz.func65,by kernel_rfl,rfl,rfl,by kernel_rfl,by kernel_rfl⟩,by decide⟩
def c68 : AC:=oX [o7 2 0,o7 3 1,oV 4 0] [2,3] (oS (oX [oF 5 0 3,oL 6 5,oC 7 31 [oO 6,oN 0,oN 11],oA 8 (.un .not (oO 7))] [2,3,8] (oI 8 (oX [oV 4 15] [4] .ret))) (oK [2,3] (oS (oX [oF 9 1 3,oL 10 9,oC 11 31 [oO 10,oN 0,oN 1000000000],oA 12 (.un .not (oO 11))] [2,3,12] (oI 12 (oX [oV 4 2] [4] .ret))) (oK [2,3] (oS (oX [oF 13 0 3,oL 14 13,oB 15 .eql 3 14 (oN 3),oM 16 15,oE 17 16 false 0 3,oJ 18 16 false 17,oG 19 16 false (.bin .eql 3 (oO 18) (oN 10)),oH 20 16 19] [2,3,20] (oI 20 (oS (oX [o5 21 3 2,oF 22 2 3,oL 23 22,oC 24 99 [oO 21,oO 23],oA 25 (.un .not (oO 24))] [25] (oI 25 (oX [oV 4 6] [4] .ret))) (oK [] (oX [oV 4 0] [4] .ret))))) (oK [3] (oS (oX [oF 26 2 3,oL 27 26,oB 28 .neq 3 27 (oN 0)] [28] (oI 28 (oX [oV 4 3] [4] .ret))) (oK [] (oX [oV 4 0] [4] .ret)))))))))
def AD : List RV:=[.tmp 4]
theorem is68 : FnIs Tryz.prog 68 29 c68 AD:=⟨⟨Tryz.f68,_,Tryz.func68,by kernel_rfl,rfl,rfl,by kernel_rfl,by kernel_rfl⟩,by decide⟩
def c75l1 : AC:=oS (oX [oM 6 5,oM 7 0,o4 8 7,oB 9 .lss 3 6 (oO 8)] [0,1,5,9] (.cond (oO 9) .skip (.exit 0))) (oK [0,1,5] (oS (.block 1 (oX [oM 12 0,oM 13 5,oA 14 (.iaddr 1 o1 (oO 12) (oO 13)),oL 15 14,oM 16 1,oB 17 .eql 3 15 (oO 16)] [0,1,5,17] (oI 17 (oX [o9 4 true] [4] .ret)))) (oK [0,1,5] (oR [oM 10 5,oB 11 .add 3 10 (oN 1),oM 5 11]))))
def c75 : AC:=oX [o9 4 false] [0,1] (oS (oX [oV 5 0] [0,1,5] (.block 0 (.loop c75l1))) (oK [] (oX [o9 4 false] [4] .ret)))
def rv75 : List RV:=[.tmp 4]
theorem is75 : FnIs Tryz.prog 75 18 c75 rv75:=⟨⟨Tryz.f75,_,Tryz.func75,by kernel_rfl,rfl,rfl,by kernel_rfl,by kernel_rfl⟩,by decide⟩
def c76l1 : AC:=oX [oB 45 .lss 3 44 (oO 43)] [2,3,4,9,10,33,34,43,44,45] (oS (.cond (oO 45) .skip (.exit 2)) (oK [2,3,4,9,10,33,34,43,44] (oS (.block 3 (oX [oM 46 44,oM 13 46] [2,3,4,9,10,13,33,34,43,44] (oX [oM 47 10,oM 48 2,oM 49 13,oA 50 (.build o3 [(0,1,oO 47),(1,1,oO 48),(2,1,oO 49)]),oA 14 (.alloc o3),oW 3 14 50] [2,3,4,9,10,14,33,34,43,44] (oX [o5 52 3 3,o5 53 10 4,o5 54 3 14,oC 55 69 [oO 52,oO 53,oO 54],oM 51 55,o8 56 51 0,o8 57 51 1,oA 15 (.alloc oZ),oW 10 15 56,oM 16 57] [2,3,4,9,10,14,16,33,34,43,44] (oX [oM 58 16,oB 59 .eql 27 58 (oN 0)] [2,3,4,9,10,14,33,34,43,44,59] (oI 59 (oR [oM 60 9,o5 61 3 14,oA 62 (.mkSl false 83 3 o3 1 [(0,oO 61)]),oA 63 (.app 48 83 3 24 o3 (oO 60) (oO 62)),oM 9 63]))))))) (oK [2,3,4,9,10,33,34,43,44] (oR [oB 64 .add 3 44 (oN 1),oM 44 64])))))
def c76l2 : AC:=oX [oB 35 .lss 3 34 (oN 12)] [2,3,4,9,33,34,35] (oS (.cond (oO 35) .skip (.exit 0)) (oK [2,3,4,9,33,34] (oS (.block 1 (oX [oM 36 34,oA 37 (.opq (.index 170 (oO 33) (oO 34)) 169),⟨some 11,none,.alloc [.string ⟨#[]⟩,.bool false,.nilFunc],false⟩,oM 10 36,oW 3 11 37] [2,3,4,9,10,11,33,34] (oX [oV 12 1] [2,3,4,9,10,11,12,33,34] (oS (oX [oF 38 1 11,oL 39 38] [2,3,4,9,10,12,33,34,39] (oI 39 (oR [oF 40 0 3,oL 41 40,o4 42 41,oM 12 42]))) (oK [2,3,4,9,10,12,33,34] (oX [oM 43 12,oV 44 0] [2,3,4,9,10,33,34,43,44] (.block 2 (.loop c76l1)))))))) (oK [2,3,4,9,33,34] (oR [oB 65 .add 3 34 (oN 1),oM 34 65])))))
def c76 : AC:=oX [o7 3 0,o7 4 1,oA 6 (.mv (.const (.slice none 0 0))),oV 7 0] [2,3,4] (oS (oS (oQ [o5 17 3 3,o5 18 10 4,oC 19 64 [oO 17,oO 18],oA 20 (.mvs (oO 2)),oC 21 102 [oO 20],oC 22 95 [oO 21,oN 2],oA 23 (.mvs (oO 2)),oF 24 0 4,oL 25 24,oB 26 .geq 3 23 (oO 25),oT 27 (.call (.func 95) [oO 26,oN 9]),oT 28 (.mkSl false 27 1 o1 3 [(0,oO 19),(1,oO 22),(2,oO 27)]),oT 29 (.call (.func 91) [oO 28]),oT 8 (.mv (oO 29))]) (oK [2,3,4,8] (oX [oM 30 8,oB 31 .neq 27 30 (oN 0)] [2,3,4,8,31] (oI 31 (oX [oM 32 8,oA 6 (.mv (.const (.slice none 0 0))),oM 7 32] [6,7] .ret))))) (oK [2,3,4] (oX [oA 9 (.mv (.const (.slice none 0 0)))] [2,3,4,9] (.nilrow 9 3 83 (oS (oX [oA 33 (.load true 36 (.global 0)),oV 34 0] [2,3,4,9,33,34] (.block 0 (.loop c76l2))) (oK [9] (.fz [9] (oX [oM 66 9,oM 6 66,oV 7 0] [6,7] .ret))))))))
def c80l1 : AC:=oX [oB 31 .lss 3 30 (oO 29)] [3,28,29,30,31] (oS (.cond (oO 31) .skip (.exit 0)) (oK [3,28,29,30] (oS (.block 1 (oX [oA 32 (.iaddr 1 o0 (oO 28) (oO 30)),oL 33 32,oM 5 33] [3,5,28,29,30] (oR [oM 34 3,oM 35 5,oC 36 122 [oO 35],⟨some 37,none,.mkSl false 9 1 [.string ⟨#[]⟩] 1 [(0,oO 36)],false⟩,⟨some 38,none,.app 44 9 1 16 [.string ⟨#[]⟩] (oO 34) (oO 37),false⟩,oM 3 38]))) (oK [3,28,29,30] (oR [oB 39 .add 3 30 (oN 1),oM 30 39])))))
def c80 : AC:=oX [o7 1 0,⟨some 2,none,.mv (.const (.string ⟨#[]⟩)),false⟩] [1] (oX [oF 6 0 1,oL 7 6,oF 8 1 1,oL 9 8,oF 10 2 1,oL 11 10,oF 12 3 1,oL 13 12,oF 14 4 1,oL 15 14,oF 16 5 1,oL 17 16,oF 18 6 1,oL 19 18,oF 20 7 1,oL 21 20,oF 22 8 1,oL 23 22,oA 24 (.mkSl false 3 1 o1 9 [(0,oO 7),(1,oO 9),(2,oO 11),(3,oO 13),(4,oO 15),(5,oO 17),(6,oO 19),(7,oO 21),(8,oO 23)]),oC 25 122 [oO 24],⟨some 26,none,.mkSl false 9 1 [.string ⟨#[]⟩] 1 [(0,oO 25)],false⟩,oM 3 26] [1,3] (oS (oX [oF 27 9 1,oL 28 27,o4 29 28,oV 30 0] [3,28,29,30] (.block 0 (.loop c80l1))) (oK [3] (.fz [3] (oX [oM 40 3,⟨some 41,none,.call (.func 123) [oO 40,(.const (.string ⟨#[124]⟩))],false⟩,oM 2 41] [2] .ret)))))
def c82l1 : AC:=oX [oB 49 .lss 3 48 (oN 9)] [2,4,5,7,47,48,49] (oS (.cond (oO 49) .skip (.exit 0)) (oK [2,4,5,7,47,48] (oS (.block 1 (oX [oM 50 48,oA 51 (.opq (.index 182 (oO 47) (oO 48)) 181),oM 9 50,oM 10 51] [2,4,5,7,9,10,47,48] (oR [oM 52 10,oM 53 7,oM 54 9,oA 55 (.iaddr 1 o1 (oO 53) (oO 54)),oL 56 55,o6 57 52,oW 1 57 56]))) (oK [2,4,5,7,47,48] (oR [oB 58 .add 3 48 (oN 1),oM 48 58])))))
def Bk : AC:=oX [oB 63 .lss 3 62 (oO 61)] [2,5,60,61,62,63] (oS (.cond (oO 63) .skip (.exit 2)) (oK [2,5,60,61,62] (oS (.block 3 (oX [⟨some 64,none,.iaddr 1 [.string ⟨#[]⟩] (oO 60) (oO 62),false⟩,oL 65 64,oM 12 65] [2,5,12,60,61,62] (oX [oM 67 12,oC 68 127 [oO 67],oM 66 68,o8 69 66 0,o8 70 66 1,oM 13 69,oM 14 70] [2,5,13,14,60,61,62] (oS (oX [oM 71 14,oA 72 (.un .not (oO 71))] [2,5,13,60,61,62,72] (oI 72 (oX [oA 73 (.build oZ []),oW 10 2 73,oV 3 7] [2,3] .ret))) (oK [2,5,13,60,61,62] (oR [oF 74 9 5,oL 75 74,oM 76 13,oA 77 (.mkSl false 24 1 o0 1 [(0,oO 76)]),oA 78 (.app 51 24 1 24 o0 (oO 75) (oO 77)),oF 79 9 5,oY true 1 (oO 79) (oO 78)])))))) (oK [2,5,60,61,62] (oR [oB 80 .add 3 62 (oN 1),oM 62 80])))))
def c82 : AC:=oX [oA 2 (.alloc oZ),oV 3 0] [0,2] (oX [oM 15 0,⟨some 16,none,.call (.func 128) [oO 15,(.const (.string ⟨#[124]⟩))],false⟩,oM 4 16] [2,4] (oX [oA 5 (.alloc oZ)] [2,4,5] (oX [oF 17 0 5,oF 18 1 5,oF 19 2 5,oF 20 3 5,oF 21 4 5,oF 22 5 5,oF 23 6 5,oF 24 7 5,oF 25 8 5,oA 26 (.build [.pointer none,.pointer none,.pointer none,.pointer none,.pointer none,.pointer none,.pointer none,.pointer none,.pointer none] [(0,1,oO 17),(1,1,oO 18),(2,1,oO 19),(3,1,oO 20),(4,1,oO 21),(5,1,oO 22),(6,1,oO 23),(7,1,oO 24),(8,1,oO 25)]),oA 6 (.alloc [.pointer none,.pointer none,.pointer none,.pointer none,.pointer none,.pointer none,.pointer none,.pointer none,.pointer none]),oW 9 6 26] [2,4,5,6] (oX [oM 28 4,⟨some 29,none,.iaddr 1 [.string ⟨#[]⟩] (oO 28) (oN 0),false⟩,oL 30 29,oC 31 127 [oO 30],oM 27 31,o8 32 27 0,o8 33 27 1,oM 7 32,oM 8 33] [2,4,5,6,7,8] (oS (oX [oM 34 8,oA 35 (.un .not (oO 34)),oM 36 35,oD 37 36 false 7,oG 38 36 false (.len false (oO 37)),oG 39 36 false (.bin .neq 3 (oO 38) (oN 9)),oH 40 36 39,oM 41 40,oD 42 41 false 4,oG 43 41 false (.len false (oO 42)),oG 44 41 false (.bin .lss 3 (oO 43) (oN 2)),oH 45 41 44] [2,4,5,6,7,45] (oI 45 (oX [oA 46 (.build oZ []),oW 10 2 46,oV 3 7] [2,3] .ret))) (oK [2,4,5,6,7] (oS (oX [o5 47 9 6,oV 48 0] [2,4,5,7,47,48] (.block 0 (.loop c82l1))) (oK [2,4,5] (oS (oX [oM 59 4,oA 60 (.ssl 1 (oO 59) (some (oN 1)) none none),o4 61 60,oV 62 0] [2,5,60,61,62] (.block 2 (.loop Bk))) (oK [2,5] (oX [o5 81 10 5,oW 10 2 81,oV 3 0] [2,3] .ret)))))))))))
def Af : List RV:=[.cell 2 true 10,.tmp 3]
theorem is82 : FnIs Tryz.prog 82 82 c82 Af:=⟨⟨Tryz.f82,_,Tryz.func82,by kernel_rfl,rfl,rfl,by kernel_rfl,by kernel_rfl⟩,by decide⟩
def c85 : AC:=oX [o7 1 0,⟨some 2,none,.mv (.const (.string ⟨#[]⟩)),false⟩] [1] (oS (oX [oF 4 0 1,oL 5 4,oC 6 31 [oO 5,oN 0,oN 11],oA 7 (.un .not (oO 6))] [1,7] (oI 7 (oX [⟨some 2,none,.mv (.const (.string ⟨#[]⟩)),false⟩] [2] .ret))) (oK [1] (oS (oQ [oC 8 130 [],oF 9 0 1,oL 10 9,⟨some 11,none,.iaddr 1 [.string ⟨#[]⟩] (oO 8) (oO 10),false⟩,oL 12 11,⟨some 13,none,.bin .add 9 (oO 12) (.const (.string ⟨#[32]⟩)),false⟩,oF 14 1 1,oL 15 14,oC 16 134 [oO 15],oT 17 (.bin .add 9 (oO 13) (oO 16)),oT 3 (.mv (oO 17))]) (oK [1,3] (oS (oX [oF 18 0 1,oL 19 18,oC 20 131 [oO 19]] [1,3,20] (oI 20 (oR [oM 21 3,⟨some 22,none,.bin .add 9 (oO 21) (.const (.string ⟨#[32]⟩)),false⟩,oF 23 2 1,oL 24 23,oC 25 134 [oO 24],oB 26 .add 9 22 (oO 25),oM 3 26]))) (oK [3] (oX [oM 27 3,oM 2 27] [2] .ret)))))))
def rv85 : List RV:=[.tmp 2]
theorem is85 : FnIs Tryz.prog 85 28 c85 rv85:=⟨⟨Tryz.f85,_,Tryz.func85,by kernel_rfl,rfl,rfl,by kernel_rfl,by kernel_rfl⟩,by decide⟩
def c86l1 : AC:=oS (oX [oM 25 4,oF 26 9 1,oL 27 26,o4 28 27,oB 29 .lss 3 25 (oO 28)] [1,3,4,29] (.cond (oO 29) .skip (.exit 0))) (oK [1,3,4] (oS (.block 1 (oR [oM 32 3,⟨some 33,none,.bin .add 9 (oO 32) (.const (.string ⟨#[124]⟩)),false⟩,oF 34 9 1,oL 35 34,oM 36 4,oA 37 (.iaddr 1 o0 (oO 35) (oO 36)),oL 38 37,oC 39 135 [oO 38],oB 40 .add 9 33 (oO 39),oM 3 40])) (oK [1,3,4] (oR [oM 30 4,oB 31 .add 3 30 (oN 1),oM 4 31]))))
def c86 : AC:=oX [o7 1 0,⟨some 2,none,.mv (.const (.string ⟨#[]⟩)),false⟩] [1] (oX [oF 5 0 1,oL 6 5,oF 7 1 1,oL 8 7,oF 9 2 1,oL 10 9,oF 11 3 1,oL 12 11,oF 13 4 1,oL 14 13,oF 15 5 1,oL 16 15,oF 17 6 1,oL 18 17,oF 19 7 1,oL 20 19,oF 21 8 1,oL 22 21,oA 23 (.mkSl false 3 1 o1 9 [(0,oO 6),(1,oO 8),(2,oO 10),(3,oO 12),(4,oO 14),(5,oO 16),(6,oO 18),(7,oO 20),(8,oO 22)]),oC 24 135 [oO 23],oM 3 24] [1,3] (oS (oX [oV 4 0] [1,3,4] (.block 0 (.loop c86l1))) (oK [3] (oX [oM 41 3,oM 2 41] [2] .ret))))
def rv86 : List RV:=[.tmp 2]
theorem is86 : FnIs Tryz.prog 86 42 c86 rv86:=⟨⟨Tryz.f86,_,Tryz.func86,by kernel_rfl,rfl,rfl,by kernel_rfl,by kernel_rfl⟩,by decide⟩
def c112 : AC:=oX [o7 1 0,o9 2 false] [1] (oX [oF 3 1 1,oL 4 3,oB 5 .eql 3 4 (oN 2),oM 6 5,oE 7 6 false 1 1,oJ 8 6 false 7,oG 9 6 false (.bin .eql 3 (oO 8) (oN 3)),oH 10 6 9,oM 2 10] [2] .ret)
def rv112 : List RV:=[.tmp 2]
theorem is112 : FnIs Tryz.prog 112 11 c112 rv112:=⟨⟨Tryz.f112,_,Tryz.func112,by kernel_rfl,rfl,rfl,by kernel_rfl,by kernel_rfl⟩,by decide⟩
def BY : AC:=oS (oX [oM 8 7,oF 9 1 3,oL 10 9,o4 11 10,oB 12 .lss 3 8 (oO 11)] [1,2,3,7,12] (.cond (oO 12) .skip (.exit 0))) (oK [1,2,3,7] (oS (.block 1 (oX [oF 15 1 3,oL 16 15,oM 17 7,oA 18 (.iaddr 2 o2 (oO 16) (oO 17)),o5 19 2 18,oM 20 1,oM 21 2,oA 22 (.ext (.mx false) [oO 20,oO 21]),oM 23 1,oM 24 2,oA 25 (.ext (.mx true) [oO 23,oO 24]),oA 26 (.build o2 [(0,1,oO 22),(1,1,oO 25)]),oA 27 (.ext (.eqs false [0,0]) [oO 19,oO 26])] [1,2,3,7,27] (oI 27 (oX [o9 6 true] [6] .ret)))) (oK [1,2,3,7] (oR [oM 13 7,oB 14 .add 3 13 (oN 1),oM 7 14]))))
def c115 : AC:=oX [o7 3 0,o9 6 false] [1,2,3] (oS (oX [oV 7 0] [1,2,3,7] (.block 0 (.loop BY))) (oK [] (oX [o9 6 false] [6] .ret)))
def BQ : List RV:=[.tmp 6]
theorem is115 : FnIs Tryz.prog 115 28 c115 BQ:=⟨⟨Tryz.f115,_,Tryz.func115,by kernel_rfl,rfl,rfl,by kernel_rfl,by kernel_rfl⟩,by decide⟩
def BZ : AC:=oS (oX [oM 5 4,oF 6 9 1,oL 7 6,o4 8 7,oB 9 .lss 3 5 (oO 8)] [1,3,4,9] (.cond (oO 9) .skip (.exit 0))) (oK [1,3,4] (oS (.block 1 (oR [oM 12 3,oF 13 9 1,oL 14 13,oM 15 4,oA 16 (.iaddr 1 o0 (oO 14) (oO 15)),oL 17 16,o4 18 17,oB 19 .add 3 12 (oO 18),oM 3 19])) (oK [1,3,4] (oR [oM 10 4,oB 11 .add 3 10 (oN 1),oM 4 11]))))
def c116 : AC:=oX [o7 1 0,oV 2 0] [1] (oX [oV 3 0] [1,3] (oS (oX [oV 4 0] [1,3,4] (.block 0 (.loop BZ))) (oK [3] (oX [oM 20 3,oM 2 20] [2] .ret))))
def BR : List RV:=[.tmp 2]
theorem is116 : FnIs Tryz.prog 116 21 c116 BR:=⟨⟨Tryz.f116,_,Tryz.func116,by kernel_rfl,rfl,rfl,by kernel_rfl,by kernel_rfl⟩,by decide⟩
def B0 : AC:=oS (oX [oM 8 7,oM 9 1,oB 10 .lss 3 8 (oO 9)] [1,2,3,7,10] (.cond (oO 10) .skip (.exit 0))) (oK [1,2,3,7] (oS (.block 1 (oX [oF 13 9 3,oL 14 13,oM 15 7,oA 16 (.iaddr 1 o0 (oO 14) (oO 15)),oL 17 16,oM 18 2,oC 19 75 [oO 17,oO 18]] [1,2,3,7,19] (oI 19 (oX [oM 20 7,oM 6 20] [6] .ret)))) (oK [1,2,3,7] (oR [oM 11 7,oB 12 .add 3 11 (oN 1),oM 7 12]))))
def c117 : AC:=oX [o7 3 0,oV 6 0] [1,2,3] (oS (oX [oV 7 0] [1,2,3,7] (.block 0 (.loop B0))) (oK [] (oX [oV 6 (-1)] [6] .ret)))
def BS : List RV:=[.tmp 6]
theorem is117 : FnIs Tryz.prog 117 21 c117 BS:=⟨⟨Tryz.f117,_,Tryz.func117,by kernel_rfl,rfl,rfl,by kernel_rfl,by kernel_rfl⟩,by decide⟩
def c131 : AC:=oX [o9 2 false] [0] (oX [oM 3 0,oB 4 .eql 3 3 (oN 3),oM 5 4,oD 6 5 false 0,oG 7 5 false (.bin .eql 3 (oO 6) (oN 10)),oH 8 5 7,oM 2 8] [2] .ret)
def rv131 : List RV:=[.tmp 2]
theorem is131 : FnIs Tryz.prog 131 9 c131 rv131:=⟨⟨Tryz.f131,_,Tryz.func131,by kernel_rfl,rfl,rfl,by kernel_rfl,by kernel_rfl⟩,by decide⟩
def c143 : AC:=oX [oA 2 (.mv (.const (.slice none 0 0)))] [0] (oS (oX [oM 3 0,oA 4 (.ext (.isnil false) [oO 3])] [0,4] (oI 4 (oX [oA 2 (.mv (.const (.slice none 0 0)))] [2] .ret))) (oK [0] (oX [oA 5 (.mkSl true 3 1 o1 0 []),oM 6 0,oA 7 (.app 24 3 1 8 o1 (oO 5) (oO 6)),oM 2 7] [2] .ret)))
def c145 : AC:=oX [o9 4 false] [0,1] (oX [oM 5 1,oM 6 0,o6 7 6,oF 8 10 7,oF 9 0 8,oL 10 9,o4 11 10,oB 12 .sub 3 11 (oN 1),oC 13 96 [oO 5,oN 0,oO 12],oM 4 13] [4] .ret)
def c162 : AC:=oX [oV 2 0] [0] (oX [oM 3 0,oM 4 0,oA 5 (.un .neg (oO 4)),oA 6 (.ext (.mx true) [oO 3,oO 5]),oM 2 6] [2] .ret)
def rv162 : List RV:=[.tmp 2]
theorem is162 : FnIs Tryz.prog 162 7 c162 rv162:=⟨⟨Tryz.f162,_,Tryz.func162,by kernel_rfl,rfl,rfl,by kernel_rfl,by kernel_rfl⟩,by decide⟩
def c168 : AC:=oX [o7 1 0,oA 2 (.alloc oZ)] [1,2] (oS (oX [oF 3 5 1,oL 4 3,oB 5 .neq 3 4 (oN (-1)),oM 6 5,oE 7 6 true 6 1,oJ 8 6 true 7,oE 9 6 true 3 1,oJ 10 6 true 9,oG 11 6 true (.bin .eql 3 (oO 8) (oO 10)),oP 12 6 11,oM 13 12,oE 14 13 true 9 1,oJ 15 13 true 14,oE 16 13 true 5 1,oJ 17 13 true 16,oG 18 13 true (.iaddr 1 o0 (oO 15) (oO 17)),oJ 19 13 true 18,oG 20 13 true (.len false (oO 19)),oG 21 13 true (.bin .eql 3 (oO 20) (oN 0)),oP 22 13 21] [1,2,22] (oI 22 (oR [oF 23 5 1,oY false 1 (oO 23) (oN (-1))]))) (oK [1,2] (oX [o5 24 10 1,oW 10 2 24] [2] .ret)))
end Go.Proofs.YtcbabnbiinkafaaGreatDoor
end
section
open Go Go.Am
open Go.Am.Dat (cells)
namespace Go.Proofs.YtcbabnbiinkafaaGreatDoor.D7
set_option maxRecDepth 100000
def c60l1 : AC:=oS (oX [oM 5 4,oM 6 0,o4 7 6,oB 8 .lss 3 5 (oO 7)] [0,3,4,8] (.cond (oO 8) .skip (.exit 0))) (oK [0,3,4] (oS (.block 1 (oR [oM 11 3,oM 12 0,oM 13 4,oA 14 (.iaddr 1 o0 (oO 12) (oO 13)),oL 15 14,oC 16 24 [oO 15],oA 17 (.mkSl true 24 1 o0 1 [(0,oO 16)]),oA 18 (.app 51 24 1 24 o0 (oO 11) (oO 17)),oM 3 18])) (oK [0,3,4] (oR [oM 9 4,oB 10 .add 3 9 (oN 1),oM 4 10]))))
def c60 : AC:=oX [oA 2 (.mv (.const (.slice none 0 0)))] [0] (oX [oA 3 (.mv (.const (.slice none 0 0)))] [0,3] (.nilrow 3 1 24 (.deepen 3 1 3 (oS (oX [oV 4 0] [0,3,4] (.block 0 (.loop c60l1))) (oK [3] (oX [oM 19 3,oM 2 19] [2] .ret))))))
def rv60 : List RV:=[.tmp 2]
theorem is60 : FnIs Tryz.prog 60 20 c60 rv60:=⟨⟨Tryz.f60,_,Tryz.func60,by kernel_rfl,rfl,rfl,by kernel_rfl,by kernel_rfl⟩,by decide⟩
end Go.Proofs.YtcbabnbiinkafaaGreatDoor.D7
end
section
open Go Go.Am
open Go.Am.Dat (cells)
namespace Go.Proofs.YtcbabnbiinkafaaGreatDoor.E4
set_option maxRecDepth 100000
def c67l1 : AC:=oS (oX [oM 205 10,oM 206 9,o4 207 206,oB 208 .lss 3 205 (oO 207)] [3,5,6,8,9,10,208] (.cond (oO 208) .skip (.exit 2))) (oK [3,5,6,8,9,10] (oS (.block 3 (oS (oS (oQ [oM 211 9,oA 212 (.mvs (oO 10)),oA 213 (.iaddr 1 o1 (oO 211) (oO 212)),oL 214 213,oF 215 7 3,oL 216 215,oB 217 .sub 3 216 (oN 1),oT 218 (.call (.func 31) [oO 214,oN 0,oO 217]),oT 219 (.un .not (oO 218))]) (oK [3,5,6,8,9,10,219] (oI 219 (oX [oV 4 2] [4] .ret)))) (oK [3,5,6,8,9,10] (oS (oS (oQ [oT 220 (.mv (oO 10)),oT 221 (.bin .gtr 3 (oO 220) (oN 0)),oT 222 (.mv (oO 221)),oD 223 222 true 9,oD 224 222 true 10,oG 225 222 true (.iaddr 1 o1 (oO 223) (oO 224)),oJ 226 222 true 225,oD 227 222 true 9,oD 228 222 true 10,oG 229 222 true (.bin .sub 3 (oO 228) (oN 1)),oG 230 222 true (.iaddr 1 o1 (oO 227) (oO 229)),oJ 231 222 true 230,⟨some 232,some (222,true),.bin .leq 3 (oO 226) (oO 231),true⟩,oT 233 (.pick (oO 222) (oO 232) (.const (.bool false)))]) (oK [3,5,6,8,9,10,233] (oI 233 (oX [oV 4 9] [4] .ret)))) (oK [3,5,6,8,9,10] (oS (oQ [o5 234 10 3,oA 235 (.mvs (oO 8)),oM 236 9,oM 237 10,oA 238 (.iaddr 1 o1 (oO 236) (oO 237)),oL 239 238,oT 240 (.call (.func 117) [oO 234,oO 235,oO 239]),oT 241 (.bin .geq 3 (oO 240) (oN 0))]) (oK [3,5,6,8,9,10,241] (oI 241 (oX [oV 4 26] [4] .ret))))))))) (oK [3,5,6,8,9,10] (oR [oM 209 10,oB 210 .add 3 209 (oN 1),oM 10 210]))))
def c67l2 : AC:=oS (oX [oM 193 8,oF 194 9 3,oL 195 194,o4 196 195,oB 197 .lss 3 193 (oO 196)] [3,5,6,8,197] (.cond (oO 197) .skip (.exit 0))) (oK [3,5,6,8] (oS (.block 1 (oX [oF 200 9 3,oL 201 200,oM 202 8,oA 203 (.iaddr 1 o0 (oO 201) (oO 202)),oL 204 203,oM 9 204] [3,5,6,8,9] (oX [oV 10 0] [3,5,6,8,9,10] (.block 2 (.loop c67l1))))) (oK [3,5,6,8] (oR [oM 198 8,oB 199 .add 3 198 (oN 1),oM 8 199]))))
def c67l3 : AC:=oS (oX [oM 242 11,oF 243 9 3,oL 244 243,o4 245 244,oB 246 .lss 3 242 (oO 245)] [3,5,6,11,246] (.cond (oO 246) .skip (.exit 4))) (oK [3,5,6,11] (oS (.block 5 (oX [oF 249 9 3,oL 250 249,oM 251 11,oA 252 (.iaddr 1 o0 (oO 250) (oO 251)),oL 253 252,o4 254 253,oB 255 .gtr 3 254 (oN 0),oM 256 255,oD 257 256 true 11,oE 258 256 true 3 3,oJ 259 256 true 258,oG 260 256 true (.bin .neq 3 (oO 257) (oO 259)),oP 261 256 260,oM 262 261,oD 263 262 true 6,oD 264 262 true 263,oD 265 264 true 11,oE 266 264 true 5 3,oJ 267 264 true 266,oG 268 264 true (.bin .eql 3 (oO 265) (oO 267)),oG 269 262 true (.pick (oO 264) (oO 268) (.const (.bool false))),oG 270 262 true (.un .not (oO 269)),oP 271 262 270,oM 272 271,oD 273 272 true 5,oD 274 272 true 273,oG 275 274 true (.load true 10 (oO 3)),oG 276 274 true (.call (.func 112) [oO 275]),oG 277 272 true (.pick (oO 274) (oO 276) (.const (.bool false))),oD 278 272 true 277,oD 279 278 true 11,oE 280 278 true 4 3,oJ 281 278 true 280,oG 282 278 true (.bin .eql 3 (oO 279) (oO 281)),oG 283 272 true (.pick (oO 278) (oO 282) (.const (.bool false))),oG 284 272 true (.un .not (oO 283)),oP 285 272 284] [3,5,6,11,285] (oI 285 (oX [oV 4 23] [4] .ret)))) (oK [3,5,6,11] (oR [oM 247 11,oB 248 .add 3 247 (oN 1),oM 11 248]))))
def c67l4 : AC:=oS (oX [oM 294 12,oF 295 7 3,oL 296 295,oB 297 .lss 3 294 (oO 296)] [3,12,297] (.cond (oO 297) .skip (.exit 6))) (oK [3,12] (oS (.block 7 (oX [o5 300 10 3,oF 301 9 3,oL 302 301,o4 303 302,oM 304 12,oC 305 117 [oO 300,oO 303,oO 304],oB 306 .lss 3 305 (oN 0)] [3,12,306] (oI 306 (oX [oV 4 14] [4] .ret)))) (oK [3,12] (oR [oM 298 12,oB 299 .add 3 298 (oN 1),oM 12 299]))))
def c67k5 : AC:=oS (oX [oF 286 7 3,oL 287 286,oF 288 8 3,oL 289 288,oB 290 .sub 3 287 (oO 289),oB 291 .gtr 3 290 (oN 60)] [3,291] (oI 291 (oX [oV 4 14] [4] .ret))) (oK [3] (oS (oX [oF 292 8 3,oL 293 292,oM 12 293] [3,12] (.block 6 (.loop c67l4))) (oK [] (oX [oV 4 0] [4] .ret))))
def c67k6 : AC:=oS (oX [oV 11 0] [3,5,6,11] (.block 4 (.loop c67l3))) (oK [3] (.cut c67k5))
def c67k7 : AC:=oS (oX [oV 8 0] [3,5,6,8] (.block 0 (.loop c67l2))) (oK [3,5,6] (.cut c67k6))
def c67k8 : AC:=oS (oX [o5 190 10 3,oC 191 116 [oO 190],oB 192 .gtr 3 191 (oN 60)] [3,5,6,192] (oI 192 (oX [oV 4 8] [4] .ret))) (oK [3,5,6] (.cut c67k7))
def c67k9 : AC:=oS (oX [o5 158 10 3,oC 159 112 [oO 158],oM 160 159,oE 161 160 true 2 3,oJ 162 160 true 161,oE 163 160 true 2 2,oJ 164 160 true 163,oG 165 160 true (.bin .add 3 (oO 162) (oO 164)),oE 166 160 true 0 3,oJ 167 160 true 166,oG 168 160 true (.bin .leq 3 (oO 165) (oO 167)),oP 169 160 168,oM 170 169,oD 171 170 false 6,oD 172 170 false 171,oE 173 172 true 9 3,oJ 174 172 true 173,oE 175 172 true 5 3,oJ 176 172 true 175,oG 177 172 true (.iaddr 1 o0 (oO 174) (oO 176)),oJ 178 172 true 177,oG 179 172 true (.len false (oO 178)),oG 180 172 true (.bin .eql 3 (oO 179) (oN 0)),oG 181 170 false (.pick (oO 172) (oO 180) (.const (.bool false))),oD 182 170 false 181,oE 183 182 true 6 3,oJ 184 182 true 183,oE 185 182 true 3 3,oJ 186 182 true 185,oG 187 182 true (.bin .eql 3 (oO 184) (oO 186)),oG 188 170 false (.pick (oO 182) (oO 187) (.const (.bool false))),oH 189 170 188] [3,5,6,189] (oI 189 (oX [oV 4 22] [4] .ret))) (oK [3,5,6] (.cut c67k8))
def c67k10 : AC:=oS (oX [oM 136 5,oM 137 136,oG 138 137 true (.load true 3 (oO 2)),oE 139 137 true 4 3,oJ 140 137 true 139,oE 141 137 true 3 3,oJ 142 137 true 141,oG 143 137 true (.call (.func 115) [oO 138,oO 140,oO 142]),oG 144 137 true (.un .not (oO 143)),oP 145 137 144,oM 146 145,oD 147 146 false 6,oD 148 146 false 147,oG 149 148 true (.load true 3 (oO 2)),oE 150 148 true 5 3,oJ 151 148 true 150,oE 152 148 true 3 3,oJ 153 148 true 152,oG 154 148 true (.call (.func 115) [oO 149,oO 151,oO 153]),oG 155 148 true (.un .not (oO 154)),oG 156 146 false (.pick (oO 148) (oO 155) (.const (.bool false))),oH 157 146 156] [2,3,5,6,157] (oI 157 (oX [oV 4 13] [4] .ret))) (oK [2,3,5,6] (.cut c67k9))
def c67k11 : AC:=oX [oF 88 1 3,oL 89 88,oB 90 .eql 3 89 (oN 1),oM 91 90,oE 92 91 false 1 3,oJ 93 91 false 92,oG 94 91 false (.bin .eql 3 (oO 93) (oN 2)),oH 95 91 94,oM 7 95] [2,3,5,6,7] (oS (oX [oM 96 5,oM 97 96,oE 98 97 true 1 3,oJ 99 97 true 98,oG 100 97 true (.bin .eql 3 (oO 99) (oN 0)),oP 101 97 100,oM 102 101,oD 103 102 false 5,oG 104 102 false (.un .not (oO 103)),oD 105 102 false 104,oD 106 105 true 7,oG 107 102 false (.pick (oO 105) (oO 106) (.const (.bool false))),oH 108 102 107,oM 109 108,oD 110 109 false 6,oD 111 109 false 110,oD 112 111 true 7,oD 113 111 true 112,oD 114 113 false 5,oG 115 111 true (.pick (oO 113) (.const (.bool true)) (oO 114)),oG 116 109 false (.pick (oO 111) (oO 115) (.const (.bool false))),oH 117 109 116,oM 118 117,oE 119 118 false 6 3,oJ 120 118 false 119,oE 121 118 false 3 3,oJ 122 118 false 121,oG 123 118 false (.bin .neq 3 (oO 120) (oO 122)),oD 124 118 false 123,oD 125 124 true 6,oG 126 124 true (.un .not (oO 125)),oD 127 124 true 126,oE 128 127 false 6 3,oJ 129 127 false 128,oE 130 127 false 5 3,oJ 131 127 false 130,oG 132 127 false (.bin .neq 3 (oO 129) (oO 131)),oG 133 124 true (.pick (oO 127) (.const (.bool true)) (oO 132)),oG 134 118 false (.pick (oO 124) (oO 133) (.const (.bool false))),oH 135 118 134] [2,3,5,6,135] (oI 135 (oX [oV 4 3] [4] .ret))) (oK [2,3,5,6] (.cut c67k10)))
def c67k12 : AC:=oS (oQ [oF 50 4 3,oL 51 50,oB 52 .neq 3 51 (oN (-1)),oF 53 5 3,oL 54 53,oB 55 .neq 3 54 (oN (-1)),oM 5 52,oT 6 (.mv (oO 55))]) (oK [2,3,5,6] (oS (oX [o5 56 3 2,oF 57 3 3,oL 58 57,oC 59 99 [oO 56,oO 58],oA 60 (.un .not (oO 59)),oM 61 60,oG 62 61 false (.load true 3 (oO 2)),oE 63 61 false 6 3,oJ 64 61 false 63,oG 65 61 false (.call (.func 99) [oO 62,oO 64]),oG 66 61 false (.un .not (oO 65)),oH 67 61 66,oM 68 67,oD 69 68 false 5,oD 70 68 false 69,oG 71 70 true (.load true 3 (oO 2)),oE 72 70 true 4 3,oJ 73 70 true 72,oG 74 70 true (.call (.func 99) [oO 71,oO 73]),oG 75 70 true (.un .not (oO 74)),oG 76 68 false (.pick (oO 70) (oO 75) (.const (.bool false))),oH 77 68 76,oM 78 77,oD 79 78 false 6,oD 80 78 false 79,oG 81 80 true (.load true 3 (oO 2)),oE 82 80 true 5 3,oJ 83 80 true 82,oG 84 80 true (.call (.func 99) [oO 81,oO 83]),oG 85 80 true (.un .not (oO 84)),oG 86 78 false (.pick (oO 80) (oO 85) (.const (.bool false))),oH 87 78 86] [2,3,5,6,87] (oI 87 (oX [oV 4 6] [4] .ret))) (oK [2,3,5,6] (.cut c67k11))))
def c67 : AC:=oX [o7 2 0,o7 3 1,oV 4 0] [2,3] (oS (oX [oF 13 9 3,oL 14 13,o4 15 14,oF 16 0 2,oL 17 16,o4 18 17,oB 19 .neq 3 15 (oO 18)] [2,3,19] (oI 19 (oX [oV 4 10] [4] .ret))) (oK [2,3] (oS (oX [oF 20 1 3,oL 21 20,oC 22 31 [oO 21,oN 0,oN 3],oA 23 (.un .not (oO 22))] [2,3,23] (oI 23 (oX [oV 4 15] [4] .ret))) (oK [2,3] (oS (oX [oF 24 0 3,oL 25 24,oC 26 31 [oO 25,oN 0,oN 1000000000],oA 27 (.un .not (oO 26)),oM 28 27,oE 29 28 false 2 3,oJ 30 28 false 29,oE 31 28 false 0 3,oJ 32 28 false 31,oG 33 28 false (.call (.func 31) [oO 30,oN 0,oO 32]),oG 34 28 false (.un .not (oO 33)),oH 35 28 34,oM 36 35,oE 37 36 false 7 3,oJ 38 36 false 37,oG 39 36 false (.call (.func 31) [oO 38,oN 0,oN 1000000]),oG 40 36 false (.un .not (oO 39)),oH 41 36 40,oM 42 41,oE 43 42 false 8 3,oJ 44 42 false 43,oE 45 42 false 7 3,oJ 46 42 false 45,oG 47 42 false (.call (.func 31) [oO 44,oN 0,oO 46]),oG 48 42 false (.un .not (oO 47)),oH 49 42 48] [2,3,49] (oI 49 (oX [oV 4 2] [4] .ret))) (oK [2,3] (.cut c67k12)))))))
def rv67 : List RV:=[.tmp 4]
theorem is67 : FnIs Tryz.prog 67 307 c67 rv67:=⟨⟨Tryz.f67,_,Tryz.func67,by kernel_rfl,rfl,rfl,by kernel_rfl,by kernel_rfl⟩,by decide⟩
end Go.Proofs.YtcbabnbiinkafaaGreatDoor.E4
end
section
open Go Go.Am
open Go.Am.Dat (cells)
namespace Go.Proofs.YtcbabnbiinkafaaGreatDoor
set_option maxRecDepth 100000
def c124 : AC:=oX [⟨some 4,none,.mv (.const (.string ⟨#[]⟩)),false⟩,⟨some 5,none,.mv (.const (.string ⟨#[]⟩)),false⟩,o9 6 false] [0,1] (oX [oM 7 0,oM 8 1,oC 9 158 [oO 7,oO 8],o8 10 9 0,o8 11 9 1,o8 12 9 2,oM 4 10,oM 5 11,oM 6 12] [4,5,6] .ret)
def rv124 : List RV:=[.tmp 4,.tmp 5,.tmp 6]
theorem is124 : FnIs Tryz.prog 124 13 c124 rv124:=⟨⟨Tryz.f124,_,Tryz.func124,by kernel_rfl,rfl,rfl,by kernel_rfl,by kernel_rfl⟩,by decide⟩
def Be : AC:=oX [oB 9 .lss 3 8 (oO 7)] [0,1,7,8,9] (oS (.cond (oO 9) .skip (.exit 0)) (oK [0,1,7,8] (oS (.block 1 (oX [oM 10 8,oM 5 10] [0,1,5,7,8] (oX [oM 11 1,oM 12 0,oM 13 5,⟨some 14,none,.iaddr 3 [.string ⟨#[]⟩,.bool false,.nilFunc] (oO 12) (oO 13),false⟩,o5 15 3 14,oA 16 (.call (oO 11) [oO 15])] [0,1,5,7,8,16] (oI 16 (oX [oM 17 5,oM 4 17] [4] .ret))))) (oK [0,1,7,8] (oR [oB 18 .add 3 8 (oN 1),oM 8 18])))))
def c125 : AC:=oX [oV 4 0] [0,1] (oS (oX [oM 6 0,o4 7 6,oV 8 0] [0,1,7,8] (.block 0 (.loop Be))) (oK [] (oX [oV 4 (-1)] [4] .ret)))
def Bq : List RV:=[.tmp 4]
theorem is125 : FnIs Tryz.prog 125 19 c125 Bq:=⟨⟨Tryz.f125,_,Tryz.func125,by kernel_rfl,rfl,rfl,by kernel_rfl,by kernel_rfl⟩,by decide⟩
def c126 : AC:=oX [o7 2 0,o9 3 false] [1,2] (oX [oF 4 0 2,oL 5 4,oL 6 1,oB 7 .eql 9 5 (oO 6),oM 3 7] [3] .ret)
def rv126 : List RV:=[.tmp 3]
theorem is126 : FnIs Tryz.prog 126 8 c126 rv126:=⟨⟨Tryz.f126,_,Tryz.func126,by kernel_rfl,rfl,rfl,by kernel_rfl,by kernel_rfl⟩,by decide⟩
def Bf : AC:=.block 1 (oX [oM 14 5,oC 15 160 [oO 14],oM 13 15,o8 16 13 0,o8 17 13 1,oM 6 16,oM 7 17] [2,3,4,6,7,11] (oS (oX [oM 18 7,oA 19 (.un .not (oO 18))] [2,3,4,6,11,19] (oI 19 (oX [oY false 1 (oO 2) (.const (.slice none 0 0)),oY false 1 (oO 3) (.const (.bool false))] [2,3] .ret))) (oK [2,3,4,6,11] (oR [oL 20 4,oM 21 6,oA 22 (.mkSl false 3 1 o1 1 [(0,oO 21)]),oA 23 (.app 24 3 1 8 o1 (oO 20) (oO 22)),oY true 1 (oO 4) (oO 23)]))))
def c127 : AC:=oX [oA 2 (.alloc o0),oA 3 (.alloc [.bool false])] [0,2,3] (oS (oX [oM 8 0,⟨some 9,none,.bin .eql 9 (oO 8) (.const (.string ⟨#[]⟩)),false⟩] [0,2,3,9] (oI 9 (oX [oY false 1 (oO 2) (.const (.slice none 0 0)),oY false 1 (oO 3) (.const (.bool true))] [2,3] .ret))) (oK [0,2,3] (oX [oA 4 (.alloc o0)] [0,2,3,4] (oS (oX [oM 10 0,⟨some 11,none,.call (.func 159) [oO 10,(.const (.string ⟨#[32]⟩))],false⟩] [2,3,4,11] (.block 0 (.rangeFunc (oO 11) [12] (oR [oM 5 12]) Bf))) (oK [2,3,4] (oX [oL 24 4,oW 1 2 24,oY false 1 (oO 3) (.const (.bool true))] [2,3] .ret))))))
def Az : List RV:=[.cell 2 false 1,.cell 3 false 1]
theorem is127 : FnIs Tryz.prog 127 25 c127 Az:=⟨⟨Tryz.f127,_,Tryz.func127,by kernel_rfl,rfl,rfl,by kernel_rfl,by kernel_rfl⟩,by decide⟩
def c128 : AC:=oX [oA 4 (.mv (.const (.slice none 0 0)))] [0,1] (oX [oM 5 0,oM 6 1,oC 7 161 [oO 5,oO 6,oN 0,oN (-1)],oM 4 7] [4] .ret)
def rv128 : List RV:=[.tmp 4]
theorem is128 : FnIs Tryz.prog 128 8 c128 rv128:=⟨⟨Tryz.f128,_,Tryz.func128,by kernel_rfl,rfl,rfl,by kernel_rfl,by kernel_rfl⟩,by decide⟩
def Bg : AC:=oS (oX [oM 8 7,oM 9 0,oA 10 (.len true (oO 9)),oB 11 .lss 3 8 (oO 10)] [0,1,5,6,7,11] (.cond (oO 11) .skip (.exit 0))) (oK [0,1,5,6,7] (oS (.block 1 (oX [oM 14 0,oM 15 7,oA 16 (.istr (oO 14) (oO 15)),oM 17 1,oB 18 .eql 5 16 (oO 17)] [0,1,5,6,7,18] (oI 18 (oX [oM 19 5,oM 20 0,oM 21 6,oM 22 7,oA 23 (.sstr (oO 20) (some (oO 21)) (some (oO 22))),⟨some 24,none,.mkSl false 9 1 [.string ⟨#[]⟩] 1 [(0,oO 23)],false⟩,⟨some 25,none,.app 44 9 1 16 [.string ⟨#[]⟩] (oO 19) (oO 24),false⟩,oM 5 25] [0,1,5,7] (oR [oM 26 7,oB 27 .add 3 26 (oN 1),oM 6 27]))))) (oK [0,1,5,6,7] (oR [oM 12 7,oB 13 .add 3 12 (oN 1),oM 7 13]))))
def c129 : AC:=oX [oA 4 (.mv (.const (.slice none 0 0)))] [0,1] (oX [oA 5 (.mv (.const (.slice none 0 0)))] [0,1,5] (.nilrow 5 1 9 (oX [oV 6 0] [0,1,5,6] (oS (oX [oV 7 0] [0,1,5,6,7] (.block 0 (.loop Bg))) (oK [0,5,6] (oX [oM 28 5,oM 29 0,oM 30 6,oA 31 (.sstr (oO 29) (some (oO 30)) none),⟨some 32,none,.mkSl false 9 1 [.string ⟨#[]⟩] 1 [(0,oO 31)],false⟩,⟨some 33,none,.app 44 9 1 16 [.string ⟨#[]⟩] (oO 28) (oO 32),false⟩,oM 4 33] [4] .ret))))))
def Br : List RV:=[.tmp 4]
theorem is129 : FnIs Tryz.prog 129 34 c129 Br:=⟨⟨Tryz.f129,_,Tryz.func129,by kernel_rfl,rfl,rfl,by kernel_rfl,by kernel_rfl⟩,by decide⟩
def c130 : AC:=oX [oA 0 (.mv (.const (.slice none 0 0)))] [] (oX [⟨some 1,none,.mkSl false 9 1 [.string ⟨#[]⟩] 12 [(0,(.const (.string ⟨#[100,97,116,97]⟩))),(1,(.const (.string ⟨#[115,101,110,100]⟩))),(2,(.const (.string ⟨#[97,99,107]⟩))),(3,(.const (.string ⟨#[112,114,101,112,97,114,101]⟩))),(4,(.const (.string ⟨#[99,97,110,99,101,108]⟩))),(5,(.const (.string ⟨#[99,111,109,109,97,110,100]⟩))),(6,(.const (.string ⟨#[99,111,109,112,108,101,116,101]⟩))),(7,(.const (.string ⟨#[102,111,114,119,97,114,100]⟩))),(8,(.const (.string ⟨#[115,119,105,116,99,104]⟩))),(9,(.const (.string ⟨#[102,97,105,108]⟩))),(10,(.const (.string ⟨#[114,101,99,111,118,101,114]⟩))),(11,(.const (.string ⟨#[112,97,115,115]⟩)))],false⟩,oM 0 1] [0] .ret)
def rv130 : List RV:=[.tmp 0]
theorem is130 : FnIs Tryz.prog 130 2 c130 rv130:=⟨⟨Tryz.f130,_,Tryz.func130,by kernel_rfl,rfl,rfl,by kernel_rfl,by kernel_rfl⟩,by decide⟩
def Ad : AC:=oS (oX [oM 41 8,oM 42 0,oA 43 (.len true (oO 42)),oB 44 .lss 3 41 (oO 43)] [0,6,7,8,44] (.cond (oO 44) .skip (.exit 0))) (oK [0,6,7,8] (oS (.block 1 (oS (oX [oM 47 0,oM 48 8,oA 49 (.istr (oO 47) (oO 48)),oA 50 (.bin .lss 5 (oO 49) (.const (.int .u8 48))),oM 51 50,oD 52 51 false 0,oD 53 51 false 8,oG 54 51 false (.istr (oO 52) (oO 53)),oG 55 51 false (.bin .gtr 5 (oO 54) (.const (.int .u8 57))),oH 56 51 55] [0,6,7,8,56] (oI 56 (oX [oV 4 0,o9 5 false] [4,5] .ret))) (oK [0,6,7,8] (oR [oM 57 7,oA 58 (.bin .mul 3 (oN 10) (oO 57)),oM 59 0,oM 60 8,oA 61 (.istr (oO 59) (oO 60)),oA 62 (.bin .sub 5 (oO 61) (.const (.int .u8 48))),oA 63 (.cvi .i64 (oO 62)),oB 64 .add 3 58 (oO 63),oM 7 64])))) (oK [0,6,7,8] (oR [oM 45 8,oB 46 .add 3 45 (oN 1),oM 8 46]))))
def Aj : AC:=oX [oV 4 0,o9 5 false] [0,1] (oX [oV 6 0] [0,1,6] (oS (oX [oM 9 0,oA 10 (.len true (oO 9)),oB 11 .gtr 3 10 (oN 0),oM 12 11,oD 13 12 true 0,oG 14 12 true (.istr (oO 13) (oN 0)),oG 15 12 true (.bin .eql 5 (oO 14) (.const (.int .u8 45))),oP 16 12 15] [0,1,6,16] (oI 16 (oR [oV 6 1]))) (oK [0,1,6] (oS (oX [oM 17 0,oA 18 (.len true (oO 17)),oM 19 6,oB 20 .eql 3 18 (oO 19),oM 21 20,oD 22 21 false 0,oG 23 21 false (.len true (oO 22)),oD 24 21 false 6,oG 25 21 false (.bin .sub 3 (oO 23) (oO 24)),oD 26 21 false 1,oG 27 21 false (.bin .gtr 3 (oO 25) (oO 26)),oH 28 21 27,oM 29 28,oD 30 29 false 0,oD 31 29 false 6,oG 32 29 false (.istr (oO 30) (oO 31)),oG 33 29 false (.bin .eql 5 (oO 32) (.const (.int .u8 48))),oD 34 29 false 33,oD 35 34 true 0,oG 36 34 true (.len true (oO 35)),oG 37 34 true (.bin .gtr 3 (oO 36) (oN 1)),oG 38 29 false (.pick (oO 34) (oO 37) (.const (.bool false))),oH 39 29 38] [0,6,39] (oI 39 (oX [oV 4 0,o9 5 false] [4,5] .ret))) (oK [0,6] (oX [oV 7 0] [0,6,7] (oS (oX [oM 40 6,oM 8 40] [0,6,7,8] (.block 0 (.loop Ad))) (oK [6,7] (oS (oX [oM 65 6,oB 66 .eql 3 65 (oN 1)] [7,66] (oI 66 (oR [oM 67 7,oA 68 (.un .neg (oO 67)),oM 7 68]))) (oK [7] (oX [oM 69 7,oM 4 69,o9 5 true] [4,5] .ret)))))))))))
def xH : List RV:=[.tmp 4,.tmp 5]
theorem is132 : FnIs Tryz.prog 132 70 Aj xH:=⟨⟨Tryz.f132,_,Tryz.func132,by kernel_rfl,rfl,rfl,by kernel_rfl,by kernel_rfl⟩,by decide⟩
def Bh : AC:=oS (oX [oM 13 6,oM 14 4,o4 15 14,oB 16 .lss 3 13 (oO 15)] [4,5,6,16] (.cond (oO 16) .skip (.exit 0))) (oK [4,5,6] (oS (.block 1 (oX [oM 20 4,oM 21 6,⟨some 22,none,.iaddr 1 [.string ⟨#[]⟩] (oO 20) (oO 21),false⟩,oL 23 22,oC 24 132 [oO 23,oN 10],oM 19 24,o8 25 19 0,o8 26 19 1,oM 7 25,oM 8 26] [4,5,6,7,8] (oS (oX [oM 27 8,oA 28 (.un .not (oO 27))] [4,5,6,7,28] (oI 28 (oX [oA 2 (.mv (.const (.slice none 0 0))),o9 3 false] [2,3] .ret))) (oK [4,5,6,7] (oR [oM 29 5,oM 30 7,oA 31 (.mkSl false 3 1 o1 1 [(0,oO 30)]),oA 32 (.app 24 3 1 8 o1 (oO 29) (oO 31)),oM 5 32]))))) (oK [4,5,6] (oR [oM 17 6,oB 18 .add 3 17 (oN 1),oM 6 18]))))
def c133 : AC:=oX [oA 2 (.mv (.const (.slice none 0 0))),o9 3 false] [0] (oS (oX [oM 9 0,⟨some 10,none,.bin .eql 9 (oO 9) (.const (.string ⟨#[]⟩)),false⟩] [0,10] (oI 10 (oX [oA 2 (.mv (.const (.slice none 0 0))),o9 3 true] [2,3] .ret))) (oK [0] (oX [oM 11 0,oC 12 129 [oO 11,(.const (.int .u8 32))],oM 4 12] [4] (oX [oA 5 (.mv (.const (.slice none 0 0)))] [4,5] (.nilrow 5 1 3 (oS (oX [oV 6 0] [4,5,6] (.block 0 (.loop Bh))) (oK [5] (.fz [5] (oX [oM 33 5,oM 2 33,o9 3 true] [2,3] .ret)))))))))
def AP : List RV:=[.tmp 2,.tmp 3]
theorem is133 : FnIs Tryz.prog 133 34 c133 AP:=⟨⟨Tryz.f133,_,Tryz.func133,by kernel_rfl,rfl,rfl,by kernel_rfl,by kernel_rfl⟩,by decide⟩
def Bi : AC:=oS (oX [oM 10 0,oB 11 .neq 3 10 (oN 0)] [0,3,4,11] (.cond (oO 11) .skip (.exit 0))) (oK [0,3,4] (.block 1 (oX [oM 12 0,oB 13 .rem 3 12 (oN 10),oM 5 13] [0,3,4,5] (oX [oM 14 5,oC 15 162 [oO 14],oA 16 (.bin .add 3 (oN 48) (oO 15)),oA 17 (.cvi .u8 (oO 16)),oA 18 (.mkSl false 5 1 [.int .u8 0] 1 [(0,oO 17)]),oA 19 (.ext .b2s [oO 18]),oM 20 3,oB 21 .add 9 19 (oO 20),oM 3 21] [0,3,4] (oR [oM 22 0,oB 23 .quo 3 22 (oN 10),oM 0 23])))))
def c134 : AC:=oX [⟨some 2,none,.mv (.const (.string ⟨#[]⟩)),false⟩] [0] (oS (oX [oM 6 0,oB 7 .eql 3 6 (oN 0)] [0,7] (oI 7 (oX [⟨some 2,none,.mv (.const (.string ⟨#[48]⟩)),false⟩] [2] .ret))) (oK [0] (oX [⟨some 3,none,.mv (.const (.string ⟨#[]⟩)),false⟩,⟨some 4,none,.mv (.const (.string ⟨#[]⟩)),false⟩] [0,3,4] (oS (oX [oM 8 0,oB 9 .lss 3 8 (oN 0)] [0,3,4,9] (oI 9 (oR [⟨some 4,none,.mv (.const (.string ⟨#[45]⟩)),false⟩]))) (oK [0,3,4] (oS (.block 0 (.loop Bi)) (oK [3,4] (oX [oM 24 4,oM 25 3,oB 26 .add 9 24 (oO 25),oM 2 26] [2] .ret))))))))
def AA : List RV:=[.tmp 2]
theorem is134 : FnIs Tryz.prog 134 27 c134 AA:=⟨⟨Tryz.f134,_,Tryz.func134,by kernel_rfl,rfl,rfl,by kernel_rfl,by kernel_rfl⟩,by decide⟩
def Bj : AC:=oS (oX [oM 5 4,oM 6 0,o4 7 6,oB 8 .lss 3 5 (oO 7)] [0,3,4,8] (.cond (oO 8) .skip (.exit 0))) (oK [0,3,4] (oS (.block 1 (oS (oX [oM 11 4,oB 12 .gtr 3 11 (oN 0)] [0,3,4,12] (oI 12 (oR [oM 13 3,⟨some 14,none,.bin .add 9 (oO 13) (.const (.string ⟨#[32]⟩)),false⟩,oM 3 14]))) (oK [0,3,4] (oR [oM 15 3,oM 16 0,oM 17 4,oA 18 (.iaddr 1 o1 (oO 16) (oO 17)),oL 19 18,oC 20 134 [oO 19],oB 21 .add 9 15 (oO 20),oM 3 21])))) (oK [0,3,4] (oR [oM 9 4,oB 10 .add 3 9 (oN 1),oM 4 10]))))
def c135 : AC:=oX [⟨some 2,none,.mv (.const (.string ⟨#[]⟩)),false⟩] [0] (oX [⟨some 3,none,.mv (.const (.string ⟨#[]⟩)),false⟩] [0,3] (oS (oX [oV 4 0] [0,3,4] (.block 0 (.loop Bj))) (oK [3] (oX [oM 22 3,oM 2 22] [2] .ret))))
def Bs : List RV:=[.tmp 2]
theorem is135 : FnIs Tryz.prog 135 23 c135 Bs:=⟨⟨Tryz.f135,_,Tryz.func135,by kernel_rfl,rfl,rfl,by kernel_rfl,by kernel_rfl⟩,by decide⟩
def c158 : AC:=oX [⟨some 4,none,.mv (.const (.string ⟨#[]⟩)),false⟩,⟨some 5,none,.mv (.const (.string ⟨#[]⟩)),false⟩,o9 6 false] [0,1] (oS (oX [oM 8 0,oM 9 1,oC 10 172 [oO 8,oO 9],oM 7 10] [0,1,7] (oX [oM 11 7,oB 12 .geq 3 11 (oN 0)] [0,1,7,12] (oI 12 (oS (oQ [oA 13 (.mvs (oO 0)),oA 14 (.mvs (oO 7)),oA 15 (.sstr (oO 13) none (some (oO 14))),oA 16 (.mvs (oO 0)),oA 17 (.mvs (oO 7)),oA 18 (.mvs (oO 1)),oA 19 (.len true (oO 18)),oB 20 .add 3 17 (oO 19),oA 21 (.sstr (oO 16) (some (oO 20)) none),oM 4 15,oT 5 (.mv (oO 21)),oT 6 (.mv (.const (.bool true)))]) (oK [4,5,6] .ret))))) (oK [0] (oX [oM 22 0,oM 4 22,⟨some 5,none,.mv (.const (.string ⟨#[]⟩)),false⟩,o9 6 false] [4,5,6] .ret)))
def rv158 : List RV:=[.tmp 4,.tmp 5,.tmp 6]
theorem is158 : FnIs Tryz.prog 158 23 c158 rv158:=⟨⟨Tryz.f158,_,Tryz.func158,by kernel_rfl,rfl,rfl,by kernel_rfl,by kernel_rfl⟩,by decide⟩
def c159 : AC:=oX [oA 4 (.mv (.const (.nilFunc)))] [0,1] (oX [oM 5 0,oM 6 1,oC 7 173 [oO 5,oO 6,oN 0],oM 4 7] [4] .ret)
def rv159 : List RV:=[.tmp 4]
theorem is159 : FnIs Tryz.prog 159 8 c159 rv159:=⟨⟨Tryz.f159,_,Tryz.func159,by kernel_rfl,rfl,rfl,by kernel_rfl,by kernel_rfl⟩,by decide⟩
def c173 : AC:=oX [o7 3 0,o7 4 1,o7 5 2,oA 6 (.mv (.const (.nilFunc)))] [3,4,5] (oX [oA 7 (.mkFn (.func 192) [] [oO 4,oO 3,oO 5]),oM 6 7] [6] .ret)
def rv173 : List RV:=[.tmp 6]
theorem is173 : FnIs Tryz.prog 173 8 c173 rv173:=⟨⟨Tryz.f173,_,Tryz.func173,by kernel_rfl,rfl,rfl,by kernel_rfl,by kernel_rfl⟩,by decide⟩
def c192l1 : AC:=oS (oX [oL 12 2,oA 13 (.len true (oO 12)),oB 14 .gtr 3 13 (oN 0)] [0,2,14] (.cond (oO 14) .skip (.exit 0))) (oK [0,2] (.block 1 (oX [oL 16 2,oC 17 193 [oO 16],oM 15 17,o8 18 15 0,o8 19 15 1,oM 5 18,oM 6 19] [0,2,6] (oS (oX [oM 20 0,oL 21 2,oM 22 6,oA 23 (.sstr (oO 21) none (some (oO 22))),oA 24 (.call (oO 20) [oO 23]),oA 25 (.un .not (oO 24))] [0,2,6,25] (oI 25 .ret)) (oK [0,2,6] (oR [oL 26 2,oM 27 6,oA 28 (.sstr (oO 26) (some (oO 27)) none),oW 1 2 28]))))))
def B2 : AC:=.block 3 (oX [oL 29 2,oL 30 1,oC 31 178 [oO 29,oO 30],oM 7 31] [0,1,2,3,7] (oS (oX [oM 32 7,oB 33 .lss 3 32 (oN 0)] [0,1,2,3,7,33] (oI 33 (.exit 2))) (oK [0,1,2,3,7] (oX [oL 34 2,oM 35 7,oL 36 3,oB 37 .add 3 35 (oO 36),oA 38 (.sstr (oO 34) none (some (oO 37))),oM 8 38] [0,1,2,3,7,8] (oS (oX [oM 39 0,oM 40 8,oA 41 (.call (oO 39) [oO 40]),oA 42 (.un .not (oO 41))] [0,1,2,3,7,42] (oI 42 .ret)) (oK [0,1,2,3,7] (oR [oL 43 2,oM 44 7,oL 45 1,oA 46 (.len true (oO 45)),oB 47 .add 3 44 (oO 46),oA 48 (.sstr (oO 43) (some (oO 47)) none),oW 1 2 48])))))))
def c192 : AC:=oS (oX [oL 9 1,oA 10 (.len true (oO 9)),oB 11 .eql 3 10 (oN 0)] [0,1,2,3,11] (oI 11 (oS (.block 0 (.loop c192l1)) (oK [] .ret)))) (oK [0,1,2,3] (oS (.block 2 (.loop B2)) (oK [0,2] (oR [oM 49 0,oL 50 2,oA 51 (.call (oO 49) [oO 50])]))))
def Ai : List RV:=[]
theorem is192 : FnIs Tryz.prog 192 52 c192 Ai:=⟨⟨Tryz.f192,_,Tryz.func192,by kernel_rfl,rfl,rfl,by kernel_rfl,by kernel_rfl⟩,by decide⟩
end Go.Proofs.YtcbabnbiinkafaaGreatDoor
end
section
open Go Go.Am
open Go.Am.Dat (cells)
namespace Go.Proofs.YtcbabnbiinkafaaGreatDoor.E7
set_option maxRecDepth 100000
def c79 : AC:=oX [o7 1 0,⟨some 2,none,.mv (.const (.string ⟨#[]⟩)),false⟩] [1] (oS (oX [oF 5 0 1,oL 6 5,oC 7 96 [oO 6,oN 0,oN 11],oA 8 (.un .not (oO 7))] [1,8] (oI 8 (oX [⟨some 2,none,.mv (.const (.string ⟨#[]⟩)),false⟩] [2] .ret))) (oK [1] (oX [oF 9 0 1,oL 10 9,oA 11 (.iarr 12 3 (.global 0) (oO 10)),o5 12 3 11,⟨some 3,none,.alloc [.string ⟨#[]⟩,.bool false,.nilFunc],false⟩,oW 3 3 12] [1,3] (oX [oF 13 1 1,oL 14 13,oA 15 (.mkSl true 3 1 o1 1 [(0,oO 14)]),oM 4 15] [1,3,4] (oS (oX [oF 16 1 3,oL 17 16] [1,3,4,17] (oI 17 (oR [oM 18 4,oF 19 2 1,oL 20 19,oA 21 (.mkSl false 3 1 o1 1 [(0,oO 20)]),oA 22 (.app 24 3 1 8 o1 (oO 18) (oO 21)),oM 4 22]))) (oK [3,4] (.fz [15,18,22,4] (oS (oQ [oF 23 0 3,oL 24 23,⟨some 25,none,.bin .add 9 (oO 24) (.const (.string ⟨#[32]⟩)),false⟩,oM 26 4,oC 27 122 [oO 26],oT 28 (.bin .add 9 (oO 25) (oO 27)),oT 2 (.mv (oO 28))]) (oK [2] .ret)))))))))
def rv79 : List RV:=[.tmp 2]
theorem is79 : FnIs Tryz.prog 79 29 c79 rv79:=⟨⟨Tryz.f79,_,Tryz.func79,by kernel_rfl,rfl,rfl,by kernel_rfl,by kernel_rfl⟩,by decide⟩
end Go.Proofs.YtcbabnbiinkafaaGreatDoor.E7
end
section
open Go Go.Am
open Go.Am.Dat (cells)
namespace Go.Proofs.YtcbabnbiinkafaaGreatDoor.E8
set_option maxRecDepth 100000
def c161l1 : AC:=oS (oX [oM 34 10,oM 35 3,oB 36 .lss 3 34 (oO 35)] [0,1,2,3,9,10,36] (.cond (oO 36) .skip (.exit 0))) (oK [0,1,2,3,9,10] (.block 1 (oX [oM 37 0,oM 38 1,oC 39 178 [oO 37,oO 38],oM 11 39] [0,1,2,3,9,10,11] (oS (oX [oM 40 11,oB 41 .lss 3 40 (oN 0)] [0,1,2,3,9,10,11,41] (oI 41 (.exit 0))) (oK [0,1,2,3,9,10,11] (oX [oM 42 9,oM 43 10,oM 44 0,oM 45 11,oM 46 2,oB 47 .add 3 45 (oO 46),oA 48 (.sstr (oO 44) none (some (oO 47))),⟨some 49,none,.iaddr 1 [.string ⟨#[]⟩] (oO 42) (oO 43),false⟩,oW 1 49 48] [0,1,2,3,9,10,11] (oX [oM 50 0,oM 51 11,oM 52 1,oA 53 (.len true (oO 52)),oB 54 .add 3 51 (oO 53),oA 55 (.sstr (oO 50) (some (oO 54)) none),oM 0 55] [0,1,2,3,9,10] (oR [oM 56 10,oB 57 .add 3 56 (oN 1),oM 10 57]))))))))
def c161 : AC:=oX [oA 8 (.mv (.const (.slice none 0 0)))] [0,1,2,3] (oS (oX [oM 12 3,oB 13 .eql 3 12 (oN 0)] [0,1,2,3,13] (oI 13 (oX [oA 8 (.mv (.const (.slice none 0 0)))] [8] .ret))) (oK [0,1,2,3] (oS (oX [oM 14 1,⟨some 15,none,.bin .eql 9 (oO 14) (.const (.string ⟨#[]⟩)),false⟩] [0,1,2,3,15] (oI 15 (oX [oM 16 0,oM 17 3,oC 18 176 [oO 16,oO 17],oM 8 18] [8] .ret))) (oK [0,1,2,3] (oS (oX [oM 19 3,oB 20 .lss 3 19 (oN 0)] [0,1,2,3,20] (oI 20 (oR [oM 21 0,oM 22 1,oC 23 177 [oO 21,oO 22],oB 24 .add 3 23 (oN 1),oM 3 24]))) (oK [0,1,2,3] (oX [oM 25 3,oM 26 0,oA 27 (.len true (oO 26)),oB 28 .add 3 27 (oN 1),oA 29 (.ext (.mx false) [oO 25,oO 28]),oM 3 29] [0,1,2,3] (oX [oM 30 3,⟨some 31,none,.makeSl 9 1 16 [.string ⟨#[]⟩] (oO 30) (oO 30),false⟩,oM 9 31] [0,1,2,3,9] (oX [oM 32 3,oB 33 .sub 3 32 (oN 1),oM 3 33] [0,1,2,3,9] (oX [oV 10 0] [0,1,2,3,9,10] (oS (.block 0 (.loop c161l1)) (oK [0,9,10] (oX [oM 58 9,oM 59 10,oM 60 0,⟨some 61,none,.iaddr 1 [.string ⟨#[]⟩] (oO 58) (oO 59),false⟩,oW 1 61 60] [9,10] (.fz [31,9] (oX [oM 62 9,oM 63 10,oB 64 .add 3 63 (oN 1),oA 65 (.ssl 1 (oO 62) none (some (oO 64)) none),oM 8 65] [8] .ret)))))))))))))))
def rv161 : List RV:=[.tmp 8]
theorem is161 : FnIs Tryz.prog 161 66 c161 rv161:=⟨⟨Tryz.f161,_,Tryz.func161,by kernel_rfl,rfl,rfl,by kernel_rfl,by kernel_rfl⟩,by decide⟩
end Go.Proofs.YtcbabnbiinkafaaGreatDoor.E8
end
section
open Go Go.Am
open Go.Am.Dat (cells)
namespace Go.Proofs.YtcbabnbiinkafaaGreatDoor.E9
set_option maxRecDepth 100000
def c84l1 : AC:=oS (oX [oM 61 8,oM 62 4,o4 63 62,oB 64 .lss 3 61 (oO 63)] [2,4,7,8,64] (.cond (oO 64) .skip (.exit 0))) (oK [2,4,7,8] (oS (.block 1 (oX [oM 68 4,oM 69 8,⟨some 70,none,.iaddr 1 [.string ⟨#[]⟩] (oO 68) (oO 69),false⟩,oL 71 70,oC 72 133 [oO 71],oM 67 72,o8 73 67 0,o8 74 67 1,oM 9 73,oM 10 74] [2,4,7,8,9,10] (oS (oX [oM 75 10,oA 76 (.un .not (oO 75))] [2,4,7,8,9,76] (oI 76 (oX [oA 77 (.build oZ []),oW 10 2 77,oV 3 7] [2,3] .ret))) (oK [2,4,7,8,9] (oR [oF 78 9 7,oL 79 78,oM 80 9,oA 81 (.mkSl false 24 1 o0 1 [(0,oO 80)]),oA 82 (.app 51 24 1 24 o0 (oO 79) (oO 81)),oF 83 9 7,oY true 1 (oO 83) (oO 82)]))))) (oK [2,4,7,8] (oR [oM 65 8,oB 66 .add 3 65 (oN 1),oM 8 66]))))
def c84 : AC:=oX [oA 2 (.alloc oZ),oV 3 0] [0,2] (oX [oM 11 0,oC 12 129 [oO 11,(.const (.int .u8 124))],oM 4 12] [2,4] (oX [oM 14 4,⟨some 15,none,.iaddr 1 [.string ⟨#[]⟩] (oO 14) (oN 0),false⟩,oL 16 15,oC 17 133 [oO 16],oM 13 17,o8 18 13 0,o8 19 13 1,oM 5 18,oM 6 19] [2,4,5,6] (oS (oX [oM 20 6,oA 21 (.un .not (oO 20)),oM 22 21,oD 23 22 false 5,oG 24 22 false (.len false (oO 23)),oG 25 22 false (.bin .neq 3 (oO 24) (oN 9)),oH 26 22 25,oM 27 26,oD 28 27 false 4,oG 29 27 false (.len false (oO 28)),oG 30 27 false (.bin .lss 3 (oO 29) (oN 2)),oH 31 27 30] [2,4,5,31] (oI 31 (oX [oA 32 (.build oZ []),oW 10 2 32,oV 3 7] [2,3] .ret))) (oK [2,4,5] (oS (.draw 999 [1,2,27,29,102,127,129,227,229,304,305,327,329,405,427,429,527,529,607,608,627,629,708,727,729,827,829,910,911,927,929,1011,1027,1029,1127,1129,1213,1214,1227,1229,1314,1327,1329,1427,1429,1516,1517,1527,1529,1617,1627,1629,1727,1729,1819,1820,1827,1829,1920,1927,1929,2027,2029,2122,2123,2127,2129,2223,2227,2229,2327,2329,2425,2426,2427,2429,2526,2527,2529,2627,2629,2729,2829] [oM 33 5,oA 34 (.iaddr 1 o1 (oO 33) (oN 0)),oL 35 34,oM 36 5,oA 37 (.iaddr 1 o1 (oO 36) (oN 1)),oL 38 37,oM 39 5,oA 40 (.iaddr 1 o1 (oO 39) (oN 2)),oL 41 40,oM 42 5,oA 43 (.iaddr 1 o1 (oO 42) (oN 3)),oL 44 43,oM 45 5,oA 46 (.iaddr 1 o1 (oO 45) (oN 4)),oL 47 46,oM 48 5,oA 49 (.iaddr 1 o1 (oO 48) (oN 5)),oL 50 49,oM 51 5,oA 52 (.iaddr 1 o1 (oO 51) (oN 6)),oL 53 52,oM 54 5,oA 55 (.iaddr 1 o1 (oO 54) (oN 7)),oL 56 55,oM 57 5,oA 58 (.iaddr 1 o1 (oO 57) (oN 8)),oL 59 58,oA 60 (.build oZ [(0,1,oO 35),(1,1,oO 38),(2,1,oO 41),(3,1,oO 44),(4,1,oO 47),(5,1,oO 50),(6,1,oO 53),(7,1,oO 56),(8,1,oO 59)]),oA 7 (.alloc oZ),⟨none,none,.store false 10 (oO 7) (oO 60),true⟩]) (oK [2,4,7] (oS (oX [oV 8 1] [2,4,7,8] (.block 0 (.loop c84l1))) (oK [2,7] (oX [o5 84 10 7,oW 10 2 84,oV 3 0] [2,3] .ret)))))))))
def rv84 : List RV:=[.cell 2 true 10,.tmp 3]
theorem is84 : FnIs Tryz.prog 84 85 c84 rv84:=⟨⟨Tryz.f84,_,Tryz.func84,by kernel_rfl,rfl,rfl,by kernel_rfl,by kernel_rfl⟩,by decide⟩
end Go.Proofs.YtcbabnbiinkafaaGreatDoor.E9
end
section
open Go Go.Am
open Go.Am.Dat (cells)
namespace Go.Proofs.YtcbabnbiinkafaaGreatDoor.F1
set_option maxRecDepth 100000
def c81k1 : AC:=oX [oM 32 7,oA 33 (.build o3 [(0,1,oO 32)]),oA 10 (.alloc o3),oW 3 10 33] [2,7,8,10] (oS (.block 0 (oX [oM 36 7,oA 37 (.iarr 12 3 (.global 0) (oO 36)),oF 38 1 37,oL 39 38,oM 40 39,oD 41 40 true 8,oG 42 40 true (.len false (oO 41)),oG 43 40 true (.bin .eql 3 (oO 42) (oN 2)),oP 44 40 43,oM 35 44] [2,7,8,10,35] (.cond (oO 35) (.draw 999 [1,2,6,7,8,9,102,106,107,108,109,206,207,208,209,304,305,308,309,405,408,409,508,509,607,608,609,708,709,809] [oM 45 8,oA 46 (.iaddr 1 o1 (oO 45) (oN 0)),oL 47 46,oM 48 8,oA 49 (.iaddr 1 o1 (oO 48) (oN 1)),oL 50 49,oF 51 1 10,oW 1 51 47,oT 52 (.faddr 2 (oO 10)),⟨none,none,.store false 1 (oO 52) (oO 50),true⟩]) (oX [oM 54 7,oA 55 (.iarr 12 3 (.global 0) (oO 54)),oF 56 1 55,oL 57 56,oA 58 (.un .not (oO 57)),oM 59 58,oD 60 59 true 8,oG 61 59 true (.len false (oO 60)),oG 62 59 true (.bin .eql 3 (oO 61) (oN 1)),oP 63 59 62,oM 53 63] [2,8,10,53] (.cond (oO 53) (oR [oM 64 8,oA 65 (.iaddr 1 o1 (oO 64) (oN 0)),oL 66 65,oF 67 1 10,oW 1 67 66]) (oX [oA 34 (.build o3 []),oW 3 2 34,oV 3 7] [2,3] .ret)))))) (oK [2,10] (oX [o5 68 3 10,oW 3 2 68,oV 3 0] [2,3] .ret)))
def c81 : AC:=oX [oA 2 (.alloc o3),oV 3 0] [0,2] (oX [oM 12 0,⟨some 13,none,.call (.func 124) [oO 12,(.const (.string ⟨#[32]⟩))],false⟩,oM 11 13,o8 14 11 0,o8 15 11 1,o8 16 11 2,⟨some 4,none,.alloc [.string ⟨#[]⟩],false⟩,oW 1 4 14,oM 5 15,oM 6 16] [2,4,5] (oX [oA 17 (.opq (.slice 170 (.global 0) none none none) 176),oA 18 (.mkFn (.func 126) [] [oO 4]),oC 19 125 [oO 17,oO 18],oM 7 19] [2,5,7] (oX [oM 21 5,oC 22 127 [oO 21],oM 20 22,o8 23 20 0,o8 24 20 1,oM 8 23,oM 9 24] [2,7,8,9] (oS (oX [oM 25 7,oB 26 .lss 3 25 (oN 0),oM 27 26,oD 28 27 false 9,oG 29 27 false (.un .not (oO 28)),oH 30 27 29] [2,7,8,30] (oI 30 (oX [oA 31 (.build o3 []),oW 3 2 31,oV 3 7] [2,3] .ret))) (oK [2,7,8] (.cut c81k1))))))
def rv81 : List RV:=[.cell 2 true 3,.tmp 3]
theorem is81 : FnIs Tryz.prog 81 69 c81 rv81:=⟨⟨Tryz.f81,_,Tryz.func81,by kernel_rfl,rfl,rfl,by kernel_rfl,by kernel_rfl⟩,by decide⟩
end Go.Proofs.YtcbabnbiinkafaaGreatDoor.F1
end
section
open Go Go.Am
open Go.Am.Dat (cells)
namespace Go.Proofs.YtcbabnbiinkafaaGreatDoor.F2
set_option maxRecDepth 100000
def c83l1 : AC:=oS (oX [oM 17 8,oC 18 130 [],o4 19 18,oB 20 .lss 3 17 (oO 19)] [2,4,5,6,7,8,20] (.cond (oO 20) .skip (.exit 0))) (oK [2,4,5,6,7,8] (oS (.block 1 (oS (oQ [oC 23 130 [],oA 24 (.mvs (oO 8)),⟨some 25,none,.iaddr 1 [.string ⟨#[]⟩] (oO 23) (oO 24),false⟩,oL 26 25,oM 27 6,⟨some 28,none,.iaddr 1 [.string ⟨#[]⟩] (oO 27) (oN 0),false⟩,oL 29 28,oT 30 (.bin .eql 9 (oO 26) (oO 29))]) (oK [2,4,5,6,7,8,30] (oI 30 (oR [oM 31 8,oM 7 31]))))) (oK [2,4,5,6,7,8] (oR [oM 21 8,oB 22 .add 3 21 (oN 1),oM 8 22]))))
def c83k2 : AC:=oS (oX [oM 32 7,oB 33 .lss 3 32 (oN 0)] [2,4,5,6,7,33] (oI 33 (oX [o5 34 3 4,oM 35 5,oW 3 2 34,oM 3 35] [2,3] .ret))) (oK [2,4,5,6,7] (oS (oX [oM 36 7,oC 37 131 [oO 36],oM 38 37,oD 39 38 true 6,oG 40 38 true (.len false (oO 39)),oG 41 38 true (.bin .neq 3 (oO 40) (oN 3)),oP 42 38 41,oM 43 42,oD 44 43 false 7,oG 45 43 false (.call (.func 131) [oO 44]),oG 46 43 false (.un .not (oO 45)),oD 47 43 false 46,oD 48 47 true 6,oG 49 47 true (.len false (oO 48)),oG 50 47 true (.bin .neq 3 (oO 49) (oN 2)),oG 51 43 false (.pick (oO 47) (oO 50) (.const (.bool false))),oH 52 43 51] [2,4,5,6,7,52] (oI 52 (oX [o5 53 3 4,oM 54 5,oW 3 2 53,oM 3 54] [2,3] .ret))) (oK [2,4,5,6,7] (oX [oM 55 7,oA 56 (.build o3 [(0,1,oO 55)]),oA 9 (.alloc o3),oW 3 9 56] [2,4,5,6,7,9] (oX [oM 58 6,⟨some 59,none,.iaddr 1 [.string ⟨#[]⟩] (oO 58) (oN 1),false⟩,oL 60 59,oC 61 132 [oO 60,oN 10],oM 57 61,o8 62 57 0,o8 63 57 1,oM 10 62,oM 11 63] [2,4,5,6,7,9,10,11] (oS (oX [oM 64 11,oA 65 (.un .not (oO 64))] [2,4,5,6,7,9,10,65] (oI 65 (oX [o5 66 3 4,oM 67 5,oW 3 2 66,oM 3 67] [2,3] .ret))) (oK [2,4,5,6,7,9,10] (oX [oM 68 10,oF 69 1 9,oW 1 69 68] [2,4,5,6,7,9] (oS (oX [oM 70 7,oC 71 131 [oO 70]] [2,4,5,6,9,71] (oI 71 (oX [oM 73 6,⟨some 74,none,.iaddr 1 [.string ⟨#[]⟩] (oO 73) (oN 2),false⟩,oL 75 74,oC 76 132 [oO 75,oN 10],oM 72 76,o8 77 72 0,o8 78 72 1,oM 12 77,oM 13 78] [2,4,5,9,12,13] (oS (oX [oM 79 13,oA 80 (.un .not (oO 79))] [2,4,5,9,12,80] (oI 80 (oX [o5 81 3 4,oM 82 5,oW 3 2 81,oM 3 82] [2,3] .ret))) (oK [2,9,12] (oR [oM 83 12,oF 84 2 9,oW 1 84 83])))))) (oK [2,9] (oX [o5 85 3 9,oW 3 2 85,oV 3 0] [2,3] .ret)))))))))))
def c83 : AC:=oX [oA 2 (.alloc o3),oV 3 0] [0,2] (oX [oA 14 (.build o3 []),oA 4 (.alloc o3),oW 3 4 14,oV 5 7] [0,2,4,5] (oX [oM 15 0,oC 16 129 [oO 15,(.const (.int .u8 32))],oM 6 16] [2,4,5,6] (oX [oV 7 (-1)] [2,4,5,6,7] (oS (oX [oV 8 0] [2,4,5,6,7,8] (.block 0 (.loop c83l1))) (oK [2,4,5,6,7] (.cut c83k2))))))
def rv83 : List RV:=[.cell 2 true 3,.tmp 3]
theorem is83 : FnIs Tryz.prog 83 86 c83 rv83:=⟨⟨Tryz.f83,_,Tryz.func83,by kernel_rfl,rfl,rfl,by kernel_rfl,by kernel_rfl⟩,by decide⟩
end Go.Proofs.YtcbabnbiinkafaaGreatDoor.F2
end
section
namespace Go.Proofs
open Go.Shelf
def Tryz.laysC172_ren : Go.Shelf.Ren:=⟨fun | 172=>174 | 244=>194 | 245=>195 | 247=>210 | 279=>211 | 280=>212 | 281=>213 | 282=>214 | 287=>223 | 316=>224 | 171=>154 | 205=>225 | 321=>238 | 322=>239 | 243=>169 | 246=>185 | 283=>203 | 284=>204 | 285=>205 | 286=>206 | 129=>219 | 317=>218 | 318=>220 | 319=>221 | 320=>222 | 337=>236 | 338=>237 | n=>n,fun | 9=>9 | 3=>3 | 75=>203 | 76=>204 | 4=>4 | 5=>5 | 167=>246 | 37=>192 | 0=>0 | 85=>247 | 2=>2 | 168=>249 | 53=>238 | 175=>262 | 46=>230 | 210=>266 | 127=>217 | 145=>280 | 143=>278 | 21=>21 | 171=>237 | 173=>241 | 212=>256 | 51=>243 | 20=>20 | 213=>257 | 232=>286 | 233=>287 | 80=>206 | n=>n,fun | 15=>5 | 16=>6 | 17=>2 | 18=>7 | 19=>8 | n=>n⟩
theorem Tryz.laysC172 : Go.Proofs.LaysC.n172 Tryz.prog Tryz.laysC172_ren:={
 mixed:=by kernel_rfl
 f129:=Tryz.func219.trans (congrArg some (by kernel_rfl))
 f171:=Tryz.func154.trans (congrArg some (by kernel_rfl))
 f172:=Tryz.func174.trans (congrArg some (by kernel_rfl))
 f205:=Tryz.func225.trans (congrArg some (by kernel_rfl))
 f243:=Tryz.func169.trans (congrArg some (by kernel_rfl))
 f244:=Tryz.func194.trans (congrArg some (by kernel_rfl))
 f245:=Tryz.func195.trans (congrArg some (by kernel_rfl))
 f246:=Tryz.func185.trans (congrArg some (by kernel_rfl))
 f247:=Tryz.func210.trans (congrArg some (by kernel_rfl))
 f279:=Tryz.func211.trans (congrArg some (by kernel_rfl))
 f280:=Tryz.func212.trans (congrArg some (by kernel_rfl))
 f281:=Tryz.func213.trans (congrArg some (by kernel_rfl))
 f282:=Tryz.func214.trans (congrArg some (by kernel_rfl))
 f283:=Tryz.func203.trans (congrArg some (by kernel_rfl))
 f284:=Tryz.func204.trans (congrArg some (by kernel_rfl))
 f285:=Tryz.func205.trans (congrArg some (by kernel_rfl))
 f286:=Tryz.func206.trans (congrArg some (by kernel_rfl))
 f287:=Tryz.func223.trans (congrArg some (by kernel_rfl))
 f316:=Tryz.func224.trans (congrArg some (by kernel_rfl))
 f317:=Tryz.func218.trans (congrArg some (by kernel_rfl))
 f318:=Tryz.func220.trans (congrArg some (by kernel_rfl))
 f319:=Tryz.func221.trans (congrArg some (by kernel_rfl))
 f320:=Tryz.func222.trans (congrArg some (by kernel_rfl))
 f321:=Tryz.func238.trans (congrArg some (by kernel_rfl))
 f322:=Tryz.func239.trans (congrArg some (by kernel_rfl))
 f337:=Tryz.func236.trans (congrArg some (by kernel_rfl))
 f338:=Tryz.func237.trans (congrArg some (by kernel_rfl))
 t0:=Tryz.underlying0
 a0:=Tryz.isAgg0
 z0:=Tryz.sizeOf0
 v0:=Tryz.zeroValue0
 t2:=Tryz.underlying2
 a2:=Tryz.isAgg2
 z2:=Tryz.sizeOf2
 v2:=Tryz.zeroValue2
 t3:=Tryz.underlying3
 a3:=Tryz.isAgg3
 z3:=Tryz.sizeOf3
 v3:=Tryz.zeroValue3
 t4:=Tryz.underlying4
 a4:=Tryz.isAgg4
 z4:=Tryz.sizeOf4
 v4:=Tryz.zeroValue4
 t5:=Tryz.underlying5
 a5:=Tryz.isAgg5
 z5:=Tryz.sizeOf5
 v5:=Tryz.zeroValue5
 t9:=Tryz.underlying9
 a9:=Tryz.isAgg9
 z9:=Tryz.sizeOf9
 v9:=Tryz.zeroValue9
 t20:=Tryz.underlying20
 a20:=Tryz.isAgg20
 z20:=Tryz.sizeOf20
 v20:=Tryz.zeroValue20
 t21:=Tryz.underlying21
 a21:=Tryz.isAgg21
 z21:=Tryz.sizeOf21
 v21:=Tryz.zeroValue21
 t37:=Tryz.underlying192
 a37:=Tryz.isAgg192
 z37:=Tryz.sizeOf192
 v37:=Tryz.zeroValue192
 t46:=Tryz.underlying230
 a46:=Tryz.isAgg230
 z46:=Tryz.sizeOf230
 v46:=Tryz.zeroValue230
 t51:=Tryz.underlying243
 a51:=Tryz.isAgg243
 z51:=Tryz.sizeOf243
 v51:=Tryz.zeroValue243
 t53:=Tryz.underlying238
 a53:=Tryz.isAgg238
 z53:=Tryz.sizeOf238
 v53:=Tryz.zeroValue238
 t75:=Tryz.underlying203
 a75:=Tryz.isAgg203
 z75:=Tryz.sizeOf203
 v75:=Tryz.zeroValue203
 t76:=Tryz.underlying204
 a76:=Tryz.isAgg204
 z76:=Tryz.sizeOf204
 v76:=Tryz.zeroValue204
 t85:=Tryz.underlying247
 a85:=Tryz.isAgg247
 z85:=Tryz.sizeOf247
 v85:=Tryz.zeroValue247
 t127:=Tryz.underlying217
 a127:=Tryz.isAgg217
 z127:=Tryz.sizeOf217
 v127:=Tryz.zeroValue217
 t143:=Tryz.underlying278
 a143:=Tryz.isAgg278
 z143:=Tryz.sizeOf278
 v143:=Tryz.zeroValue278
 t145:=Tryz.underlying280
 a145:=Tryz.isAgg280
 z145:=Tryz.sizeOf280
 v145:=Tryz.zeroValue280
 t167:=Tryz.underlying246
 a167:=Tryz.isAgg246
 z167:=Tryz.sizeOf246
 v167:=Tryz.zeroValue246
 t168:=Tryz.underlying249
 a168:=Tryz.isAgg249
 z168:=Tryz.sizeOf249
 v168:=Tryz.zeroValue249
 t171:=Tryz.underlying237
 a171:=Tryz.isAgg237
 z171:=Tryz.sizeOf237
 v171:=Tryz.zeroValue237
 t173:=Tryz.underlying241
 a173:=Tryz.isAgg241
 z173:=Tryz.sizeOf241
 v173:=Tryz.zeroValue241
 t175:=Tryz.underlying262
 a175:=Tryz.isAgg262
 z175:=Tryz.sizeOf262
 v175:=Tryz.zeroValue262
 t210:=Tryz.underlying266
 a210:=Tryz.isAgg266
 z210:=Tryz.sizeOf266
 v210:=Tryz.zeroValue266
 t212:=Tryz.underlying256
 a212:=Tryz.isAgg256
 z212:=Tryz.sizeOf256
 v212:=Tryz.zeroValue256
 t213:=Tryz.underlying257
 a213:=Tryz.isAgg257
 z213:=Tryz.sizeOf257
 t232:=Tryz.underlying286
 a232:=Tryz.isAgg286
 z232:=Tryz.sizeOf286
 v232:=Tryz.zeroValue286
 t233:=Tryz.underlying287
 a233:=Tryz.isAgg287
 z233:=Tryz.sizeOf287
 v233:=Tryz.zeroValue287
 g15:=by kernel_rfl
 g16:=by kernel_rfl
 g17:=by kernel_rfl
 g18:=by kernel_rfl
 g19:=by kernel_rfl
 t80:=Tryz.underlying206
 a80:=Tryz.isAgg206
 z80:=Tryz.sizeOf206
 v80:=Tryz.zeroValue206
 i0:=by kernel_rfl
 i2:=by kernel_rfl
 i3:=by kernel_rfl
 i4:=by kernel_rfl
 i5:=by kernel_rfl
 i9:=by kernel_rfl
 i20:=by kernel_rfl
 i21:=by kernel_rfl
 i37:=by kernel_rfl
 i46:=by kernel_rfl
 i51:=by kernel_rfl
 i53:=by kernel_rfl
 i75:=by kernel_rfl
 i76:=by kernel_rfl
 i80:=by kernel_rfl
 i85:=by kernel_rfl
 i127:=by kernel_rfl
 i143:=by kernel_rfl
 i145:=by kernel_rfl
 i167:=by kernel_rfl
 i168:=by kernel_rfl
 i171:=by kernel_rfl
 i173:=by kernel_rfl
 i175:=by kernel_rfl
 i210:=by kernel_rfl
 i212:=by kernel_rfl
 i232:=by kernel_rfl
 i233:=by kernel_rfl
 m15:=by kernel_rfl
 m16:=by kernel_rfl
 m17:=by kernel_rfl
 m18:=by kernel_rfl
 m19:=by kernel_rfl
 c0:=by kernel_rfl
 c2:=by kernel_rfl
 c3:=by kernel_rfl
 c4:=by kernel_rfl
 c5:=by kernel_rfl
 c9:=by kernel_rfl
 c20:=by kernel_rfl
 c21:=by kernel_rfl
 c37:=by kernel_rfl
 c46:=by kernel_rfl
 c51:=by kernel_rfl
 c53:=by kernel_rfl
 c75:=by kernel_rfl
 c76:=by kernel_rfl
 c80:=by kernel_rfl
 c85:=by kernel_rfl
 c127:=by kernel_rfl
 c143:=by kernel_rfl
 c145:=by kernel_rfl
 c167:=by kernel_rfl
 c168:=by kernel_rfl
 c171:=by kernel_rfl
 c173:=by kernel_rfl
 c175:=by kernel_rfl
 c210:=by kernel_rfl
 c212:=by kernel_rfl
 c213:=by kernel_rfl
 c232:=by kernel_rfl
 c233:=by kernel_rfl }
def Tryz.lays219_ren : Go.Shelf.Ren:=⟨fun | 219=>172 | 217=>188 | 225=>189 | 224=>190 | 267=>191 | 266=>207 | 314=>208 | n=>n,fun | 9=>9 | 3=>3 | 4=>4 | 5=>5 | 46=>230 | 146=>244 | 51=>243 | n=>n,fun | 1=>1 | n=>n⟩
theorem Tryz.lays219 : Go.Proofs.Lays.n219 Tryz.prog Tryz.lays219_ren:={
 mixed:=by kernel_rfl
 f217:=Tryz.func188.trans (congrArg some (by kernel_rfl))
 f219:=Tryz.func172.trans (congrArg some (by kernel_rfl))
 f224:=Tryz.func190.trans (congrArg some (by kernel_rfl))
 f225:=Tryz.func189.trans (congrArg some (by kernel_rfl))
 f266:=Tryz.func207.trans (congrArg some (by kernel_rfl))
 f267:=Tryz.func191.trans (congrArg some (by kernel_rfl))
 f314:=Tryz.func208.trans (congrArg some (by kernel_rfl))
 t3:=Tryz.underlying3
 a3:=Tryz.isAgg3
 z3:=Tryz.sizeOf3
 v3:=Tryz.zeroValue3
 t4:=Tryz.underlying4
 a4:=Tryz.isAgg4
 z4:=Tryz.sizeOf4
 v4:=Tryz.zeroValue4
 t5:=Tryz.underlying5
 a5:=Tryz.isAgg5
 z5:=Tryz.sizeOf5
 v5:=Tryz.zeroValue5
 t9:=Tryz.underlying9
 a9:=Tryz.isAgg9
 z9:=Tryz.sizeOf9
 v9:=Tryz.zeroValue9
 t46:=Tryz.underlying230
 a46:=Tryz.isAgg230
 z46:=Tryz.sizeOf230
 v46:=Tryz.zeroValue230
 t51:=Tryz.underlying243
 a51:=Tryz.isAgg243
 z51:=Tryz.sizeOf243
 v51:=Tryz.zeroValue243
 t146:=Tryz.underlying244
 a146:=Tryz.isAgg244
 z146:=Tryz.sizeOf244
 v146:=Tryz.zeroValue244
 g1:=by kernel_rfl }
def Tryz.lays143_ren : Go.Shelf.Ren:=⟨fun | 143=>178 | 219=>172 | 217=>188 | 225=>189 | 224=>190 | 267=>191 | 266=>207 | 314=>208 | n=>n,fun | 9=>9 | 3=>3 | 4=>4 | 5=>5 | 46=>230 | 146=>244 | 51=>243 | n=>n,fun | 1=>1 | n=>n⟩
theorem Tryz.lays143 : Go.Proofs.Lays.n143 Tryz.prog Tryz.lays143_ren:={
 mixed:=by kernel_rfl
 f143:=Tryz.func178.trans (congrArg some (by kernel_rfl))
 f217:=Tryz.func188.trans (congrArg some (by kernel_rfl))
 f219:=Tryz.func172.trans (congrArg some (by kernel_rfl))
 f224:=Tryz.func190.trans (congrArg some (by kernel_rfl))
 f225:=Tryz.func189.trans (congrArg some (by kernel_rfl))
 f266:=Tryz.func207.trans (congrArg some (by kernel_rfl))
 f267:=Tryz.func191.trans (congrArg some (by kernel_rfl))
 f314:=Tryz.func208.trans (congrArg some (by kernel_rfl))
 t3:=Tryz.underlying3
 a3:=Tryz.isAgg3
 z3:=Tryz.sizeOf3
 v3:=Tryz.zeroValue3
 t4:=Tryz.underlying4
 a4:=Tryz.isAgg4
 z4:=Tryz.sizeOf4
 v4:=Tryz.zeroValue4
 t5:=Tryz.underlying5
 a5:=Tryz.isAgg5
 z5:=Tryz.sizeOf5
 v5:=Tryz.zeroValue5
 t9:=Tryz.underlying9
 a9:=Tryz.isAgg9
 z9:=Tryz.sizeOf9
 v9:=Tryz.zeroValue9
 t46:=Tryz.underlying230
 a46:=Tryz.isAgg230
 z46:=Tryz.sizeOf230
 v46:=Tryz.zeroValue230
 t51:=Tryz.underlying243
 a51:=Tryz.isAgg243
 z51:=Tryz.sizeOf243
 v51:=Tryz.zeroValue243
 t146:=Tryz.underlying244
 a146:=Tryz.isAgg244
 z146:=Tryz.sizeOf244
 v146:=Tryz.zeroValue244
 g1:=by kernel_rfl }
def Tryz.lays138_ren : Go.Shelf.Ren:=⟨fun | 138=>177 | 195=>197 | 218=>198 | 143=>178 | 219=>172 | 217=>188 | 225=>189 | 224=>190 | 267=>191 | 266=>207 | 314=>208 | n=>n,fun | 9=>9 | 3=>3 | 4=>4 | 5=>5 | 0=>0 | 46=>230 | 146=>244 | 51=>243 | n=>n,fun | 1=>1 | n=>n⟩
theorem Tryz.lays138 : Go.Proofs.Lays.n138 Tryz.prog Tryz.lays138_ren:={
 mixed:=by kernel_rfl
 f138:=Tryz.func177.trans (congrArg some (by kernel_rfl))
 f143:=Tryz.func178.trans (congrArg some (by kernel_rfl))
 f195:=Tryz.func197.trans (congrArg some (by kernel_rfl))
 f217:=Tryz.func188.trans (congrArg some (by kernel_rfl))
 f218:=Tryz.func198.trans (congrArg some (by kernel_rfl))
 f219:=Tryz.func172.trans (congrArg some (by kernel_rfl))
 f224:=Tryz.func190.trans (congrArg some (by kernel_rfl))
 f225:=Tryz.func189.trans (congrArg some (by kernel_rfl))
 f266:=Tryz.func207.trans (congrArg some (by kernel_rfl))
 f267:=Tryz.func191.trans (congrArg some (by kernel_rfl))
 f314:=Tryz.func208.trans (congrArg some (by kernel_rfl))
 t0:=Tryz.underlying0
 a0:=Tryz.isAgg0
 z0:=Tryz.sizeOf0
 v0:=Tryz.zeroValue0
 t3:=Tryz.underlying3
 a3:=Tryz.isAgg3
 z3:=Tryz.sizeOf3
 v3:=Tryz.zeroValue3
 t4:=Tryz.underlying4
 a4:=Tryz.isAgg4
 z4:=Tryz.sizeOf4
 v4:=Tryz.zeroValue4
 t5:=Tryz.underlying5
 a5:=Tryz.isAgg5
 z5:=Tryz.sizeOf5
 v5:=Tryz.zeroValue5
 t9:=Tryz.underlying9
 a9:=Tryz.isAgg9
 z9:=Tryz.sizeOf9
 v9:=Tryz.zeroValue9
 t46:=Tryz.underlying230
 a46:=Tryz.isAgg230
 z46:=Tryz.sizeOf230
 v46:=Tryz.zeroValue230
 t51:=Tryz.underlying243
 a51:=Tryz.isAgg243
 z51:=Tryz.sizeOf243
 v51:=Tryz.zeroValue243
 t146:=Tryz.underlying244
 a146:=Tryz.isAgg244
 z146:=Tryz.sizeOf244
 v146:=Tryz.zeroValue244
 g1:=by kernel_rfl }
def Tryz.lays101_ren : Go.Shelf.Ren:=⟨fun | 101=>175 | 208=>196 | 206=>215 | n=>n,fun | 9=>9 | 4=>4 | 3=>3 | n=>n,fun | n=>n⟩
theorem Tryz.lays101 : Go.Proofs.Lays.n101 Tryz.prog Tryz.lays101_ren:={
 mixed:=by kernel_rfl
 f101:=Tryz.func175.trans (congrArg some (by kernel_rfl))
 f206:=Tryz.func215.trans (congrArg some (by kernel_rfl))
 f208:=Tryz.func196.trans (congrArg some (by kernel_rfl))
 t3:=Tryz.underlying3
 a3:=Tryz.isAgg3
 z3:=Tryz.sizeOf3
 v3:=Tryz.zeroValue3
 t4:=Tryz.underlying4
 a4:=Tryz.isAgg4
 z4:=Tryz.sizeOf4
 v4:=Tryz.zeroValue4
 t9:=Tryz.underlying9
 a9:=Tryz.isAgg9
 z9:=Tryz.sizeOf9
 v9:=Tryz.zeroValue9 }
end Go.Proofs
end
section
open Go Go.Am
open Go.Am.Dat (cells)
namespace Go.Proofs.YtcbabnbiinkafaaGreatDoor
set_option maxHeartbeats 4000000
set_option maxRecDepth 100000
def cnt (p:Nat->Bool):Nat->Nat
 | 0=>0
 | t+1=>if p t then cnt p t+1 else 0
theorem AX (p:Nat->Bool):∀ (t m:Nat),m < cnt p t↔(m < t/\∀ k,k < t->t<=k+m+1->p k=true)
 | 0,m=>by simp[cnt]
 | t+1,m=>by
  rw[cnt];cases hp:p t with
  | false=>
   simp only[zr,if_false,Nat.not_lt_zero,false_iff,not_and];intro h1 h2;have:=h2 t (by omega) (by omega);rw[hp]at this;cases this
  | true=>
   simp only[if_true];cases m with
   | zero=>
    constructor
    . intro _;refine⟨by omega,fun k h1 h2=>?_⟩;have:k=t:=by omega
      rw[this];exact hp
    . intro _;omega
   | succ m=>
    have ih:=AX p t m;constructor
    . intro h;obtain⟨g1,g2⟩:=ih.1 (by omega);refine⟨by omega,fun k h1 h2=>?_⟩;by_cases hk:k=t
      . rw[hk];exact hp
      . exact g2 k (by omega) (by omega)
    . intro h;have:=ih.2 ⟨by omega,fun k h1 h2=>h.2 k (by omega) (by omega)⟩;omega
theorem B4 (p:Nat->Bool) (t:Nat):((cnt p (t+1):Nat):Int)=if p t then (cnt p t:Int)+1 else 0:=by
 rw[cnt];split <;> simp
theorem Bc (n:Nw) (a b:Int) (h:NwS n):FC Tryz.prog 115 [enc n,enc a,enc b] [] (enc (nbr n a b)) []:=by
 have hb:=h.b;generalize hB:nbr n a b=B;refine dD [] is115 (by simp) trivial trivial trivial trivial (fun cx _ hl _=>dC [] 800 ?_);delta c115 oS oK oV oX o7 o9;simp (maxSteps:=9^7) -implicitDefEqProofs only[BQ,ed,WU,Ent.of0,Ent.of1,Ent.of2,Ent.of3,Ent.of4,V,W3,↓reduceIte,seval,reduceCtorEq];refine eN n.nb.length (fun i=>[(7,.s (.int .i64 (i:Int)))]) (fun _=>[]) (fun i=>B=(n.nb.drop i).any fun x=>decide (x=⟨min a b,max a b⟩)) (by rw[<- hB];rfl) ?_ (fun i hi hv=>dC [] 800 ?_)
 . simp (maxSteps:=9^7) -implicitDefEqProofs only[Ent.of0,Ent.of1,Ent.of2,Ent.of3,Ent.of4,V,W3,↓reduceIte,seval,reduceCtorEq]
   all_goals simp
 . by_cases h5:i < n.nb.length
   . have hi2:(i:Int) < (n.nb.length:Int):=by omega
     have hi0:(0:Int)<=i:=by omega
     have hgd:=p9 (n.nb.getD i ⟨0,0⟩) ⟨min a b,max a b⟩;rw[eg ⟨0,0⟩ h5,List.any_cons]at hv;cases hx:decide (n.nb.getD i ⟨0,0⟩=(⟨min a b,max a b⟩:Gs))
     all_goals
      rw[hx]at hgd hv;simp only[yz,zF]at hv;delta BY oO oN oA oM oR oS oK oF oL oI oX oB o2 o4 o5 o9;simp (maxSteps:=9^7) -implicitDefEqProofs only[BQ,hi2,hi0,h5,hgd,InR,not_true_eq_false,WU,Ent.of0,Ent.of1,Ent.of2,Ent.of3,Ent.of4,V,W3,↓reduceIte,seval,reduceCtorEq];rw[show (if b < a then b else a)=min a b by omega,show (if b > a then b else a)=max a b by omega,hgd];simp only[if_true,zr,if_false]
      first | exact hv.symm | exact⟨by omega,hv,by omega⟩
   . have hi2:¬ (i:Int) < (n.nb.length:Int):=by omega
     rw[zv (by omega)]at hv;delta BY oO oN oA oM oR oS oK oF oL oI oX oB o2 o4 o5 o9;simp (maxSteps:=9^7) -implicitDefEqProofs only[BQ,hi2,WU,Ent.of0,Ent.of1,Ent.of2,Ent.of3,Ent.of4,V,W3,↓reduceIte,seval,reduceCtorEq]
     try simp[hv]
def y7 : Ent Tryz.prog:=.of3 115 (fun n _ _=>NwS n) (fun (n:Nw) (a b:Int)=>enc (nbr n a b)) (fun _ _ _=>trivial) (fun n a b h=>Bc n a b h)
def btr (r:Rul) (s n:List Int) (k:Nat):Bool:=nG r (s.getD k 0) (n.getD k 0)
def ovk (r:Rul) (s n:List Int) (k:Nat):Bool:=over r (s.getD k 0) (n.getD k 0)
def GoodT (r:Rul) (s n:List Int):Option Int->List Int->Prop
 |_,[]=>True
 | prev,v :: l=>(r.trig<=v/\v<=(s.length:Int) - 1)/\(∀ k:Nat,v - r.trig<=(k:Int)->(k:Int)<=v->btr r s n k=true)/\(∀ u,prev=some u->u < v/\∃ k:Nat,u<=(k:Int)/\(k:Int) < v/\ovk r s n k=true)/\GoodT r s n (some v) l
theorem cnt_gt {r:Rul} {s n:List Int} {t:Nat} {run:Int} (ht:0<=r.trig) (hrun:run=(cnt (btr r s n) (t+1):Int)) (h:r.trig < run):r.trig<=t/\∀ k:Nat,(t:Int) - r.trig<=k->(k:Int)<=t->btr r s n k=true:=by
 obtain⟨T,hT⟩:∃ T:Nat,r.trig=(T:Int):=⟨r.trig.toNat,by omega⟩;rw[hT]at h ⊢;have h2:T < cnt (btr r s n) (t+1):=by omega
 rw[AX]at h2;exact⟨by omega,fun k h3 h4=>h2.2 k (by omega) (by omega)⟩
end Go.Proofs.YtcbabnbiinkafaaGreatDoor
end
