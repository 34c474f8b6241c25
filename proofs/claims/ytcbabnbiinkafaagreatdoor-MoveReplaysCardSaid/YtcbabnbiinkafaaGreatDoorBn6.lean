/- Part 6 of the proof of: the statements about chapter 8 -/
import Derived.RangeFuncRecord
import Derived.Test.YtcbabnbiinkafaaGreatDoorBn5
set_option linter.all false
section
namespace Go.Am
variable {P : Program} [Glob P] {cx : Cx} {Q : ASt → Prop} {k : List It} {st : ASt}
theorem S_keepT {l:List Nat} (h:SG P cx Q k ⟨bu l st.t,st.ch⟩):SG P cx Q k st:=fun E U a w hh=>
 h E U a w (hh.slots fun i=>by
  rcases vW l st.t i with e | e
  · rw [e]; exact .d (.any _)
  · rw [← e]; exact hh.tok i)
theorem dW.refl : dW P cx st st:=fun E U _ _ hh=>⟨E,U,hh⟩
theorem fD {s':ASt} (hg:dW P cx st s') (h:SG P cx Q k s'):SG P cx Q k st:=fun E U a w hh=>by
 obtain ⟨E',U',h'⟩:=hg E U a w hh
 exact h E' U' a w h'
theorem Holds.ghost {E:Env} {U:Nat→Prop} {a:Act} {w:World} (hh:Holds P cx E U a w st) {m:List (Nat×Sb)} {d:Nat} {E':Env} {U':Nat→Prop} {ch':Chs} (hd:d < 100000) (he:Ev E U w st.ch m d E' U' w ch'):Holds P cx E' U' a w ⟨bo m st.t,ch'⟩:=by
 refine ⟨hh.sz,hh.onDf he,fun i=>by rw [iy]; exact he.rep (hh.tok i),he.inv,hh.os,hh.tape,hh.output,hh.size,hh.fr,fun b hb=>⟨(he.keep b (hh.keepA b hb).1).1,(hh.keepA b hb).2⟩,fun k c hm b hb=>?_,fun b hb=>?_,fun k cs hk hm=>?_,fun p hp=>(hh.hid p hp).ev he,hh.gok.mono he.keep⟩
 · rcases he.live k c hm b hb with h | ⟨k0,c0,h1,h2⟩
   · exact .inl (Nat.le_trans hh.size h)
   · exact hh.live k0 c0 h1 b h2
 · rcases he.newU b hb with h | h | ⟨k0,c0,h1,h2⟩
   · exact hh.base b h
   · exact .inr (.inl (Nat.le_trans hh.size h))
   · rcases hh.live k0 c0 h1 b h2 with h | h
     · exact .inr (.inl h)
     · exact .inr (.inr h)
 · rcases he.boxes k cs hm with h | ⟨⟨cs0,h1⟩,h2⟩
   · have:=Cx.fx_ge hk; omega
   · exact h2.trans (hh.fix k cs0 hk h1)
def be (ch:Chs):List Nat→List (Nat×Sb)
 | []=>[]
 | k :: ks=>
  match (lk ch k).bind bw with
  | some x=>(k,.c x) :: be ch ks
  | none=>be ch ks
theorem jA {ch:Chs}:∀ ks:List Nat,qE ch (be ch ks)
 | []=>fun k c h=>by simp [be] at h
 | k :: ks=>by
  simp only [be]
  cases hl:(lk ch k).bind bw with
  | none=>exact jA ks
  | some x=>
   simp only [Option.bind_eq_some_iff] at hl
   obtain ⟨c0,hl,hx⟩:=hl
   intro k' c' h
   simp only [List.lookup_cons] at h
   by_cases hk:k'=k
   · subst hk; simp at h; exact ⟨c0,x,hl,hx,h.symm⟩
   · have hb:(k' == k)=false:=by simp [hk]
     rw [hb] at h
     exact jA ks k' c' h
def ce (ks:List Nat) (s:ASt):ASt:=⟨bo (be s.ch ks) s.t,ae (be s.ch ks) (aC s.ch (be s.ch ks))⟩
theorem Holds.fz {E:Env} {U:Nat→Prop} {a:Act} {w:World} (hh:Holds P cx E U a w st) (ks:List Nat):∃ U',Holds P cx E U' a w (ce ks st):=by
 have he:=Ev.freeze (w1:=w) hh.inv (jA ks) rfl rfl rfl (Nat.le_refl _) (fun _ _=>rfl) (fun _=>False) (fun b h=>h.elim) 0
 exact ⟨_,hh.ghost (by decide) he⟩
theorem dW.fz (ks:List Nat):dW P cx st (ce ks st):=fun E U a w hh=>by
 obtain ⟨U',h⟩:=hh.fz ks
 exact ⟨E,U',h⟩
theorem S_fz (ks:List Nat) (h:SG P cx Q k (ce ks st)):SG P cx Q k st:=fD (dW.fz ks) h
def dm (i sz:Nat) (ty:TypeId) (s:ASt):ASt:=⟨am (bo [(i,.c .any)] s.t) i (.own i),(i,.row sz ty []) :: ae [(i,.c .any)] (af s.ch i)⟩
theorem dW.nilrow {i sz:Nat} {ty:TypeId} (hi:i < 100000) (hn:gt st.t i=.s (.slice none 0 0)):dW P cx st (dm i sz ty st):=fun E U a w hh=>by
 let x:KE:=ke0 ⟨0,0,0,0,sz,true⟩
 have hx:dM (dN E i x) U w.heap i (.row sz ty []):=by
  rw [dM,updE_same]
  exact ⟨⟨rfl,rfl,(fun n el h=>by simp at h),.inl ⟨rfl,rfl⟩⟩,gA _⟩
 have he:=Ev.freshNil hh.inv i x (.row sz ty []) (fun b hb=>by cases hb.1) hx
 have hv:a.tmps.getD i undef=.slice none 0 0:=dJ (hn ▸ hh.tok i)
 have h1:=hh.ghost hi he
 refine ⟨_,U,h1.slots fun j=>?_⟩
 by_cases hj:i=j
 · subst hj
   simp only [fQ,if_true]
   have:=Rep.own (E:=dN E i x) (U:=U) (h:=w.heap) i
   rw [updE_same] at this
   rw [hv]; exact this
 · have:=h1.tok j
   simp only [fQ,if_neg hj]
   exact this
theorem m8 {i sz:Nat} {ty:TypeId} (hi:i < 100000) (hn:gt st.t i=.s (.slice none 0 0)) (h:SG P cx Q k (dm i sz ty st)):SG P cx Q k st:=fD (dW.nilrow hi hn) h
def cB (kk isz:Nat) (ity ty:TypeId) (es:List (List C)) (s:ASt):ASt:=⟨bo [(kk,.inner)] s.t,(kk,.deep isz ity ty none (es.map fun _=>[])) :: ae [(kk,.inner)] (af s.ch kk)⟩
theorem dW.deepen {kk isz:Nat} {ity ty:TypeId} {es:List (List C)} (hl:lk st.ch kk=some (.row 1 ty es)) (hes:∀ e∈es,e=[.s (.slice none 0 0)]):dW P cx st (cB kk isz ity ty es st):=fun E U a w hh=>by
 have hkm:=dG hl
 obtain ⟨⟨h1,h2,h3,h4⟩,hf⟩:=hh.inv.ok kk _ hkm
 let y0:KE0:=⟨0,0,0,0,isz,true⟩
 let x:KE:=mkK (E kk).toKE0 (fun _=>y0) (ej isz ity none (es.map fun _=>[]))
 have hx:FpOk x (ej isz ity none (es.map fun _=>[])):=ot (fun i q _ h=>by cases h) (fun i j q q' _ _ _ h=>by cases h)
 have he:=Ev.write (w1:=w) (k:=kk) (c1:=.deep isz ity ty none (es.map fun _=>[])) (x:=x) hh.inv hl rfl rfl rfl (Nat.le_refl _) (fun _ _ _=>rfl) rfl (fun b hb=>by
  rcases hb with h | ⟨i,q,_,h,_⟩
  · exact (hf.fp b).2 (.inl h)
  · cases h) (fun ⟨cs,h⟩=>by cases h) (fun _ _=>by
  simp only [dM,updE_same]
  refine ⟨⟨by rw [List.length_map]; exact h1,h2,?_⟩,hx,fun i n t es' h=>?_⟩
  · rcases h4 with ⟨g1,rfl⟩ | ⟨g1,g2,g3,arr,g4,g5,g6⟩
    · exact .inl ⟨g1,rfl⟩
    · refine .inr ⟨g1,by rw [List.length_map]; exact g2,g3,arr,g4,by rw [Nat.mul_one] at g5; exact g5,fun i hi=>?_⟩
      have hi':i < es.length:=by simpa using hi
      have e1:=hes es[i] (List.getElem_mem hi')
      have e2:es[i]? = some [.s (.slice none 0 0)]:=by rw [List.getElem?_eq_getElem hi',e1]
      obtain ⟨r1,r2⟩:=g6 i _ 0 _ e2 rfl
      rw [Nat.mul_one,Nat.add_zero] at r1 r2
      exact ⟨r2,fun _=>oB r1⟩
  · simp only [ej,reduceCtorEq,if_false,List.getElem?_map,Option.map_map,Option.map_eq_some_iff] at h
    obtain ⟨e,_,h⟩:=h
    simp only [Function.comp,Prod.mk.injEq] at h
    obtain ⟨rfl,rfl,rfl⟩:=h
    exact ⟨rfl,rfl,(fun n el h=>by simp at h),.inl ⟨rfl,rfl⟩⟩) 0
 exact ⟨_,U,hh.ghost (by decide) he⟩
end Go.Am
end
section
namespace Go.Am
variable {P : Program} [Glob P] {cx : Cx} {Q : ASt → Prop} {k : List It} {st : ASt}
variable {dr : Bool} {o : AO} {os : List AO}
def bJ (dr:Bool) (o:AO) (ef:Eff) (s:ASt):Prop:=
 match dr,o.tot with
 | true,false=>ef.ch=s.ch∧ef.sub=[]
 | _,_=>True
theorem jU {ef:Eff} {s:ASt} (h:bJ dr o ef s):dr=true→o.tot=true∨(ef.ch=s.ch∧ef.sub=[]):=fun hd=>by
 subst hd
 cases ht:o.tot with
 | true=>exact .inl rfl
 | false=>simp only [bJ,ht] at h; exact .inr h
theorem D_nil (h:SG P cx Q k st):DG P cx Q dr k [] st:=by
 cases dr with
 | true=>exact ⟨st,rfl,h⟩
 | false=>exact h
theorem qi {ef:Eff} (hs:StepE P o st ef) (hd:bJ dr o ef st) (h:DG P cx Q dr k os (aw o.dst ef st)):DG P cx Q dr k (o :: os) st:=by
 cases dr with
 | true=>
  obtain ⟨st',h1,h2⟩:=h
  exact ⟨st',⟨ef,hs,jU hd,h1⟩,h2⟩
 | false=>
  cases hs with
  | yes _ hw hr=>exact .inr ⟨hw,st,dW.refl,.inl ⟨ef,hr,h⟩⟩
  | no hw=>exact .inl ⟨hw,h⟩
theorem o6 {s':ASt} (hno:o.guard=none) (hg:dW P cx st s') (h:DG P cx Q false k (o :: os) s'):DG P cx Q false k (o :: os) st:=by
 rcases h with ⟨h1,_⟩ | ⟨h1,s1,g1,g2⟩
 · rw [hno] at h1; cases h1
 · refine .inr ⟨by rw [hno]; rfl,s1,fun E U a w hh=>?_,g2⟩
   obtain ⟨E',U',h'⟩:=hg E U a w hh
   exact g1 E' U' a w h'
theorem o7 {outs:Eff→Prop} (hg:o.guard=none) (ho:OpM P cx.ro (aq P st.t) st.ch (o.dst.getD 0) o.op outs) (h:∀ ef,outs ef→DG P cx Q false k os (aw o.dst ef st)):DG P cx Q false k (o :: os) st:=
 .inr ⟨by rw [hg]; rfl,st,dW.refl,.inr ⟨outs,ho,h⟩⟩
theorem tH {outs:List Eff} (hg:o.guard=none) (ho:OpM P cx.ro (aq P st.t) st.ch (o.dst.getD 0) o.op (fun ef=>ef∈outs)) (h:∀ ef∈outs,DG P cx Q false k os (aw o.dst ef st)):DG P cx Q false k (o :: os) st:=
 o7 hg ho h
def EqS (s s':ASt):Prop:=(∀ i,gt s.t i=gt s'.t i)∧s.ch=s'.ch
theorem iJ.eqS : ∀ (os:List AO) (s s2 s':ASt),EqS s s2→iJ P dr os s s'→∃ s2',EqS s' s2'∧iJ P dr os s2 s2'
 | [],s,s2,s',he,h=>by simp only [iJ] at h; subst h; exact ⟨s2,he,rfl⟩
 | o :: os,s,s2,s',he,h=>by
  obtain ⟨ef,h1,h2,h3⟩:=h
  have he2:EqS (aw o.dst ef s) (aw o.dst ef s2):=⟨fun i=>by simp only [aw,fE,he.1 i],rfl⟩
  obtain ⟨s2',g1,g2⟩:=iJ.eqS os _ _ s' he2 h3
  exact ⟨s2',g1,ef,h1.congr (fun i _=>he.1 i) he.2,fun hd=>by rw [← he.2]; exact h2 hd,g2⟩
theorem SG.eqS {s2:ASt} (he:EqS s2 st) (h:SG P cx Q k s2):SG P cx Q k st:=fun E U a w hh=>h E U a w (hh.ext (fun i=>(he.1 i).symm) he.2.symm)
theorem dW.eqS {s s':ASt} (he:EqS s s'):dW P cx s' s:=fun E U _ _ hh=>⟨E,U,hh.ext (fun i=>(he.1 i).symm) he.2.symm⟩
theorem jz.eqS {G:ASt→Prop} (hG:∀ s s2,EqS s2 s→G s2→G s):∀ (os:List AO) (s s2:ASt),EqS s2 s→jz P cx G os s2→jz P cx G os s
 | [],s,s2,he,h=>hG s s2 he h
 | o :: os,s,s2,he,h=>by
  have hw:fl s2.t o.guard=fl s.t o.guard:=by
   cases hg:o.guard with
   | none=>rfl
   | some g=>obtain ⟨g,want⟩:=g; simp only [fl,he.1 g]
  rcases h with ⟨h1,h2⟩ | ⟨h1,s1,g1,g2⟩
  · refine .inl ⟨hw ▸ h1,jz.eqS hG os _ (aw o.dst ⟨True,.s undef,s2.ch,[]⟩ s2) ⟨fun i=>by simp only [aw,fE,he.1 i],he.2⟩ h2⟩
  · refine .inr ⟨hw ▸ h1,s1,fun E U a w hh=>?_,g2⟩
    obtain ⟨E',U',h'⟩:=dW.eqS he E U a w hh
    exact g1 E' U' a w h'
theorem DG.eqS {s2:ASt} (he:EqS s2 st) (h:DG P cx Q dr k os s2):DG P cx Q dr k os st:=by
 cases dr with
 | true=>
  obtain ⟨s',h1,h2⟩:=h
  obtain ⟨s2',g1,g2⟩:=iJ.eqS os _ _ s' he h1
  exact ⟨s2',g2,h2.eqS g1⟩
 | false=>exact jz.eqS (fun s s2 he h=>SG.eqS he h) os _ _ he h
theorem sw {g:Nat} {c:C} (h:gt st.t g=c):EqS ⟨am st.t g c,st.ch⟩ st:=⟨fun i=>by
 simp only [fQ]
 split
 · rename_i e; subst e; exact h.symm
 · rfl,rfl⟩
structure WfR (chs:Chs) (r:C) (chs':Chs) (nk:List Nat):Prop where
 new:∀ k c,(k,c)∈chs'→k∈nk∨∃ c0,(k,c0)∈chs
 old:∀ k cs,(k,.box cs)∈chs→∃ cs',(k,.box cs')∈chs'
 kr:dE (chs'.map (·.1)) r
 kc:∀ k c,(k,c)∈chs'→gk (chs'.map (·.1)) c
structure Ent (P:Program) [Glob P] where
 id:FuncId
 sp:List C→Chs→Option (Prop×C×Chs×List Nat)
 ok:∀ args chs p r chs' nk,sp args chs=some (p,r,chs',nk)→p→FC P id args chs r chs'∧WfR chs r chs' nk
 kp:List C→Chs→Option (Prop×C):=fun _ _=>none
 kpok:∀ args chs p r,kp args chs=some (p,r)→p→FC P id args chs r chs∧fc chs=true∧dE [] r:=by intro _ _ _ _ h; cases h
 tk:List Nat:=[]
def Ent.mk3 (id:FuncId) (sp:List C→Chs→Option (Prop×C×Chs×List Nat)) (ok:∀ args chs p r chs' nk,sp args chs=some (p,r,chs',nk)→p→FC P id args chs r chs'∧WfR chs r chs' nk):Ent P:={ id:=id,sp:=sp,ok:=ok }
def cH : List (Ent P)→FuncId→List C→Chs→Option (Prop×C)
 | [],_,_,_=>none
 | e :: L,f,args,chs=>if e.id=f then e.kp args chs else cH L f args chs
theorem rt : ∀ {L:List (Ent P)} {f:FuncId} {args:List C} {chs:Chs} {p:Prop} {r:C},cH L f args chs=some (p,r)→p→FC P f args chs r chs∧fc chs=true∧dE [] r
 | [],_,_,_,_,_,h,_=>by cases h
 | e :: L,f,args,chs,p,r,h,hp=>by
  simp only [cH] at h
  split at h
  · rename_i hf; subst hf; exact e.kpok args chs p r h hp
  · exact rt h hp
def cu : List (Ent P)→FuncId→List C→Chs→Option (Prop×C×Chs×List Nat)
 | [],_,_,_=>none
 | e :: L,f,args,chs=>if e.id=f then e.sp args chs else cu L f args chs
theorem rr : ∀ {L:List (Ent P)} {f:FuncId} {args:List C} {chs:Chs} {p:Prop} {r:C} {chs':Chs} {nk:List Nat},cu L f args chs=some (p,r,chs',nk)→p→FC P f args chs r chs'∧WfR chs r chs' nk
 | [],_,_,_,_,_,_,_,h,_=>by cases h
 | e :: L,f,args,chs,p,r,chs',nk,h,hp=>by
  simp only [cu] at h
  split at h
  · rename_i hf; subst hf; exact e.ok args chs p r chs' nk h hp
  · exact rr h hp
def bm (l:List Nat) (k:Nat):List Nat:=if av l k=true then l else l++[k]
def aH (l:List Nat):List C→List Nat
 | []=>l
 | .ptr k _ :: cs=>aH (bm l k) cs
 | .eptr k _ _ :: cs=>aH (bm l k) cs
 | .iptr k _ _ _ :: cs=>aH (bm l k) cs
 | .fn _ xs ys :: cs=>aH (passKs (passKs l xs) ys) cs
 | .agg xs :: cs=>aH (passKs l xs) cs
 | _ :: cs=>aH l cs
where passKs (l:List Nat):List C→List Nat
 | []=>l
 | .ptr k _ :: cs=>passKs (bm l k) cs
 | .eptr k _ _ :: cs=>passKs (bm l k) cs
 | .iptr k _ _ _ :: cs=>passKs (bm l k) cs
 | _ :: cs=>passKs l cs
def ba (l:List Nat):List C→List Nat
 | []=>l
 | .own k :: cs=>ba (bm l k) cs
 | .inn k _ :: cs=>ba (bm l k) cs
 | .ptr k _ :: cs=>ba (bm l k) cs
 | .eptr k _ _ :: cs=>ba (bm l k) cs
 | .iptr k _ _ _ :: cs=>ba (bm l k) cs
 | _ :: cs=>ba l cs
def bR (ch:Chs) (l:List Nat):List Nat→List Nat
 | []=>l
 | k :: ks=>match lk ch k with | some (.box cs)=>bR ch (ba l cs) ks | _=>bR ch l ks
def aN (ps:List Nat) (l:List Nat):List C→List Nat
 | []=>l
 | .own k :: cs=>aN ps (if av ps k=true then l else bm l k) cs
 | .inn k _ :: cs=>aN ps (if av ps k=true then l else bm l k) cs
 | .agg xs :: cs=>aN ps (lendKs ps l xs) cs
 | _ :: cs=>aN ps l cs
where lendKs (ps:List Nat) (l:List Nat):List C→List Nat
 | []=>l
 | .own k :: cs=>lendKs ps (if av ps k=true then l else bm l k) cs
 | .inn k _ :: cs=>lendKs ps (if av ps k=true then l else bm l k) cs
 | _ :: cs=>lendKs ps l cs
def bZ (ch:Chs):List Nat→Option Chs
 | []=>some []
 | k :: ks=>(lk ch k).bind fun c=>(bZ ch ks).map ((k,c) :: ·)
def dj (i:Nat):List Nat→List (Nat×Nat)
 | []=>[]
 | k :: ks=>(k,100000+i) :: dj (i+1) ks
def bN : List (Nat×Nat)→List (Nat×Nat)
 | []=>[]
 | (a,b) :: m=>(b,a) :: bN m
def cn (d:Nat):List Nat→List (Nat×Nat)
 | []=>[]
 | k :: ks=>(k,d) :: cn (d+1000) ks
def bB : C→Bool
 | .s _=>true
 | .own _=>true
 | .ptr _ _=>true
 | .agg cs=>flatBs cs
 | .tup cs=>flatBs cs
 | _=>false
where flatBs:List C→Bool
 | []=>true
 | c :: cs=>bB c && flatBs cs
def bS : Chs→Prop
 | []=>True
 | (_,c) :: r=>bC c∧bS r
def bV (bs:List Nat) (r:C) (chs':Chs):Prop:=
 match bs with
 | []=>True
 | _=>aO r∧bS chs'
def an : List Nat→Prop
 | []=>True
 | k :: ks=>av ks k=false∧an ks
def cj (m mi:List (Nat×Nat)):List Nat→Prop
 | []=>True
 | k :: ks=>rn m (rn mi k)=k∧cj m mi ks
def bX : List Nat→List Nat→Prop
 | [],_=>True
 | k :: ks,l=>av l k=true∧bX ks l
def bH : List Nat→List Nat→Prop
 | [],_=>True
 | k :: ks,l=>av l k=false∧bH ks l
def aK (ks:List Nat):C→Bool
 | .own k=>av ks k
 | .ptr k _=>av ks k
 | .eptr k _ _=>av ks k
 | .inn k _=>av ks k
 | .iptr k _ _ _=>av ks k
 | .agg cs=>keysBs ks cs
 | .tup cs=>keysBs ks cs
 | .fn _ xs ys=>keysBs ks xs && keysBs ks ys
 | _=>true
where keysBs (ks:List Nat):List C→Bool
 | []=>true
 | c :: cs=>aK ks c && keysBs ks cs
def bU (ks:List Nat):List C→Bool
 | []=>true
 | c :: cs=>aK ks c && bU ks cs
def a8 (ks:List Nat):Chs→Bool
 | []=>true
 | (_,.box cs) :: r=>bU ks cs && a8 ks r
 | _ :: r=>a8 ks r
def ag : Chs→List Nat
 | []=>[]
 | (k,_) :: r=>k :: ag r
inductive CR where
 | none
 | eff (e:Eff)
 | fz (ks:List Nat)
def dt : List (Ent P)→FuncId→List Nat
 | [],_=>[]
 | e :: L,f=>if e.id=f then e.tk else dt L f
def dA (L:List (Ent P)):Option (FuncId×List C×List C)→List Nat
 | Option.some (f,_,_)=>dt L f
 | Option.none=>[]
def cW : List Operand→Nat→Option Operand
 | [],_=>Option.none
 | x :: _,0=>Option.some x
 | _ :: l,n+1=>cW l n
def da (s:Nat) (c:C) (alt:Option (Nat×Nat×Nat)):Option (Nat×Nat×Nat):=
 match c with
 | .inn k j=>Option.some (s,k,j)
 | _=>alt
def cY (ρ:Operand→C) (aS:List Operand):List Nat→Option (Nat×Nat×Nat)
 | []=>Option.none
 | p :: ps=>
  match cW aS p with
  | Option.some (.tmp s)=>da s (ρ (.tmp s)) (cY ρ aS ps)
  | _=>cY ρ aS ps
def cg (L:List (Ent P)) (ρ:Operand→C):AOp→Option (Nat×Nat×Nat)
 | .call fo aS=>cY ρ aS (dA L (bk (ρ fo)))
 | .ssl _ (.tmp s) _ _ _=>da s (ρ (.tmp s)) Option.none
 | _=>Option.none
theorem rL {s:Nat} {c:C} {alt:Option (Nat×Nat×Nat)} {q:Nat×Nat×Nat} (h:da s c alt=Option.some q):(q.1=s∧c=.inn q.2.1 q.2.2)∨alt=Option.some q:=by
 unfold da at h
 split at h
 · cases h; exact .inl ⟨rfl,rfl⟩
 · exact .inr h
theorem nw {ρ:Operand→C} {aS:List Operand} {q:Nat×Nat×Nat}:∀ {ps:List Nat},cY ρ aS ps=Option.some q→ρ (.tmp q.1)=.inn q.2.1 q.2.2
 | [],h=>by cases h
 | p :: ps,h=>by
  simp only [cY] at h
  split at h
  · rcases rL h with ⟨h1,h2⟩ | h
    · rw [h1]; exact h2
    · exact nw h
  · exact nw h
theorem nx {L:List (Ent P)} {ρ:Operand→C} {op:AOp} {q:Nat×Nat×Nat} (h:cg L ρ op=Option.some q):ρ (.tmp q.1)=.inn q.2.1 q.2.2:=by
 unfold cg at h
 split at h
 · exact nw h
 · rcases rL h with ⟨h1,h2⟩ | h
   · rw [h1]; exact h2
   · cases h
 · cases h
def di (ch:Chs) (ks bs:List Nat) (chs:Chs) (va:List C) (mi m2:List (Nat×Nat)) (all:List C) (p:Prop) (chs':Chs) (nk ck:List Nat) (r2:C) (chs2:Chs) (nk2:List Nat):CR:=
 .eff ⟨p∧aX.viewOks ch bs all∧bV bs r2 chs2∧an ((ck++nk).map (rn m2))∧bX (ag chs') (ck++nk)∧cj m2 mi ks∧(va.all (aK ks)=true∧a8 ks chs=true)∧bH ks bs∧bH ks nk2∧nk2.all (fun k=>decide (k < 100000))=true,r2,a6 ch chs chs2 nk2,az nk2 chs⟩
def cr (ch:Chs) (ks bs:List Nat) (chs:Chs) (va:List C) (mi m2:List (Nat×Nat)) (all:List C) (p:Prop) (r:C) (chs':Chs) (nk:List Nat) (nk2:List Nat):CR:=
 di ch ks bs chs va mi m2 all p chs' nk (ag (ar mi chs)) (ak m2 r) (ar m2 chs') nk2
def cq (ch:Chs) (d:Nat) (ks bs:List Nat) (chs:Chs) (va:List C) (mi m:List (Nat×Nat)) (all:List C) (o:Option (Prop×C×Chs×List Nat)):CR:=
 match o with
 | Option.some (p,r,chs',nk)=>cr ch ks bs chs va mi (cn d nk++m) all p r chs' nk ((cn d nk).map (·.2))
 | Option.none=>.none
def cO (ch:Chs):CR→CR
 | .eff e=>.eff ⟨e.cond,e.v,ch,[]⟩
 | x=>x
def cS (ch:Chs) (d:Nat) (ks bs:List Nat) (chs:Chs) (va:List C) (mi:List (Nat×Nat)) (all:List C) (o:Option (Prop×C)) (alt:Option (Prop×C×Chs×List Nat)):CR:=
 match o with
 | Option.some (p,r)=>cO ch (cr ch ks bs chs va mi (bN mi) all p r (ar mi chs) [] [])
 | Option.none=>cq ch d ks bs chs va mi (bN mi) all alt
def cM (L:List (Ent P)) (ch:Chs) (d:Nat) (f:FuncId) (all:List C) (ks bs:List Nat) (chs:Option Chs) (va:List C) (mi:List (Nat×Nat)):CR:=
 match chs with
 | Option.some chs=>cS ch d ks bs chs va mi all (cH L f (va.map (ak mi)) (ar mi chs)) (cu L f (va.map (ak mi)) (ar mi chs))
 | Option.none=>.none
def dd (L:List (Ent P)) (ch:Chs) (d:Nat) (f:FuncId) (all:List C) (ks bs:List Nat):CR:=
 cM L ch d f all ks bs (bZ ch ks) (all.map (aD ch bs)) (dj 0 ks)
def cL (ch:Chs) (d:Nat) (all:List C) (bs:List Nat) (va:List C) (o:Option (Prop×C×Chs×List Nat)):CR:=
 match o with
 | Option.some (p,r,[],_)=>match bs.isEmpty || bB r with | true=>.eff ⟨p∧aX.viewOks ch bs all∧bV bs r [],r,ch,[]⟩ | false=>.fz bs
 | o=>cq ch d [] bs [] va [] [] all o
def dc (L:List (Ent P)) (ch:Chs) (d:Nat) (f:FuncId) (all:List C) (bs:List Nat) (va:List C):CR:=cL ch d all bs va (cu L f va [])
def db (L:List (Ent P)) (ch:Chs) (d:Nat) (f:FuncId) (all:List C) (bs:List Nat):CR:=dc L ch d f all bs (all.map (aD ch bs))
def dh (L:List (Ent P)) (ch:Chs) (d:Nat) (f:FuncId) (all:List C) (ks:List Nat):CR:=dd L ch d f all ks (aN ks [] all)
def dg (L:List (Ent P)) (ch:Chs) (d:Nat) (f:FuncId) (all:List C) (ks:List Nat):CR:=dh L ch d f all (bR ch ks ks)
def cK (L:List (Ent P)) (ch:Chs) (d:Nat) (f:FuncId) (all:List C) (ks:List Nat):CR:=
 match ks with
 | []=>db L ch d f all (aN [] [] all)
 | k :: ks=>dg L ch d f all (bR ch (k :: ks) (k :: ks))
def cV : List C→Nat→C
 | [],_=>.any
 | c :: _,0=>c
 | _ :: cs,n+1=>cV cs n
def dy (ks:List Nat):C→List Nat
 | .own k=>bm ks k
 | _=>ks
def cP (all:List C) (l:List Nat):List Nat→List Nat
 | []=>l
 | p :: ps=>cP all (dy l (cV all p)) ps
def de (L:List (Ent P)) (ch:Chs) (d:Nat) (f:FuncId) (all:List C):CR:=cK L ch d f all (aH (cP all [] (dt L f)) all)
def bY (L:List (Ent P)) (ch:Chs) (d:Nat) (c:Option (FuncId×List C×List C)) (aS:List C):CR:=
 match c with
 | Option.some (f,first,caps)=>de L ch d f (first++aS++caps)
 | Option.none=>.none
end Go.Am
end
section
namespace Go.Am
variable {P : Program} {E : Env} {U : Nat → Prop} {w : World} {ch : Chs} {d : Nat}
def aR (s k n:Nat) (e:TypeId) (es:List (List C)) (ch':Chs) (st:ASt):ASt:=⟨am (bo [(s,.c .any),(k,.inner)] st.t) s (.own s),bL ch' k s n e es⟩
theorem dW.take [Glob P] {cx:Cx} {st:ASt} {s k j n:Nat} {e:TypeId} {es:List (List C)} {q:Prop} {ch':Chs} (hs:s < 100000) (hn:gt st.t s=.inn k j) (hl:aM st.ch k j=some (q,n,e,es)) (hq:q) (hh:aL st.ch k j=some ch') (hkd:k≠s) :
 dW P cx st (aR s k n e es ch' st):=fun E U a w hh0=>by
 obtain ⟨E',_,h2,he⟩:=Ev.take (d:=s) hh0.inv hl hq hh hkd
 have h1:=hh0.ghost hs he
 have hv:=kT (hn ▸ hh0.tok s)
 refine ⟨_,U,h1.slots fun i=>?_⟩
 by_cases hi:s=i
 · subst hi
   simp only [fQ,if_true]
   have:=Rep.own (E:=E') (U:=U) (h:=w.heap) s
   rw [h2] at this
   rw [hv]; exact this
 · have:=h1.tok i
   simp only [fQ,if_neg hi]
   exact this
end Go.Am
end
section
namespace Go.Am
variable {P : Program} [Glob P] {ch : Chs} {d : Nat}
theorem eB {k:Nat}:∀ {l:List Nat},av l k=true↔k∈l
 | []=>by simp [av]
 | j :: l=>by
  simp only [av,List.mem_cons]
  by_cases h:j=k
  · rw [if_pos h]; exact ⟨fun _=>.inl h.symm,fun _=>rfl⟩
  · rw [if_neg h,eB]
    exact ⟨.inr,fun g=>g.resolve_left (fun e=>h e.symm)⟩
theorem d8 : ∀ {ks:List Nat},an ks→ks.Nodup
 | [],_=>List.nodup_nil
 | k :: ks,h=>List.nodup_cons.2 ⟨(fun hm=>by have:=eB.2 hm; rw [h.1] at this; cases this),d8 h.2⟩
theorem iW : ∀ {ks l:List Nat},bX ks l→∀ k∈ks,k∈l
 | [],_,_,k,h=>by simp at h
 | j :: ks,l,h,k,hk=>by
  rcases List.mem_cons.1 hk with e | e
  · rw [e]; exact eB.1 h.1
  · exact iW h.2 k e
theorem jd : ∀ {ks l:List Nat},bH ks l→∀ k∈ks,k∉l
 | [],_,_,k,h=>by simp at h
 | j :: ks,l,h,k,hk=>by
  rcases List.mem_cons.1 hk with e | e
  · rw [e]; intro hm; have:=eB.2 hm; rw [h.1] at this; cases this
  · exact jd h.2 k e
theorem mM {m mi:List (Nat×Nat)}:∀ {ks:List Nat},cj m mi ks→∀ k∈ks,rn m (rn mi k)=k
 | [],_,k,h=>by simp at h
 | j :: ks,h,k,hk=>by
  rcases List.mem_cons.1 hk with e | e
  · rw [e]; exact h.1
  · exact mM h.2 k e
theorem dU : ∀ ch:Chs,ag ch=ch.map (·.1)
 | []=>rfl
 | (k,_) :: r=>by simp [ag,dU r]
theorem om {ks:List Nat}:∀ {cs:List C},bU ks cs=true→∀ c∈cs,aK ks c=true
 | [],_,c,h=>by simp at h
 | x :: cs,h,c,hc=>by
  simp only [bU,Bool.and_eq_true] at h
  rcases List.mem_cons.1 hc with e | e
  · rw [e]; exact h.1
  · exact om h.2 c e
theorem ie {ks:List Nat}:∀ {ch:Chs},a8 ks ch=true→∀ k cs,(k,.box cs)∈ch→∀ c∈cs,aK ks c=true
 | [],_,k,cs,h=>by simp at h
 | (j,.box cs0) :: r,h,k,cs,hm=>by
  simp only [a8,Bool.and_eq_true] at h
  rcases List.mem_cons.1 hm with e | e
  · cases e; exact om h.1
  · exact ie h.2 k cs e
 | (j,.row _ _ _) :: r,h,k,cs,hm | (j,.deep _ _ _ _ _) :: r,h,k,cs,hm | (j,.res _) :: r,h,k,cs,hm=>by
  rcases List.mem_cons.1 hm with e | e
  · cases e
  · exact ie (by simpa only [a8] using h) k cs e
theorem pV {m mi:List (Nat×Nat)} {ks:List Nat} (hb:∀ k∈ks,rn m (rn mi k)=k):∀ c:C,aK ks c=true→ak m (ak mi c)=c:=by
 intro c
 have h:∀ (n:Nat) (c:C),SizeOf.sizeOf c≤n→aK ks c=true→ak m (ak mi c)=c:=by
  intro n
  induction n with
  | zero=>intro c hc; cases c <;> simp at hc
  | succ n ih=>
   intro c hc hk
   have hl:∀ cs:List C,SizeOf.sizeOf cs≤n→aK.keysBs ks cs=true→(cs.map (ak mi)).map (ak m)=cs:=by
    intro cs
    induction cs with
    | nil=>intro _ _; rfl
    | cons x xs ihx=>
     intro hx hkx
     simp at hx
     simp only [aK.keysBs,Bool.and_eq_true] at hkx
     simp only [List.map_cons]
     rw [ih x (by omega) hkx.1,ihx (by omega) hkx.2]
   cases c with
   | agg cs=>simp only [ak,fd]; simp at hc; rw [hl cs (by omega) hk]
   | tup cs=>simp only [ak,fd]; simp at hc; rw [hl cs (by omega) hk]
   | fn f xs ys=>
    simp only [aK,Bool.and_eq_true] at hk
    simp only [ak,fd]; simp at hc; rw [hl xs (by omega) hk.1,hl ys (by omega) hk.2]
   | own k=>simp only [ak]; rw [hb k (eB.1 hk)]
   | ptr k off=>simp only [ak]; rw [hb k (eB.1 hk)]
   | eptr k i j=>simp only [ak]; rw [hb k (eB.1 hk)]
   | inn k i=>simp only [ak]; rw [hb k (eB.1 hk)]
   | iptr k i n j=>simp only [ak]; rw [hb k (eB.1 hk)]
   | _=>simp [ak]
 exact h _ c (Nat.le_refl _)
theorem jh {ks ks':List Nat} (hs:∀ k∈ks,k∈ks'):∀ c:C,dE ks c→dE ks' c:=by
 intro c
 have h:∀ (n:Nat) (c:C),SizeOf.sizeOf c≤n→dE ks c→dE ks' c:=by
  intro n
  induction n with
  | zero=>intro c hc; cases c <;> simp at hc
  | succ n ih=>
   intro c hc hk
   have hl:∀ cs:List C,SizeOf.sizeOf cs≤n→dE.keysIns ks cs→dE.keysIns ks' cs:=by
    intro cs
    induction cs with
    | nil=>intro _ _; trivial
    | cons x xs ihx=>
     intro hx hkx
     simp at hx
     exact ⟨ih x (by omega) hkx.1,ihx (by omega) hkx.2⟩
   cases c with
   | agg cs=>simp at hc; exact hl cs (by omega) hk
   | tup cs=>simp at hc; exact hl cs (by omega) hk
   | fn f xs ys=>simp at hc; exact ⟨hl xs (by omega) hk.1,hl ys (by omega) hk.2⟩
   | own k=>exact hs k hk
   | ptr k off=>exact hs k hk
   | eptr k i j=>exact hs k hk
   | inn k i=>exact hs k hk
   | iptr k i n j=>exact hs k hk
   | _=>trivial
 exact h _ c (Nat.le_refl _)
theorem ln {ks:List Nat} {m:List (Nat×Nat)}:∀ c:C,dE ks c→dE (ks.map (rn m)) (ak m c):=by
 intro c
 have mem:∀ k,k∈ks→rn m k∈ks.map (rn m):=fun k hk=>List.mem_map.2 ⟨k,hk,rfl⟩
 have h:∀ (n:Nat) (c:C),SizeOf.sizeOf c≤n→dE ks c→dE (ks.map (rn m)) (ak m c):=by
  intro n
  induction n with
  | zero=>intro c hc; cases c <;> simp at hc
  | succ n ih=>
   intro c hc hk
   have hl:∀ cs:List C,SizeOf.sizeOf cs≤n→dE.keysIns ks cs→dE.keysIns (ks.map (rn m)) (ak.renCs m cs):=by
    intro cs
    induction cs with
    | nil=>intro _ _; trivial
    | cons x xs ihx=>
     intro hx hkx
     simp at hx
     exact ⟨ih x (by omega) hkx.1,ihx (by omega) hkx.2⟩
   cases c with
   | agg cs=>simp at hc; exact hl cs (by omega) hk
   | tup cs=>simp at hc; exact hl cs (by omega) hk
   | fn f xs ys=>simp at hc; exact ⟨hl xs (by omega) hk.1,hl ys (by omega) hk.2⟩
   | own k=>exact mem k hk
   | ptr k off=>exact mem k hk
   | eptr k i j=>exact mem k hk
   | inn k i=>exact mem k hk
   | iptr k i n j=>exact mem k hk
   | _=>trivial
 exact h _ c (Nat.le_refl _)
theorem r9 {ks:List Nat} {m:List (Nat×Nat)} {cs:List C} (h:dE.keysIns ks cs):dE.keysIns (ks.map (rn m)) (cs.map (ak m)):=
 gY fun c hc=>by
  obtain ⟨c0,h0,rfl⟩:=List.mem_map.1 hc
  exact ln c0 (eI h c0 h0)
theorem oi : ∀ {ks:List Nat} {chs:Chs},bZ ch ks=some chs→ag chs=ks∧∀ k c,(k,c)∈chs→lk ch k=some c
 | [],chs,h=>by simp [bZ] at h; subst h; exact ⟨rfl,fun k c h=>by simp at h⟩
 | k :: ks,chs,h=>by
  simp only [bZ,Option.bind_eq_some_iff,Option.map_eq_some_iff] at h
  obtain ⟨c,h1,r,h2,rfl⟩:=h
  obtain ⟨g1,g2⟩:=oi h2
  refine ⟨by simp [ag,g1],fun k' c' hm=>?_⟩
  rcases List.mem_cons.1 hm with e | e
  · cases e; exact h1
  · exact g2 k' c' e
theorem sE {m:List (Nat×Nat)}:∀ {nk:List Nat} {d k:Nat},k∈nk→∃ v,v∈(cn d nk).map (·.2)∧lk (cn d nk++m) k=some v
 | [],d,k,h=>by simp at h
 | j :: nk,d,k,h=>by
  simp only [cn,List.cons_append,lk,List.map_cons]
  by_cases hj:j=k
  · rw [if_pos hj]; exact ⟨d,List.mem_cons_self,rfl⟩
  · rw [if_neg hj]
    rcases List.mem_cons.1 h with e | e
    · exact absurd e.symm hj
    · obtain ⟨v,h1,h2⟩:=sE (d:=d+1000) e
      exact ⟨v,List.mem_cons_of_mem _ h1,h2⟩
theorem m6 {bs:List Nat} {l:List C} (h:aX.viewOks ch bs l):∀ c∈l,aX ch bs c:=kF h
theorem mT : ∀ {chs:Chs},bS chs→∀ k c,(k,c)∈chs→bC c
 | [],_,k,c,h=>by simp at h
 | (j,c0) :: r,h,k,c,hm=>by
  rcases List.mem_cons.1 hm with e | e
  · cases e; exact h.1
  · exact mT h.2 k c e
theorem mV {bs:List Nat} {r:C} {chs':Chs} (h:bV bs r chs'):bs=[]∨(aO r∧∀ k c,(k,c)∈chs'→bC c):=by
 unfold bV at h
 split at h
 · exact .inl rfl
 · exact .inr ⟨h.1,mT h.2⟩
theorem mO {ρ:Operand→C} {fo:Operand} {aS:List Operand} {f:FuncId} {first caps:List C} {ks bs:List Nat} {chs:Chs} {mi m2:List (Nat×Nat)} {args':List C} {chs0:Chs} {p:Prop} {r:C} {chs':Chs} {nk nk2:List Nat} {e:Eff}
 (hfo:bk (ρ fo)=some (f,first,caps)) (hks:ag chs=ks) (hlk:∀ k c,(k,c)∈chs→lk ch k=some c) (ha:args'=((first++aS.map ρ++caps).map (aD ch bs)).map (ak mi)) (hc0:chs0=ar mi chs)
 (hF:p→FC P f args' chs0 r chs'∧WfR chs0 r chs' nk) (hn2:∀ k∈nk,rn m2 k∈nk2)
 (h:cr ch ks bs chs ((first++aS.map ρ++caps).map (aD ch bs)) mi m2 (first++aS.map ρ++caps) p r chs' nk nk2=.eff e) (hcond:e.cond) :
 p∧e.v=ak m2 r∧e.ch=a6 ch chs (ar m2 chs') nk2∧e.sub=az nk2 chs∧(chs'=chs0→ar m2 chs'=chs)∧CallR P ρ ch d fo aS (ak m2 r) chs (ar m2 chs') nk2:=by
 simp only [cr,di,CR.eff.injEq] at h
 subst h
 obtain ⟨hp,hvo,hlend,hnd,hsub,hback,⟨hkb,hkc⟩,hab,han,hsmall⟩:=hcond
 obtain ⟨hFC,hwf⟩:=hF hp
 subst ha hc0
 have hb:=mM hback
 have hinks:∀ k c,(k,c)∈chs→k∈ks:=fun k c h=>by rw [← hks,dU]; exact List.mem_map.2 ⟨_,h,rfl⟩
 have hndl:=d8 hnd
 have hren:=hFC.ren m2 (ag (ar mi chs)++nk) hndl (fun k c h=>List.mem_append.2 (.inl (by rw [dU]; exact List.mem_map.2 ⟨_,h,rfl⟩)))
  (fun k c h=>⟨iW hsub k (by rw [dU]; exact List.mem_map.2 ⟨_,h,rfl⟩),by
   have:=hwf.kc k c h
   cases c with
   | box cs=>exact gY fun c hc=>jh (fun k hk=>iW hsub k (by rw [dU]; exact hk)) c (eI this c hc)
   | _=>trivial⟩) (jh (fun k hk=>iW hsub k (by rw [dU]; exact hk)) r hwf.kr)
 have e1:((((first++aS.map ρ++caps).map (aD ch bs)).map (ak mi)).map (ak m2))=(first++aS.map ρ++caps).map (aD ch bs):=by
  generalize (first++aS.map ρ++caps).map (aD ch bs)=va at hkb
  rw [List.map_map]
  exact (List.map_congr_left (fun c hc=>pV hb c (List.all_eq_true.1 hkb c hc))).trans (List.map_id _)
 have e2:ar m2 (ar mi chs)=chs:=by
  rw [fC,fC,List.map_map]
  refine (List.map_congr_left (fun p hp=>?_)).trans (List.map_id _)
  obtain ⟨k,c⟩:=p
  have hk:=hinks k c hp
  show (rn m2 (rn mi k),aG m2 (aG mi c))=(k,c)
  rw [hb k hk]
  congr 1
  cases c with
  | box cs=>
   simp only [aG,List.map_map]
   congr 1
   exact (List.map_congr_left (fun c hc=>pV hb c (ie hkc k cs hp c hc))).trans (List.map_id _)
  | _=>rfl
 rw [e1,e2] at hren
 have hkeys2:∀ (l:Chs),(ar m2 l).map (·.1)=(l.map (·.1)).map (rn m2):=fun l=>by rw [fC,List.map_map,List.map_map]; rfl
 have hcan:(ag (ar mi chs)).map (rn m2)=ks:=by
  rw [dU,← hkeys2,e2,← dU,hks]
 have hksnd:ks.Nodup:=by
  rw [List.map_append,hcan] at hndl
  exact (List.nodup_append.1 hndl).1
 refine ⟨hp,rfl,rfl,rfl,fun e3=>by rw [e3,e2],⟨⟨f,first,caps,bs,hfo,hren,m6 hvo,fun k c h=>⟨hlk k c h,jd hab k (hinks k c h),jd han k (hinks k c h)⟩,mV hlend⟩,
  by rw [← dU,hks]; exact hksnd,fun k cs hm hk=>?_,fun k c hm=>?_,fun k cs hm=>?_,?_,fun k c hm=>?_⟩⟩
 · simpa using List.all_eq_true.1 hsmall k hk
 · obtain ⟨k0,c0,h0,rfl,rfl⟩:=eN hm
   rcases hwf.new k0 _ h0 with hn | ⟨c1,h1⟩
   · exact .inl (hn2 k0 hn)
   · right
     obtain ⟨k1,c2,h2,rfl,_⟩:=eN h1
     rw [hb k1 (hinks k1 c2 h2)]
     exact ⟨c2,h2⟩
 · obtain ⟨cs',g⟩:=hwf.old _ _ (eZ (m:=mi) hm)
   have:=eZ (m:=m2) g
   rw [hb k (hinks k _ hm)] at this
   exact ⟨_,this⟩
 · rw [hkeys2]; exact ln r hwf.kr
 · obtain ⟨k0,c0,h0,rfl,rfl⟩:=eN hm
   have:=hwf.kc k0 c0 h0
   rw [hkeys2]
   cases c0 with
   | box cs=>exact r9 this
   | _=>trivial
theorem mN {ρ:Operand→C} {fo:Operand} {aS:List Operand} {f:FuncId} {first caps:List C} {ks bs:List Nat} {chs:Chs} {mi m:List (Nat×Nat)} {args':List C} {chs0:Chs} {L:List (Ent P)} {e:Eff}
 (hfo:bk (ρ fo)=some (f,first,caps)) (hks:ag chs=ks) (hlk:∀ k c,(k,c)∈chs→lk ch k=some c) (ha:args'=((first++aS.map ρ++caps).map (aD ch bs)).map (ak mi)) (hc0:chs0=ar mi chs)
 (h:cq ch d ks bs chs ((first++aS.map ρ++caps).map (aD ch bs)) mi m (first++aS.map ρ++caps) (cu L f args' chs0)=.eff e) (hcond:e.cond):OpR P ρ ch d (.call fo aS) ⟨True,e.v,e.ch,e.sub⟩:=by
 cases ho:cu L f args' chs0 with
 | none=>rw [ho] at h; cases h
 | some q=>
  obtain ⟨p,r,chs',nk⟩:=q
  rw [ho] at h
  simp only [cq] at h
  obtain ⟨_,g1,g2,g3,_,g4⟩:=mO (d:=d) hfo hks hlk ha hc0 (rr ho) (fun k hk=>by
   obtain ⟨v,h1,h2⟩:=sE (d:=d) (m:=m) hk
   simp only [rn,h2,Option.getD_some]
   exact h1) h hcond
  rw [g1,g2,g3]
  exact .call g4
theorem sR {ρ:Operand→C} {fo:Operand} {aS:List Operand} {f:FuncId} {first caps:List C} {ks bs:List Nat} {chs:Chs} {mi:List (Nat×Nat)} {L:List (Ent P)} {e:Eff}
 (hfo:bk (ρ fo)=some (f,first,caps)) (hks:ag chs=ks) (hlk:∀ k c,(k,c)∈chs→lk ch k=some c)
 (h:cS ch d ks bs chs ((first++aS.map ρ++caps).map (aD ch bs)) mi (first++aS.map ρ++caps) (cH L f (((first++aS.map ρ++caps).map (aD ch bs)).map (ak mi)) (ar mi chs)) (cu L f (((first++aS.map ρ++caps).map (aD ch bs)).map (ak mi)) (ar mi chs))=.eff e) (hcond:e.cond):OpR P ρ ch d (.call fo aS) ⟨True,e.v,e.ch,e.sub⟩:=by
 cases ho:cH L f (((first++aS.map ρ++caps).map (aD ch bs)).map (ak mi)) (ar mi chs) with
 | none=>
  rw [ho] at h
  exact mN (L:=L) hfo hks hlk rfl rfl h hcond
 | some q=>
  obtain ⟨p,r⟩:=q
  rw [ho] at h
  simp only [cS] at h
  cases hq:cr ch ks bs chs ((first++aS.map ρ++caps).map (aD ch bs)) mi (bN mi) (first++aS.map ρ++caps) p r (ar mi chs) [] [] with
  | none=>rw [hq] at h; cases h
  | fz l=>rw [hq] at h; cases h
  | eff e0=>
   rw [hq] at h
   simp only [cO,CR.eff.injEq] at h
   subst h
   have hF:p→FC P f (((first++aS.map ρ++caps).map (aD ch bs)).map (ak mi)) (ar mi chs) r (ar mi chs)∧WfR (ar mi chs) r (ar mi chs) []:=fun hp=>by
    obtain ⟨h1,h2,h3⟩:=rt ho hp
    refine ⟨h1,fun k c h=>.inr ⟨c,h⟩,fun k cs h=>⟨cs,h⟩,jh (fun k hk=>by simp at hk) r h3,fun k c h=>?_⟩
    obtain ⟨cs,rfl,hpl⟩:=j1 h2 h
    exact gY fun c hc=>jh (fun k hk=>by simp at hk) c (kz (hpl c hc)).1
   obtain ⟨hp,g1,_,_,g2,g3⟩:=mO (d:=d) hfo hks hlk rfl rfl hF (fun k hk=>by simp at hk) hq hcond
   obtain ⟨_,h2,h3⟩:=rt ho hp
   rw [g2 rfl] at g3
   rw [g1]
   have hr:dE [] (ak (bN mi) r):=by
    have:=ln (m:=bN mi) (ks:=[]) r h3
    simpa using this
   refine .callK g3 ?_ hr
   have:∀ {l:Chs},fc (ar mi l)=true→fc l=true:=by
    intro l
    induction l with
    | nil=>intro _; rfl
    | cons q l ih=>
     intro h
     obtain ⟨k,c⟩:=q
     cases c with
     | box cs=>
      simp only [ar,aG,fc,Bool.and_eq_true,List.all_eq_true,List.mem_map,forall_exists_index,and_imp,forall_apply_eq_imp_iff₂] at h ⊢
      refine ⟨fun x hx=>?_,ih h.2⟩
      have:=h.1 x hx
      cases x with
      | fn f xs ys=>cases xs <;> cases ys <;> simp [ak,ak.renCs,kS] at this ⊢
      | _=>first | exact this | cases this
     | _=>simp [ar,aG,fc] at h
   exact this h2
theorem tv (c:Ch):aG [] c=c:=by
 have hr:∀ c:C,ak [] c=c:=by
  intro c
  have h:∀ (n:Nat) (c:C),SizeOf.sizeOf c≤n→ak [] c=c:=by
   intro n
   induction n with
   | zero=>intro c hc; cases c <;> simp at hc
   | succ n ih=>
    intro c hc
    have hl:∀ cs:List C,SizeOf.sizeOf cs≤n→cs.map (ak [])=cs:=by
     intro cs
     induction cs with
     | nil=>intro _; rfl
     | cons x xs ihx=>
      intro hx
      simp at hx
      simp only [List.map_cons]
      rw [ih x (by omega),ihx (by omega)]
    cases c with
    | agg cs=>simp only [ak,fd]; simp at hc; rw [hl cs (by omega)]
    | tup cs=>simp only [ak,fd]; simp at hc; rw [hl cs (by omega)]
    | fn f xs ys=>simp only [ak,fd]; simp at hc; rw [hl xs (by omega),hl ys (by omega)]
    | _=>simp [ak,rn,lk]
  exact h _ c (Nat.le_refl _)
 cases c with
 | box cs=>simp only [aG]; congr 1; exact (List.map_congr_left (fun c _=>hr c)).trans (List.map_id _)
 | _=>rfl
theorem ww (c:C):ak [] c=c:=by
 have:=tv (.box [c])
 simpa [aG] using this
theorem jE {ρ:Operand→C} {fo:Operand} {aS:List Operand} {L:List (Ent P)} {e:Eff} (h:bY L ch d (bk (ρ fo)) (aS.map ρ)=.eff e) (hcond:e.cond):OpR P ρ ch d (.call fo aS) ⟨True,e.v,e.ch,e.sub⟩:=by
 unfold bY at h
 split at h
 · rename_i f first caps hfo
   unfold de cK at h
   split at h
   · unfold db dc cL at h
     split at h
     · rename_i p r nk ho
       split at h
       · cases h
         obtain ⟨hp,hvo,hl⟩:=hcond
         obtain ⟨hFC,hwf⟩:=rr ho hp
         exact .call (chs:=[]) (chs':=[]) (nk:=[]) ⟨⟨f,first,caps,_,hfo,hFC,m6 hvo,fun k c h=>by simp at h,mV hl⟩,by simp,fun k cs h=>by simp at h,fun k c h=>by simp at h,fun k cs h=>by simp at h,hwf.kr,fun k c h=>by simp at h⟩
       · cases h
     · refine mN (L:=L) (args':=(first++aS.map ρ++caps).map (aD ch (aN [] [] (first++aS.map ρ++caps)))) (chs0:=[]) hfo rfl (fun k c h=>by simp at h) ?_ rfl h hcond
       exact ((List.map_congr_left (fun c _=>ww c)).trans (List.map_id _)).symm
   · unfold dg dh dd cM at h
     split at h
     · rename_i chs hg
       obtain ⟨g1,g2⟩:=oi hg
       exact sR (L:=L) hfo g1 g2 h hcond
     · cases h
 · cases h
end Go.Am
end
section
namespace Go.Am
variable {P : Program} [Glob P] {cx : Cx} {Q : ASt → Prop} {k : List It} {st : ASt} {dr : Bool} {o : AO} {os : List AO}
def bW (t:dI):List Nat→List Nat
 | []=>[]
 | i :: l=>match gt t i with | .own k=>k :: bW t l | _=>bW t l
inductive Md where
 | run
 | eff (o:Option Eff)
 | grd (c:C) (want:Bool)
 | cnd (c:C) (x:Operand) (a b:AC)
 | ext (o:ER) (id:Nat)
 | cal (r:CR)
 | tk1 (o:Option (Nat×Nat×Nat))
 | tq (s kk j:Nat) (o:Option (Prop×Nat×TypeId×List (List C))) (h:Option Chs)
 | tr (s kk:Nat) (p:Prop) (s1:ASt) (o:Option Eff)
 | ts (s kk:Nat) (p:Prop) (s1:ASt) (m:Md)
 | nl (c:C) (i sz:Nat) (ty:TypeId) (a:AC)
 | dp (c:C) (i isz:Nat) (ity:TypeId) (a:AC)
 | dq (kk:Nat) (o:Option Ch) (i isz:Nat) (ity:TypeId) (a:AC)
def aF (L:List (Ent P)) (ρ:Operand→C) (ch:Chs) (d:Nat):AOp→Md
 | .call fo aS=>.cal (bY L ch d (bk (ρ fo)) (aS.map ρ))
 | _=>.cal .none
def bF (P:Program) [Glob P] (cx:Cx) (Q:ASt→Prop) (m:Md) (q:Option (Bool×List AO)) (k:List It) (st:ASt):Prop:=
 match q with
 | some (dr,os)=>DG P cx Q dr k os st
 | none=>
  match m with
  | .cnd _ x a b=>SG P cx Q (.c (.cond x a b) :: k) st
  | .ext _ id=>SG P cx Q (.c (.exit id) :: k) st
  | .nl _ i sz ty a=>SG P cx Q (.c (.nilrow i sz ty a) :: k) st
  | .dp _ i isz ity a=>SG P cx Q (.c (.deepen i isz ity a) :: k) st
  | .dq _ _ i isz ity a=>SG P cx Q (.c (.deepen i isz ity a) :: k) st
  | _=>SG P cx Q k st
def okM (P:Program) [Glob P] (L:List (Ent P)) (m:Md) (q:Option (Bool×List AO)) (k:List It) (st:ASt):Prop:=
 match m,q with
 | .cnd c x _ _,none=>c=aq P st.t x
 | .ext o id,none=>o=aJ id k
 | .nl c i _ _ _,none=>c=gt st.t i
 | .dp c i _ _ _,none=>c=gt st.t i
 | .dq kk o i _ _ _,none=>gt st.t i=.own kk∧o=lk st.ch kk
 | .eff o,some (_,⟨dst,none,op,_⟩ :: _)=>o=ai (aq P st.t) st.ch (dst.getD 0) op
 | .tk1 o,some (_,⟨_,none,op,_⟩ :: _)=>o=cg L (aq P st.t) op
 | .tq s kk j o h,some _=>gt st.t s=.inn kk j∧o=aM st.ch kk j∧h=aL st.ch kk j
 | .cal r,some (_,⟨dst,none,op,_⟩ :: _)=>aF L (aq P st.t) st.ch (dst.getD 0) op=.cal r
 | .grd c w,some (_,⟨_,some (g,want),_,_⟩ :: _)=>c=gt st.t g∧w=want
 | _,_=>True
def ap (P:Program) [Glob P] (L:List (Ent P)) (u:Bool) (cx:Cx) (Q:ASt→Prop):Nat→Md→Option (Bool×List AO)→List It→ASt→Prop
 | _+1,.run,none,[],st=>Q st
 | n+1,.run,none,.blk _ :: k,st=>ap P L u cx Q n .run none k st
 | _+1,.run,none,.post R :: _,st=>R st
 | _+1,.run,none,.rnd N _ :: _,st=>N st
 | n+1,.run,none,.c .skip :: k,st=>ap P L u cx Q n .run none k st
 | _+1,.run,none,.c .ret :: k,st=>bv Q k st
 | n+1,.run,none,.c (.seq a b) :: k,st=>ap P L u cx Q n .run none (.c a :: .c b :: k) st
 | n+1,.run,none,.c (.region dr os) :: k,st=>ap P L u cx Q n .run (some (dr,os)) k st
 | n+1,.run,none,.c (.cond c a b) :: k,st=>ap P L u cx Q n (.cnd (aq P st.t c) c a b) none k st
 | n+1,.run,none,.c (.block id a) :: k,st=>ap P L u cx Q n .run none (.c a :: .blk id :: k) st
 | n+1,.run,none,.c (.exit id) :: k,st=>ap P L u cx Q n (.ext (aJ id k) id) none k st
 | n+1,.run,none,.c (.keep l a) :: k,st=>ap P L u cx Q n .run none (.c a :: k) ⟨bu l st.t,st.ch⟩
 | n+1,.run,none,.c (.loop a) :: k,st=>match u with | true=>ap P L u cx Q n .run none (.c a :: .lp a :: k) st | false=>SG P cx Q (.c (.loop a) :: k) st
 | n+1,.run,none,.lp a :: k,st=>match u with | true=>ap P L u cx Q n .run none (.c a :: .lp a :: k) st | false=>SG P cx Q (.lp a :: k) st
 | _+1,.run,none,.c (.rangeFunc g ps a b) :: k,st=>SG P cx Q (.c (.rangeFunc g ps a b) :: k) st
 | _+1,.run,none,.c (.cut a) :: k,st=>SG P cx Q (.c (.cut a) :: k) st
 | _+1,.run,none,.c (.draw e rb a) :: k,st=>SG P cx Q (.c (.draw e rb a) :: k) st
 | n+1,.run,none,.c (.nilrow i sz ty a) :: k,st=>ap P L u cx Q n (.nl (gt st.t i) i sz ty a) none k st
 | n+1,.run,none,.c (.deepen i isz ity a) :: k,st=>ap P L u cx Q n (.dp (gt st.t i) i isz ity a) none k st
 | n+1,.run,none,.c (.fz l a) :: k,st=>ap P L u cx Q n .run none (.c a :: k) (ce (bW st.t l) st)
 | n+1,.run,some (_,[]),k,st=>ap P L u cx Q n .run none k st
 | n+1,.run,some (dr,⟨dst,none,op,tot⟩ :: os),k,st=>ap P L u cx Q n (.eff (ai (aq P st.t) st.ch (dst.getD 0) op)) (some (dr,⟨dst,none,op,tot⟩ :: os)) k st
 | n+1,.run,some (dr,⟨dst,some (g,want),op,tot⟩ :: os),k,st=>ap P L u cx Q n (.grd (gt st.t g) want) (some (dr,⟨dst,some (g,want),op,tot⟩ :: os)) k st
 | n+1,.eff (some ef),some (dr,⟨dst,none,op,tot⟩ :: os),k,st=>ef.cond∧bJ dr ⟨dst,none,op,tot⟩ ef st∧ap P L u cx Q n .run (some (dr,os)) k (aw dst ef st)
 | n+1,.eff none,some (dr,⟨dst,none,op,tot⟩ :: os),k,st=>ap P L u cx Q n (.tk1 (cg L (aq P st.t) op)) (some (dr,⟨dst,none,op,tot⟩ :: os)) k st
 | n+1,.tk1 none,some (dr,⟨dst,none,op,tot⟩ :: os),k,st=>ap P L u cx Q n (aF L (aq P st.t) st.ch (dst.getD 0) op) (some (dr,⟨dst,none,op,tot⟩ :: os)) k st
 | n+1,.tk1 (some (s,kk,j)),some (false,⟨dst,none,op,tot⟩ :: os),k,st=>ap P L u cx Q n (.tq s kk j (aM st.ch kk j) (aL st.ch kk j)) (some (false,⟨dst,none,op,tot⟩ :: os)) k st
 | n+1,.tq s kk _ (some (p,m,e,es)) (some ch'),some (false,⟨dst,none,op,tot⟩ :: os),k,st=>s < 100000∧p∧kk≠s∧ap P L u cx Q n .run (some (false,⟨dst,none,op,tot⟩ :: os)) k (aR s kk m e es ch' st)
 | n+1,.cal (.eff ef),some (dr,⟨dst,none,op,tot⟩ :: os),k,st=>ef.cond∧bJ dr ⟨dst,none,op,tot⟩ ef st∧ap P L u cx Q n .run (some (dr,os)) k (aw dst ef st)
 | n+1,.cal (.fz ks),some (false,⟨dst,none,op,tot⟩ :: os),k,st=>ap P L u cx Q n .run (some (false,⟨dst,none,op,tot⟩ :: os)) k (ce ks st)
 | n+1,.grd (.s (.bool b)) want,some (dr,⟨dst,some (g,_),op,tot⟩ :: os),k,st=>
  if b=want then ap P L u cx Q n .run (some (dr,⟨dst,none,op,tot⟩ :: os)) k ⟨am st.t g (.s (.bool want)),st.ch⟩
  else ap P L u cx Q n .run (some (dr,os)) k ⟨aT dst [] (.s undef) (am st.t g (.s (.bool (!want)))),st.ch⟩
 | n+1,.grd (.s (.tuple _)) _,some (dr,⟨dst,some _,_,_⟩ :: os),k,st=>ap P L u cx Q n .run (some (dr,os)) k ⟨aT dst [] (.s undef) st.t,st.ch⟩
 | n+1,.cnd (.s (.bool x)) _ a b,none,k,st=>if x=true then ap P L u cx Q n .run none (.c a :: k) st else ap P L u cx Q n .run none (.c b :: k) st
 | n+1,.ext (.cont k') _,none,_,st=>ap P L u cx Q n .run none k' st
 | _+1,.ext (.out p) _,none,_,st=>p st
 | n+1,.nl (.s (.slice none 0 0)) i sz ty a,none,k,st=>i < 100000∧ap P L u cx Q n .run none (.c a :: k) (dm i sz ty st)
 | n+1,.dp (.own kk) i isz ity a,none,k,st=>ap P L u cx Q n (.dq kk (lk st.ch kk) i isz ity a) none k st
 | n+1,.dq kk (some (.row sz ty es)) _ isz ity a,none,k,st=>sz=1∧(∀ e∈es,e=[.s (.slice none 0 0)])∧ap P L u cx Q n .run none (.c a :: k) (cB kk isz ity ty es st)
 | _,m,q,k,st=>bF P cx Q m q k st
theorem StepE.unguard {s:ASt} {ef:Eff} (h:StepE P { o with guard:=none } s ef) (hw:fl s.t o.guard=some true):StepE P o s ef:=by
 cases h with
 | yes _ _ hr=>exact .yes ef hw hr
 | no h=>simp [fl] at h
theorem gZ {L:List (Ent P)} {k:List It} {st:ASt} (q:Option (Bool×List AO)) (_:Unit):okM P L .run q k st:=by
 unfold okM; split <;> first | trivial | (rename_i h; cases h)
theorem tI {dst:Option Nat} {g:Nat} {w0:Bool} {op:AOp} {tot:Bool} (hw:fl st.t (some (g,w0))=some true) (h:DG P cx Q dr k (⟨dst,none,op,tot⟩ :: os) st):DG P cx Q dr k (⟨dst,some (g,w0),op,tot⟩ :: os) st:=by
 cases dr with
 | true=>
  obtain ⟨s',⟨ef,g1,g2,g3⟩,g4⟩:=h
  exact ⟨s',⟨ef,StepE.unguard (o:=⟨dst,some (g,w0),op,tot⟩) g1 hw,g2,g3⟩,g4⟩
 | false=>
  rcases h with ⟨h1,_⟩ | ⟨_,h2⟩
  · cases h1
  · exact .inr ⟨hw,h2⟩
theorem lD {L:List (Ent P)} {u:Bool} (n:Nat) (m:Md) (q:Option (Bool×List AO)) (k:List It) (st:ASt) (h:ap P L u cx Q n m q k st) (hm:okM P L m q k st):bF P cx Q m q k st:=by
 induction n generalizing m q k st with
 | zero=>unfold ap at h; exact h
 | succ n ih=>
  generalize hN:n+1=N at h
  unfold ap at h
  split at h
  all_goals (try cases hN)
  · exact S_nil h
  · exact S_blk (ih _ _ _ _ h trivial)
  · exact S_post h
  · exact fun E U a w hh=>⟨E,U,_,hh,h⟩
  · exact S_skip (ih _ _ _ _ h trivial)
  · exact S_ret h
  · exact S_seq (ih _ _ _ _ h trivial)
  · rename_i dr os
    exact vt (ih _ _ _ _ h (gZ _ ()))
  · have h1:=ih _ _ _ _ h rfl
    exact h1
  · exact S_block (ih _ _ _ _ h trivial)
  · have h1:=ih _ _ _ _ h rfl
    exact h1
  · exact S_keepT (S_keep (ih _ _ _ _ h trivial))
  · split at h
    · exact S_lp0 (ih _ _ _ _ h trivial)
    · exact h
  · split at h
    · exact S_lp (ih _ _ _ _ h trivial)
    · exact h
  · exact h
  · exact h
  · exact h
  · have h1:=ih _ _ _ _ h rfl
    exact h1
  · have h1:=ih _ _ _ _ h rfl
    exact h1
  · exact S_fz _ (S_fz0 (ih _ _ _ _ h trivial))
  · exact D_nil (ih _ _ _ _ h trivial)
  · have h1:=ih _ _ _ _ h rfl
    exact h1
  · have h1:=ih _ _ _ _ h ⟨rfl,rfl⟩
    exact h1
  · rename_i ef dr dst op tot os
    exact qi (.yes ef rfl (.f hm.symm h.1)) h.2.1 (ih _ _ _ _ h.2.2 (gZ _ ()))
  · have h1:=ih _ _ _ _ h rfl
    exact h1
  · rename_i dr dst op tot os
    have hmd:∃ r,aF L (aq P st.t) st.ch (dst.getD 0) op=.cal r:=by unfold aF; split <;> exact ⟨_,rfl⟩
    obtain ⟨r,hr⟩:=hmd
    rw [hr] at h
    have h1:=ih _ _ _ _ h hr
    exact h1
  · have h1:=ih _ _ _ _ h ⟨nx (L:=L) (ρ:=aq P st.t) hm.symm,rfl,rfl⟩
    exact h1
  · obtain ⟨m1,m2,m3⟩:=hm
    obtain ⟨g1,g2,g3,g4⟩:=h
    exact o6 rfl (dW.take g1 m1 m2.symm g2 m3.symm g3) (ih _ _ _ _ g4 (gZ _ ()))
  · rename_i ef dr dst op tot os
    have hop:OpR P (aq P st.t) st.ch (dst.getD 0) op ⟨True,ef.v,ef.ch,ef.sub⟩:=by
     simp only [okM] at hm
     unfold aF at hm
     split at hm
     · cases hm':bY L st.ch (dst.getD 0) (bk (aq P st.t ‹Operand›)) (List.map (aq P st.t) ‹List Operand›) with
       | eff e=>
        rw [hm'] at hm
        cases hm
        exact jE hm' h.1
       | _=>rw [hm'] at hm; cases hm
     · cases hm
    exact qi (ef:=⟨True,ef.v,ef.ch,ef.sub⟩) (.yes _ rfl hop) (by have:=h.2.1; unfold bJ at this ⊢; exact this) (ih _ _ _ _ h.2.2 (gZ _ ()))
  · rename_i ks dst op tot os
    exact o6 rfl (dW.fz ks) (ih _ _ _ _ h (gZ _ ()))
  · rename_i b want dr dst g w0 op tot os
    obtain ⟨hb,hw⟩:=hm
    subst hw
    have hb:=hb.symm
    split at h
    · rename_i hbw
      subst hbw
      have h1:=ih _ _ _ _ h (gZ _ ())
      have h2:=DG.eqS (sw hb) h1
      exact tI (by simp [fl,hb]) h2
    · rename_i hbw
      have h1:=ih _ _ _ _ h (gZ _ ())
      have hb2:gt st.t g=.s (.bool (!want)):=by rw [hb]; cases b <;> cases want <;> simp_all
      have he:EqS ⟨aT dst [] (.s undef) (am st.t g (.s (.bool (!want)))),st.ch⟩ ⟨aT dst [] (.s undef) st.t,st.ch⟩:=⟨fun i=>by
       simp only [fE,(sw hb2).1 i],rfl⟩
      have h2:=DG.eqS he h1
      refine qi (ef:=⟨True,.s undef,st.ch,[]⟩) (.no (by simp only [fl,hb]; cases b <;> cases want <;> simp_all)) ?_ h2
      unfold bJ; split <;> simp
  · rename_i xs want dr dst gw op tot os
    obtain ⟨g,w0⟩:=gw
    obtain ⟨hb,hw⟩:=hm
    have h1:=ih _ _ _ _ h (gZ _ ())
    refine qi (ef:=⟨True,.s undef,st.ch,[]⟩) (.no (by simp only [fl,← hb])) ?_ h1
    unfold bJ; split <;> simp
  · rename_i x c a b
    refine S_cond (Eq.symm hm) (fun e=>?_) (fun e=>?_)
    · rw [if_pos e] at h; exact ih _ _ _ _ h trivial
    · rw [if_neg (by rw [e]; simp)] at h; exact ih _ _ _ _ h trivial
  · exact S_exit (Eq.symm hm) (ih _ _ _ _ h trivial)
  · exact S_out (Eq.symm hm) h
  · exact tN (m8 h.1 (Eq.symm hm) (ih _ _ _ _ h.2 trivial))
  · have h1:=ih _ _ _ _ h ⟨Eq.symm hm,rfl⟩
    exact h1
  · obtain ⟨hm1,hm2⟩:=hm
    obtain ⟨rfl,h1,h2⟩:=h
    exact tL (fD (dW.deepen hm2.symm h1) (ih _ _ _ _ h2 trivial))
  · exact h
theorem dB (L:List (Ent P)) (n:Nat) (h:ap P L false cx Q n .run none k st):SG P cx Q k st:=lD n .run none k st h trivial
theorem S_runU (L:List (Ent P)) (n:Nat) (h:ap P L true cx Q n .run none k st):SG P cx Q k st:=lD n .run none k st h trivial
theorem ny (L:List (Ent P)) (n:Nat) (h:ap P L false cx Q n .run (some (dr,os)) k st):DG P cx Q dr k os st:=lD n .run (some (dr,os)) k st h (gZ _ ())
end Go.Am
end
section
namespace Go.Am
variable {P : Program} [Glob P] {cx : Cx} {Q : ASt → Prop} {k : List It} {st : ASt}
inductive RV where
 | tmp (t:Nat)
 | cell (a:Nat) (agg:Bool) (sz:Nat)
def nQ (P:Program):ResultVar→Option RV
 | .tmp t=>some (.tmp t)
 | .cell a t=>(jr P t).bind fun b=>(ew P t).map fun n=>.cell a b n
def du (s:ASt):RV→Option C
 | .tmp t=>some (gt s.t t)
 | .cell a agg sz=>
  match gt s.t a with
  | .ptr k off=>
   match lk s.ch k with
   | some (.box cs)=>if off+sz≤cs.length∧(agg=false→sz=1)∧((cs.drop off).take sz).all aE=true then some (au agg sz cs off) else none
   | _=>none
  | _=>none
def co (s:ASt):List RV→Option (List C)
 | []=>some []
 | r :: rs=>(du s r).bind fun c=>(co s rs).map (c :: ·)
def cF : List C→C
 | [c]=>c
 | l=>.tup l
def ca : C→C→Prop
 | _,.any=>True
 | .s (.slice none 0 0),.sl _ []=>True
 | a,b=>a=b
def br : List C→List C→Prop
 | [],[]=>True
 | a :: l,b :: m=>ca a b∧br l m
 | _,_=>False
def bA : C→C→Prop
 | _,.any=>True
 | .s (.slice none 0 0),.sl _ []=>True
 | .agg a,.agg b=>br a b
 | a,b=>a=b
def bK : List C→List C→Prop
 | [],[]=>True
 | a :: l,b :: m=>bA a b∧bK l m
 | _,_=>False
def leC : C→C→Prop
 | _,.any=>True
 | .s (.slice none 0 0),.sl _ []=>True
 | .tup a,.tup b=>bK a b
 | .agg a,.agg b=>bK a b
 | a,b=>a=b
theorem wg {E:Env} {U:Nat→Prop} {h:Array Obj} {c r:C} {v:Value} (hl:ca c r) (hr:Rep E U h c v):Rep E U h r v:=by
 unfold ca at hl
 split at hl
 · exact .d (.any v)
 · rw [dJ hr]; exact .d (.sl0 _ _ _ (by decide))
 · rw [← hl]; exact hr
theorem pM {E:Env} {U:Nat→Prop} {h:Array Obj}:∀ {cs rs:List C},br cs rs→rs.length=cs.length∧∀ (vf:Nat→Value),(∀ (j:Nat) c,cs[j]? = some c→Rep E U h c (vf j))→∀ (j:Nat) r,rs[j]? = some r→Rep E U h r (vf j)
 | [],[],_=>⟨rfl,fun vf _ j r h=>by simp at h⟩
 | [],_ :: _,h=>by simp [br] at h
 | _ :: _,[],h=>by simp [br] at h
 | a :: l,b :: m,h=>by
  simp only [br] at h
  obtain ⟨h1,h2⟩:=pM h.2
  refine ⟨by simp [h1],fun vf hv j r hj=>?_⟩
  cases j with
  | zero=>simp at hj; subst hj; exact wg h.1 (hv 0 a rfl)
  | succ j=>exact h2 (fun j=>vf (j+1)) (fun j c hc=>hv (j+1) c (by simpa using hc)) j r (by simpa using hj)
theorem uC (a:C):ca a a:=by cases a <;> simp [ca]
theorem lr : ∀ l:List C,br l l
 | []=>trivial
 | a :: l=>⟨uC a,lr l⟩
theorem wh {E:Env} {U:Nat→Prop} {h:Array Obj} {c r:C} {v:Value} (hl:bA c r) (hr:Rep E U h c v):Rep E U h r v:=by
 unfold bA at hl
 split at hl
 · exact .d (.any v)
 · rw [dJ hr]; exact .d (.sl0 _ _ _ (by decide))
 · obtain ⟨vs,h1,h2,h3,h4⟩:=iD hr
   subst h1
   obtain ⟨g1,g2⟩:=pM (E:=E) (U:=U) (h:=h) hl
   exact .agg _ vs (by rw [g1]; exact h2) (g2 _ h3) h4
 · rw [← hl]; exact hr
theorem lu {E:Env} {U:Nat→Prop} {h:Array Obj}:∀ {cs rs:List C},bK cs rs→rs.length=cs.length∧∀ (vf:Nat→Value),(∀ (j:Nat) c,cs[j]? = some c→Rep E U h c (vf j))→∀ (j:Nat) r,rs[j]? = some r→Rep E U h r (vf j)
 | [],[],_=>⟨rfl,fun vf _ j r h=>by simp at h⟩
 | [],_ :: _,h=>by simp [bK] at h
 | _ :: _,[],h=>by simp [bK] at h
 | a :: l,b :: m,h=>by
  simp only [bK] at h
  obtain ⟨h1,h2⟩:=lu h.2
  refine ⟨by simp [h1],fun vf hv j r hj=>?_⟩
  cases j with
  | zero=>simp at hj; subst hj; exact wh h.1 (hv 0 a rfl)
  | succ j=>exact h2 (fun j=>vf (j+1)) (fun j c hc=>hv (j+1) c (by simpa using hc)) j r (by simpa using hj)
theorem sA {E:Env} {U:Nat→Prop} {h:Array Obj} {c r:C} {v:Value} (hl:leC c r) (hr:Rep E U h c v):Rep E U h r v:=by
 unfold leC at hl
 split at hl
 · exact .d (.any v)
 · rw [dJ hr]; exact .d (.sl0 _ _ _ (by decide))
 · obtain ⟨vs,h1,h2,h3⟩:=sI hr
   subst h1
   obtain ⟨g1,g2⟩:=lu (E:=E) (U:=U) (h:=h) hl
   exact .tup _ vs (by rw [g1]; exact h2) (g2 _ h3)
 · obtain ⟨vs,h1,h2,h3,h4⟩:=iD hr
   subst h1
   obtain ⟨g1,g2⟩:=lu (E:=E) (U:=U) (h:=h) hl
   exact .agg _ vs (by rw [g1]; exact h2) (g2 _ h3) h4
 · rw [← hl]; exact hr
def aV : Chs→List Nat
 | []=>[]
 | (k,.row _ _ _) :: r=>k :: aV r
 | (k,.deep _ _ _ Option.none _) :: r=>k :: aV r
 | (_,.deep _ _ _ (Option.some _) _) :: r=>aV r
 | (_,.box _) :: r=>aV r
 | (_,.res _) :: r=>aV r
def bD : List Nat→List Nat→List Nat
 | [],_=>[]
 | j :: l,ks=>if av ks j=true then bD l ks else j :: bD l ks
def bq : Chs→Chs→Prop
 | [],_=>True
 | (k,c) :: r,ch=>lk ch k=some c∧bq r ch
theorem gd : ∀ {c1 ch:Chs},bq c1 ch→∀ p∈c1,lk ch p.1=some p.2
 | [],_,_,p,h=>by simp at h
 | (k,c) :: r,ch,hs,p,h=>by
  rcases List.mem_cons.1 h with h | h
  · rw [h]; exact hs.1
  · exact gd hs.2 p h
def cz (rvs:List RV) (kp:List Nat) (r:C) (chs':Chs) (s:ASt):Prop:=
 (match co (ce (bD (aV s.ch) kp) s) rvs with | some l=>leC (cF l) r | none=>False)∧bq chs' (ce (bD (aV s.ch) kp) s).ch
def argS : Nat→List C→dI
 | _,[]=>[]
 | i,c :: cs=>(i,c) :: argS (i+1) cs
theorem sx : ∀ (cs:List C) (i j:Nat),gt (argS i cs) j=if i≤j then (cs[j - i]?).getD .any else .any
 | [],i,j=>by simp [argS,gt,lk]
 | c :: cs,i,j=>by
  simp only [argS,gt,lk]
  by_cases h:i=j
  · subst h; simp
  · rw [if_neg h]
    have:=sx cs (i+1) j
    simp only [gt] at this
    rw [this]
    by_cases h2:i+1≤j
    · rw [if_pos h2,if_pos (by omega)]
      have:j - i=(j - (i+1))+1:=by omega
      rw [this,List.getElem?_cons_succ]
    · rw [if_neg h2,if_neg (by omega)]
def kU (tmps:Array Value):ResultVar→Sem Value
 | .tmp t=>pure (tmps.getD t undef)
 | .cell x t=>do loadVar t (← asAddr (tmps.getD x undef))
theorem tw (fn:Func) (tmps:Array Value):results fn tmps=(do let vs ← fn.results.mapM (kU tmps); pure (if h:vs.size=1 then vs[0] else .tuple vs)):=rfl
theorem mZ {E:Env} {U:Nat→Prop} {a:Act} {w:World} {s:ASt} (hh:Holds P cx E U a w s):∀ {l:List ResultVar} {rvs:List RV} {cs:List C},l.mapM (nQ P)=some rvs→co s rvs=some cs →
 ∃ vs:List Value,(l.mapM (kU a.tmps)).run P w=.ok vs w∧vs.length=cs.length∧∀ (j:Nat) c v,cs[j]? = some c→vs[j]? = some v→Rep E U w.heap c v
 | [],rvs,cs,h,hr=>by
  simp at h; subst h
  simp [co] at hr; subst hr
  exact ⟨[],by simp,rfl,fun j c v h=>by simp at h⟩
 | r :: l,rvs,cs,h,hr=>by
  simp only [List.mapM_cons,Option.pure_def,Option.bind_eq_bind,Option.bind_eq_some_iff,Option.some.injEq] at h
  obtain ⟨rv,h1,rvs',h2,rfl⟩:=h
  simp only [co,Option.bind_eq_some_iff,Option.map_eq_some_iff] at hr
  obtain ⟨c,h3,cs',h4,rfl⟩:=hr
  obtain ⟨vs,g1,g2,g3⟩:=mZ hh h2 h4
  have head:∃ v,((kU a.tmps) r).run P w=.ok v w∧Rep E U w.heap c v:=by
   cases r with
   | tmp t=>
    simp only [nQ,Option.some.injEq] at h1
    subst h1
    simp only [du,Option.some.injEq] at h3
    subst h3
    exact ⟨_,by simp [kU],hh.tok t⟩
   | cell x t=>
    simp only [nQ,Option.bind_eq_some_iff,Option.map_eq_some_iff] at h1
    obtain ⟨b,hb,n,hn,rfl⟩:=h1
    simp only [du] at h3
    split at h3
    · rename_i kk off hx
      split at h3
      · rename_i bcs hl
        split at h3
        · rename_i hcond
          cases h3
          have hv:=fG (hx ▸ hh.tok x)
          have hcells:au b n bcs off=au b n ((bcs.drop off).take n) 0:=by
           cases b with
           | true=>simp [au,List.take_take]
           | false=>
            have hn1:=hcond.2.1 rfl
            subst hn1
            have hlt:off < bcs.length:=by omega
            simp only [au,Bool.false_eq_true,if_false]
            rw [List.drop_eq_getElem_cons hlt]; rfl
          obtain ⟨v,e1,e2⟩:=iU hb hn (so (hh.inv.ok kk _ (dG hl)) off n (fun j c hj=>jM hcond.2.2 hj)) 0 (by simp; omega) hcond.2.1
          rw [← hcells] at e2
          refine ⟨v,?_,e2⟩
          simp only [Instr.loadAt,Instr.sureAddr,Sem.run_bind,Sem.run_pure,Result.andThen_ok,Nat.add_zero] at e1
          simp only [kU,hv,asAddr,Sem.run_bind,Sem.run_pure,Result.andThen_ok,e1]
        · cases h3
      · cases h3
    · cases h3
  obtain ⟨v,e1,e2⟩:=head
  refine ⟨v :: vs,?_,by simp [g2],fun j c' v' hc hv=>?_⟩
  · simp only [List.mapM_cons,Sem.run_bind,Sem.run_pure]
    rw [e1]
    simp only [Result.andThen_ok]
    rw [g1]
    rfl
  · cases j with
    | zero=>simp at hc hv; subst hc hv; exact e2
    | succ j=>simp at hc hv; exact g3 j c' v' hc hv
theorem Holds.shut {E:Env} {U:Nat→Prop} {a:Act} {w:World} {s:ASt} {D:Nat} {Ds:List Nat} (hh:Holds P cx E U a w s) (hd:a.defers=(D :: Ds).map gI) (hc:cx.hid=[]) :
 Holds P cx E U { a with defers:=Ds.map gI } (w.putObj D (.deferred none)) s:=by
 obtain ⟨Ds',h1,h2,h3⟩:=hh.df
 have he:Ds'=D :: Ds:=by
  have:Ds'.map gI=(D :: Ds).map gI:=by rw [← h1,hd]
  exact (List.map_inj_right (fun x y e=>by simpa [gI] using e)).1 this
 subst he
 obtain ⟨⟨g1,g2,g3,g4⟩⟩:Nonempty (_∧_∧_∧_):=⟨(h3 D List.mem_cons_self).1,(h3 D List.mem_cons_self).2.1,(h3 D List.mem_cons_self).2.2.1,(h3 D List.mem_cons_self).2.2.2⟩
 have hne:∀ b,b≠D→(w.putObj D (.deferred none)).heap[b]? = w.heap[b]?:=fun b hb=>by
  simp [World.putObj,Array.getElem?_setIfInBounds,Ne.symm hb]
 have hsz:(w.putObj D (.deferred none)).heap.size=w.heap.size:=by simp [World.putObj]
 have hU:∀ b,U b→U b∧(w.putObj D (.deferred none)).heap[b]? = w.heap[b]?:=fun b hb=>⟨hb,hne b (fun e=>g3 (e ▸ hb))⟩
 have hF:∀ k c,(k,c)∈s.ch→∀ b,(E k).fp b→(w.putObj D (.deferred none)).heap[b]? = w.heap[b]?:=fun k c hm b hb=>hne b (fun e=>g4 k c hm (e ▸ hb))
 refine ⟨hh.sz,⟨Ds,rfl,(List.nodup_cons.1 h2).2,fun D' hD'=>?_⟩,fun i=>(hh.tok i).same hU,⟨hh.inv.nd,fun k c hm=>(hh.inv.ok k c hm).same hU (hF k c hm),hh.inv.sep,hh.inv.out,fun k c hm b hb=>by rw [hsz]; exact hh.inv.fpl k c hm b hb,fun b hb=>by rw [hsz]; exact hh.inv.lt b hb⟩,
  hh.os,hh.tape,hh.output,by rw [hsz]; exact hh.size,fun b hb hx=>(hne b (by omega)).trans (hh.fr b hb hx),fun b hb=>⟨(hh.keepA b hb).1,(hU b (hh.keepA b hb).1).2.trans (hh.keepA b hb).2⟩,hh.live,hh.base,hh.fix,fun p hp=>by rw [hc] at hp; simp at hp,hh.gok.mono hU⟩
 obtain ⟨q1,q2,q3,q4⟩:=h3 D' (List.mem_cons_of_mem _ hD')
 refine ⟨q1,?_,q3,q4⟩
 rw [hne D' (fun e=>(List.nodup_cons.1 h2).1 (e ▸ hD'))]; exact q2
theorem mW {E:Env} {U:Nat→Prop} {s:ASt} {fn:Func} {R:Ending→World→Prop} (hc:cx.hid=[]):∀ (Ds:List Nat) (a:Act) (w:World),a.defers=Ds.map gI→Holds P cx E U a w s →
 (∀ w',Holds P cx E U { a with defers:=[] } w' s→∃ v,(results fn a.tmps).run P w'=.ok v w'∧R (.returned v) w')→LeavesInM (FW none) 0 P fn a.tmps R a.defers .returning w
 | [],a,w,hd,hh,hf=>by
  rw [hd]
  obtain ⟨t,d⟩:=a
  simp only at hd; subst hd
  exact hf w hh
 | D :: Ds,a,w,hd,hh,hf=>by
  have h1:=hh.shut hd hc
  have h2:=mW (fn:=fn) (R:=R) hc Ds { a with defers:=Ds.map gI } _ rfl h1 hf
  rw [hd]
  simp only [List.map_cons,LeavesInM]
  refine ⟨by simp,.inl ⟨D,_,rfl,run_takeDeferred ?_,h2⟩⟩
  obtain ⟨Ds',e1,_,e3⟩:=hh.df
  have he:Ds'=D :: Ds:=by
   have:Ds'.map gI=(D :: Ds).map gI:=by rw [← e1,hd]
   exact (List.map_inj_right (fun x y e=>by simpa [gI] using e)).1 this
  subst he
  exact (e3 D List.mem_cons_self).2.1
structure FnIs (P:Program) (f:FuncId) (n:Nat) (ac:AC) (rvs:List RV):Prop where
 ex:∃ fn code,P.funcs[f]? = some fn∧(fn.name == "runtime.NumGoroutine")=false∧fn.body=some code∧fn.ntmps=n∧d9 P n ac code=some ac∧fn.results.toList.mapM (nQ P)=some rvs
 hn:n≤100000
def FCo (P:Program) [Glob P] (f:FuncId) (args:List C) (chs:Chs) (outs:List (C×Chs)):Prop:=
 FnOk P f∧∀ (E:Env) (U:Nat→Prop) (vs:Array Value) (w:World),eW P U w.heap→jC E U w.heap args vs→Inv E U w.heap chs →
  Calls P f vs w fun e w'=>∃ o∈outs,∃ v E' U',e=.returned v∧Rep E' U' w'.heap o.1 v∧CEv E U w chs E' U' w' o.2
def cR (rvs:List RV) (kp:List Nat) (outs:List (C×Chs)) (s:ASt):Prop:=∃ o∈outs,cz rvs kp o.1 o.2 s
theorem lW {f:FuncId} {n:Nat} {ac:AC} {rvs:List RV} {args:List C} {chs:Chs} {outs:List (C×Chs)} (kp:List Nat) (hf:FnIs P f n ac rvs) (hargs:args.length≤n) (hnd:∀ o∈outs,(o.2.map (·.1)).Nodup)
 (hkinds:∀ o∈outs,∀ k cs,(k,.box cs)∈o.2→(∃ c,(k,c)∈chs)→(∃ cs0,(k,.box cs0)∈chs)∧100000≤k∧k < 200000)
 (h:∀ cx:Cx,cx.n=n→cx.ro=none→cx.hi=200000→SG P cx (cR rvs kp outs) [.c ac] ⟨argS 0 args,chs⟩):FCo P f args chs outs:=by
 obtain ⟨⟨fn,code,h1,h2,h3,h4,h5,h6⟩,hn⟩:=hf
 refine ⟨⟨fn,h1,h2,by rw [h3]; rfl⟩,fun E U vs w hg ha hi=>?_⟩
 let cx:Cx:={ n:=n,A0:=U,w0:=w,X:=fun b=>∃ k c,(k,c)∈chs∧(E k).fp b,E0:=E,hn:=hn,ro:=none,hid:=[],lo:=100000,hi:=200000,hlo:=Nat.le_refl _ }
 have hsz:vs.size=args.length:=ha.1
 have hh:Holds P cx E U { tmps:=vs++Array.replicate (fn.ntmps - vs.size) undef,defers:=[] } w ⟨argS 0 args,chs⟩:=by
  refine ⟨by simp [cx,h4]; omega,⟨[],rfl,.nil,fun D hD=>by simp at hD⟩,fun i=>?_,hi,rfl,rfl,rfl,Nat.le_refl _,fun _ _ _=>rfl,fun b hb=>⟨hb,rfl⟩,fun k c hm b hb=>.inr ⟨k,c,hm,hb⟩,fun b hb=>.inl hb,fun k cs _ _=>rfl,fun p hp=>by simp [cx] at hp,hg⟩
  simp only [sx,Nat.zero_le,if_true,Nat.sub_zero]
  cases hc:args[i]? with
  | none=>exact .d (.any _)
  | some c=>
   have hlt:i < vs.size:=by rw [hsz]; exact (List.getElem?_eq_some_iff.1 hc).1
   have e:(vs++Array.replicate (fn.ntmps - vs.size) undef).getD i undef=vs.getD i undef:=by
    simp only [Array.getD_eq_getD_getElem?,Array.getElem?_append]
    rw [if_pos hlt]
   rw [e]; exact ha.2 i c hc
 refine vz (ro:=none) (n:=0) (callsIn_of_wp_marks h1 h3 trivial (wpIn_mono (h cx rfl rfl rfl E U _ w hh code h5) (fun e a w' he=>?_)) rfl)
 have fin:RnH P cx (cR rvs kp outs) a w'→LeavesInM (FW none) 0 P fn a.tmps (fun e w'=>∃ o∈outs,∃ v E' U',e=.returned v∧Rep E' U' w'.heap o.1 v∧CEv E U w chs E' U' w' o.2) a.defers .returning w':=by
  rintro ⟨E',U0,s,hs,⟨r,chs'⟩,ho,hr1,hr2⟩
  obtain ⟨U',hs'⟩:=hs.fz (bD (aV s.ch) kp)
  generalize ce (bD (aV s.ch) kp) s=s' at hs' hr1 hr2
  obtain ⟨cs,hcs,hr1⟩:∃ cs,co s' rvs=some cs∧leC (cF cs) r:=by
   split at hr1
   · exact ⟨_,by assumption,hr1⟩
   · exact hr1.elim
  obtain ⟨Ds,hds,_⟩:=hs'.df
  refine mW rfl Ds a w' hds hs' (fun w'' hs''=>?_)
  obtain ⟨l,g1,g2,g3⟩:=mZ hs'' h6 hcs
  refine ⟨(if hsz:l.toArray.size=1 then l.toArray[0] else .tuple l.toArray),?_,(r,chs'),ho,_,E',U',rfl,sA hr1 ?_,?_⟩
  · have hm:(fn.results.mapM (kU a.tmps)).run P w''=.ok l.toArray w'':=by
     rw [Array.mapM_eq_mapM_toList]
     simp only [Sem.run_map]
     rw [g1]; rfl
    rw [tw]
    simp only [Sem.run_bind]
    rw [hm]
    rfl
  · match l,cs,g2,g3 with
    | [],[],_,_=>exact .tup [] #[] rfl (fun j c h=>by simp at h)
    | [v],[c],_,g3=>simpa [cF] using g3 0 c v rfl rfl
    | v1 :: v2 :: vs',[],g2,_=>simp at g2
    | v1 :: v2 :: vs',[c],g2,_=>simp at g2
    | v1 :: v2 :: vs',c1 :: c2 :: cs',g2,g3=>
     have e1:¬ ((v1 :: v2 :: vs').toArray.size=1):=by simp
     rw [dif_neg e1]
     simp only [cF]
     refine .tup _ _ (by simpa using g2) (fun j c hj=>?_)
     have hlt:j < (v1 :: v2 :: vs').length:=by rw [g2]; exact (List.getElem?_eq_some_iff.1 hj).1
     have:=g3 j c _ hj (List.getElem?_eq_getElem hlt)
     rw [eA (v:=(v1 :: v2 :: vs')[j]) (by simp)]
     exact this
  · have hmem:∀ k c,(k,c)∈chs'→lk s'.ch k=some c:=fun k c hm=>gd hr2 (k,c) hm
    refine ⟨hs''.os,hs''.tape,hs''.output,hs''.size,fun b hb=>hs''.keepA b hb,fun b hb1 hb2=>hs''.fr b hb1 (fun ⟨k,c,g1,g2⟩=>hb2 k c g1 g2),fun k c hm b hb=>hs''.live k c (dG (hmem k c hm)) b hb,fun b hb=>hs''.base b hb,fun k cs hm hex=>?_,hs''.inv.sub (fun k c hm=>dG (hmem k c hm)) (hnd _ ho)⟩
    obtain ⟨c,hc⟩:=hex
    obtain ⟨g1,g2⟩:=hkinds _ ho k cs hm ⟨c,hc⟩
    exact ⟨g1,hs''.fix k cs g2 (dG (hmem k _ hm))⟩
 cases e with
 | normal=>exact fin he
 | ret=>exact fin he
 | _=>exact he.elim
theorem rg {f:FuncId} {n:Nat} {ac:AC} {rvs:List RV} {args:List C} {chs:Chs} {r:C} {chs':Chs} (kp:List Nat) (hf:FnIs P f n ac rvs) (hargs:args.length≤n) (hkeys:∀ p∈chs,100000≤p.1∧p.1 < 200000) (hnd:(chs'.map (·.1)).Nodup)
 (hkinds:∀ k cs,(k,.box cs)∈chs'→(∃ c,(k,c)∈chs)→∃ cs0,(k,.box cs0)∈chs)
 (h:∀ cx:Cx,cx.n=n→cx.ro=none→cx.hi=200000→SG P cx (cz rvs kp r chs') [.c ac] ⟨argS 0 args,chs⟩):FC P f args chs r chs':=by
 have hq:∀ o∈[(r,chs')],o=(r,chs'):=fun o ho=>by simpa using ho
 have hf2:=lW (outs:=[(r,chs')]) kp hf hargs (fun o ho=>by rw [hq o ho]; exact hnd) (fun o ho=>by rw [hq o ho]; exact fun k cs hm ⟨c,hc⟩=>⟨hkinds k cs hm ⟨c,hc⟩,hkeys _ hc⟩) (fun cx h1 h2 h3=>by
  refine fun E U a w hh code hc=>wpIn_mono (h cx h1 h2 h3 E U a w hh code hc) (fun e a w he=>?_)
  cases e with
  | normal=>obtain ⟨E',U',s,g1,g2⟩:=he; exact ⟨E',U',s,g1,_,List.mem_cons_self,g2⟩
  | ret=>obtain ⟨E',U',s,g1,g2⟩:=he; exact ⟨E',U',s,g1,_,List.mem_cons_self,g2⟩
  | _=>exact he.elim)
 refine ⟨hf2.1,fun E U vs w hg ha hi=>(hf2.2 E U vs w hg ha hi).mono fun e w' h=>?_⟩
 obtain ⟨o,ho,h⟩:=h
 rw [hq o ho] at h
 exact h
def jD (c:C):Prop:=∃ U h v,RepD U h c v
theorem jD.sl {sz:Nat} {es:List (List C)} (h:jD (.sl sz es)):es.length≤9223372036854775807∧∀ e∈es,∀ c∈e,jD c:=by
 obtain ⟨U,hp,v,hr⟩:=h
 cases hr with
 | sl0 sz a cap hc=>exact ⟨by simp,fun e he=>by simp at he⟩
 | sl es b off cap sz arr ty fz vf hU hb hcap hmax hsz hv hr=>
  refine ⟨?_,fun e he c hc=>?_⟩
  · have:cap≤9223372036854775807:=hmax
    omega
  · obtain ⟨i,hi⟩:=List.mem_iff_getElem?.1 he
    obtain ⟨j,hj⟩:=List.mem_iff_getElem?.1 hc
    exact ⟨_,_,_,hr i e j c hi hj⟩
def aW : List C→Prop
 | []=>True
 | .sl sz es :: r=>jD (.sl sz es)∧aW r
 | .agg cs :: r=>LensOks cs∧aW r
 | _ :: r=>aW r
where LensOks:List C→Prop
 | []=>True
 | .sl sz es :: r=>jD (.sl sz es)∧LensOks r
 | _ :: r=>LensOks r
theorem nz {E:Env} {U:Nat→Prop} {h:Array Obj}:∀ {cs:List C},(∀ c∈cs,∃ v,Rep E U h c v)→aW.LensOks cs
 | [],_=>trivial
 | c :: r,hc=>by
  have hr:=nz (cs:=r) fun c hm=>hc c (List.mem_cons_of_mem _ hm)
  cases c <;> simp only [aW.LensOks] <;> try exact hr
  obtain ⟨v,hv⟩:=hc _ List.mem_cons_self
  exact ⟨⟨_,_,v,ju hv⟩,hr⟩
theorem pt {E:Env} {U:Nat→Prop} {h:Array Obj}:∀ {cs:List C},(∀ c∈cs,∃ v,Rep E U h c v)→aW cs
 | [],_=>trivial
 | c :: r,hc=>by
  have hr:=pt (cs:=r) fun c hm=>hc c (List.mem_cons_of_mem _ hm)
  cases c <;> simp only [aW] <;> try exact hr
  · obtain ⟨v,hv⟩:=hc _ List.mem_cons_self
    exact ⟨⟨_,_,v,ju hv⟩,hr⟩
  · obtain ⟨v,hv⟩:=hc _ List.mem_cons_self
    obtain ⟨vs,_,h2,h3,_⟩:=iD hv
    refine ⟨nz (E:=E) (U:=U) (h:=h) fun c hm=>?_,hr⟩
    obtain ⟨j,hj⟩:=List.mem_iff_getElem?.1 hm
    exact ⟨_,h3 j c hj⟩
def bg : Chs→Prop
 | []=>True
 | (_,.row _ _ es) :: r=>es.length≤9223372036854775807∧bg r
 | (_,.deep _ _ _ _ rows) :: r=>rows.length≤9223372036854775807∧bg r
 | (_,.box _) :: r=>bg r
 | (_,.res _) :: r=>bg r
theorem pr {E:Env} {U:Nat→Prop} {h:Array Obj}:∀ {ch:Chs},(∀ k c,(k,c)∈ch→dM E U h k c)→bg ch
 | [],_=>trivial
 | (k,c) :: r,hc=>by
  have hr:=pr (ch:=r) fun k c hm=>hc k c (List.mem_cons_of_mem _ hm)
  have h0:=hc k c List.mem_cons_self
  cases c with
  | box cs=>exact hr
  | res R=>exact hr
  | row sz ty es=>
   refine ⟨?_,hr⟩
   rcases h0.1.2.2.2 with ⟨_,rfl⟩ | ⟨_,h5,h6,_⟩
   · simp
   · have:(E k).cap≤9223372036854775807:=h6
     omega
  | deep isz ity ty hole rows=>
   refine ⟨?_,hr⟩
   rcases h0.1.2.2 with ⟨_,rfl⟩ | ⟨_,h5,h6,_⟩
   · simp
   · have:(E k).cap≤9223372036854775807:=h6
     omega
theorem FC.lens {f:FuncId} {args:List C} {chs:Chs} {r:C} {chs':Chs} (hf:FnOk P f) (h:aW args→bg chs→FC P f args chs r chs'):FC P f args chs r chs':=
 ⟨hf,fun E U vs w hg ha hi=>(h (pt (E:=E) (U:=U) (h:=w.heap) fun c hm=>by
  obtain ⟨j,hj⟩:=List.mem_iff_getElem?.1 hm
  exact ⟨_,ha.2 j c hj⟩) (pr hi.ok)).2 E U vs w hg ha hi⟩
theorem Holds.leC {E:Env} {U:Nat→Prop} {a:Act} {w:World} {s s':ASt} (hh:Holds P cx E U a w s) (h1:∀ i,gt s'.t i=.any∨leC (gt s.t i) (gt s'.t i)) (h2:(s'.ch.map (·.1)).Nodup∧∀ p∈s'.ch,lk s.ch p.1=some p.2):Holds P cx E U a w s':=by
 have hs:∀ k c,(k,c)∈s'.ch→(k,c)∈s.ch:=fun k c hm=>dG (h2.2 (k,c) hm)
 refine ⟨hh.sz,?_,fun i=>?_,hh.inv.sub hs h2.1,hh.os,hh.tape,hh.output,hh.size,hh.fr,hh.keepA,fun k c hm=>hh.live k c (hs k c hm),hh.base,fun k cs hk hm=>hh.fix k cs hk (hs k _ hm),fun p hp=>(hh.hid p hp).less hs,hh.gok⟩
 · obtain ⟨Ds,h1,h2,h3⟩:=hh.df
   exact ⟨Ds,h1,h2,fun D hD=>⟨(h3 D hD).1,(h3 D hD).2.less hs⟩⟩
 · rcases h1 i with e | e
   · rw [e]; exact .d (.any _)
   · exact sA e (hh.tok i)
def cU (t:dI):dI→Prop
 | []=>True
 | (i,c) :: r=>leC (gt t i) c∧cU t r
def cG (s s':ASt):Prop:=cU s.t s'.t∧an (ag s'.ch)∧bq s'.ch s.ch
theorem l8 {t:dI}:∀ {t':dI} (i:Nat),cU t t'→gt t' i=.any∨leC (gt t i) (gt t' i)
 | [],i,_=>.inl rfl
 | (j,c) :: r,i,h=>by
  simp only [gt,lk]
  by_cases hj:j=i
  · subst hj; rw [if_pos rfl]; exact .inr h.1
  · rw [if_neg hj]; exact l8 (t':=r) i h.2
theorem S_leS {s':ASt} (h:cG st s') (h2:SG P cx Q k s'):SG P cx Q k st:=fun E U a w hh=>
 h2 E U a w (hh.leC (fun i=>l8 i h.1) ⟨by rw [← dU]; exact d8 h.2.1,gd h.2.2⟩)
def dl {α:Type} (sh:α→ASt) (inv:α→Prop) (μ:α→Nat) (v:α) (s:ASt):Prop:=∃ v',inv v'∧μ v' < μ v∧cG s (sh v')
def dw (n:Nat) (sh:Nat→ASt) (inv:Nat→Prop) (i:Nat) (s:ASt):Prop:=i < n∧inv (i+1)∧cG s (sh (i+1))
theorem sm {x:AC} {α:Type} (sh:α→ASt) (inv:α→Prop) (μ:α→Nat) (v0:α) (h0:inv v0) (hs:cG st (sh v0))
 (hr:∀ v,inv v→SG P cx Q (.c x :: .post (dl sh inv μ v) :: k) (sh v)):SG P cx Q (.c (.loop x) :: k) st:=by
 refine S_leS hs ?_
 refine e8 fun code hc E U a w hh=>?_
 cases code <;> simp [d9] at hc
 rename_i c
 intro b kk cs hro hF hroom
 have key:∀ n v,μ v≤n→inv v→∀ E U a w,Holds P cx E U a w (sh v) →
  ∃ e a' w',WE P cx Q k e a' w'∧ArrivesIn (Machine.fenced P (FW cx.ro)) P (lone (b.atR a (.code c :: .inLoop c :: kk)) cs w) b kk cs e a' w':=by
  intro n
  induction n using Nat.strongRecOn with
  | _ n ih=>
   intro v hn hv E U a w hh
   have hbody:=hr v hv E U a w hh c hc
   obtain ⟨e,a₁,w₁,hq,harr⟩:=hbody b (.inLoop c :: kk) cs hro hF hroom
   cases e with
   | normal=>
    obtain ⟨E',U',s,g1,v',g2,g3,g4⟩:=hq
    have g5:=g1.leC (fun i=>l8 i g4.1) ⟨by rw [← dU]; exact d8 g4.2.1,gd g4.2.2⟩
    obtain ⟨e₂,a₂,w₂,hq₂,harr₂⟩:=ih (μ v') (by omega) v' (Nat.le_refl _) g2 E' U' a₁ w₁ g5
    exact ⟨e₂,a₂,w₂,hq₂,.of_steps (StepsIn.trans harr (.one (fenced_calm hF hroom rfl) stepR_inLoop)) harr₂⟩
   | exit id=>exact ⟨_,a₁,w₁,hq,.pass (x:=.inLoop c) rfl (fun _ _=>.inl (by simp)) harr⟩
   | goto l=>exact ⟨_,a₁,w₁,hq,.pass (x:=.inLoop c) rfl (fun _ _=>.inl (by simp)) harr⟩
   | ret=>exact ⟨_,a₁,w₁,hq,.pass (x:=.inLoop c) rfl (fun _ _=>.inl (by simp)) harr⟩
   | panic ch=>exact ⟨_,a₁,w₁,hq,.pass (x:=.inLoop c) rfl (fun _ _=>.inl (by simp)) harr⟩
   | outgrown=>exact ⟨_,a₁,w₁,hq,.pass (x:=.inLoop c) rfl (fun _ _=>.inl (by simp)) harr⟩
 obtain ⟨e,a',w',hq,harr⟩:=key _ v0 (Nat.le_refl _) h0 E U a w hh
 exact ⟨e,a',w',hq,.of_steps (.one (fenced_calm hF hroom rfl) stepR_loop) harr⟩
def dn (t:dI):dI→dI
 | []=>t
 | (i,c) :: r=>dn (am t i c) r
def cQ (ch:Chs):Chs→Chs
 | []=>ch
 | (i,c) :: r=>cQ (am ch i c) r
def cc (st:ASt) (ts:dI) (cs:Chs):ASt:=⟨dn st.t ts,cQ st.ch cs⟩
theorem sn {x:AC} {α:Type} (ts:α→dI) (cs:α→Chs) (inv:α→Prop) (μ:α→Nat) (v0:α) (h0:inv v0) (hs:cG st (cc st (ts v0) (cs v0)))
 (hr:∀ v,inv v→SG P cx Q (.c x :: .post (dl (fun v=>cc st (ts v) (cs v)) inv μ v) :: k) (cc st (ts v) (cs v))):SG P cx Q (.c (.loop x) :: k) st:=
 sm (fun v=>cc st (ts v) (cs v)) inv μ v0 h0 hs hr
theorem S_for {x:AC} (n:Nat) (sh:Nat→ASt) (inv:Nat→Prop) (h0:inv 0) (hs:cG st (sh 0))
 (hr:∀ i,i≤n→inv i→SG P cx Q (.c x :: .post (dw n sh inv i) :: k) (sh i)):SG P cx Q (.c (.loop x) :: k) st:=by
 refine sm sh (fun i=>i≤n∧inv i) (fun i=>n - i) 0 ⟨Nat.zero_le _,h0⟩ hs (fun i hi=>?_)
 have h:=hr i hi.1 hi.2
 refine fun E U a w hh code hc=>wpIn_mono (h E U a w hh code hc) (fun e a w he=>?_)
 cases e <;> first | exact he | skip
 obtain ⟨E',U',s,g1,g2,g3,g4⟩:=he
 exact ⟨E',U',s,g1,i+1,⟨g2,g3⟩,(by show n - (i+1) < n - i; omega),g4⟩
theorem eM {x:AC} (n:Nat) (ts:Nat→dI) (cs:Nat→Chs) (inv:Nat→Prop) (h0:inv 0) (hs:cG st (cc st (ts 0) (cs 0)))
 (hr:∀ i,i≤n→inv i→SG P cx Q (.c x :: .post (dw n (fun i=>cc st (ts i) (cs i)) inv i) :: k) (cc st (ts i) (cs i))):SG P cx Q (.c (.loop x) :: k) st:=
 S_for n (fun i=>cc st (ts i) (cs i)) inv h0 hs hr
theorem eg {f:FuncId} {n:Nat} {ac:AC} {rvs:List RV} {args:List C} {r:C} (hf:FnIs P f n ac rvs) (hargs:args.length≤n)
 (h:∀ cx:Cx,aW args→SG P cx (cz rvs [] r []) [.c ac] ⟨argS 0 args,[]⟩):FC P f args [] r []:=by
 have hf':=hf
 obtain ⟨⟨fn,code,h1,h2,h3,_⟩,_⟩:=hf'
 exact FC.lens ⟨fn,h1,h2,by rw [h3]; rfl⟩ fun hl _=>rg [] hf hargs (fun p hp=>by simp at hp) (by simp) (fun k cs hm=>by simp at hm) (fun cx _ _ _=>h cx hl)
def aB (chs:Chs):Chs→Prop
 | []=>True
 | (k,.box _) :: r=>(match lk chs k with | some (.box _)=>True | some _=>False | none=>True)∧aB chs r
 | _ :: r=>aB chs r
theorem l7 {chs:Chs} (hn:(chs.map (·.1)).Nodup):∀ {l:Chs},aB chs l→∀ k cs,(k,.box cs)∈l→(∃ c,(k,c)∈chs)→∃ cs0,(k,.box cs0)∈chs
 | [],_,k,cs,hm,_=>by simp at hm
 | (j,c0) :: r,h,k,cs,hm,hex=>by
  have hr:aB chs r:=by cases c0 <;> first | exact h | exact h.2
  rcases List.mem_cons.1 hm with e | e
  · cases e
    obtain ⟨c,hc⟩:=hex
    have hl:=eT hn hc
    have h1:=h.1
    rw [hl] at h1
    cases c with
    | box cs0=>exact ⟨cs0,hc⟩
    | _=>exact h1.elim
  · exact l7 hn hr k cs e hex
def bj : Chs→Prop
 | []=>True
 | (k,_) :: r=>(100000≤k∧k < 200000)∧bj r
theorem pv : ∀ {l:Chs},bj l→∀ p∈l,100000≤p.1∧p.1 < 200000
 | [],_,p,h=>by simp at h
 | (k,c) :: r,h,p,hp=>by
  rcases List.mem_cons.1 hp with e | e
  · rw [e]; exact h.1
  · exact pv h.2 p e
theorem dC {f:FuncId} {n:Nat} {ac:AC} {rvs:List RV} {args:List C} {chs:Chs} {r:C} {chs':Chs} (kp:List Nat) (hf:FnIs P f n ac rvs) (hargs:args.length≤n) (hks:bj chs) (hn0:an (ag chs)) (hn1:an (ag chs')) (hkd:aB chs chs')
 (h:∀ cx:Cx,cx.n=n∧cx.ro=none∧cx.hi=200000→aW args→bg chs→SG P cx (cz rvs kp r chs') [.c ac] ⟨argS 0 args,chs⟩):FC P f args chs r chs':=by
 have hf':=hf
 obtain ⟨⟨fn,code,h1,h2,h3,_⟩,_⟩:=hf'
 exact FC.lens ⟨fn,h1,h2,by rw [h3]; rfl⟩ fun hl hc=>rg kp hf hargs (pv hks) (by rw [← dU]; exact d8 hn1) (l7 (by rw [← dU]; exact d8 hn0) hkd) (fun cx h1 h2 h3=>h cx ⟨h1,h2,h3⟩ hl hc)
end Go.Am
end
section
namespace Go.Am
variable {P : Program} [Glob P]
class Dat (α:Type) where
 sz:Nat
 agg:Bool
 cells:α→List C
 dec:List C→Option α
 ok:∀ {l a},dec l=some a→l=cells a
 data:∀ a,(cells a).all (fun c=>match c with | .s _=>true | .sl _ _=>true | _=>false)=true
 one:agg=false→∀ a,(cells a).length=1
 decN:List C→Option α:=fun _=>none
 okN:∀ l a,decN l=some a→br l (cells a):=by intro l a h; cases h
 nilv:Option α:=none
 nil_ok:∀ a,nilv=some a→agg=false∧∃ n,cells a=[.sl n []]:=by intro a h; cases h
end Go.Am
end
section
namespace Go.Am
variable {P : Program} [Glob P]
open Dat (cells)
def enc {α:Type} [Dat α] (a:α):C:=if Dat.agg α=true then .agg (cells a) else (cells a).headD .any
def fg {α:Type} [Dat α]:List (List C)→Option (List α)
 | []=>some []
 | l :: ls=>(Dat.dec l).bind fun a=>(fg ls).map (a :: ·)
theorem gi {α:Type} [Dat α]:∀ {ls:List (List C)} {aS:List α},fg ls=some aS→ls=aS.map cells
 | [],aS,h=>by simp [fg] at h; subst h; rfl
 | l :: ls,aS,h=>by
  simp only [fg,Option.bind_eq_some_iff,Option.map_eq_some_iff] at h
  obtain ⟨a,h1,bs,h2,rfl⟩:=h
  rw [List.map_cons,← Dat.ok h1,← gi h2]
class DatL (α:Type) extends Dat α where
 dec_cells:∀ a:α,Dat.dec (cells a)=some a
theorem fm {α:Type} [DatL α]:∀ aS:List α,fg (aS.map cells)=some aS
 | []=>rfl
 | a :: aS=>by simp [fg,DatL.dec_cells,fm aS]
instance : DatL Int where
 sz:=1
 agg:=false
 cells n:=[.s (.int .i64 n)]
 dec | [.s (.int .i64 n)]=>some n | _=>none
 ok:=by intro l a h; split at h <;> cases h; rfl
 data:=fun a=>rfl
 one:=fun _ a=>rfl
 dec_cells:=fun a=>rfl
instance : DatL Bool where
 sz:=1
 agg:=false
 cells b:=[.s (.bool b)]
 dec | [.s (.bool b)]=>some b | _=>none
 ok:=by intro l a h; split at h <;> cases h; rfl
 data:=fun a=>rfl
 one:=fun _ a=>rfl
 dec_cells:=fun a=>rfl
instance : DatL ByteArray where
 sz:=1
 agg:=false
 cells b:=[.s (.string b)]
 dec | [.s (.string b)]=>some b | _=>none
 ok:=by intro l a h; split at h <;> cases h; rfl
 data:=fun a=>rfl
 one:=fun _ a=>rfl
 dec_cells:=fun a=>rfl
instance {α : Type} [DatL α]:DatL (List α) where
 sz:=1
 agg:=false
 cells l:=[.sl (Dat.sz α) (l.map cells)]
 dec
  | [.sl n es]=>if n=Dat.sz α then fg es else none
  | _=>none
 ok:=by
  intro l a h
  split at h
  · split at h
    · rename_i hn; rw [hn,gi h]
    · cases h
  · cases h
 nilv:=some []
 nil_ok:=by intro a h; cases h; exact ⟨rfl,_,rfl⟩
 data:=fun a=>rfl
 one:=fun _ a=>rfl
 dec_cells:=fun a=>by simp [fm]
theorem uL {α:Type} [Dat α] (h:Dat.agg α=false) (a:α):cells a=[enc a]:=by
 have h1:=Dat.one h a
 unfold enc
 rw [if_neg (by rw [h]; simp)]
 match hc:cells a,h1 with
 | [c],_=>rfl
def fw {α:Type} [Dat α] (c:C):Option α:=
 match c with
 | .agg cs=>if Dat.agg α=true then (match Dat.dec cs with | some a=>some a | none=>Dat.decN cs) else none
 | .s (.slice none 0 0)=>Dat.nilv
 | c=>if Dat.agg α=true then none else Dat.dec [c]
theorem uE (a:C):bA a a:=by cases a <;> simp [bA,lr]
theorem uD (c:C):bA c c:=uE c
theorem gD {α:Type} [Dat α] {c:C} {a:α} (h:fw c=some a):bA c (enc a):=by
 unfold fw at h
 split at h
 · split at h
   · rename_i hg
     have:enc a=.agg (cells a):=by unfold enc; rw [if_pos hg]
     rw [this]; simp only [bA]
     split at h
     · rename_i hd; cases h; rw [← Dat.ok hd]; exact lr _
     · exact Dat.okN _ _ h
   · cases h
 · obtain ⟨hg,n,hc⟩:=Dat.nil_ok a h
   have:enc a=.sl n []:=by unfold enc; rw [if_neg (by rw [hg]; simp),hc]; rfl
   rw [this]; simp [bA]
 · split at h
   · cases h
   · rename_i hg
     have h2:=Dat.ok h
     rw [uL (by simpa using hg) a] at h2
     have h3:=(List.cons.inj h2).1
     rw [← h3]
     exact uD c
theorem FC.le {f:FuncId} {args args':List C} {chs:Chs} {r:C} {chs':Chs} (h:bK args args') (hf:FC P f args' chs r chs'):FC P f args chs r chs':=
 ⟨hf.1,fun E U vs w hg ha hi=>by
  obtain ⟨h1,h2⟩:=lu (E:=E) (U:=U) (h:=w.heap) h
  exact hf.2 E U vs w hg ⟨by rw [h1]; exact ha.1,h2 _ ha.2⟩ hi⟩
theorem WfR.plain {r:C} (h:dE [] r):WfR [] r [] []:=⟨fun k c h=>by simp at h,fun k cs h=>by simp at h,h,fun k c h=>by simp at h⟩
def Ent.of1 {α:Type} [Dat α] (id:FuncId) (pre:α→Prop) (res:α→C) (hk:∀ a,dE [] (res a)) (h:∀ a,pre a→FC P id [enc a] [] (res a) []):Ent P where
 id:=id
 sp:=fun args chs=>match args,chs with
  | [x],[]=>(fw x).bind fun a=>some (pre a,res a,[],[])
  | _,_=>none
 ok:=by
  intro args chs p r chs' nk hs hp
  split at hs
  · simp only [Option.bind_eq_some_iff,Option.some.injEq,Prod.mk.injEq] at hs
    obtain ⟨a,ha,rfl,rfl,rfl,rfl⟩:=hs
    exact ⟨(h a hp).le (args':=[_]) ⟨gD ha,trivial⟩,.plain (hk a)⟩
  · cases hs
def Ent.of0 (id:FuncId) (res:C) (hk:dE [] res) (h:FC P id [] [] res []):Ent P where
 id:=id
 sp:=fun args chs=>match args,chs with
  | [],[]=>some (True,res,[],[])
  | _,_=>none
 ok:=by
  intro args chs p r chs' nk hs hp
  split at hs
  · simp only [Option.some.injEq,Prod.mk.injEq] at hs
    obtain ⟨rfl,rfl,rfl,rfl⟩:=hs
    exact ⟨h,.plain hk⟩
  · cases hs
def Ent.of2 {α β:Type} [Dat α] [Dat β] (id:FuncId) (pre:α→β→Prop) (res:α→β→C) (hk:∀ a b,dE [] (res a b)) (h:∀ a b,pre a b→FC P id [enc a,enc b] [] (res a b) []):Ent P where
 id:=id
 sp:=fun args chs=>match args,chs with
  | [x,y],[]=>(fw x).bind fun a=>(fw y).bind fun b=>some (pre a b,res a b,[],[])
  | _,_=>none
 ok:=by
  intro args chs p r chs' nk hs hp
  split at hs
  · simp only [Option.bind_eq_some_iff,Option.some.injEq,Prod.mk.injEq] at hs
    obtain ⟨a,ha,b,hb,rfl,rfl,rfl,rfl⟩:=hs
    exact ⟨(h a b hp).le (args':=[_,_]) ⟨gD ha,gD hb,trivial⟩,.plain (hk a b)⟩
  · cases hs
def Ent.of3 {α β γ:Type} [Dat α] [Dat β] [Dat γ] (id:FuncId) (pre:α→β→γ→Prop) (res:α→β→γ→C) (hk:∀ a b c,dE [] (res a b c)) (h:∀ a b c,pre a b c→FC P id [enc a,enc b,enc c] [] (res a b c) []):Ent P where
 id:=id
 sp:=fun args chs=>match args,chs with
  | [x,y,z],[]=>(fw x).bind fun a=>(fw y).bind fun b=>(fw z).bind fun c=>some (pre a b c,res a b c,[],[])
  | _,_=>none
 ok:=by
  intro args chs p r chs' nk hs hp
  split at hs
  · simp only [Option.bind_eq_some_iff,Option.some.injEq,Prod.mk.injEq] at hs
    obtain ⟨a,ha,b,hb,c,hc,rfl,rfl,rfl,rfl⟩:=hs
    exact ⟨(h a b c hp).le (args':=[_,_,_]) ⟨gD ha,gD hb,gD hc,trivial⟩,.plain (hk a b c)⟩
  · cases hs
theorem enc_int (n:Int):enc n=.s (.int .i64 n):=rfl
theorem vO (b:Bool):enc b=.s (.bool b):=rfl
theorem enc_str (b:ByteArray):enc b=.s (.string b):=rfl
theorem gu {α:Type} [DatL α] (l:List α):enc l=.sl (Dat.sz α) (l.map cells):=rfl
theorem tS (n:Int):cells n=[.s (.int .i64 n)]:=rfl
theorem sT (n:Bool):cells n=[.s (.bool n)]:=rfl
theorem tT (n:ByteArray):cells n=[.s (.string n)]:=rfl
theorem sU {α:Type} [DatL α] (l:List α):cells l=[.sl (Dat.sz α) (l.map cells)]:=rfl
theorem sz_int : Dat.sz Int=1:=rfl
theorem sz_bool : Dat.sz Bool=1:=rfl
theorem sz_str : Dat.sz ByteArray=1:=rfl
theorem sz_list {α:Type} [DatL α]:Dat.sz (List α)=1:=rfl
theorem vH (n:Int):fw (.s (.int .i64 n))=some n:=rfl
theorem tX (n:Bool):fw (.s (.bool n))=some n:=rfl
theorem vJ (n:ByteArray):fw (.s (.string n))=some n:=rfl
theorem dec_int (n:Int):Dat.dec [C.s (.int .i64 n)]=some n:=rfl
theorem vK (n:Bool):Dat.dec [C.s (.bool n)]=some n:=rfl
theorem dec_str (n:ByteArray):Dat.dec [C.s (.string n)]=some n:=rfl
theorem vL {α:Type} [DatL α] (n:Nat) (es:List (List C)):Dat.dec (α:=List α) [C.sl n es]=if n=Dat.sz α then fg es else none:=rfl
theorem vI {α:Type} [DatL α]:fw (α:=List α) (.s (.slice none 0 0))=some []:=rfl
theorem decV_sl {α:Type} [DatL α] (n:Nat) (es:List (List C)):fw (α:=List α) (.sl n es)=if n=Dat.sz α then fg es else none:=rfl
theorem vG {α:Type} [Dat α]:fg (α:=α) []=some []:=rfl
theorem tW {α:Type} [Dat α] (l:List C) (ls:List (List C)):fg (α:=α) (l :: ls)=(Dat.dec l).bind fun a=>(fg ls).map (a :: ·):=rfl
theorem vS (xs:List Int) (n:Nat):List.getD (xs.map cells) n [C.s (.int .i64 0)]=[.s (.int .i64 (xs.getD n 0))]:=by
 simp only [List.getD_eq_getElem?_getD,List.getElem?_map]
 cases xs[n]? <;> rfl
theorem uv (xs:List Bool) (n:Nat):List.getD (xs.map cells) n [C.s (.bool false)]=[.s (.bool (xs.getD n false))]:=by
 simp only [List.getD_eq_getElem?_getD,List.getElem?_map]
 cases xs[n]? <;> rfl
theorem vT (xs:List ByteArray) (n:Nat):List.getD (xs.map cells) n [C.s (.string ⟨#[]⟩)]=[.s (.string (xs.getD n ⟨#[]⟩))]:=by
 simp only [List.getD_eq_getElem?_getD,List.getElem?_map]
 cases xs[n]? <;> rfl
end Go.Am
end
section
namespace Go.Am
open Dat (cells)
structure Gs where
 re:Int
 im:Int
 deriving DecidableEq,Inhabited
instance : DatL Gs where
 sz:=2
 agg:=true
 cells g:=[.s (.int .i64 g.re),.s (.int .i64 g.im)]
 dec | [.s (.int .i64 a),.s (.int .i64 b)]=>some ⟨a,b⟩ | _=>none
 ok:=by intro l a h; split at h <;> cases h; rfl
 data:=fun a=>rfl
 one:=fun h=>by cases h
 dec_cells:=fun a=>rfl
theorem enc_gs (g:Gs):enc g=.agg [.s (.int .i64 g.re),.s (.int .i64 g.im)]:=rfl
theorem m9 (g:Gs):cells g=[.s (.int .i64 g.re),.s (.int .i64 g.im)]:=rfl
theorem sz_gs : Dat.sz Gs=2:=rfl
theorem dec_gs (a b:Int):Dat.dec [C.s (.int .i64 a),.s (.int .i64 b)]=some (⟨a,b⟩:Gs):=rfl
theorem decV_gs (a b:Int):fw (.agg [C.s (.int .i64 a),.s (.int .i64 b)])=some (⟨a,b⟩:Gs):=rfl
theorem getD_gs (xs:List Gs) (n:Nat):List.getD (xs.map cells) n [C.s (.int .i64 0),.s (.int .i64 0)]=[.s (.int .i64 (xs.getD n ⟨0,0⟩).re),.s (.int .i64 (xs.getD n ⟨0,0⟩).im)]:=by
 simp only [List.getD_eq_getElem?_getD,List.getElem?_map]
 cases xs[n]? <;> rfl
theorem gs_eta (g:Gs):Gs.mk g.re g.im=g:=rfl
theorem uI {α:Type} (d k:Nat) (c:α) (m:List (Nat×α)):List.lookup k ((d,c) :: m)=if k=d then some c else List.lookup k m:=by
 rw [List.lookup_cons]
 by_cases h:k=d
 · simp [h]
 · have:(k == d)=false:=by simp [h]
   rw [this,if_neg h]
theorem ee {α:Type} {l:List α} {i:Nat} (d:α) (h:i < l.length):l.drop i=l.getD i d :: l.drop (i+1):=by
 rw [List.drop_eq_getElem_cons h,List.getD_eq_getElem?_getD,List.getElem?_eq_getElem h]; rfl
theorem p7 {α:Type} {l:List α} {i:Nat} (d:α) (h:i < l.length):l.take (i+1)=l.take i++[l.getD i d]:=by
 rw [List.take_succ_eq_append_getElem h,List.getD_eq_getElem?_getD,List.getElem?_eq_getElem h]; rfl
theorem jD.list {α:Type} [DatL α] {n:Nat} {l:List α} (h:jD (.sl n (l.map cells))):l.length≤9223372036854775807:=by simpa using h.sl.1
theorem jD.inner {α:Type} [DatL α] {n:Nat} {l:List (List α)} (h:jD (.sl n (l.map cells))) (i:Nat) (hi:i < l.length):(l.getD i []).length≤9223372036854775807:=by
 have:=h.sl.2 (cells l[i]) (List.mem_map.2 ⟨l[i],List.getElem_mem hi,rfl⟩) _ (List.mem_singleton.2 rfl)
 have h2:=this.sl.1
 rw [List.getD_eq_getElem?_getD,List.getElem?_eq_getElem hi]
 simpa using h2
end Go.Am
end
section
namespace Go.Am
open Dat (cells)
variable {P : Program} [Glob P]
structure Moved (U F:Nat→Prop) (w:World) (U' F':Nat→Prop) (w':World):Prop where
 os:w'.os=w.os
 tape:w'.tape=w.tape
 output:w'.output=w.output
 size:w.heap.size≤w'.heap.size
 keep:∀ b,U b→U' b∧w'.heap[b]? = w.heap[b]?
 rest:∀ b,b < w.heap.size→¬ F b→w'.heap[b]? = w.heap[b]?
 live:∀ b,F' b→w.heap.size≤b∨F b
 newU:∀ b,U' b→U b∨w.heap.size≤b∨F b
 out:∀ b,F' b→¬ U' b
 fpl:∀ b,F' b→b < w'.heap.size
 lt:∀ b,U' b→b < w'.heap.size
end Go.Am
end
