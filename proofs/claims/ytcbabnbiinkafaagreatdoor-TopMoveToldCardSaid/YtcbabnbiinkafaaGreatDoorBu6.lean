/- Part 6 of the proof of: the statements about chapter 8 -/
import Derived.RangeFuncRecord
import Derived.Test.YtcbabnbiinkafaaGreatDoorBu5
set_option linter.all false
set_option maxHeartbeats 8000000
set_option maxRecDepth 100000
section
namespace Go.Am
variable {P : Program} [Glob P] {cx : Cx} {Q : ASt → Prop} {k : List It} {st : ASt}
variable {dr : Bool} {o : AO} {os : List AO}
def Ent.mk3 (id:FuncId) (sp:List C->Chs->Option (Prop×C×Chs×List Nat)) (ok:∀ args chs p r chs' nk,sp args chs=some (p,r,chs',nk)->p->FC P id args chs r chs'/\WfR chs r chs' nk):Ent P:={ id:=id,sp:=sp,ok:=ok }
def cH : List (Ent P)->FuncId->List C->Chs->Option (Prop×C)
 |[],_,_,_=>none
 | e :: L,f,args,chs=>if e.id=f then e.kp args chs else cH L f args chs
theorem ri : ∀ {L:List (Ent P)} {f:FuncId} {args:List C} {chs:Chs} {p:Prop} {r:C},cH L f args chs=some (p,r)->p->FC P f args chs r chs/\eZ chs=true/\dG [] r
 |[],_,_,_,_,_,h,_=>by cases h
 | e :: L,f,args,chs,p,r,h,hp=>by
  simp only[cH]at h;split at h
  . rename_i hf;subst hf;exact e.kpok args chs p r h hp
  . exact ri h hp
def cr : List (Ent P)->FuncId->List C->Chs->Option (Prop×C×Chs×List Nat)
 |[],_,_,_=>none
 | e :: L,f,args,chs=>if e.id=f then e.sp args chs else cr L f args chs
theorem rh : ∀ {L:List (Ent P)} {f:FuncId} {args:List C} {chs:Chs} {p:Prop} {r:C} {chs':Chs} {nk:List Nat},cr L f args chs=some (p,r,chs',nk)->p->FC P f args chs r chs'/\WfR chs r chs' nk
 |[],_,_,_,_,_,_,_,h,_=>by cases h
 | e :: L,f,args,chs,p,r,chs',nk,h,hp=>by
  simp only[cr]at h;split at h
  . rename_i hf;subst hf;exact e.ok args chs p r chs' nk h hp
  . exact rh h hp
def bm (l:List Nat) (k:Nat):List Nat:=if av l k=true then l else l++[k]
def aG (l:List Nat):List C->List Nat
 |[]=>l
 |.ptr k _ :: cs=>aG (bm l k) cs
 |.eptr k _ _ :: cs=>aG (bm l k) cs
 |.iptr k _ _ _ :: cs=>aG (bm l k) cs
 |.fn _ xs ys :: cs=>aG (passKs (passKs l xs) ys) cs
 |.agg xs :: cs=>aG (passKs l xs) cs
 |_ :: cs=>aG l cs
where passKs (l:List Nat):List C->List Nat
 |[]=>l
 |.ptr k _ :: cs=>passKs (bm l k) cs
 |.eptr k _ _ :: cs=>passKs (bm l k) cs
 |.iptr k _ _ _ :: cs=>passKs (bm l k) cs
 |_ :: cs=>passKs l cs
def be (l:List Nat):List C->List Nat
 |[]=>l
 |.own k :: cs=>be (bm l k) cs
 |.inn k _ :: cs=>be (bm l k) cs
 |.ptr k _ :: cs=>be (bm l k) cs
 |.eptr k _ _ :: cs=>be (bm l k) cs
 |.iptr k _ _ _ :: cs=>be (bm l k) cs
 |_ :: cs=>be l cs
def bR (ch:Chs) (l:List Nat):List Nat->List Nat
 |[]=>l
 | k :: ks=>match lk ch k with | some (.box cs)=>bR ch (be l cs) ks | _=>bR ch l ks
def aO (ps:List Nat) (l:List Nat):List C->List Nat
 |[]=>l
 |.own k :: cs=>aO ps (if av ps k=true then l else bm l k) cs
 |.inn k _ :: cs=>aO ps (if av ps k=true then l else bm l k) cs
 |.agg xs :: cs=>aO ps (lendKs ps l xs) cs
 |_ :: cs=>aO ps l cs
where lendKs (ps:List Nat) (l:List Nat):List C->List Nat
 |[]=>l
 |.own k :: cs=>lendKs ps (if av ps k=true then l else bm l k) cs
 |.inn k _ :: cs=>lendKs ps (if av ps k=true then l else bm l k) cs
 |_ :: cs=>lendKs ps l cs
def bZ (ch:Chs):List Nat->Option Chs
 |[]=>some []
 | k :: ks=>(lk ch k).bind fun c=>(bZ ch ks).map ((k,c) :: ·)
def dj (i:Nat):List Nat->List (Nat×Nat)
 |[]=>[]
 | k :: ks=>(k,100000+i) :: dj (i+1) ks
def bO : List (Nat×Nat)->List (Nat×Nat)
 |[]=>[]
 | (a,b) :: m=>(b,a) :: bO m
def cm (d:Nat):List Nat->List (Nat×Nat)
 |[]=>[]
 | k :: ks=>(k,d) :: cm (d+1000) ks
def bC : C->Bool
 |.s _=>true
 |.own _=>true
 |.ptr _ _=>true
 |.agg cs=>flatBs cs
 |.tup cs=>flatBs cs
 |_=>false
where flatBs:List C->Bool
 |[]=>true
 | c :: cs=>bC c && flatBs cs
def bS : Chs->Prop
 |[]=>True
 | (_,c) :: r=>bD c/\bS r
def bV (bs:List Nat) (r:C) (chs':Chs):Prop:=
 match bs with
 |[]=>True
 |_=>aP r/\bS chs'
def ap : List Nat->Prop
 |[]=>True
 | k :: ks=>av ks k=false/\ap ks
def cg (m mi:List (Nat×Nat)):List Nat->Prop
 |[]=>True
 | k :: ks=>rn m (rn mi k)=k/\cg m mi ks
def bX : List Nat->List Nat->Prop
 |[],_=>True
 | k :: ks,l=>av l k=true/\bX ks l
def bI : List Nat->List Nat->Prop
 |[],_=>True
 | k :: ks,l=>av l k=false/\bI ks l
def aK (ks:List Nat):C->Bool
 |.own k=>av ks k
 |.ptr k _=>av ks k
 |.eptr k _ _=>av ks k
 |.inn k _=>av ks k
 |.iptr k _ _ _=>av ks k
 |.agg cs=>keysBs ks cs
 |.tup cs=>keysBs ks cs
 |.fn _ xs ys=>keysBs ks xs && keysBs ks ys
 |_=>true
where keysBs (ks:List Nat):List C->Bool
 |[]=>true
 | c :: cs=>aK ks c && keysBs ks cs
def bU (ks:List Nat):List C->Bool
 |[]=>true
 | c :: cs=>aK ks c && bU ks cs
def ba (ks:List Nat):Chs->Bool
 |[]=>true
 | (_,.box cs) :: r=>bU ks cs && ba ks r
 |_ :: r=>ba ks r
def ag : Chs->List Nat
 |[]=>[]
 | (k,_) :: r=>k :: ag r
inductive CR where
 | none
 | eff (e:Eff)
 | fz (ks:List Nat)
def du : List (Ent P)->FuncId->List Nat
 |[],_=>[]
 | e :: L,f=>if e.id=f then e.tk else du L f
def dA (L:List (Ent P)):Option (FuncId×List C×List C)->List Nat
 | Option.some (f,_,_)=>du L f
 | Option.none=>[]
def cW : List Operand->Nat->Option Operand
 |[],_=>Option.none
 | x :: _,0=>Option.some x
 |_ :: l,n+1=>cW l n
def da (s:Nat) (c:C) (alt:Option (Nat×Nat×Nat)):Option (Nat×Nat×Nat):=
 match c with
 |.inn k j=>Option.some (s,k,j)
 |_=>alt
def cY (ρ:Operand->C) (aS:List Operand):List Nat->Option (Nat×Nat×Nat)
 |[]=>Option.none
 | p :: ps=>
  match cW aS p with
  | Option.some (.tmp s)=>da s (ρ (.tmp s)) (cY ρ aS ps)
  |_=>cY ρ aS ps
def ce (L:List (Ent P)) (ρ:Operand->C):AOp->Option (Nat×Nat×Nat)
 |.call fo aS=>cY ρ aS (dA L (bk (ρ fo)))
 |.ssl _ (.tmp s) _ _ _=>da s (ρ (.tmp s)) Option.none
 |_=>Option.none
theorem rB {s:Nat} {c:C} {alt:Option (Nat×Nat×Nat)} {q:Nat×Nat×Nat} (h:da s c alt=Option.some q):(q.1=s/\c=.inn q.2.1 q.2.2)\/alt=Option.some q:=by
 unfold da at h;split at h
 . cases h;exact .inl ⟨rfl,rfl⟩
 . exact .inr h
theorem mQ {ρ:Operand->C} {aS:List Operand} {q:Nat×Nat×Nat}:∀ {ps:List Nat},cY ρ aS ps=Option.some q->ρ (.tmp q.1)=.inn q.2.1 q.2.2
 |[],h=>by cases h
 | p :: ps,h=>by
  simp only[cY]at h;split at h
  . rcases rB h with⟨h1,h2⟩ | h
    . rw[h1];exact h2
    . exact mQ h
  . exact mQ h
theorem mR {L:List (Ent P)} {ρ:Operand->C} {op:AOp} {q:Nat×Nat×Nat} (h:ce L ρ op=Option.some q):ρ (.tmp q.1)=.inn q.2.1 q.2.2:=by
 unfold ce at h;split at h
 . exact mQ h
 . rcases rB h with⟨h1,h2⟩ | h
   . rw[h1];exact h2
   . cases h
 . cases h
def di (ch:Chs) (ks bs:List Nat) (chs:Chs) (va:List C) (mi m2:List (Nat×Nat)) (all:List C) (p:Prop) (chs':Chs) (nk ck:List Nat) (r2:C) (chs2:Chs) (nk2:List Nat):CR:=
 .eff ⟨p/\aY.viewOks ch bs all/\bV bs r2 chs2/\ap ((ck++nk).map (rn m2))/\bX (ag chs') (ck++nk)/\cg m2 mi ks/\(va.all (aK ks)=true/\ba ks chs=true)/\bI ks bs/\bI ks nk2/\nk2.all (fun k=>decide (k < 100000))=true,r2,a7 ch chs chs2 nk2,az nk2 chs⟩
def cp (ch:Chs) (ks bs:List Nat) (chs:Chs) (va:List C) (mi m2:List (Nat×Nat)) (all:List C) (p:Prop) (r:C) (chs':Chs) (nk:List Nat) (nk2:List Nat):CR:=
 di ch ks bs chs va mi m2 all p chs' nk (ag (ar mi chs)) (ak m2 r) (ar m2 chs') nk2
def co (ch:Chs) (d:Nat) (ks bs:List Nat) (chs:Chs) (va:List C) (mi m:List (Nat×Nat)) (all:List C) (o:Option (Prop×C×Chs×List Nat)):CR:=
 match o with
 | Option.some (p,r,chs',nk)=>cp ch ks bs chs va mi (cm d nk++m) all p r chs' nk ((cm d nk).map (·.2))
 | Option.none=>.none
def cO (ch:Chs):CR->CR
 |.eff e=>.eff ⟨e.cond,e.v,ch,[]⟩
 | x=>x
def cS (ch:Chs) (d:Nat) (ks bs:List Nat) (chs:Chs) (va:List C) (mi:List (Nat×Nat)) (all:List C) (o:Option (Prop×C)) (alt:Option (Prop×C×Chs×List Nat)):CR:=
 match o with
 | Option.some (p,r)=>cO ch (cp ch ks bs chs va mi (bO mi) all p r (ar mi chs) [] [])
 | Option.none=>co ch d ks bs chs va mi (bO mi) all alt
def cM (L:List (Ent P)) (ch:Chs) (d:Nat) (f:FuncId) (all:List C) (ks bs:List Nat) (chs:Option Chs) (va:List C) (mi:List (Nat×Nat)):CR:=
 match chs with
 | Option.some chs=>cS ch d ks bs chs va mi all (cH L f (va.map (ak mi)) (ar mi chs)) (cr L f (va.map (ak mi)) (ar mi chs))
 | Option.none=>.none
def dd (L:List (Ent P)) (ch:Chs) (d:Nat) (f:FuncId) (all:List C) (ks bs:List Nat):CR:=
 cM L ch d f all ks bs (bZ ch ks) (all.map (aD ch bs)) (dj 0 ks)
def cL (ch:Chs) (d:Nat) (all:List C) (bs:List Nat) (va:List C) (o:Option (Prop×C×Chs×List Nat)):CR:=
 match o with
 | Option.some (p,r,[],_)=>match bs.isEmpty || bC r with | true=>.eff ⟨p/\aY.viewOks ch bs all/\bV bs r [],r,ch,[]⟩ | false=>.fz bs
 | o=>co ch d [] bs [] va [] [] all o
def dc (L:List (Ent P)) (ch:Chs) (d:Nat) (f:FuncId) (all:List C) (bs:List Nat) (va:List C):CR:=cL ch d all bs va (cr L f va [])
def db (L:List (Ent P)) (ch:Chs) (d:Nat) (f:FuncId) (all:List C) (bs:List Nat):CR:=dc L ch d f all bs (all.map (aD ch bs))
def dh (L:List (Ent P)) (ch:Chs) (d:Nat) (f:FuncId) (all:List C) (ks:List Nat):CR:=dd L ch d f all ks (aO ks [] all)
def dg (L:List (Ent P)) (ch:Chs) (d:Nat) (f:FuncId) (all:List C) (ks:List Nat):CR:=dh L ch d f all (bR ch ks ks)
def cK (L:List (Ent P)) (ch:Chs) (d:Nat) (f:FuncId) (all:List C) (ks:List Nat):CR:=
 match ks with
 |[]=>db L ch d f all (aO [] [] all)
 | k :: ks=>dg L ch d f all (bR ch (k :: ks) (k :: ks))
def cV : List C->Nat->C
 |[],_=>.any
 | c :: _,0=>c
 |_ :: cs,n+1=>cV cs n
def dy (ks:List Nat):C->List Nat
 |.own k=>bm ks k
 |_=>ks
def cP (all:List C) (l:List Nat):List Nat->List Nat
 |[]=>l
 | p :: ps=>cP all (dy l (cV all p)) ps
def de (L:List (Ent P)) (ch:Chs) (d:Nat) (f:FuncId) (all:List C):CR:=cK L ch d f all (aG (cP all [] (du L f)) all)
def bY (L:List (Ent P)) (ch:Chs) (d:Nat) (c:Option (FuncId×List C×List C)) (aS:List C):CR:=
 match c with
 | Option.some (f,first,caps)=>de L ch d f (first++aS++caps)
 | Option.none=>.none
end Go.Am
end
section
namespace Go.Am
variable {P : Program} {E : Env} {U : Nat → Prop} {w : World} {ch : Chs} {d : Nat}
def aT (s k n:Nat) (e:TypeId) (es:List (List C)) (ch':Chs) (st:ASt):ASt:=⟨am (bq [(s,.c .any),(k,.inner)] st.t) s (.own s),bM ch' k s n e es⟩
theorem dW.take [Glob P] {cx:Cx} {st:ASt} {s k j n:Nat} {e:TypeId} {es:List (List C)} {q:Prop} {ch':Chs} (hs:s < 100000) (hn:gt st.t s=.inn k j) (hl:aN st.ch k j=some (q,n,e,es)) (hq:q) (hh:aM st.ch k j=some ch') (hkd:k≠s) :
 dW P cx st (aT s k n e es ch' st):=fun E U a w hh0=>by
 obtain⟨E',_,h2,he⟩:=Ev.take (d:=s) hh0.inv hl hq hh hkd;have h1:=hh0.ghost hs he;have hv:=kx (hn ▸ hh0.tok s);refine⟨_,U,h1.slots fun i=>?_⟩;by_cases hi:s=i
 . subst hi;simp only[fF,qj];have:=Rep.own (E:=E') (U:=U) (h:=w.heap) s;rw[h2]at this;rw[hv];exact this
 . have:=h1.tok i;simp only[fF,qa hi];exact this
end Go.Am
end
section
namespace Go.Am
variable {P : Program} [Glob P] {ch : Chs} {d : Nat}
theorem ez {k:Nat}:∀ {l:List Nat},av l k=true↔k∈l
 |[]=>by simp[av]
 | j :: l=>by
  simp only[av,zl];by_cases h:j=k
  . rw[qb h];exact⟨fun _=>.inl h.symm,fun _=>rfl⟩
  . rw[qa h,ez];exact⟨.inr,fun g=>g.resolve_left (fun e=>h e.symm)⟩
theorem dY : ∀ {ks:List Nat},ap ks->ks.Nodup
 |[],_=>List.nodup_nil
 | k :: ks,h=>zI.2 ⟨(fun hm=>by have:=ez.2 hm;rw[h.1]at this;cases this),dY h.2⟩
theorem iH : ∀ {ks l:List Nat},bX ks l->∀ k∈ks,k∈l
 |[],_,_,k,h=>by simp at h
 | j :: ks,l,h,k,hk=>by
  rcases zl.1 hk with e | e
  . rw[e];exact ez.1 h.1
  . exact iH h.2 k e
theorem iS : ∀ {ks l:List Nat},bI ks l->∀ k∈ks,k∉l
 |[],_,_,k,h=>by simp at h
 | j :: ks,l,h,k,hk=>by
  rcases zl.1 hk with e | e
  . rw[e];intro hm;have:=ez.2 hm;rw[h.1]at this;cases this
  . exact iS h.2 k e
theorem ma {m mi:List (Nat×Nat)}:∀ {ks:List Nat},cg m mi ks->∀ k∈ks,rn m (rn mi k)=k
 |[],_,k,h=>by simp at h
 | j :: ks,h,k,hk=>by
  rcases zl.1 hk with e | e
  . rw[e];exact h.1
  . exact ma h.2 k e
theorem dT : ∀ ch:Chs,ag ch=ch.map (·.1)
 |[]=>rfl
 | (k,_) :: r=>by simp[ag,dT r]
theorem nH {ks:List Nat}:∀ {cs:List C},bU ks cs=true->∀ c∈cs,aK ks c=true
 |[],_,c,h=>by simp at h
 | x :: cs,h,c,hc=>by
  simp only[bU,zm]at h;rcases zl.1 hc with e | e
  . rw[e];exact h.1
  . exact nH h.2 c e
theorem gU {ks:List Nat}:∀ {ch:Chs},ba ks ch=true->∀ k cs,(k,.box cs)∈ch->∀ c∈cs,aK ks c=true
 |[],_,k,cs,h=>by simp at h
 | (j,.box cs0) :: r,h,k,cs,hm=>by
  simp only[ba,zm]at h;rcases zl.1 hm with e | e
  . cases e;exact nH h.1
  . exact gU h.2 k cs e
 | (j,.row _ _ _) :: r,h,k,cs,hm | (j,.deep _ _ _ _ _) :: r,h,k,cs,hm | (j,.res _) :: r,h,k,cs,hm=>by
  rcases zl.1 hm with e | e
  . cases e
  . exact gU (by simpa only[ba]using h) k cs e
theorem pG {m mi:List (Nat×Nat)} {ks:List Nat} (hb:∀ k∈ks,rn m (rn mi k)=k):∀ c:C,aK ks c=true->ak m (ak mi c)=c:=by
 intro c;have h:∀ (n:Nat) (c:C),SizeOf.sizeOf c<=n->aK ks c=true->ak m (ak mi c)=c:=by
  intro n
  induction n with
  | zero=>intro c hc;cases c <;> simp at hc
  | succ n ih=>
   intro c hc hk;have hl:∀ cs:List C,SizeOf.sizeOf cs<=n->aK.keysBs ks cs=true->(cs.map (ak mi)).map (ak m)=cs:=by
    intro cs
    induction cs with
    | nil=>intro _ _;rfl
    | cons x xs ihx=>
     intro hx hkx;simp at hx;simp only[aK.keysBs,zm]at hkx;simp only[zt];rw[ih x (by omega) hkx.1,ihx (by omega) hkx.2]
   cases c with
   | agg cs=>simp only[ak,e8];simp at hc;rw[hl cs (by omega) hk]
   | tup cs=>simp only[ak,e8];simp at hc;rw[hl cs (by omega) hk]
   | fn f xs ys=>
    simp only[aK,zm]at hk;simp only[ak,e8];simp at hc;rw[hl xs (by omega) hk.1,hl ys (by omega) hk.2]
   | own k=>simp only[ak];rw[hb k (ez.1 hk)]
   | ptr k off=>simp only[ak];rw[hb k (ez.1 hk)]
   | eptr k i j=>simp only[ak];rw[hb k (ez.1 hk)]
   | inn k i=>simp only[ak];rw[hb k (ez.1 hk)]
   | iptr k i n j=>simp only[ak];rw[hb k (ez.1 hk)]
   |_=>simp[ak]
 exact h _ c (zw _)
theorem iW {ks ks':List Nat} (hs:∀ k∈ks,k∈ks'):∀ c:C,dG ks c->dG ks' c:=by
 intro c;have h:∀ (n:Nat) (c:C),SizeOf.sizeOf c<=n->dG ks c->dG ks' c:=by
  intro n
  induction n with
  | zero=>intro c hc;cases c <;> simp at hc
  | succ n ih=>
   intro c hc hk;have hl:∀ cs:List C,SizeOf.sizeOf cs<=n->dG.keysIns ks cs->dG.keysIns ks' cs:=by
    intro cs
    induction cs with
    | nil=>intro _ _;trivial
    | cons x xs ihx=>
     intro hx hkx;simp at hx;exact⟨ih x (by omega) hkx.1,ihx (by omega) hkx.2⟩
   cases c with
   | agg cs=>simp at hc;exact hl cs (by omega) hk
   | tup cs=>simp at hc;exact hl cs (by omega) hk
   | fn f xs ys=>simp at hc;exact⟨hl xs (by omega) hk.1,hl ys (by omega) hk.2⟩
   | own k=>exact hs k hk
   | ptr k off=>exact hs k hk
   | eptr k i j=>exact hs k hk
   | inn k i=>exact hs k hk
   | iptr k i n j=>exact hs k hk
   |_=>trivial
 exact h _ c (zw _)
theorem kO {ks:List Nat} {m:List (Nat×Nat)}:∀ c:C,dG ks c->dG (ks.map (rn m)) (ak m c):=by
 intro c;have mem:∀ k,k∈ks->rn m k∈ks.map (rn m):=fun k hk=>zu.2 ⟨k,hk,rfl⟩
 have h:∀ (n:Nat) (c:C),SizeOf.sizeOf c<=n->dG ks c->dG (ks.map (rn m)) (ak m c):=by
  intro n
  induction n with
  | zero=>intro c hc;cases c <;> simp at hc
  | succ n ih=>
   intro c hc hk;have hl:∀ cs:List C,SizeOf.sizeOf cs<=n->dG.keysIns ks cs->dG.keysIns (ks.map (rn m)) (ak.renCs m cs):=by
    intro cs
    induction cs with
    | nil=>intro _ _;trivial
    | cons x xs ihx=>
     intro hx hkx;simp at hx;exact⟨ih x (by omega) hkx.1,ihx (by omega) hkx.2⟩
   cases c with
   | agg cs=>simp at hc;exact hl cs (by omega) hk
   | tup cs=>simp at hc;exact hl cs (by omega) hk
   | fn f xs ys=>simp at hc;exact⟨hl xs (by omega) hk.1,hl ys (by omega) hk.2⟩
   | own k=>exact mem k hk
   | ptr k off=>exact mem k hk
   | eptr k i j=>exact mem k hk
   | inn k i=>exact mem k hk
   | iptr k i n j=>exact mem k hk
   |_=>trivial
 exact h _ c (zw _)
theorem rQ {ks:List Nat} {m:List (Nat×Nat)} {cs:List C} (h:dG.keysIns ks cs):dG.keysIns (ks.map (rn m)) (cs.map (ak m)):=
 gM fun c hc=>by
  obtain⟨c0,h0,rfl⟩:=zu.1 hc;exact kO c0 (eF h c0 h0)
theorem nE : ∀ {ks:List Nat} {chs:Chs},bZ ch ks=some chs->ag chs=ks/\∀ k c,(k,c)∈chs->lk ch k=some c
 |[],chs,h=>by simp[bZ]at h;subst h;exact⟨rfl,fun k c h=>by simp at h⟩
 | k :: ks,chs,h=>by
  simp only[bZ,zk,za]at h;obtain⟨c,h1,r,h2,rfl⟩:=h;obtain⟨g1,g2⟩:=nE h2;refine⟨by simp[ag,g1],fun k' c' hm=>?_⟩;rcases zl.1 hm with e | e
  . cases e;exact h1
  . exact g2 k' c' e
theorem sm {m:List (Nat×Nat)}:∀ {nk:List Nat} {d k:Nat},k∈nk->∃ v,v∈(cm d nk).map (·.2)/\lk (cm d nk++m) k=some v
 |[],d,k,h=>by simp at h
 | j :: nk,d,k,h=>by
  simp only[cm,yq,lk,zt];by_cases hj:j=k
  . rw[qb hj];exact⟨d,zq,rfl⟩
  . rw[qa hj];rcases zl.1 h with e | e
    . exact absurd e.symm hj
    . obtain⟨v,h1,h2⟩:=sm (d:=d+1000) e;exact⟨v,zo _ h1,h2⟩
theorem my {bs:List Nat} {l:List C} (h:aY.viewOks ch bs l):∀ c∈l,aY ch bs c:=kf h
theorem ml : ∀ {chs:Chs},bS chs->∀ k c,(k,c)∈chs->bD c
 |[],_,k,c,h=>by simp at h
 | (j,c0) :: r,h,k,c,hm=>by
  rcases zl.1 hm with e | e
  . cases e;exact h.1
  . exact ml h.2 k c e
theorem mn {bs:List Nat} {r:C} {chs':Chs} (h:bV bs r chs'):bs=[]\/(aP r/\∀ k c,(k,c)∈chs'->bD c):=by
 unfold bV at h;split at h
 . exact .inl rfl
 . exact .inr ⟨h.1,ml h.2⟩
theorem me {ρ:Operand->C} {fo:Operand} {aS:List Operand} {f:FuncId} {first caps:List C} {ks bs:List Nat} {chs:Chs} {mi m2:List (Nat×Nat)} {args':List C} {chs0:Chs} {p:Prop} {r:C} {chs':Chs} {nk nk2:List Nat} {e:Eff}
 (hfo:bk (ρ fo)=some (f,first,caps)) (hks:ag chs=ks) (hlk:∀ k c,(k,c)∈chs->lk ch k=some c) (ha:args'=((first++aS.map ρ++caps).map (aD ch bs)).map (ak mi)) (hc0:chs0=ar mi chs)
 (hF:p->FC P f args' chs0 r chs'/\WfR chs0 r chs' nk) (hn2:∀ k∈nk,rn m2 k∈nk2)
 (h:cp ch ks bs chs ((first++aS.map ρ++caps).map (aD ch bs)) mi m2 (first++aS.map ρ++caps) p r chs' nk nk2=.eff e) (hcond:e.cond) :
 p/\e.v=ak m2 r/\e.ch=a7 ch chs (ar m2 chs') nk2/\e.sub=az nk2 chs/\(chs'=chs0->ar m2 chs'=chs)/\CallR P ρ ch d fo aS (ak m2 r) chs (ar m2 chs') nk2:=by
 simp only[cp,di,CR.eff.injEq]at h;subst h;obtain⟨hp,hvo,hlend,hnd,hsub,hback,⟨hkb,hkc⟩,hab,han,hsmall⟩:=hcond;obtain⟨hFC,hwf⟩:=hF hp;subst ha hc0;have hb:=ma hback;have hinks:∀ k c,(k,c)∈chs->k∈ks:=fun k c h=>by rw[<- hks,dT];exact zu.2 ⟨_,h,rfl⟩
 have hndl:=dY hnd;have hren:=hFC.ren m2 (ag (ar mi chs)++nk) hndl (fun k c h=>zW.2 (.inl (by rw[dT];exact zu.2 ⟨_,h,rfl⟩)))
  (fun k c h=>⟨iH hsub k (by rw[dT];exact zu.2 ⟨_,h,rfl⟩),by
   have:=hwf.kc k c h;cases c with
   | box cs=>exact gM fun c hc=>iW (fun k hk=>iH hsub k (by rw[dT];exact hk)) c (eF this c hc)
   |_=>trivial⟩) (iW (fun k hk=>iH hsub k (by rw[dT];exact hk)) r hwf.kr)
 have e1:((((first++aS.map ρ++caps).map (aD ch bs)).map (ak mi)).map (ak m2))=(first++aS.map ρ++caps).map (aD ch bs):=by
  generalize (first++aS.map ρ++caps).map (aD ch bs)=va at hkb;rw[zT];exact (zH (fun c hc=>pG hb c (zx.1 hkb c hc))).trans (List.map_id _)
 have e2:ar m2 (ar mi chs)=chs:=by
  rw[fl,fl,zT];refine (zH (fun p hp=>?_)).trans (List.map_id _);obtain⟨k,c⟩:=p;have hk:=hinks k c hp;show (rn m2 (rn mi k),aF m2 (aF mi c))=(k,c)
  rw[hb k hk]
  congr 1
  cases c with
  | box cs=>
   simp only[aF,zT]
   congr 1
   exact (zH (fun c hc=>pG hb c (gU hkc k cs hp c hc))).trans (List.map_id _)
  |_=>rfl
 rw[e1,e2]at hren;have hkeys2:∀ (l:Chs),(ar m2 l).map (·.1)=(l.map (·.1)).map (rn m2):=fun l=>by rw[fl,zT,zT];rfl
 have hcan:(ag (ar mi chs)).map (rn m2)=ks:=by
  rw[dT,<- hkeys2,e2,<- dT,hks]
 have hksnd:ks.Nodup:=by
  rw[yg,hcan]at hndl;exact (List.nodup_append.1 hndl).1
 refine⟨hp,rfl,rfl,rfl,fun e3=>by rw[e3,e2],⟨⟨f,first,caps,bs,hfo,hren,my hvo,fun k c h=>⟨hlk k c h,iS hab k (hinks k c h),iS han k (hinks k c h)⟩,mn hlend⟩,
  by rw[<- dT,hks];exact hksnd,fun k cs hm hk=>?_,fun k c hm=>?_,fun k cs hm=>?_,?_,fun k c hm=>?_⟩⟩
 . simpa using zx.1 hsmall k hk
 . obtain⟨k0,c0,h0,rfl,rfl⟩:=eI hm;rcases hwf.new k0 _ h0 with hn | ⟨c1,h1⟩
   . exact .inl (hn2 k0 hn)
   . right;obtain⟨k1,c2,h2,rfl,_⟩:=eI h1;rw[hb k1 (hinks k1 c2 h2)];exact⟨c2,h2⟩
 . obtain⟨cs',g⟩:=hwf.old _ _ (eV (m:=mi) hm);have:=eV (m:=m2) g;rw[hb k (hinks k _ hm)]at this;exact⟨_,this⟩
 . rw[hkeys2];exact kO r hwf.kr
 . obtain⟨k0,c0,h0,rfl,rfl⟩:=eI hm;have:=hwf.kc k0 c0 h0;rw[hkeys2];cases c0 with
   | box cs=>exact rQ this
   |_=>trivial
theorem mc {ρ:Operand->C} {fo:Operand} {aS:List Operand} {f:FuncId} {first caps:List C} {ks bs:List Nat} {chs:Chs} {mi m:List (Nat×Nat)} {args':List C} {chs0:Chs} {L:List (Ent P)} {e:Eff}
 (hfo:bk (ρ fo)=some (f,first,caps)) (hks:ag chs=ks) (hlk:∀ k c,(k,c)∈chs->lk ch k=some c) (ha:args'=((first++aS.map ρ++caps).map (aD ch bs)).map (ak mi)) (hc0:chs0=ar mi chs)
 (h:co ch d ks bs chs ((first++aS.map ρ++caps).map (aD ch bs)) mi m (first++aS.map ρ++caps) (cr L f args' chs0)=.eff e) (hcond:e.cond):OpR P ρ ch d (.call fo aS) ⟨True,e.v,e.ch,e.sub⟩:=by
 cases ho:cr L f args' chs0 with
 | none=>rw[ho]at h;cases h
 | some q=>
  obtain⟨p,r,chs',nk⟩:=q;rw[ho]at h;simp only[co]at h
  obtain⟨_,g1,g2,g3,_,g4⟩:=me (d:=d) hfo hks hlk ha hc0 (rh ho) (fun k hk=>by
   obtain⟨v,h1,h2⟩:=sm (d:=d) (m:=m) hk;simp only[rn,h2,zN]
   exact h1) h hcond
  rw[g1,g2,g3];exact .call g4
theorem sA {ρ:Operand->C} {fo:Operand} {aS:List Operand} {f:FuncId} {first caps:List C} {ks bs:List Nat} {chs:Chs} {mi:List (Nat×Nat)} {L:List (Ent P)} {e:Eff}
 (hfo:bk (ρ fo)=some (f,first,caps)) (hks:ag chs=ks) (hlk:∀ k c,(k,c)∈chs->lk ch k=some c)
 (h:cS ch d ks bs chs ((first++aS.map ρ++caps).map (aD ch bs)) mi (first++aS.map ρ++caps) (cH L f (((first++aS.map ρ++caps).map (aD ch bs)).map (ak mi)) (ar mi chs)) (cr L f (((first++aS.map ρ++caps).map (aD ch bs)).map (ak mi)) (ar mi chs))=.eff e) (hcond:e.cond):OpR P ρ ch d (.call fo aS) ⟨True,e.v,e.ch,e.sub⟩:=by
 cases ho:cH L f (((first++aS.map ρ++caps).map (aD ch bs)).map (ak mi)) (ar mi chs)with
 | none=>
  rw[ho]at h;exact mc (L:=L) hfo hks hlk rfl rfl h hcond
 | some q=>
  obtain⟨p,r⟩:=q;rw[ho]at h;simp only[cS]at h;cases hq:cp ch ks bs chs ((first++aS.map ρ++caps).map (aD ch bs)) mi (bO mi) (first++aS.map ρ++caps) p r (ar mi chs) [] []with
  | none=>rw[hq]at h;cases h
  | fz l=>rw[hq]at h;cases h
  | eff e0=>
   rw[hq]at h;simp only[cO,CR.eff.injEq]at h;subst h;have hF:p->FC P f (((first++aS.map ρ++caps).map (aD ch bs)).map (ak mi)) (ar mi chs) r (ar mi chs)/\WfR (ar mi chs) r (ar mi chs) []:=fun hp=>by
    obtain⟨h1,h2,h3⟩:=ri ho hp;refine⟨h1,fun k c h=>.inr ⟨c,h⟩,fun k cs h=>⟨cs,h⟩,iW (fun k hk=>by simp at hk) r h3,fun k c h=>?_⟩;obtain⟨cs,rfl,hpl⟩:=jM h2 h;exact gM fun c hc=>iW (fun k hk=>by simp at hk) c (j9 (hpl c hc)).1
   obtain⟨hp,g1,_,_,g2,g3⟩:=me (d:=d) hfo hks hlk rfl rfl hF (fun k hk=>by simp at hk) hq hcond;obtain⟨_,h2,h3⟩:=ri ho hp;rw[g2 rfl]at g3;rw[g1];have hr:dG [] (ak (bO mi) r):=by
    have:=kO (m:=bO mi) (ks:=[]) r h3;simpa using this
   refine .callK g3 ?_ hr;have:∀ {l:Chs},eZ (ar mi l)=true->eZ l=true:=by
    intro l
    induction l with
    | nil=>intro _;rfl
    | cons q l ih=>
     intro h;obtain⟨k,c⟩:=q;cases c with
     | box cs=>
      simp only[ar,aF,eZ,zm,zx,zu,forall_exists_index,and_imp,forall_apply_eq_imp_iff₂]at h ⊢;refine⟨fun x hx=>?_,ih h.2⟩;have:=h.1 x hx;cases x with
      | fn f xs ys=>cases xs <;> cases ys <;> simp[ak,ak.renCs,kw]at this ⊢
      |_=>first | exact this | cases this
     |_=>simp[ar,aF,eZ]at h
   exact this h2
theorem sX (c:Ch):aF [] c=c:=by
 have hr:∀ c:C,ak [] c=c:=by
  intro c;have h:∀ (n:Nat) (c:C),SizeOf.sizeOf c<=n->ak [] c=c:=by
   intro n
   induction n with
   | zero=>intro c hc;cases c <;> simp at hc
   | succ n ih=>
    intro c hc;have hl:∀ cs:List C,SizeOf.sizeOf cs<=n->cs.map (ak [])=cs:=by
     intro cs
     induction cs with
     | nil=>intro _;rfl
     | cons x xs ihx=>
      intro hx;simp at hx;simp only[zt];rw[ih x (by omega),ihx (by omega)]
    cases c with
    | agg cs=>simp only[ak,e8];simp at hc;rw[hl cs (by omega)]
    | tup cs=>simp only[ak,e8];simp at hc;rw[hl cs (by omega)]
    | fn f xs ys=>simp only[ak,e8];simp at hc;rw[hl xs (by omega),hl ys (by omega)]
    |_=>simp[ak,rn,lk]
  exact h _ c (zw _)
 cases c with
 | box cs=>simp only[aF];congr 1;exact (zH (fun c _=>hr c)).trans (List.map_id _)
 |_=>rfl
theorem vU (c:C):ak [] c=c:=by
 have:=sX (.box [c]);simpa[aF]using this
theorem jq {ρ:Operand->C} {fo:Operand} {aS:List Operand} {L:List (Ent P)} {e:Eff} (h:bY L ch d (bk (ρ fo)) (aS.map ρ)=.eff e) (hcond:e.cond):OpR P ρ ch d (.call fo aS) ⟨True,e.v,e.ch,e.sub⟩:=by
 unfold bY at h;split at h
 . rename_i f first caps hfo
   unfold de cK at h;split at h
   . unfold db dc cL at h;split at h
     . rename_i p r nk ho;split at h
       . cases h;obtain⟨hp,hvo,hl⟩:=hcond;obtain⟨hFC,hwf⟩:=rh ho hp;exact .call (chs:=[]) (chs':=[]) (nk:=[]) ⟨⟨f,first,caps,_,hfo,hFC,my hvo,fun k c h=>by simp at h,mn hl⟩,by simp,fun k cs h=>by simp at h,fun k c h=>by simp at h,fun k cs h=>by simp at h,hwf.kr,fun k c h=>by simp at h⟩
       . cases h
     . refine mc (L:=L) (args':=(first++aS.map ρ++caps).map (aD ch (aO [] [] (first++aS.map ρ++caps)))) (chs0:=[]) hfo rfl (fun k c h=>by simp at h) ?_ rfl h hcond;exact ((zH (fun c _=>vU c)).trans (List.map_id _)).symm
   . unfold dg dh dd cM at h;split at h
     . rename_i chs hg;obtain⟨g1,g2⟩:=nE hg;exact sA (L:=L) hfo g1 g2 h hcond
     . cases h
 . cases h
end Go.Am
end
section
namespace Go.Am
variable {P : Program} [Glob P] {cx : Cx} {Q : ASt → Prop} {k : List It} {st : ASt} {dr : Bool} {o : AO} {os : List AO}
def bW (t:dJ):List Nat->List Nat
 |[]=>[]
 | i :: l=>match gt t i with | .own k=>k :: bW t l | _=>bW t l
inductive Md where
 | run
 | eff (o:Option Eff)
 | grd (c:C) (want:Bool)
 | cnd (c:C) (x:Operand) (a b:AC)
 | ext (o:ER) (id:Nat)
 | cal (r:CR)
 | tk1 (o:Option (Nat×Nat×Nat))
 | tq (s kk j:Nat) (o:Option (Prop×Nat×TypeId×List (List C))) (h:Option Chs)
 | tr (s kk:Nat) (p:Prop) (s1:ASt) (o:Option Eff)
 | ts (s kk:Nat) (p:Prop) (s1:ASt) (m:Md)
 | nl (c:C) (i sz:Nat) (ty:TypeId) (a:AC)
 | dp (c:C) (i isz:Nat) (ity:TypeId) (a:AC)
 | dq (kk:Nat) (o:Option Ch) (i isz:Nat) (ity:TypeId) (a:AC)
def aE (L:List (Ent P)) (ρ:Operand->C) (ch:Chs) (d:Nat):AOp->Md
 |.call fo aS=>.cal (bY L ch d (bk (ρ fo)) (aS.map ρ))
 |_=>.cal .none
def bG (P:Program) [Glob P] (cx:Cx) (Q:ASt->Prop) (m:Md) (q:Option (Bool×List AO)) (k:List It) (st:ASt):Prop:=
 match q with
 | some (dr,os)=>DG P cx Q dr k os st
 | none=>
  match m with
  |.cnd _ x a b=>SG P cx Q (.c (.cond x a b) :: k) st
  |.ext _ id=>SG P cx Q (.c (.exit id) :: k) st
  |.nl _ i sz ty a=>SG P cx Q (.c (.nilrow i sz ty a) :: k) st
  |.dp _ i isz ity a=>SG P cx Q (.c (.deepen i isz ity a) :: k) st
  |.dq _ _ i isz ity a=>SG P cx Q (.c (.deepen i isz ity a) :: k) st
  |_=>SG P cx Q k st
def okM (P:Program) [Glob P] (L:List (Ent P)) (m:Md) (q:Option (Bool×List AO)) (k:List It) (st:ASt):Prop:=
 match m,q with
 |.cnd c x _ _,none=>c=aq P st.t x
 |.ext o id,none=>o=aJ id k
 |.nl c i _ _ _,none=>c=gt st.t i
 |.dp c i _ _ _,none=>c=gt st.t i
 |.dq kk o i _ _ _,none=>gt st.t i=.own kk/\o=lk st.ch kk
 |.eff o,some (_,⟨dst,none,op,_⟩ :: _)=>o=ai (aq P st.t) st.ch (dst.getD 0) op
 |.tk1 o,some (_,⟨_,none,op,_⟩ :: _)=>o=ce L (aq P st.t) op
 |.tq s kk j o h,some _=>gt st.t s=.inn kk j/\o=aN st.ch kk j/\h=aM st.ch kk j
 |.cal r,some (_,⟨dst,none,op,_⟩ :: _)=>aE L (aq P st.t) st.ch (dst.getD 0) op=.cal r
 |.grd c w,some (_,⟨_,some (g,want),_,_⟩ :: _)=>c=gt st.t g/\w=want
 |_,_=>True
def an (P:Program) [Glob P] (L:List (Ent P)) (u:Bool) (cx:Cx) (Q:ASt->Prop):Nat->Md->Option (Bool×List AO)->List It->ASt->Prop
 |_+1,.run,none,[],st=>Q st
 | n+1,.run,none,.blk _ :: k,st=>an P L u cx Q n .run none k st
 |_+1,.run,none,.post R :: _,st=>R st
 |_+1,.run,none,.rnd N _ :: _,st=>N st
 | n+1,.run,none,.c .skip :: k,st=>an P L u cx Q n .run none k st
 |_+1,.run,none,.c .ret :: k,st=>bw Q k st
 | n+1,.run,none,.c (.seq a b) :: k,st=>an P L u cx Q n .run none (.c a :: .c b :: k) st
 | n+1,.run,none,.c (.region dr os) :: k,st=>an P L u cx Q n .run (some (dr,os)) k st
 | n+1,.run,none,.c (.cond c a b) :: k,st=>an P L u cx Q n (.cnd (aq P st.t c) c a b) none k st
 | n+1,.run,none,.c (.block id a) :: k,st=>an P L u cx Q n .run none (.c a :: .blk id :: k) st
 | n+1,.run,none,.c (.exit id) :: k,st=>an P L u cx Q n (.ext (aJ id k) id) none k st
 | n+1,.run,none,.c (.keep l a) :: k,st=>an P L u cx Q n .run none (.c a :: k) ⟨bv l st.t,st.ch⟩
 | n+1,.run,none,.c (.loop a) :: k,st=>match u with | true=>an P L u cx Q n .run none (.c a :: .lp a :: k) st | false=>SG P cx Q (.c (.loop a) :: k) st
 | n+1,.run,none,.lp a :: k,st=>match u with | true=>an P L u cx Q n .run none (.c a :: .lp a :: k) st | false=>SG P cx Q (.lp a :: k) st
 |_+1,.run,none,.c (.rangeFunc g ps a b) :: k,st=>SG P cx Q (.c (.rangeFunc g ps a b) :: k) st
 |_+1,.run,none,.c (.cut a) :: k,st=>SG P cx Q (.c (.cut a) :: k) st
 |_+1,.run,none,.c (.draw e rb a) :: k,st=>SG P cx Q (.c (.draw e rb a) :: k) st
 | n+1,.run,none,.c (.nilrow i sz ty a) :: k,st=>an P L u cx Q n (.nl (gt st.t i) i sz ty a) none k st
 | n+1,.run,none,.c (.deepen i isz ity a) :: k,st=>an P L u cx Q n (.dp (gt st.t i) i isz ity a) none k st
 | n+1,.run,none,.c (.fz l a) :: k,st=>an P L u cx Q n .run none (.c a :: k) (cd (bW st.t l) st)
 | n+1,.run,some (_,[]),k,st=>an P L u cx Q n .run none k st
 | n+1,.run,some (dr,⟨dst,none,op,tot⟩ :: os),k,st=>an P L u cx Q n (.eff (ai (aq P st.t) st.ch (dst.getD 0) op)) (some (dr,⟨dst,none,op,tot⟩ :: os)) k st
 | n+1,.run,some (dr,⟨dst,some (g,want),op,tot⟩ :: os),k,st=>an P L u cx Q n (.grd (gt st.t g) want) (some (dr,⟨dst,some (g,want),op,tot⟩ :: os)) k st
 | n+1,.eff (some ef),some (dr,⟨dst,none,op,tot⟩ :: os),k,st=>ef.cond/\bK dr ⟨dst,none,op,tot⟩ ef st/\an P L u cx Q n .run (some (dr,os)) k (aw dst ef st)
 | n+1,.eff none,some (dr,⟨dst,none,op,tot⟩ :: os),k,st=>an P L u cx Q n (.tk1 (ce L (aq P st.t) op)) (some (dr,⟨dst,none,op,tot⟩ :: os)) k st
 | n+1,.tk1 none,some (dr,⟨dst,none,op,tot⟩ :: os),k,st=>an P L u cx Q n (aE L (aq P st.t) st.ch (dst.getD 0) op) (some (dr,⟨dst,none,op,tot⟩ :: os)) k st
 | n+1,.tk1 (some (s,kk,j)),some (false,⟨dst,none,op,tot⟩ :: os),k,st=>an P L u cx Q n (.tq s kk j (aN st.ch kk j) (aM st.ch kk j)) (some (false,⟨dst,none,op,tot⟩ :: os)) k st
 | n+1,.tq s kk _ (some (p,m,e,es)) (some ch'),some (false,⟨dst,none,op,tot⟩ :: os),k,st=>s < 100000/\p/\kk≠s/\an P L u cx Q n .run (some (false,⟨dst,none,op,tot⟩ :: os)) k (aT s kk m e es ch' st)
 | n+1,.cal (.eff ef),some (dr,⟨dst,none,op,tot⟩ :: os),k,st=>ef.cond/\bK dr ⟨dst,none,op,tot⟩ ef st/\an P L u cx Q n .run (some (dr,os)) k (aw dst ef st)
 | n+1,.cal (.fz ks),some (false,⟨dst,none,op,tot⟩ :: os),k,st=>an P L u cx Q n .run (some (false,⟨dst,none,op,tot⟩ :: os)) k (cd ks st)
 | n+1,.grd (.s (.bool b)) want,some (dr,⟨dst,some (g,_),op,tot⟩ :: os),k,st=>
  if b=want then an P L u cx Q n .run (some (dr,⟨dst,none,op,tot⟩ :: os)) k ⟨am st.t g (.s (.bool want)),st.ch⟩
  else an P L u cx Q n .run (some (dr,os)) k ⟨aU dst [] (.s undef) (am st.t g (.s (.bool (!want)))),st.ch⟩
 | n+1,.grd (.s (.tuple _)) _,some (dr,⟨dst,some _,_,_⟩ :: os),k,st=>an P L u cx Q n .run (some (dr,os)) k ⟨aU dst [] (.s undef) st.t,st.ch⟩
 | n+1,.cnd (.s (.bool x)) _ a b,none,k,st=>if x=true then an P L u cx Q n .run none (.c a :: k) st else an P L u cx Q n .run none (.c b :: k) st
 | n+1,.ext (.cont k') _,none,_,st=>an P L u cx Q n .run none k' st
 |_+1,.ext (.out p) _,none,_,st=>p st
 | n+1,.nl (.s (.slice none 0 0)) i sz ty a,none,k,st=>i < 100000/\an P L u cx Q n .run none (.c a :: k) (dm i sz ty st)
 | n+1,.dp (.own kk) i isz ity a,none,k,st=>an P L u cx Q n (.dq kk (lk st.ch kk) i isz ity a) none k st
 | n+1,.dq kk (some (.row sz ty es)) _ isz ity a,none,k,st=>sz=1/\(∀ e∈es,e=[.s (.slice none 0 0)])/\an P L u cx Q n .run none (.c a :: k) (cB kk isz ity ty es st)
 |_,m,q,k,st=>bG P cx Q m q k st
theorem StepE.unguard {s:ASt} {ef:Eff} (h:StepE P { o with guard:=none } s ef) (hw:fe s.t o.guard=some true):StepE P o s ef:=by
 cases h with
 | yes _ _ hr=>exact .yes ef hw hr
 | no h=>simp[fe]at h
theorem gN {L:List (Ent P)} {k:List It} {st:ASt} (q:Option (Bool×List AO)) (_:Unit):okM P L .run q k st:=by
 unfold okM;split <;> first | trivial | (rename_i h;cases h)
theorem s8 {dst:Option Nat} {g:Nat} {w0:Bool} {op:AOp} {tot:Bool} (hw:fe st.t (some (g,w0))=some true) (h:DG P cx Q dr k (⟨dst,none,op,tot⟩ :: os) st):DG P cx Q dr k (⟨dst,some (g,w0),op,tot⟩ :: os) st:=by
 cases dr with
 | true=>
  obtain⟨s',⟨ef,g1,g2,g3⟩,g4⟩:=h;exact⟨s',⟨ef,StepE.unguard (o:=⟨dst,some (g,w0),op,tot⟩) g1 hw,g2,g3⟩,g4⟩
 | false=>
  rcases h with⟨h1,_⟩ | ⟨_,h2⟩
  . cases h1
  . exact .inr ⟨hw,h2⟩
theorem kY {L:List (Ent P)} {u:Bool} (n:Nat) (m:Md) (q:Option (Bool×List AO)) (k:List It) (st:ASt) (h:an P L u cx Q n m q k st) (hm:okM P L m q k st):bG P cx Q m q k st:=by
 induction n generalizing m q k st with
 | zero=>unfold an at h;exact h
 | succ n ih=>
  generalize hN:n+1=N at h;unfold an at h;split at h
  all_goals (try cases hN)
  . exact S_nil h
  . exact S_blk (ih _ _ _ _ h trivial)
  . exact S_post h
  . exact fun E U a w hh=>⟨E,U,_,hh,h⟩
  . exact S_skip (ih _ _ _ _ h trivial)
  . exact S_ret h
  . exact S_seq (ih _ _ _ _ h trivial)
  . rename_i dr os;exact uQ (ih _ _ _ _ h (gN _ ()))
  . have h1:=ih _ _ _ _ h rfl;exact h1
  . exact S_block (ih _ _ _ _ h trivial)
  . have h1:=ih _ _ _ _ h rfl;exact h1
  . exact S_keepT (S_keep (ih _ _ _ _ h trivial))
  . split at h
    . exact S_lp0 (ih _ _ _ _ h trivial)
    . exact h
  . split at h
    . exact S_lp (ih _ _ _ _ h trivial)
    . exact h
  . exact h
  . exact h
  . exact h
  . have h1:=ih _ _ _ _ h rfl;exact h1
  . have h1:=ih _ _ _ _ h rfl;exact h1
  . exact S_fz _ (S_fz0 (ih _ _ _ _ h trivial))
  . exact D_nil (ih _ _ _ _ h trivial)
  . have h1:=ih _ _ _ _ h rfl;exact h1
  . have h1:=ih _ _ _ _ h ⟨rfl,rfl⟩;exact h1
  . rename_i ef dr dst op tot os;exact pV (.yes ef rfl (.f hm.symm h.1)) h.2.1 (ih _ _ _ _ h.2.2 (gN _ ()))
  . have h1:=ih _ _ _ _ h rfl;exact h1
  . rename_i dr dst op tot os;have hmd:∃ r,aE L (aq P st.t) st.ch (dst.getD 0) op=.cal r:=by unfold aE;split <;> exact⟨_,rfl⟩
    obtain⟨r,hr⟩:=hmd;rw[hr]at h;have h1:=ih _ _ _ _ h hr;exact h1
  . have h1:=ih _ _ _ _ h ⟨mR (L:=L) (ρ:=aq P st.t) hm.symm,rfl,rfl⟩;exact h1
  . obtain⟨m1,m2,m3⟩:=hm;obtain⟨g1,g2,g3,g4⟩:=h;exact og rfl (dW.take g1 m1 m2.symm g2 m3.symm g3) (ih _ _ _ _ g4 (gN _ ()))
  . rename_i ef dr dst op tot os;have hop:OpR P (aq P st.t) st.ch (dst.getD 0) op ⟨True,ef.v,ef.ch,ef.sub⟩:=by
     simp only[okM]at hm;unfold aE at hm;split at hm
     . cases hm':bY L st.ch (dst.getD 0) (bk (aq P st.t ‹Operand›)) (List.map (aq P st.t) ‹List Operand›)with
       | eff e=>
        rw[hm']at hm;cases hm;exact jq hm' h.1
       |_=>rw[hm']at hm;cases hm
     . cases hm
    exact pV (ef:=⟨True,ef.v,ef.ch,ef.sub⟩) (.yes _ rfl hop) (by have:=h.2.1;unfold bK at this ⊢;exact this) (ih _ _ _ _ h.2.2 (gN _ ()))
  . rename_i ks dst op tot os;exact og rfl (dW.fz ks) (ih _ _ _ _ h (gN _ ()))
  . rename_i b want dr dst g w0 op tot os;obtain⟨hb,hw⟩:=hm;subst hw;have hb:=hb.symm;split at h
    . rename_i hbw;subst hbw;have h1:=ih _ _ _ _ h (gN _ ());have h2:=DG.eqS (r9 hb) h1;exact s8 (by simp[fe,hb]) h2
    . rename_i hbw;have h1:=ih _ _ _ _ h (gN _ ());have hb2:gt st.t g=.s (.bool (!want)):=by rw[hb];cases b <;> cases want <;> simp_all
      have he:EqS ⟨aU dst [] (.s undef) (am st.t g (.s (.bool (!want)))),st.ch⟩ ⟨aU dst [] (.s undef) st.t,st.ch⟩:=⟨fun i=>by
       simp only[fm,(r9 hb2).1 i],rfl⟩
      have h2:=DG.eqS he h1;refine pV (ef:=⟨True,.s undef,st.ch,[]⟩) (.no (by simp only[fe,hb];cases b <;> cases want <;> simp_all)) ?_ h2;unfold bK;split <;> simp
  . rename_i xs want dr dst gw op tot os;obtain⟨g,w0⟩:=gw;obtain⟨hb,hw⟩:=hm;have h1:=ih _ _ _ _ h (gN _ ());refine pV (ef:=⟨True,.s undef,st.ch,[]⟩) (.no (by simp only[fe,<- hb])) ?_ h1;unfold bK;split <;> simp
  . rename_i x c a b;refine S_cond (Eq.symm hm) (fun e=>?_) (fun e=>?_)
    . rw[qb e]at h;exact ih _ _ _ _ h trivial
    . rw[qa (by rw[e];simp)]at h;exact ih _ _ _ _ h trivial
  . exact S_exit (Eq.symm hm) (ih _ _ _ _ h trivial)
  . exact S_out (Eq.symm hm) h
  . exact td (mA h.1 (Eq.symm hm) (ih _ _ _ _ h.2 trivial))
  . have h1:=ih _ _ _ _ h ⟨Eq.symm hm,rfl⟩;exact h1
  . obtain⟨hm1,hm2⟩:=hm;obtain⟨rfl,h1,h2⟩:=h;exact tb (fE (dW.deepen hm2.symm h1) (ih _ _ _ _ h2 trivial))
  . exact h
theorem dC (L:List (Ent P)) (n:Nat) (h:an P L false cx Q n .run none k st):SG P cx Q k st:=kY n .run none k st h trivial
theorem S_runU (L:List (Ent P)) (n:Nat) (h:an P L true cx Q n .run none k st):SG P cx Q k st:=kY n .run none k st h trivial
theorem pW (L:List (Ent P)) (n:Nat) (h:an P L false cx Q n .run (some (dr,os)) k st):DG P cx Q dr k os st:=kY n .run (some (dr,os)) k st h (gN _ ())
end Go.Am
end
section
namespace Go.Am
variable {P : Program} [Glob P] {cx : Cx} {Q : ASt → Prop} {k : List It} {st : ASt}
inductive RV where
 | tmp (t:Nat)
 | cell (a:Nat) (agg:Bool) (sz:Nat)
def nf (P:Program):ResultVar->Option RV
 |.tmp t=>some (.tmp t)
 |.cell a t=>(je P t).bind fun b=>(eq P t).map fun n=>.cell a b n
def dv (s:ASt):RV->Option C
 |.tmp t=>some (gt s.t t)
 |.cell a agg sz=>
  match gt s.t a with
  |.ptr k off=>
   match lk s.ch k with
   | some (.box cs)=>if off+sz<=cs.length/\(agg=false->sz=1)/\((cs.drop off).take sz).all aL=true then some (au agg sz cs off)else none
   |_=>none
  |_=>none
def cn (s:ASt):List RV->Option (List C)
 |[]=>some []
 | r :: rs=>(dv s r).bind fun c=>(cn s rs).map (c :: ·)
def cF : List C->C
 |[c]=>c
 | l=>.tup l
def ca : C->C->Prop
 |_,.any=>True
 |.s (.slice none 0 0),.sl _ []=>True
 | a,b=>a=b
def bt : List C->List C->Prop
 |[],[]=>True
 | a :: l,b :: m=>ca a b/\bt l m
 |_,_=>False
def bB : C->C->Prop
 |_,.any=>True
 |.s (.slice none 0 0),.sl _ []=>True
 |.agg a,.agg b=>bt a b
 | a,b=>a=b
def bL : List C->List C->Prop
 |[],[]=>True
 | a :: l,b :: m=>bB a b/\bL l m
 |_,_=>False
def leC : C->C->Prop
 |_,.any=>True
 |.s (.slice none 0 0),.sl _ []=>True
 |.tup a,.tup b=>bL a b
 |.agg a,.agg b=>bL a b
 | a,b=>a=b
theorem vD {E:Env} {U:Nat->Prop} {h:Array Obj} {c r:C} {v:Value} (hl:ca c r) (hr:Rep E U h c v):Rep E U h r v:=by
 unfold ca at hl;split at hl
 . exact .d (.any v)
 . rw[dK hr];exact .d (.sl0 _ _ _ (by decide))
 . rw[<- hl];exact hr
theorem pw {E:Env} {U:Nat->Prop} {h:Array Obj}:∀ {cs rs:List C},bt cs rs->rs.length=cs.length/\∀ (vf:Nat->Value),(∀ (j:Nat) c,cs[j]? = some c->Rep E U h c (vf j))->∀ (j:Nat) r,rs[j]? = some r->Rep E U h r (vf j)
 |[],[],_=>⟨rfl,fun vf _ j r h=>by simp at h⟩
 |[],_ :: _,h=>by simp[bt]at h
 |_ :: _,[],h=>by simp[bt]at h
 | a :: l,b :: m,h=>by
  simp only[bt]at h;obtain⟨h1,h2⟩:=pw h.2;refine⟨by simp[h1],fun vf hv j r hj=>?_⟩;cases j with
  | zero=>simp at hj;subst hj;exact vD h.1 (hv 0 a rfl)
  | succ j=>exact h2 (fun j=>vf (j+1)) (fun j c hc=>hv (j+1) c (by simpa using hc)) j r (by simpa using hj)
theorem tZ (a:C):ca a a:=by cases a <;> simp[ca]
theorem kP : ∀ l:List C,bt l l
 |[]=>trivial
 | a :: l=>⟨tZ a,kP l⟩
theorem vE {E:Env} {U:Nat->Prop} {h:Array Obj} {c r:C} {v:Value} (hl:bB c r) (hr:Rep E U h c v):Rep E U h r v:=by
 unfold bB at hl;split at hl
 . exact .d (.any v)
 . rw[dK hr];exact .d (.sl0 _ _ _ (by decide))
 . obtain⟨vs,h1,h2,h3,h4⟩:=il hr;subst h1;obtain⟨g1,g2⟩:=pw (E:=E) (U:=U) (h:=h) hl;exact .agg _ vs (by rw[g1];exact h2) (g2 _ h3) h4
 . rw[<- hl];exact hr
theorem kQ {E:Env} {U:Nat->Prop} {h:Array Obj}:∀ {cs rs:List C},bL cs rs->rs.length=cs.length/\∀ (vf:Nat->Value),(∀ (j:Nat) c,cs[j]? = some c->Rep E U h c (vf j))->∀ (j:Nat) r,rs[j]? = some r->Rep E U h r (vf j)
 |[],[],_=>⟨rfl,fun vf _ j r h=>by simp at h⟩
 |[],_ :: _,h=>by simp[bL]at h
 |_ :: _,[],h=>by simp[bL]at h
 | a :: l,b :: m,h=>by
  simp only[bL]at h;obtain⟨h1,h2⟩:=kQ h.2;refine⟨by simp[h1],fun vf hv j r hj=>?_⟩;cases j with
  | zero=>simp at hj;subst hj;exact vE h.1 (hv 0 a rfl)
  | succ j=>exact h2 (fun j=>vf (j+1)) (fun j c hc=>hv (j+1) c (by simpa using hc)) j r (by simpa using hj)
theorem sg {E:Env} {U:Nat->Prop} {h:Array Obj} {c r:C} {v:Value} (hl:leC c r) (hr:Rep E U h c v):Rep E U h r v:=by
 unfold leC at hl;split at hl
 . exact .d (.any v)
 . rw[dK hr];exact .d (.sl0 _ _ _ (by decide))
 . obtain⟨vs,h1,h2,h3⟩:=sr hr;subst h1;obtain⟨g1,g2⟩:=kQ (E:=E) (U:=U) (h:=h) hl;exact .tup _ vs (by rw[g1];exact h2) (g2 _ h3)
 . obtain⟨vs,h1,h2,h3,h4⟩:=il hr;subst h1;obtain⟨g1,g2⟩:=kQ (E:=E) (U:=U) (h:=h) hl;exact .agg _ vs (by rw[g1];exact h2) (g2 _ h3) h4
 . rw[<- hl];exact hr
def aW : Chs->List Nat
 |[]=>[]
 | (k,.row _ _ _) :: r=>k :: aW r
 | (k,.deep _ _ _ Option.none _) :: r=>k :: aW r
 | (_,.deep _ _ _ (Option.some _) _) :: r=>aW r
 | (_,.box _) :: r=>aW r
 | (_,.res _) :: r=>aW r
def bE : List Nat->List Nat->List Nat
 |[],_=>[]
 | j :: l,ks=>if av ks j=true then bE l ks else j :: bE l ks
def br : Chs->Chs->Prop
 |[],_=>True
 | (k,c) :: r,ch=>lk ch k=some c/\br r ch
theorem fT : ∀ {c1 ch:Chs},br c1 ch->∀ p∈c1,lk ch p.1=some p.2
 |[],_,_,p,h=>by simp at h
 | (k,c) :: r,ch,hs,p,h=>by
  rcases zl.1 h with h | h
  . rw[h];exact hs.1
  . exact fT hs.2 p h
def cz (rvs:List RV) (kp:List Nat) (r:C) (chs':Chs) (s:ASt):Prop:=
 (match cn (cd (bE (aW s.ch) kp) s) rvs with | some l=>leC (cF l) r | none=>False)/\br chs' (cd (bE (aW s.ch) kp) s).ch
def argS : Nat->List C->dJ
 |_,[]=>[]
 | i,c :: cs=>(i,c) :: argS (i+1) cs
theorem sc : ∀ (cs:List C) (i j:Nat),gt (argS i cs) j=if i<=j then (cs[j - i]?).getD .any else .any
 |[],i,j=>by simp[argS,gt,lk]
 | c :: cs,i,j=>by
  simp only[argS,gt,lk];by_cases h:i=j
  . subst h;simp
  . rw[qa h];have:=sc cs (i+1) j;simp only[gt]at this;rw[this];by_cases h2:i+1<=j
    . rw[qb h2,qb (by omega)];have:j - i=(j - (i+1))+1:=by omega
      rw[this,yp]
    . rw[qa h2,qa (by omega)]
def ky (tmps:Array Value):ResultVar->Sem Value
 |.tmp t=>pure (tmps.getD t undef)
 |.cell x t=>do loadVar t (<- asAddr (tmps.getD x undef))
theorem sY (fn:Func) (tmps:Array Value):results fn tmps=(do let vs <- fn.results.mapM (ky tmps);pure (if h:vs.size=1 then vs[0]else .tuple vs)):=rfl
theorem mu {E:Env} {U:Nat->Prop} {a:Act} {w:World} {s:ASt} (hh:Holds P cx E U a w s):∀ {l:List ResultVar} {rvs:List RV} {cs:List C},l.mapM (nf P)=some rvs->cn s rvs=some cs ->
 ∃ vs:List Value,(l.mapM (ky a.tmps)).run P w=.ok vs w/\vs.length=cs.length/\∀ (j:Nat) c v,cs[j]? = some c->vs[j]? = some v->Rep E U w.heap c v
 |[],rvs,cs,h,hr=>by
  simp at h;subst h;simp[cn]at hr;subst hr;exact⟨[],by simp,rfl,fun j c v h=>by simp at h⟩
 | r :: l,rvs,cs,h,hr=>by
  simp only[List.mapM_cons,Option.pure_def,Option.bind_eq_bind,zk,zn]at h;obtain⟨rv,h1,rvs',h2,rfl⟩:=h;simp only[cn,zk,za]at hr;obtain⟨c,h3,cs',h4,rfl⟩:=hr;obtain⟨vs,g1,g2,g3⟩:=mu hh h2 h4;have head:∃ v,((ky a.tmps) r).run P w=.ok v w/\Rep E U w.heap c v:=by
   cases r with
   | tmp t=>
    simp only[nf,zn]at h1;subst h1;simp only[dv,zn]at h3;subst h3;exact⟨_,by simp[ky],hh.tok t⟩
   | cell x t=>
    simp only[nf,zk,za]at h1;obtain⟨b,hb,n,hn,rfl⟩:=h1;simp only[dv]at h3;split at h3
    . rename_i kk off hx;split at h3
      . rename_i bcs hl;split at h3
        . rename_i hcond;cases h3;have hv:=ft (hx ▸ hh.tok x);have hcells:au b n bcs off=au b n ((bcs.drop off).take n) 0:=by
           cases b with
           | true=>simp[au,List.take_take]
           | false=>
            have hn1:=hcond.2.1 rfl;subst hn1;have hlt:off < bcs.length:=by omega
            simp only[au,zr,qi];rw[z9 hlt];rfl
          obtain⟨v,e1,e2⟩:=iF hb hn (rY (hh.inv.ok kk _ (dH hl)) off n (fun j c hj=>jy hcond.2.2 hj)) 0 (by simp;omega) hcond.2.1;rw[<- hcells]at e2;refine⟨v,?_,e2⟩;simp only[Instr.loadAt,Instr.sureAddr,Sem.run_bind,Sem.run_pure,Result.andThen_ok,zL]at e1;simp only[ky,hv,asAddr,Sem.run_bind,Sem.run_pure,Result.andThen_ok,e1]
        . cases h3
      . cases h3
    . cases h3
  obtain⟨v,e1,e2⟩:=head;refine⟨v :: vs,?_,by simp[g2],fun j c' v' hc hv=>?_⟩
  . simp only[List.mapM_cons,Sem.run_bind,Sem.run_pure];rw[e1];simp only[Result.andThen_ok];rw[g1];rfl
  . cases j with
    | zero=>simp at hc hv;subst hc hv;exact e2
    | succ j=>simp at hc hv;exact g3 j c' v' hc hv
theorem Holds.shut {E:Env} {U:Nat->Prop} {a:Act} {w:World} {s:ASt} {D:Nat} {Ds:List Nat} (hh:Holds P cx E U a w s) (hd:a.defers=(D :: Ds).map gz) (hc:cx.hid=[]) :
 Holds P cx E U { a with defers:=Ds.map gz } (w.putObj D (.deferred none)) s:=by
 obtain⟨Ds',h1,h2,h3⟩:=hh.df;have he:Ds'=D :: Ds:=by
  have:Ds'.map gz=(D :: Ds).map gz:=by rw[<- h1,hd]
  exact (List.map_inj_right (fun x y e=>by simpa[gz]using e)).1 this
 subst he;obtain⟨⟨g1,g2,g3,g4⟩⟩:Nonempty (_/\_/\_/\_):=⟨(h3 D zq).1,(h3 D zq).2.1,(h3 D zq).2.2.1,(h3 D zq).2.2.2⟩;have hne:∀ b,b≠D->(w.putObj D (.deferred none)).heap[b]? = w.heap[b]?:=fun b hb=>by
  simp[World.putObj,yl,Ne.symm hb]
 have hsz:(w.putObj D (.deferred none)).heap.size=w.heap.size:=by simp[World.putObj]
 have hU:∀ b,U b->U b/\(w.putObj D (.deferred none)).heap[b]? = w.heap[b]?:=fun b hb=>⟨hb,hne b (fun e=>g3 (e ▸ hb))⟩
 have hF:∀ k c,(k,c)∈s.ch->∀ b,(E k).fp b->(w.putObj D (.deferred none)).heap[b]? = w.heap[b]?:=fun k c hm b hb=>hne b (fun e=>g4 k c hm (e ▸ hb))
 refine⟨hh.sz,⟨Ds,rfl,(zI.1 h2).2,fun D' hD'=>?_⟩,fun i=>(hh.tok i).same hU,⟨hh.inv.nd,fun k c hm=>(hh.inv.ok k c hm).same hU (hF k c hm),hh.inv.sep,hh.inv.out,fun k c hm b hb=>by rw[hsz];exact hh.inv.fpl k c hm b hb,fun b hb=>by rw[hsz];exact hh.inv.lt b hb⟩,
  hh.os,hh.tape,hh.output,by rw[hsz];exact hh.size,fun b hb hx=>(hne b (by omega)).trans (hh.fr b hb hx),fun b hb=>⟨(hh.keepA b hb).1,(hU b (hh.keepA b hb).1).2.trans (hh.keepA b hb).2⟩,hh.live,hh.base,hh.fix,fun p hp=>by rw[hc]at hp;simp at hp,hh.gok.mono hU⟩
 obtain⟨q1,q2,q3,q4⟩:=h3 D' (zo _ hD');refine⟨q1,?_,q3,q4⟩;rw[hne D' (fun e=>(zI.1 h2).1 (e ▸ hD'))];exact q2
theorem mq {E:Env} {U:Nat->Prop} {s:ASt} {fn:Func} {R:Ending->World->Prop} (hc:cx.hid=[]):∀ (Ds:List Nat) (a:Act) (w:World),a.defers=Ds.map gz->Holds P cx E U a w s ->
 (∀ w',Holds P cx E U { a with defers:=[] } w' s->∃ v,(results fn a.tmps).run P w'=.ok v w'/\R (.returned v) w')->LeavesInM (FW none) 0 P fn a.tmps R a.defers .returning w
 |[],a,w,hd,hh,hf=>by
  rw[hd];obtain⟨t,d⟩:=a;simp only at hd;subst hd;exact hf w hh
 | D :: Ds,a,w,hd,hh,hf=>by
  have h1:=hh.shut hd hc;have h2:=mq (fn:=fn) (R:=R) hc Ds { a with defers:=Ds.map gz } _ rfl h1 hf;rw[hd];simp only[zt,LeavesInM];refine⟨by simp,.inl ⟨D,_,rfl,run_takeDeferred ?_,h2⟩⟩;obtain⟨Ds',e1,_,e3⟩:=hh.df;have he:Ds'=D :: Ds:=by
   have:Ds'.map gz=(D :: Ds).map gz:=by rw[<- e1,hd]
   exact (List.map_inj_right (fun x y e=>by simpa[gz]using e)).1 this
  subst he;exact (e3 D zq).2.1
structure FnIs (P:Program) (f:FuncId) (n:Nat) (ac:AC) (rvs:List RV):Prop where
 ex:∃ fn code,P.funcs[f]? = some fn/\(fn.name == "runtime.NumGoroutine")=false/\fn.body=some code/\fn.ntmps=n/\d8 P n ac code=some ac/\fn.results.toList.mapM (nf P)=some rvs
 hn:n<=100000
def FCo (P:Program) [Glob P] (f:FuncId) (args:List C) (chs:Chs) (outs:List (C×Chs)):Prop:=
 FnOk P f/\∀ (E:Env) (U:Nat->Prop) (vs:Array Value) (w:World),eT P U w.heap->jo E U w.heap args vs->Inv E U w.heap chs ->
  Calls P f vs w fun e w'=>∃ o∈outs,∃ v E' U',e=.returned v/\Rep E' U' w'.heap o.1 v/\CEv E U w chs E' U' w' o.2
def cR (rvs:List RV) (kp:List Nat) (outs:List (C×Chs)) (s:ASt):Prop:=∃ o∈outs,cz rvs kp o.1 o.2 s
theorem pm {f:FuncId} {n:Nat} {ac:AC} {rvs:List RV} {args:List C} {chs:Chs} {outs:List (C×Chs)} (kp:List Nat) (hf:FnIs P f n ac rvs) (hargs:args.length<=n) (hnd:∀ o∈outs,(o.2.map (·.1)).Nodup)
 (hkinds:∀ o∈outs,∀ k cs,(k,.box cs)∈o.2->(∃ c,(k,c)∈chs)->(∃ cs0,(k,.box cs0)∈chs)/\100000<=k/\k < 200000)
 (h:∀ cx:Cx,cx.n=n->cx.ro=none->cx.hi=200000->SG P cx (cR rvs kp outs) [.c ac] ⟨argS 0 args,chs⟩):FCo P f args chs outs:=by
 obtain⟨⟨fn,code,h1,h2,h3,h4,h5,h6⟩,hn⟩:=hf;refine⟨⟨fn,h1,h2,by rw[h3];rfl⟩,fun E U vs w hg ha hi=>?_⟩
 let cx:Cx:={ n:=n,A0:=U,w0:=w,X:=fun b=>∃ k c,(k,c)∈chs/\(E k).fp b,E0:=E,hn:=hn,ro:=none,hid:=[],lo:=100000,hi:=200000,hlo:=zw _ }
 have hsz:vs.size=args.length:=ha.1;have hh:Holds P cx E U { tmps:=vs++Array.replicate (fn.ntmps - vs.size) undef,defers:=[] } w ⟨argS 0 args,chs⟩:=by
  refine⟨by simp[cx,h4];omega,⟨[],rfl,.nil,fun D hD=>by simp at hD⟩,fun i=>?_,hi,rfl,rfl,rfl,zw _,fun _ _ _=>rfl,fun b hb=>⟨hb,rfl⟩,fun k c hm b hb=>.inr ⟨k,c,hm,hb⟩,fun b hb=>.inl hb,fun k cs _ _=>rfl,fun p hp=>by simp[cx]at hp,hg⟩;simp only[sc,yF,qj,Nat.sub_zero];cases hc:args[i]? with
  | none=>exact .d (.any _)
  | some c=>
   have hlt:i < vs.size:=by rw[hsz];exact (zi.1 hc).1
   have e:(vs++Array.replicate (fn.ntmps - vs.size) undef).getD i undef=vs.getD i undef:=by
    simp only[zc,yx];rw[qb hlt]
   rw[e];exact ha.2 i c hc
 refine uU (ro:=none) (n:=0) (callsIn_of_wp_marks h1 h3 trivial (wpIn_mono (h cx rfl rfl rfl E U _ w hh code h5) (fun e a w' he=>?_)) rfl);have fin:RnH P cx (cR rvs kp outs) a w'->LeavesInM (FW none) 0 P fn a.tmps (fun e w'=>∃ o∈outs,∃ v E' U',e=.returned v/\Rep E' U' w'.heap o.1 v/\CEv E U w chs E' U' w' o.2) a.defers .returning w':=by
  rintro⟨E',U0,s,hs,⟨r,chs'⟩,ho,hr1,hr2⟩
  obtain⟨U',hs'⟩:=hs.fz (bE (aW s.ch) kp);generalize cd (bE (aW s.ch) kp) s=s' at hs' hr1 hr2;obtain⟨cs,hcs,hr1⟩:∃ cs,cn s' rvs=some cs/\leC (cF cs) r:=by
   split at hr1
   . exact⟨_,by assumption,hr1⟩
   . exact hr1.elim
  obtain⟨Ds,hds,_⟩:=hs'.df;refine mq rfl Ds a w' hds hs' (fun w'' hs''=>?_);obtain⟨l,g1,g2,g3⟩:=mu hs'' h6 hcs;refine⟨(if hsz:l.toArray.size=1 then l.toArray[0]else .tuple l.toArray),?_,(r,chs'),ho,_,E',U',rfl,sg hr1 ?_,?_⟩
  . have hm:(fn.results.mapM (ky a.tmps)).run P w''=.ok l.toArray w'':=by
     rw[Array.mapM_eq_mapM_toList];simp only[Sem.run_map];rw[g1];rfl
    rw[sY];simp only[Sem.run_bind];rw[hm];rfl
  . match l,cs,g2,g3 with
    |[],[],_,_=>exact .tup [] #[] rfl (fun j c h=>by simp at h)
    |[v],[c],_,g3=>simpa[cF]using g3 0 c v rfl rfl
    | v1 :: v2 :: vs',[],g2,_=>simp at g2
    | v1 :: v2 :: vs',[c],g2,_=>simp at g2
    | v1 :: v2 :: vs',c1 :: c2 :: cs',g2,g3=>
     have e1:¬ ((v1 :: v2 :: vs').toArray.size=1):=by simp
     rw[dif_neg e1];simp only[cF];refine .tup _ _ (by simpa using g2) (fun j c hj=>?_);have hlt:j < (v1 :: v2 :: vs').length:=by rw[g2];exact (zi.1 hj).1
     have:=g3 j c _ hj (ze hlt);rw[ew (v:=(v1 :: v2 :: vs')[j]) (by simp)];exact this
  . have hmem:∀ k c,(k,c)∈chs'->lk s'.ch k=some c:=fun k c hm=>fT hr2 (k,c) hm
    refine⟨hs''.os,hs''.tape,hs''.output,hs''.size,fun b hb=>hs''.keepA b hb,fun b hb1 hb2=>hs''.fr b hb1 (fun⟨k,c,g1,g2⟩=>hb2 k c g1 g2),fun k c hm b hb=>hs''.live k c (dH (hmem k c hm)) b hb,fun b hb=>hs''.base b hb,fun k cs hm hex=>?_,hs''.inv.sub (fun k c hm=>dH (hmem k c hm)) (hnd _ ho)⟩;obtain⟨c,hc⟩:=hex;obtain⟨g1,g2⟩:=hkinds _ ho k cs hm ⟨c,hc⟩;exact⟨g1,hs''.fix k cs g2 (dH (hmem k _ hm))⟩
 cases e with
 | normal=>exact fin he
 | ret=>exact fin he
 |_=>exact he.elim
theorem qU {f:FuncId} {n:Nat} {ac:AC} {rvs:List RV} {args:List C} {chs:Chs} {r:C} {chs':Chs} (kp:List Nat) (hf:FnIs P f n ac rvs) (hargs:args.length<=n) (hkeys:∀ p∈chs,100000<=p.1/\p.1 < 200000) (hnd:(chs'.map (·.1)).Nodup)
 (hkinds:∀ k cs,(k,.box cs)∈chs'->(∃ c,(k,c)∈chs)->∃ cs0,(k,.box cs0)∈chs)
 (h:∀ cx:Cx,cx.n=n->cx.ro=none->cx.hi=200000->SG P cx (cz rvs kp r chs') [.c ac] ⟨argS 0 args,chs⟩):FC P f args chs r chs':=by
 have hq:∀ o∈[(r,chs')],o=(r,chs'):=fun o ho=>by simpa using ho
 have hf2:=pm (outs:=[(r,chs')]) kp hf hargs (fun o ho=>by rw[hq o ho];exact hnd) (fun o ho=>by rw[hq o ho];exact fun k cs hm ⟨c,hc⟩=>⟨hkinds k cs hm ⟨c,hc⟩,hkeys _ hc⟩) (fun cx h1 h2 h3=>by
  refine fun E U a w hh code hc=>wpIn_mono (h cx h1 h2 h3 E U a w hh code hc) (fun e a w he=>?_)
  cases e with
  | normal=>obtain⟨E',U',s,g1,g2⟩:=he;exact⟨E',U',s,g1,_,zq,g2⟩
  | ret=>obtain⟨E',U',s,g1,g2⟩:=he;exact⟨E',U',s,g1,_,zq,g2⟩
  |_=>exact he.elim)
 refine⟨hf2.1,fun E U vs w hg ha hi=>(hf2.2 E U vs w hg ha hi).mono fun e w' h=>?_⟩;obtain⟨o,ho,h⟩:=h;rw[hq o ho]at h;exact h
def jp (c:C):Prop:=∃ U h v,RepD U h c v
theorem jp.sl {sz:Nat} {es:List (List C)} (h:jp (.sl sz es)):es.length<=9223372036854775807/\∀ e∈es,∀ c∈e,jp c:=by
 obtain⟨U,hp,v,hr⟩:=h;cases hr with
 | sl0 sz a cap hc=>exact⟨by simp,fun e he=>by simp at he⟩
 | sl es b off cap sz arr ty fz vf hU hb hcap hmax hsz hv hr=>
  refine⟨?_,fun e he c hc=>?_⟩
  . have:cap<=9223372036854775807:=hmax;omega
  . obtain⟨i,hi⟩:=List.mem_iff_getElem?.1 he;obtain⟨j,hj⟩:=List.mem_iff_getElem?.1 hc;exact⟨_,_,_,hr i e j c hi hj⟩
def aX : List C->Prop
 |[]=>True
 |.sl sz es :: r=>jp (.sl sz es)/\aX r
 |.agg cs :: r=>LensOks cs/\aX r
 |_ :: r=>aX r
where LensOks:List C->Prop
 |[]=>True
 |.sl sz es :: r=>jp (.sl sz es)/\LensOks r
 |_ :: r=>LensOks r
theorem mS {E:Env} {U:Nat->Prop} {h:Array Obj}:∀ {cs:List C},(∀ c∈cs,∃ v,Rep E U h c v)->aX.LensOks cs
 |[],_=>trivial
 | c :: r,hc=>by
  have hr:=mS (cs:=r) fun c hm=>hc c (zo _ hm)
  cases c <;> simp only[aX.LensOks] <;> try exact hr
  obtain⟨v,hv⟩:=hc _ zq;exact⟨⟨_,_,v,ji hv⟩,hr⟩
theorem oU {E:Env} {U:Nat->Prop} {h:Array Obj}:∀ {cs:List C},(∀ c∈cs,∃ v,Rep E U h c v)->aX cs
 |[],_=>trivial
 | c :: r,hc=>by
  have hr:=oU (cs:=r) fun c hm=>hc c (zo _ hm)
  cases c <;> simp only[aX] <;> try exact hr
  . obtain⟨v,hv⟩:=hc _ zq;exact⟨⟨_,_,v,ji hv⟩,hr⟩
  . obtain⟨v,hv⟩:=hc _ zq;obtain⟨vs,_,h2,h3,_⟩:=il hv;refine⟨mS (E:=E) (U:=U) (h:=h) fun c hm=>?_,hr⟩;obtain⟨j,hj⟩:=List.mem_iff_getElem?.1 hm;exact⟨_,h3 j c hj⟩
def bh : Chs->Prop
 |[]=>True
 | (_,.row _ _ es) :: r=>es.length<=9223372036854775807/\bh r
 | (_,.deep _ _ _ _ rows) :: r=>rows.length<=9223372036854775807/\bh r
 | (_,.box _) :: r=>bh r
 | (_,.res _) :: r=>bh r
theorem oz {E:Env} {U:Nat->Prop} {h:Array Obj}:∀ {ch:Chs},(∀ k c,(k,c)∈ch->dM E U h k c)->bh ch
 |[],_=>trivial
 | (k,c) :: r,hc=>by
  have hr:=oz (ch:=r) fun k c hm=>hc k c (zo _ hm)
  have h0:=hc k c zq;cases c with
  | box cs=>exact hr
  | res R=>exact hr
  | row sz ty es=>
   refine⟨?_,hr⟩;rcases h0.1.2.2.2 with⟨_,rfl⟩ | ⟨_,h5,h6,_⟩
   . simp
   . have:(E k).cap<=9223372036854775807:=h6;omega
  | deep isz ity ty hole rows=>
   refine⟨?_,hr⟩;rcases h0.1.2.2 with⟨_,rfl⟩ | ⟨_,h5,h6,_⟩
   . simp
   . have:(E k).cap<=9223372036854775807:=h6;omega
theorem FC.lens {f:FuncId} {args:List C} {chs:Chs} {r:C} {chs':Chs} (hf:FnOk P f) (h:aX args->bh chs->FC P f args chs r chs'):FC P f args chs r chs':=
 ⟨hf,fun E U vs w hg ha hi=>(h (oU (E:=E) (U:=U) (h:=w.heap) fun c hm=>by
  obtain⟨j,hj⟩:=List.mem_iff_getElem?.1 hm
  exact⟨_,ha.2 j c hj⟩) (oz hi.ok)).2 E U vs w hg ha hi⟩
theorem Holds.leC {E:Env} {U:Nat->Prop} {a:Act} {w:World} {s s':ASt} (hh:Holds P cx E U a w s) (h1:∀ i,gt s'.t i=.any\/leC (gt s.t i) (gt s'.t i)) (h2:(s'.ch.map (·.1)).Nodup/\∀ p∈s'.ch,lk s.ch p.1=some p.2):Holds P cx E U a w s':=by
 have hs:∀ k c,(k,c)∈s'.ch->(k,c)∈s.ch:=fun k c hm=>dH (h2.2 (k,c) hm)
 refine⟨hh.sz,?_,fun i=>?_,hh.inv.sub hs h2.1,hh.os,hh.tape,hh.output,hh.size,hh.fr,hh.keepA,fun k c hm=>hh.live k c (hs k c hm),hh.base,fun k cs hk hm=>hh.fix k cs hk (hs k _ hm),fun p hp=>(hh.hid p hp).less hs,hh.gok⟩
 . obtain⟨Ds,h1,h2,h3⟩:=hh.df;exact⟨Ds,h1,h2,fun D hD=>⟨(h3 D hD).1,(h3 D hD).2.less hs⟩⟩
 . rcases h1 i with e | e
   . rw[e];exact .d (.any _)
   . exact sg e (hh.tok i)
def cU (t:dJ):dJ->Prop
 |[]=>True
 | (i,c) :: r=>leC (gt t i) c/\cU t r
def cG (s s':ASt):Prop:=cU s.t s'.t/\ap (ag s'.ch)/\br s'.ch s.ch
theorem lJ {t:dJ}:∀ {t':dJ} (i:Nat),cU t t'->gt t' i=.any\/leC (gt t i) (gt t' i)
 |[],i,_=>.inl rfl
 | (j,c) :: r,i,h=>by
  simp only[gt,lk];by_cases hj:j=i
  . subst hj;rw[qb rfl];exact .inr h.1
  . rw[qa hj];exact lJ (t':=r) i h.2
theorem S_leS {s':ASt} (h:cG st s') (h2:SG P cx Q k s'):SG P cx Q k st:=fun E U a w hh=>
 h2 E U a w (hh.leC (fun i=>lJ i h.1) ⟨by rw[<- dT];exact dY h.2.1,fT h.2.2⟩)
def dl {α:Type} (sh:α->ASt) (inv:α->Prop) (μ:α->Nat) (v:α) (s:ASt):Prop:=∃ v',inv v'/\μ v' < μ v/\cG s (sh v')
def dx (n:Nat) (sh:Nat->ASt) (inv:Nat->Prop) (i:Nat) (s:ASt):Prop:=i < n/\inv (i+1)/\cG s (sh (i+1))
theorem rX {x:AC} {α:Type} (sh:α->ASt) (inv:α->Prop) (μ:α->Nat) (v0:α) (h0:inv v0) (hs:cG st (sh v0))
 (hr:∀ v,inv v->SG P cx Q (.c x :: .post (dl sh inv μ v) :: k) (sh v)):SG P cx Q (.c (.loop x) :: k) st:=by
 refine S_leS hs ?_;refine eW fun code hc E U a w hh=>?_
 cases code <;> simp[d8]at hc;rename_i c;intro b kk cs hro hF hroom;have key:∀ n v,μ v<=n->inv v->∀ E U a w,Holds P cx E U a w (sh v) ->
  ∃ e a' w',WE P cx Q k e a' w'/\ArrivesIn (Machine.fenced P (FW cx.ro)) P (lone (b.atR a (.code c :: .inLoop c :: kk)) cs w) b kk cs e a' w':=by
  intro n
  induction n using Nat.strongRecOn with
  |_ n ih=>
   intro v hn hv E U a w hh;have hbody:=hr v hv E U a w hh c hc;obtain⟨e,a₁,w₁,hq,harr⟩:=hbody b (.inLoop c :: kk) cs hro hF hroom;cases e with
   | normal=>
    obtain⟨E',U',s,g1,v',g2,g3,g4⟩:=hq;have g5:=g1.leC (fun i=>lJ i g4.1) ⟨by rw[<- dT];exact dY g4.2.1,fT g4.2.2⟩;obtain⟨e₂,a₂,w₂,hq₂,harr₂⟩:=ih (μ v') (by omega) v' (zw _) g2 E' U' a₁ w₁ g5;exact⟨e₂,a₂,w₂,hq₂,.of_steps (StepsIn.trans harr (.one (fenced_calm hF hroom rfl) stepR_inLoop)) harr₂⟩
   | exit id=>exact⟨_,a₁,w₁,hq,.pass (x:=.inLoop c) rfl (fun _ _=>.inl (by simp)) harr⟩
   | goto l=>exact⟨_,a₁,w₁,hq,.pass (x:=.inLoop c) rfl (fun _ _=>.inl (by simp)) harr⟩
   | ret=>exact⟨_,a₁,w₁,hq,.pass (x:=.inLoop c) rfl (fun _ _=>.inl (by simp)) harr⟩
   | panic ch=>exact⟨_,a₁,w₁,hq,.pass (x:=.inLoop c) rfl (fun _ _=>.inl (by simp)) harr⟩
   | outgrown=>exact⟨_,a₁,w₁,hq,.pass (x:=.inLoop c) rfl (fun _ _=>.inl (by simp)) harr⟩
 obtain⟨e,a',w',hq,harr⟩:=key _ v0 (zw _) h0 E U a w hh;exact⟨e,a',w',hq,.of_steps (.one (fenced_calm hF hroom rfl) stepR_loop) harr⟩
def dt (t:dJ):dJ->dJ
 |[]=>t
 | (i,c) :: r=>dt (am t i c) r
def cQ (ch:Chs):Chs->Chs
 |[]=>ch
 | (i,c) :: r=>cQ (am ch i c) r
def cc (st:ASt) (ts:dJ) (cs:Chs):ASt:=⟨dt st.t ts,cQ st.ch cs⟩
theorem S_loopU {x:AC} {α:Type} (ts:α->dJ) (cs:α->Chs) (inv:α->Prop) (μ:α->Nat) (v0:α) (h0:inv v0) (hs:cG st (cc st (ts v0) (cs v0)))
 (hr:∀ v,inv v->SG P cx Q (.c x :: .post (dl (fun v=>cc st (ts v) (cs v)) inv μ v) :: k) (cc st (ts v) (cs v))):SG P cx Q (.c (.loop x) :: k) st:=
 rX (fun v=>cc st (ts v) (cs v)) inv μ v0 h0 hs hr
theorem S_for {x:AC} (n:Nat) (sh:Nat->ASt) (inv:Nat->Prop) (h0:inv 0) (hs:cG st (sh 0))
 (hr:∀ i,i<=n->inv i->SG P cx Q (.c x :: .post (dx n sh inv i) :: k) (sh i)):SG P cx Q (.c (.loop x) :: k) st:=by
 refine rX sh (fun i=>i<=n/\inv i) (fun i=>n - i) 0 ⟨yF _,h0⟩ hs (fun i hi=>?_);have h:=hr i hi.1 hi.2;refine fun E U a w hh code hc=>wpIn_mono (h E U a w hh code hc) (fun e a w he=>?_)
 cases e <;> first | exact he | skip
 obtain⟨E',U',s,g1,g2,g3,g4⟩:=he;exact⟨E',U',s,g1,i+1,⟨g2,g3⟩,(by show n - (i+1) < n - i;omega),g4⟩
theorem fH {x:AC} (n:Nat) (ts:Nat->dJ) (cs:Nat->Chs) (inv:Nat->Prop) (h0:inv 0) (hs:cG st (cc st (ts 0) (cs 0)))
 (hr:∀ i,i<=n->inv i->SG P cx Q (.c x :: .post (dx n (fun i=>cc st (ts i) (cs i)) inv i) :: k) (cc st (ts i) (cs i))):SG P cx Q (.c (.loop x) :: k) st:=
 S_for n (fun i=>cc st (ts i) (cs i)) inv h0 hs hr
theorem eP {f:FuncId} {n:Nat} {ac:AC} {rvs:List RV} {args:List C} {r:C} (hf:FnIs P f n ac rvs) (hargs:args.length<=n)
 (h:∀ cx:Cx,aX args->SG P cx (cz rvs [] r []) [.c ac] ⟨argS 0 args,[]⟩):FC P f args [] r []:=by
 have hf':=hf;obtain⟨⟨fn,code,h1,h2,h3,_⟩,_⟩:=hf';exact FC.lens ⟨fn,h1,h2,by rw[h3];rfl⟩ fun hl _=>qU [] hf hargs (fun p hp=>by simp at hp) (by simp) (fun k cs hm=>by simp at hm) (fun cx _ _ _=>h cx hl)
def aC (chs:Chs):Chs->Prop
 |[]=>True
 | (k,.box _) :: r=>(match lk chs k with | some (.box _)=>True | some _=>False | none=>True)/\aC chs r
 |_ :: r=>aC chs r
theorem lI {chs:Chs} (hn:(chs.map (·.1)).Nodup):∀ {l:Chs},aC chs l->∀ k cs,(k,.box cs)∈l->(∃ c,(k,c)∈chs)->∃ cs0,(k,.box cs0)∈chs
 |[],_,k,cs,hm,_=>by simp at hm
 | (j,c0) :: r,h,k,cs,hm,hex=>by
  have hr:aC chs r:=by cases c0 <;> first | exact h | exact h.2
  rcases zl.1 hm with e | e
  . cases e;obtain⟨c,hc⟩:=hex;have hl:=eR hn hc;have h1:=h.1;rw[hl]at h1;cases c with
    | box cs0=>exact⟨cs0,hc⟩
    |_=>exact h1.elim
  . exact lI hn hr k cs e hex
def bn : Chs->Prop
 |[]=>True
 | (k,_) :: r=>(100000<=k/\k < 200000)/\bn r
theorem pd : ∀ {l:Chs},bn l->∀ p∈l,100000<=p.1/\p.1 < 200000
 |[],_,p,h=>by simp at h
 | (k,c) :: r,h,p,hp=>by
  rcases zl.1 hp with e | e
  . rw[e];exact h.1
  . exact pd h.2 p e
theorem dD {f:FuncId} {n:Nat} {ac:AC} {rvs:List RV} {args:List C} {chs:Chs} {r:C} {chs':Chs} (kp:List Nat) (hf:FnIs P f n ac rvs) (hargs:args.length<=n) (hks:bn chs) (hn0:ap (ag chs)) (hn1:ap (ag chs')) (hkd:aC chs chs')
 (h:∀ cx:Cx,cx.n=n/\cx.ro=none/\cx.hi=200000->aX args->bh chs->SG P cx (cz rvs kp r chs') [.c ac] ⟨argS 0 args,chs⟩):FC P f args chs r chs':=by
 have hf':=hf;obtain⟨⟨fn,code,h1,h2,h3,_⟩,_⟩:=hf';exact FC.lens ⟨fn,h1,h2,by rw[h3];rfl⟩ fun hl hc=>qU kp hf hargs (pd hks) (by rw[<- dT];exact dY hn1) (lI (by rw[<- dT];exact dY hn0) hkd) (fun cx h1 h2 h3=>h cx ⟨h1,h2,h3⟩ hl hc)
end Go.Am
end
section
namespace Go.Am
variable {P : Program} [Glob P]
class Dat (α:Type) where
 sz:Nat
 agg:Bool
 cells:α->List C
 dec:List C->Option α
 ok:∀ {l a},dec l=some a->l=cells a
 data:∀ a,(cells a).all (fun c=>match c with | .s _=>true | .sl _ _=>true | _=>false)=true
 one:agg=false->∀ a,(cells a).length=1
 decN:List C->Option α:=fun _=>none
 okN:∀ l a,decN l=some a->bt l (cells a):=by intro l a h;cases h
 nilv:Option α:=none
 nil_ok:∀ a,nilv=some a->agg=false/\∃ n,cells a=[.sl n []]:=by intro a h;cases h
end Go.Am
end
section
namespace Go.Am
variable {P : Program} [Glob P]
open Dat (cells)
def enc {α:Type} [Dat α] (a:α):C:=if Dat.agg α=true then .agg (cells a)else (cells a).headD .any
def fC {α:Type} [Dat α]:List (List C)->Option (List α)
 |[]=>some []
 | l :: ls=>(Dat.dec l).bind fun a=>(fC ls).map (a :: ·)
theorem iK {α:Type} [Dat α]:∀ {ls:List (List C)} {aS:List α},fC ls=some aS->ls=aS.map cells
 |[],aS,h=>by simp[fC]at h;subst h;rfl
 | l :: ls,aS,h=>by
  simp only[fC,zk,za]at h;obtain⟨a,h1,bs,h2,rfl⟩:=h;rw[zt,<- Dat.ok h1,<- iK h2]
class DatL (α:Type) extends Dat α where
 dec_cells:∀ a:α,Dat.dec (cells a)=some a
theorem fM {α:Type} [DatL α]:∀ aS:List α,fC (aS.map cells)=some aS
 |[]=>rfl
 | a :: aS=>by simp[fC,DatL.dec_cells,fM aS]
instance : DatL Int where
 sz:=1
 agg:=false
 cells n:=[.s (.int .i64 n)]
 dec | [.s (.int .i64 n)]=>some n | _=>none
 ok:=by intro l a h;split at h <;> cases h;rfl
 data:=fun a=>rfl
 one:=fun _ a=>rfl
 dec_cells:=fun a=>rfl
instance : DatL Bool where
 sz:=1
 agg:=false
 cells b:=[.s (.bool b)]
 dec | [.s (.bool b)]=>some b | _=>none
 ok:=by intro l a h;split at h <;> cases h;rfl
 data:=fun a=>rfl
 one:=fun _ a=>rfl
 dec_cells:=fun a=>rfl
instance : DatL ByteArray where
 sz:=1
 agg:=false
 cells b:=[.s (.string b)]
 dec | [.s (.string b)]=>some b | _=>none
 ok:=by intro l a h;split at h <;> cases h;rfl
 data:=fun a=>rfl
 one:=fun _ a=>rfl
 dec_cells:=fun a=>rfl
instance {α : Type} [DatL α]:DatL (List α) where
 sz:=1
 agg:=false
 cells l:=[.sl (Dat.sz α) (l.map cells)]
 dec
  |[.sl n es]=>if n=Dat.sz α then fC es else none
  |_=>none
 ok:=by
  intro l a h;split at h
  . split at h
    . rename_i hn;rw[hn,iK h]
    . cases h
  . cases h
 nilv:=some []
 nil_ok:=by intro a h;cases h;exact⟨rfl,_,rfl⟩
 data:=fun a=>rfl
 one:=fun _ a=>rfl
 dec_cells:=fun a=>by simp[fM]
theorem uf {α:Type} [Dat α] (h:Dat.agg α=false) (a:α):cells a=[enc a]:=by
 have h1:=Dat.one h a;unfold enc;rw[qa (by rw[h];simp)]
 match hc:cells a,h1 with
 |[c],_=>rfl
def gx {α:Type} [Dat α] (c:C):Option α:=
 match c with
 |.agg cs=>if Dat.agg α=true then (match Dat.dec cs with | some a=>some a | none=>Dat.decN cs)else none
 |.s (.slice none 0 0)=>Dat.nilv
 | c=>if Dat.agg α=true then none else Dat.dec [c]
theorem t7 (a:C):bB a a:=by cases a <;> simp[bB,kP]
theorem t6 (c:C):bB c c:=t7 c
theorem jz {α:Type} [Dat α] {c:C} {a:α} (h:gx c=some a):bB c (enc a):=by
 unfold gx at h;split at h
 . split at h
   . rename_i hg;have:enc a=.agg (cells a):=by unfold enc;rw[qb hg]
     rw[this];simp only[bB];split at h
     . rename_i hd;cases h;rw[<- Dat.ok hd];exact kP _
     . exact Dat.okN _ _ h
   . cases h
 . obtain⟨hg,n,hc⟩:=Dat.nil_ok a h;have:enc a=.sl n []:=by unfold enc;rw[qa (by rw[hg];simp),hc];rfl
   rw[this];simp[bB]
 . split at h
   . cases h
   . rename_i hg;have h2:=Dat.ok h;rw[uf (by simpa using hg) a]at h2;have h3:=(List.cons.inj h2).1;rw[<- h3];exact t6 c
theorem FC.le {f:FuncId} {args args':List C} {chs:Chs} {r:C} {chs':Chs} (h:bL args args') (hf:FC P f args' chs r chs'):FC P f args chs r chs':=
 ⟨hf.1,fun E U vs w hg ha hi=>by
  obtain⟨h1,h2⟩:=kQ (E:=E) (U:=U) (h:=w.heap) h
  exact hf.2 E U vs w hg ⟨by rw[h1];exact ha.1,h2 _ ha.2⟩ hi⟩
theorem WfR.plain {r:C} (h:dG [] r):WfR [] r [] []:=⟨fun k c h=>by simp at h,fun k cs h=>by simp at h,h,fun k c h=>by simp at h⟩
def Ent.of1 {α:Type} [Dat α] (id:FuncId) (pre:α->Prop) (res:α->C) (hk:∀ a,dG [] (res a)) (h:∀ a,pre a->FC P id [enc a] [] (res a) []):Ent P where
 id:=id
 sp:=fun args chs=>match args,chs with
  |[x],[]=>(gx x).bind fun a=>some (pre a,res a,[],[])
  |_,_=>none
 ok:=by
  intro args chs p r chs' nk hs hp;split at hs
  . simp only[zk,zn,zf]at hs;obtain⟨a,ha,rfl,rfl,rfl,rfl⟩:=hs;exact⟨(h a hp).le (args':=[_]) ⟨jz ha,trivial⟩,.plain (hk a)⟩
  . cases hs
def Ent.of2 {α β:Type} [Dat α] [Dat β] (id:FuncId) (pre:α->β->Prop) (res:α->β->C) (hk:∀ a b,dG [] (res a b)) (h:∀ a b,pre a b->FC P id [enc a,enc b] [] (res a b) []):Ent P where
 id:=id
 sp:=fun args chs=>match args,chs with
  |[x,y],[]=>(gx x).bind fun a=>(gx y).bind fun b=>some (pre a b,res a b,[],[])
  |_,_=>none
 ok:=by
  intro args chs p r chs' nk hs hp;split at hs
  . simp only[zk,zn,zf]at hs;obtain⟨a,ha,b,hb,rfl,rfl,rfl,rfl⟩:=hs;exact⟨(h a b hp).le (args':=[_,_]) ⟨jz ha,jz hb,trivial⟩,.plain (hk a b)⟩
  . cases hs
def Ent.of3 {α β γ:Type} [Dat α] [Dat β] [Dat γ] (id:FuncId) (pre:α->β->γ->Prop) (res:α->β->γ->C) (hk:∀ a b c,dG [] (res a b c)) (h:∀ a b c,pre a b c->FC P id [enc a,enc b,enc c] [] (res a b c) []):Ent P where
 id:=id
 sp:=fun args chs=>match args,chs with
  |[x,y,z],[]=>(gx x).bind fun a=>(gx y).bind fun b=>(gx z).bind fun c=>some (pre a b c,res a b c,[],[])
  |_,_=>none
 ok:=by
  intro args chs p r chs' nk hs hp;split at hs
  . simp only[zk,zn,zf]at hs;obtain⟨a,ha,b,hb,c,hc,rfl,rfl,rfl,rfl⟩:=hs;exact⟨(h a b c hp).le (args':=[_,_,_]) ⟨jz ha,jz hb,jz hc,trivial⟩,.plain (hk a b c)⟩
  . cases hs
theorem enc_int (n:Int):enc n=.s (.int .i64 n):=rfl
theorem vj (b:Bool):enc b=.s (.bool b):=rfl
theorem enc_str (b:ByteArray):enc b=.s (.string b):=rfl
theorem mC {α:Type} [DatL α] (l:List α):enc l=.sl (Dat.sz α) (l.map cells):=rfl
theorem tn (n:Int):cells n=[.s (.int .i64 n)]:=rfl
theorem sC (n:Bool):cells n=[.s (.bool n)]:=rfl
theorem to (n:ByteArray):cells n=[.s (.string n)]:=rfl
theorem sD {α:Type} [DatL α] (l:List α):cells l=[.sl (Dat.sz α) (l.map cells)]:=rfl
theorem sz_int : Dat.sz Int=1:=rfl
theorem sz_bool : Dat.sz Bool=1:=rfl
theorem sz_str : Dat.sz ByteArray=1:=rfl
theorem sz_list {α:Type} [DatL α]:Dat.sz (List α)=1:=rfl
theorem u9 (n:Int):gx (.s (.int .i64 n))=some n:=rfl
theorem tx (n:Bool):gx (.s (.bool n))=some n:=rfl
theorem vd (n:ByteArray):gx (.s (.string n))=some n:=rfl
theorem dec_int (n:Int):Dat.dec [C.s (.int .i64 n)]=some n:=rfl
theorem ve (n:Bool):Dat.dec [C.s (.bool n)]=some n:=rfl
theorem dec_str (n:ByteArray):Dat.dec [C.s (.string n)]=some n:=rfl
theorem vg {α:Type} [DatL α] (n:Nat) (es:List (List C)):Dat.dec (α:=List α) [C.sl n es]=if n=Dat.sz α then fC es else none:=rfl
theorem vb {α:Type} [DatL α]:gx (α:=List α) (.s (.slice none 0 0))=some []:=rfl
theorem decV_sl {α:Type} [DatL α] (n:Nat) (es:List (List C)):gx (α:=List α) (.sl n es)=if n=Dat.sz α then fC es else none:=rfl
theorem u7 {α:Type} [Dat α]:fC (α:=α) []=some []:=rfl
theorem tw {α:Type} [Dat α] (l:List C) (ls:List (List C)):fC (α:=α) (l :: ls)=(Dat.dec l).bind fun a=>(fC ls).map (a :: ·):=rfl
theorem vn (xs:List Int) (n:Nat):List.getD (xs.map cells) n [C.s (.int .i64 0)]=[.s (.int .i64 (xs.getD n 0))]:=by
 simp only[zb,zh];cases xs[n]? <;> rfl
theorem tW (xs:List Bool) (n:Nat):List.getD (xs.map cells) n [C.s (.bool false)]=[.s (.bool (xs.getD n false))]:=by
 simp only[zb,zh];cases xs[n]? <;> rfl
theorem vo (xs:List ByteArray) (n:Nat):List.getD (xs.map cells) n [C.s (.string ⟨#[]⟩)]=[.s (.string (xs.getD n ⟨#[]⟩))]:=by
 simp only[zb,zh];cases xs[n]? <;> rfl
end Go.Am
end
section
namespace Go.Am
open Dat (cells)
structure Gs where
 re:Int
 im:Int
 deriving DecidableEq,Inhabited
instance : DatL Gs where
 sz:=2
 agg:=true
 cells g:=[.s (.int .i64 g.re),.s (.int .i64 g.im)]
 dec | [.s (.int .i64 a),.s (.int .i64 b)]=>some ⟨a,b⟩ | _=>none
 ok:=by intro l a h;split at h <;> cases h;rfl
 data:=fun a=>rfl
 one:=fun h=>by cases h
 dec_cells:=fun a=>rfl
theorem enc_gs (g:Gs):enc g=.agg [.s (.int .i64 g.re),.s (.int .i64 g.im)]:=rfl
theorem uX (g:Gs):cells g=[.s (.int .i64 g.re),.s (.int .i64 g.im)]:=rfl
theorem sz_gs : Dat.sz Gs=2:=rfl
theorem dec_gs (a b:Int):Dat.dec [C.s (.int .i64 a),.s (.int .i64 b)]=some (⟨a,b⟩:Gs):=rfl
theorem decV_gs (a b:Int):gx (.agg [C.s (.int .i64 a),.s (.int .i64 b)])=some (⟨a,b⟩:Gs):=rfl
theorem getD_gs (xs:List Gs) (n:Nat):List.getD (xs.map cells) n [C.s (.int .i64 0),.s (.int .i64 0)]=[.s (.int .i64 (xs.getD n ⟨0,0⟩).re),.s (.int .i64 (xs.getD n ⟨0,0⟩).im)]:=by
 simp only[zb,zh];cases xs[n]? <;> rfl
theorem gs_eta (g:Gs):Gs.mk g.re g.im=g:=rfl
theorem uc {α:Type} (d k:Nat) (c:α) (m:List (Nat×α)):List.lookup k ((d,c) :: m)=if k=d then some c else List.lookup k m:=by
 rw[z0];by_cases h:k=d
 . simp[h]
 . have:(k == d)=false:=by simp[h]
   rw[this,qa h]
theorem fI {α:Type} {l:List α} {i:Nat} (d:α) (h:i < l.length):l.drop i=l.getD i d :: l.drop (i+1):=by
 rw[z9 h,zb,ze h];rfl
theorem pM {α:Type} {l:List α} {i:Nat} (d:α) (h:i < l.length):l.take (i+1)=l.take i++[l.getD i d]:=by
 rw[yI h,zb,ze h];rfl
theorem jp.list {α:Type} [DatL α] {n:Nat} {l:List α} (h:jp (.sl n (l.map cells))):l.length<=9223372036854775807:=by simpa using h.sl.1
theorem jp.inner {α:Type} [DatL α] {n:Nat} {l:List (List α)} (h:jp (.sl n (l.map cells))) (i:Nat) (hi:i < l.length):(l.getD i []).length<=9223372036854775807:=by
 have:=h.sl.2 (cells l[i]) (zu.2 ⟨l[i],yy hi,rfl⟩) _ (zg.2 rfl);have h2:=this.sl.1;rw[zb,ze hi];simpa using h2
end Go.Am
end
section
namespace Go.Am
open Dat (cells)
variable {P : Program} [Glob P]
structure Moved (U F:Nat->Prop) (w:World) (U' F':Nat->Prop) (w':World):Prop where
 os:w'.os=w.os
 tape:w'.tape=w.tape
 output:w'.output=w.output
 size:w.heap.size<=w'.heap.size
 keep:∀ b,U b->U' b/\w'.heap[b]? = w.heap[b]?
 rest:∀ b,b < w.heap.size->¬ F b->w'.heap[b]? = w.heap[b]?
 live:∀ b,F' b->w.heap.size<=b\/F b
 newU:∀ b,U' b->U b\/w.heap.size<=b\/F b
 out:∀ b,F' b->¬ U' b
 fpl:∀ b,F' b->b < w'.heap.size
 lt:∀ b,U' b->b < w'.heap.size
def YAt (P:Program) [Glob P] (l:Nat) (xs:List C) (R:Res) (Rt:Option Res) (Rf:Res):Prop:=
 ∀ (E:Env) (U F:Nat->Prop) (w:World) (vs:Array Value),eT P U w.heap->jo E U w.heap xs vs->R.φ F U w.heap->(∀ b,F b->¬ U b)->(∀ b,F b->b < w.heap.size)->(∀ b,U b->b < w.heap.size) ->
  ∃ fn tmps assign body,(Instr.yield l vs).run P w=.ok (.round l fn tmps assign body) w /\
   ∀ ro,RoundIn (FW ro) 0 P l fn tmps assign body w fun e w'=>∃ (b:Bool) (F' U':Nat->Prop),e=.returned (.bool b) /\
    (match b with | true=>∃ R',Rt=some R'/\R'.φ F' U' w'.heap | false=>Rf.φ F' U' w'.heap)/\Moved U F w U' F' w'
def cu (ch:Chs) (kr:Nat) (b:Bool) (R:Res):Eff:=⟨True,.s (.bool b),(kr,.res R) :: ae [(kr,.inner)] (af ch kr),[(kr,.inner)]⟩
def cq (ch:Chs) (kr:Nat) (Rt:Option Res) (Rf:Res):List Eff:=
 match Rt with
 | some R=>[cu ch kr true R,cu ch kr false Rf]
 | none=>[cu ch kr false Rf]
theorem Ev.res {E:Env} {U F' U':Nat->Prop} {w w':World} {ch:Chs} {kr:Nat} {R R':Res} (hi:Inv E U w.heap ch) (hl:lk ch kr=some (.res R)) (hm:Moved U (E kr).fp w U' F' w') (hφ:R'.φ F' U' w'.heap) (d:Nat) :
 Ev E U w ch [(kr,.inner)] d (dQ E kr { E kr with fp:=F' }) U' w' ((kr,.res R') :: ae [(kr,.inner)] (af ch kr)):=by
 have hkm:=dH hl;have hd:∀ c,(kr,c)∉af ch kr:=fun c=>dZ hi.nd
 have hmem:∀ k' c,(k',c)∈af ch kr->(k',c)∈ch/\k'≠kr:=fun k' c h=>⟨eH h,fun e=>hd c (e ▸ h)⟩
 have henv:∀ k',[(kr,Sb.inner)].lookup k'=none->dQ E kr { E kr with fp:=F' } k'=E k':=fun k' h=>by
  rw[fV]at h;split at h
  . cases h
  . exact d0 E _ (by assumption)
 have henvI:∀ k',[(kr,Sb.inner)].lookup k'=some .inner->(dQ E kr { E kr with fp:=F' } k').toKE0=(E k').toKE0:=fun k' h=>by
  rw[fV]at h;split at h
  . have e:k'=kr:=by assumption
    subst e;rw[updE_same]
  . cases h
 have hsub:∀ k' c',[(kr,Sb.inner)].lookup k'=some (.c c')->∀ v,Rep E U w.heap (.own k') v->Rep (dQ E kr { E kr with fp:=F' }) U' w'.heap c' v:=fun k' c' h=>by
  rw[fV]at h;split at h <;> cases h
 refine Ev.gen (news:=[(kr,.res R')]) (old:=af ch kr) hi hm.os hm.tape hm.output hm.size (eu ch kr) hm.keep henv henvI hsub (fun k' c h=>d0 E _ (hmem k' c h).2)
  (fun k' c h b hb=>hm.rest b (hi.fpl k' c (hmem k' c h).1 b hb) (fun hb'=>hi.sep k' c kr _ (hmem k' c h).1 hkm (hmem k' c h).2 b hb hb')) (fun b hb1 hb2=>hm.rest b hb1 (hb2 kr _ hkm)) (by simp) (fun k' c h=>?_) (fun k' c h=>?_) (fun k' c h b hb=>?_) (fun k' c h b hb=>?_)
  (fun k1 x1 k2 x2 h1 h2 hne=>?_) (fun b hb=>?_) (fun k' c h b hb=>?_) hm.lt (fun k' cs h=>?_)
 . simp only[zg,zf]at h;obtain⟨rfl,rfl⟩:=h;exact hd
 . simp only[zg,zf]at h;obtain⟨rfl,rfl⟩:=h;simp only[dM,updE_same];exact hφ
 . simp only[zg,zf]at h;obtain⟨rfl,rfl⟩:=h;rw[updE_same]at hb;rcases hm.live b hb with g | g
   . exact .inl g
   . exact .inr ⟨_,_,hkm,hd,g⟩
 . simp only[zg,zf]at h;obtain⟨rfl,rfl⟩:=h;rw[updE_same]at hb;exact hm.fpl b hb
 . simp only[zg,zf]at h1 h2;exact absurd (h1.1.trans h2.1.symm) hne
 . rcases hm.newU b hb with g | g | g
   . exact .inl g
   . exact .inr (.inl g)
   . exact .inr (.inr ⟨_,_,hkm,hd,g⟩)
 . simp only[zg,zf]at h;obtain⟨rfl,rfl⟩:=h;rw[updE_same]at hb;exact hm.out b hb
 . simp only[zg,zf]at h;exact absurd h.2 (by simp)
theorem OpM.yield {ro:Option Nat} {ρ:Operand->C} {ch:Chs} {d l kr:Nat} {xs:List C} {R Rf:Res} {Rt:Option Res} {fo:Operand} {aS:List Operand} (hfo:ρ fo=.s (.func (.yield l) #[] #[])) (hxs:aS.map ρ=xs) (hl:lk ch kr=some (.res R)) (hy:YAt P l xs R Rt Rf) :
 OpM P ro ρ ch d (.call fo aS) (fun ef=>ef∈cq ch kr Rt Rf):=by
 intro own o a E U w hc hi hg hρ K Q hK;obtain⟨args,ts,ho,ha⟩:=iw hc;subst ha;have hev:a.eval fo=.func (.yield l) #[] #[]:=dK (hfo ▸ hρ fo (by simp[AOp.reads]));have hargs:jo E U w.heap xs (args.map a.eval):=by
  subst hxs;refine⟨by simp,fun j c hj=>?_⟩;simp only[zh,za,zM]at hj;obtain⟨x,hx,rfl⟩:=hj;rw[ew (v:=a.eval x) (by simp[hx])];exact hρ x (by simp only[AOp.reads];exact zo _ (by simpa using Array.mem_of_getElem? hx))
 have hkm:=dH hl;obtain⟨fn,tmps,assign,body,hrun,hround⟩:=hy E U (E kr).fp w (args.map a.eval) hg hargs (hi.ok kr _ hkm) (hi.out kr _ hkm) (hi.fpl kr _ hkm) hi.lt;have hrun2:(execOp a.eval o).run P w=.ok (.round l fn tmps assign body) w:=by
  simp only[execOp,ho,resolve,hev,Deferred.ofValue,Sem.run_bind,Sem.run_pure,Result.andThen_ok,invoke];simpa using hrun
 refine⟨fun _ _=>trivial,?_⟩;rw[Oper.semAt_eq _ _ _ (by rw[ho];simp),hrun2,Oper.uponIn_round];refine⟨fun h=>by simp[FW,Fence.wide]at h,(hround ro).mono fun e w' h=>?_⟩;obtain⟨b,F',U',rfl,hb,hm⟩:=h;show K (a.put o.dst (.bool b)) w'
 cases b with
 | true=>
  obtain⟨R',rfl,hφ⟩:=hb;exact hK (cu ch kr true R') (by simp[cq]) _ _ _ _ (.d (.s _)) (Ev.res hi hl hm hφ d)
 | false=>
  exact hK (cu ch kr false Rf) (by unfold cq;cases Rt <;> simp) _ _ _ _ (.d (.s _)) (Ev.res hi hl hm hb d)
def ax (bx:List Nat):C->Bool
 |.own _ | .inn _ _ | .eptr _ _ _ | .iptr _ _ _ _=>false
 |.ptr k _=>av bx k
 |.agg cs=>ptrOnlys bx cs
 |.tup cs=>ptrOnlys bx cs
 |.fn _ xs ys=>ptrOnlys bx xs && ptrOnlys bx ys
 |_=>true
where ptrOnlys (bx:List Nat):List C->Bool
 |[]=>true
 | c :: cs=>ax bx c && ptrOnlys bx cs
theorem gG {bx:List Nat}:∀ {cs:List C},ax.ptrOnlys bx cs=true->∀ c∈cs,ax bx c=true
 |[],_,c,h=>by simp at h
 | x :: cs,h,c,hc=>by
  simp only[ax.ptrOnlys,zm]at h;rcases zl.1 hc with e | e
  . rw[e];exact h.1
  . exact gG h.2 c e
theorem Rep.fixed {E E':Env} {U:Nat->Prop} {h:Array Obj} {c:C} {v:Value} {bx:List Nat} (hr:Rep E U h c v) (hk:ax bx c=true) (he:∀ k∈bx,(E' k).toKE0=(E k).toKE0):Rep E' U h c v:=by
 induction hr with
 | d hd=>exact .d hd
 | ref cs b off arr ty fz vf hU hb hv hr=>exact .ref cs b off arr ty fz vf hU hb hv hr
 | agg cs vs hl hr h1 ih=>exact .agg cs vs hl (fun j c hj=>ih j c hj (gG (by simpa only[ax]using hk) c (zp hj))) h1
 | tup cs vs hl hr ih=>exact .tup cs vs hl (fun j c hj=>ih j c hj (gG (by simpa only[ax]using hk) c (zp hj)))
 | fn f xs ys vs ws hl hr hl' hr' ih ih'=>
  simp only[ax,zm]at hk;exact .fn f xs ys vs ws hl (fun j c hj=>ih j c hj (gG hk.1 c (zp hj))) hl' (fun j c hj=>ih' j c hj (gG hk.2 c (zp hj)))
 | own k=>simp[ax]at hk
 | ptr k off=>simp only[ax]at hk;rw[<- he k (ez.1 hk)];exact .ptr k off
 | eptr k i j=>simp[ax]at hk
 | inn k i=>simp[ax]at hk
 | iptr k i n j=>simp[ax]at hk
def bo (bx:List Nat):dJ->dJ
 |[]=>[]
 | (i,c) :: t=>(i,match ax bx c with | true=>c | false=>.any) :: bo bx t
theorem lX (bx:List Nat):∀ (t:dJ) (i:Nat),gt (bo bx t) i=.any\/(gt (bo bx t) i=gt t i/\ax bx (gt t i)=true)
 |[],i=>.inl rfl
 | (j,c) :: t,i=>by
  have ih:=lX bx t i;simp only[gt,bo,lk]at ih ⊢;by_cases hj:j=i
  . rw[qb hj,qb hj];cases hp:ax bx c with
    | true=>exact .inr ⟨rfl,hp⟩
    | false=>exact .inl rfl
  . rw[qa hj,qa hj];exact ih
def bQ : List Nat->Chs->Prop
 |[],_=>True
 | k :: ks,ch=>(match lk ch k with | some (.box _)=>True | _=>False)/\bQ ks ch
def bj (bx:List Nat):Chs->Prop
 |[]=>True
 | (k,.box _) :: r=>(k < 100000\/av bx k=true)/\bj bx r
 | (_,.row _ _ _) :: r=>bj bx r
 | (_,.deep _ _ _ _ _) :: r=>bj bx r
 | (_,.res _) :: r=>bj bx r
theorem jC : ∀ {bx:List Nat} {ch:Chs},bQ bx ch->∀ k∈bx,∃ cs,(k,.box cs)∈ch
 |[],_,_,k,h=>by simp at h
 | j :: ks,ch,h,k,hk=>by
  rcases zl.1 hk with e | e
  . subst e;have h1:=h.1;cases hl:lk ch k with
    | none=>rw[hl]at h1;exact h1.elim
    | some c=>
     rw[hl]at h1;cases c with
     | box cs=>exact⟨cs,dH hl⟩
     |_=>exact h1.elim
  . exact jC h.2 k e
theorem j8 {bx:List Nat}:∀ {ch:Chs},bj bx ch->∀ k cs,(k,.box cs)∈ch->100000<=k->k∈bx
 |[],_,k,cs,h,_=>by simp at h
 | (j,c0) :: r,h,k,cs,hm,hk=>by
  rcases zl.1 hm with e | e
  . cases e;rcases h.1 with g | g
    . omega
    . exact ez.1 g
  . have hr:bj bx r:=by cases c0 <;> first | exact h | exact h.2
    exact j8 hr k cs e hk
def bP (bx:List Nat) (ch:Chs):Prop:=bQ bx ch/\bj bx ch
def jR (Eb:Env) (l D:Nat) (rec:Loop) (bx:List Nat) (tB:dJ) (tmps:Array Value) (ch:Chs):Res where
 φ F U h:=∃ Ec:Env,(∀ k c,(k,c)∈ch->dM Ec U h k c)/\(∀ k c k' c',(k,c)∈ch->(k',c')∈ch->k≠k'->∀ b,(Ec k).fp b->¬ (Ec k').fp b) /\
  (∀ k c,(k,c)∈ch->∀ b,(Ec k).fp b->F b/\b≠l/\b≠D)/\F l/\F D/\(∀ k∈bx,(Ec k).toKE0=(Eb k).toKE0) /\
  h[l]? = some (.loop rec)/\h[D]? = some (.deferred (some []))/\(∀ j,Rep Eb U h (gt tB j) (tmps.getD j undef))
 mono:=by
  intro F U U' h h' ⟨Ec,h1,h2,h3,h4,h5,h6,h7,h8,h9⟩ hU hF;exact⟨Ec,fun k c hm=>(h1 k c hm).same hU (fun b hb=>hF b (h3 k c hm b hb).1),h2,h3,h4,h5,h6,(hF l h4).trans h7,(hF D h5).trans h8,fun j=>(h9 j).same hU⟩
def bT (P:Program) [Glob P] (cx:Cx) (Q:ASt->Prop) (k:List It) (t0:dJ):Code->Chs->Prop
 |.exit id,ch=>
  match aJ id k with
  |.cont k'=>SG P cx Q k' ⟨t0,ch⟩
  |.out p=>p ⟨t0,ch⟩
  |.none=>False
 |.ret,ch=>bw Q k ⟨t0,ch⟩
 |_,_=>False
def tG (J:Code->Chs->Prop) (Eb:Env) (l D:Nat) (rec:Option Code->Loop) (bx:List Nat) (tB:dJ) (tmps:Array Value):Res where
 φ F U h:=∃ jump ch,(ch.map (·.1)).Nodup/\bP bx ch/\J jump ch/\(jR Eb l D (rec (some jump)) bx tB tmps ch).φ F U h
 mono:=by
  rintro F U U' h h' ⟨jump,ch,h1,h2,h3,h4⟩ hU hF
  exact⟨jump,ch,h1,h2,h3,(jR Eb l D (rec (some jump)) bx tB tmps ch).mono F U U' h h' h4 hU hF⟩
def ItC (P:Program) [Glob P] (f:FuncId) (first caps:List C) (ich:Chs) (kr:Nat) (vals:Nat->List C) (N:Nat) (fin:Bool):Prop:=
 ∀ (l:Nat) (R:Nat->Res) (Rf:Res),(∀ i,i < N->YAt P l (vals i) (R i) (if i+1 < N\/fin=true then some (R (i+1))else none) Rf) ->
  FCo P f (first++[.s (.func (.yield l) #[] #[])]++caps) ((kr,.res (R 0)) :: ich) ((.any,[(kr,.res Rf)]) :: if fin=true then [(.any,[(kr,.res (R N))])]else [])
theorem Holds.busy {cx:Cx} {E:Env} {U:Nat->Prop} {a:Act} {w:World} {s:ASt} {l D:Nat} {o oD o':Obj} (hh:Holds P cx E U a w s) (hc:cx.hid=[(l,o),(D,oD)]) (hlD:l≠D) (hl:l < cx.w0.heap.size) :
 Holds P { cx with w0:=cx.w0.putObj l o',hid:=[(l,o'),(D,oD)] } E U a (w.putObj l o') s:=by
 obtain⟨q1,q2,q3⟩:=hh.hid (l,o) (by rw[hc];simp);obtain⟨p1,p2,p3⟩:=hh.hid (D,oD) (by rw[hc];simp);have hne:∀ (w:World) b,b≠l->(w.putObj l o').heap[b]? = w.heap[b]?:=fun w b hb=>World.putObj_heap_other hb
 have hU:∀ b,U b->U b/\(w.putObj l o').heap[b]? = w.heap[b]?:=fun b hb=>⟨hb,hne w b (fun e=>q2 (e ▸ hb))⟩
 have hF:∀ k c,(k,c)∈s.ch->∀ b,(E k).fp b->(w.putObj l o').heap[b]? = w.heap[b]?:=fun k c hm b hb=>hne w b (fun e=>q3 k c hm (e ▸ hb))
 have hlw:l < w.heap.size:=yJ hl hh.size;have hdf:∃ Ds:List Nat,a.defers=Ds.map gz/\Ds.Nodup/\∀ D∈Ds,(cx.w0.putObj l o').heap.size<=D/\gv E U (w.putObj l o').heap s.ch D (.deferred (some [])):=by
  obtain⟨Ds,d1,d2,d3⟩:=hh.df;refine⟨Ds,d1,d2,fun D hD=>?_⟩;obtain⟨e1,e2,e3,e4⟩:=d3 D hD;exact⟨by simpa using e1,(hne w D (by omega)).trans e2,e3,e4⟩
 refine⟨hh.sz,hdf,fun i=>(hh.tok i).same hU,⟨hh.inv.nd,fun k c hm=>(hh.inv.ok k c hm).same hU (hF k c hm),hh.inv.sep,hh.inv.out,fun k c hm b hb=>by rw[World.putObj_size];exact hh.inv.fpl k c hm b hb,fun b hb=>by rw[World.putObj_size];exact hh.inv.lt b hb⟩,
  hh.os,hh.tape,hh.output,by simpa using hh.size,fun b hb hx=>?_,fun b hb=>⟨(hh.keepA b hb).1,?_⟩,fun k c hm b hb=>by simpa using hh.live k c hm b hb,fun b hb=>by simpa using hh.base b hb,hh.fix,fun p hp=>?_,hh.gok.mono hU⟩
 . by_cases hb':b=l
   . subst hb';rw[World.putObj_heap_same hlw,World.putObj_heap_same hl]
   . rw[hne w b hb',hne cx.w0 b hb'];exact hh.fr b (by simpa using hb) hx
 . have hbl:b≠l:=fun e=>q2 (e ▸ (hh.keepA b hb).1)
   rw[hne w b hbl,hne cx.w0 b hbl];exact (hh.keepA b hb).2
 . simp only[zl,zA,qk]at hp;rcases hp with rfl | rfl
   . exact⟨World.putObj_heap_same hlw,q2,q3⟩
   . exact⟨(hne w D (Ne.symm hlD)).trans p1,p2,p3⟩
def bH (t:dJ):List Nat->List C->dJ
 | p :: ps,v :: vs=>bH (am t p v) ps vs
 |_,_=>t
end Go.Am
end
