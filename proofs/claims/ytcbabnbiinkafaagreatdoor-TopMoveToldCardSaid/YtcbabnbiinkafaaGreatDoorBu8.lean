/- Part 8 of the proof of: the statements about chapter 8 -/
import Derived.Maps.RangeWalk
import Derived.Test.YtcbabnbiinkafaaGreatDoorProg
import Derived.Lib.ItoaNum
import Derived.KernelRfl
import Derived.Test.YtcbabnbiinkafaaGreatDoorBu7
set_option linter.all false
set_option maxHeartbeats 8000000
set_option maxRecDepth 100000
section
namespace Go.Am
open Dat (cells)
variable {P : Program} {E : Env} {U : Nat → Prop} {w : World} {ch : Chs} {d : Nat}
theorem dW.ren [Glob P] {cx:Cx} {st:ASt} (m:List (Nat×Nat)) (hk:ba (ag st.ch) st.ch=true) (hnd:ap ((ag st.ch).map (rn m))) (hbs:i7 m st.ch):dW P cx st (renS m st):=fun E U a w hh=>by
 obtain⟨ks,hks⟩:∃ ks,ag st.ch=ks:=⟨_,rfl⟩;have hinj:∀ x∈ks,∀ y∈ks,rn m x=rn m y->x=y:=lH (by rw[<- hks];exact dY hnd);have hin:∀ k c,(k,c)∈st.ch->k∈ks:=fun k c h=>by rw[<- hks,dT];exact zu.2 ⟨_,h,rfl⟩
 let E':Env:=fun j=>match ks.find? (fun k=>rn m k == j)with | some k=>E k | none=>E j
 have hE:∀ k∈ks,E' (rn m k)=E k:=fun k hk=>by
  simp only[E'];cases hfnd:ks.find? (fun k'=>rn m k' == rn m k)with
  | none=>
   have:=List.find?_eq_none.1 hfnd k hk;simp at this
  | some k'=>
   have h1:=List.find?_some hfnd;have h2:=List.mem_of_find?_eq_some hfnd;have h3:rn m k'=rn m k:=by simpa using h1
   have:k'=k:=hinj k' h2 k hk h3;rw[this]
 have hch:∀ k c,(k,c)∈ar m st.ch->∃ k0 c0,(k0,c0)∈st.ch/\k=rn m k0/\c=aF m c0/\E' k=E k0:=fun k c h=>by
  obtain⟨k0,c0,h0,rfl,rfl⟩:=eI h;exact⟨k0,c0,h0,rfl,rfl,hE k0 (hin k0 c0 h0)⟩
 have hkc:∀ k c,(k,c)∈st.ch->gd ks c:=fun k c h=>by
  cases c with
  | box cs=>exact gM fun c hc=>kN c (by rw[<- hks];exact gU hk k cs h c hc)
  |_=>trivial
 have hid:∀ D o,gv E U w.heap st.ch D o->gv E' U w.heap (ar m st.ch) D o:=fun D o ⟨h1,h2,h3⟩=>⟨h1,h2,fun k c h hf=>by
  obtain⟨k0,c0,h0,_,_,e⟩:=hch k c h;rw[e]at hf
  exact h3 k0 c0 h0 hf⟩
 have e1:renS m st=⟨bu ks m st.t,ar m st.ch⟩:=by simp only[renS,hks]
 rw[e1];refine⟨E',U,hh.sz,?_,fun i=>?_,⟨?_,fun k c h=>?_,fun k c k' c' h h' hne x hx hx'=>?_,fun k c h x hx=>?_,fun k c h x hx=>?_,hh.inv.lt⟩,hh.os,hh.tape,hh.output,hh.size,hh.fr,hh.keepA,fun k c h x hx=>?_,hh.base,fun k cs hk1 h=>?_,fun p hp=>hid _ _ (hh.hid p hp),hh.gok⟩
 . obtain⟨Ds,h1,h2,h3⟩:=hh.df;exact⟨Ds,h1,h2,fun D hD=>⟨(h3 D hD).1,hid _ _ (h3 D hD).2⟩⟩
 . rcases oq ks m st.t i with e | ⟨e,ek⟩
   . show Rep _ _ _ (gt (bu ks m st.t) i) _
     rw[e];exact .d (.any _)
   . show Rep _ _ _ (gt (bu ks m st.t) i) _
     rw[e];exact (hh.tok i).ren (kN _ ek) hE
 . have e2:(ar m st.ch).map (·.1)=ks.map (rn m):=by rw[fl,<- hks,dT,zT,zT];rfl
   rw[e2];refine iE (by rw[<- hks,dT];exact hh.inv.nd) (fun x hx y hy e=>hinj x hx y hy e)
 . obtain⟨k0,c0,h0,rfl,rfl,e⟩:=hch k c h;exact (hh.inv.ok k0 c0 h0).ren (hin k0 c0 h0) (hkc k0 c0 h0) hE
 . obtain⟨k0,c0,h0,rfl,rfl,e⟩:=hch k c h;obtain⟨k1,c1,h1,rfl,rfl,e'⟩:=hch k' c' h';rw[e]at hx;rw[e']at hx';exact hh.inv.sep k0 c0 k1 c1 h0 h1 (fun e=>hne (by rw[e])) x hx hx'
 . obtain⟨k0,c0,h0,rfl,rfl,e⟩:=hch k c h;rw[e]at hx;exact hh.inv.out k0 c0 h0 x hx
 . obtain⟨k0,c0,h0,rfl,rfl,e⟩:=hch k c h;rw[e]at hx;exact hh.inv.fpl k0 c0 h0 x hx
 . obtain⟨k0,c0,h0,rfl,rfl,e⟩:=hch k c h;rw[e]at hx;exact hh.live k0 c0 h0 x hx
 . obtain⟨k0,c0,h0,rfl,hc0,e⟩:=hch k _ h;have hge:=Cx.fx_ge hk1;cases c0 with
   | box cs0=>
    rcases kn hbs k0 cs0 h0 with g | g
    . rw[e,g];rw[g]at hk1;exact hh.fix k0 cs0 hk1 h0
    . omega
   |_=>simp[aF]at hc0
end Go.Am
end
section
namespace Go.Am
open Dat (cells)
variable {P : Program} [Glob P] {cx : Cx} {Q : ASt → Prop} {k : List It} {st : ASt}
def p6 : Ch->Bool
 |.row _ _ []=>true
 |.deep _ _ _ none []=>true
 |_=>false
def p7 : Ch->Nat
 |.row sz _ _=>sz
 |_=>1
theorem vH {E:Env} {U:Nat->Prop} {h:Array Obj} {d:Nat} {c0:Ch} (hc:p6 c0=true):dM (dQ E d (ke0 ⟨0,0,0,0,p7 c0,true⟩)) U h d c0:=by
 unfold p6 at hc;split at hc
 . rw[dM,updE_same];exact⟨⟨rfl,rfl,(fun n el h=>by simp at h),.inl ⟨rfl,rfl⟩⟩,gn _⟩
 . rw[dM,updE_same];refine⟨⟨rfl,rfl,.inl ⟨rfl,rfl⟩⟩,⟨fun b=>⟨fun hb=>(by cases hb.1),fun hb=>?_⟩,fun i q h=>by simp[eh]at h,fun i j q q' _ h=>by simp[eh]at h⟩,fun i n t es h=>by simp[eh]at h⟩;rcases hb with hb | ⟨i,q,h,_⟩
   . cases hb.1
   . simp[eh]at h
 . cases hc
theorem rc {c:C} (h:aL c=true):jW (some c)=none:=by cases c <;> first | rfl | cases h
theorem Holds.recell {E:Env} {U:Nat->Prop} {a:Act} {w:World} (hh:Holds P cx E U a w st) {kk:Nat} {cs cs':List C} (hl:lk st.ch kk=some (.box cs)) (hlen:cs'.length=cs.length)
 (hc:∀ (j:Nat) c',cs'[j]? = some c'->∃ c,cs[j]? = some c/\(c'=c\/(aL c=true/\aL c'=true/\∀ v,Rep E U w.heap c v->Rep E U w.heap c' v))):Holds P cx E U a w ⟨st.t,am st.ch kk (.box cs')⟩:=by
 have hkm:=dH hl;have hmem:∀ k c,(k,c)∈am st.ch kk (.box cs')->(k=kk/\c=.box cs')\/((k,c)∈st.ch/\k≠kk):=fun k c hm=>by
  by_cases hk:k=kk
  . subst hk;have h1:=eR (by rw[fb hl];exact hh.inv.nd) hm;rw[lZ,qb rfl]at h1;cases h1;exact .inl ⟨rfl,rfl⟩
  . rcases fk hh.inv.nd hm with g | g
    . exact absurd (congrArg Prod.fst g) hk
    . exact .inr ⟨eH g,hk⟩
 have hex:∀ k c,(k,c)∈am st.ch kk (.box cs')->∃ c0,(k,c0)∈st.ch:=fun k c hm=>by
  rcases hmem k c hm with⟨rfl,_⟩ | ⟨h,_⟩
  . exact⟨_,hkm⟩
  . exact⟨_,h⟩
 have hhid:∀ b o,gv E U w.heap st.ch b o->gv E U w.heap (am st.ch kk (.box cs')) b o:=fun b o h=>⟨h.1,h.2.1,fun k c hm=>by
  obtain⟨c0,h0⟩:=hex k c hm
  exact h.2.2 k c0 h0⟩
 have hI:eK cs'=eK cs:=by
  funext j
  simp only[eK];cases hj:cs'[j]? with
  | none=>
   have:cs[j]? = none:=by
    rw[List.getElem?_eq_none_iff]at hj ⊢;omega
   rw[this]
  | some c'=>
   obtain⟨c,h1,h2⟩:=hc j c' hj;rw[h1];rcases h2 with rfl | ⟨g1,g2,_⟩
   . rfl
   . rw[rc g1,rc g2]
 refine⟨hh.sz,?_,hh.tok,⟨by rw[fb hl];exact hh.inv.nd,fun k c hm=>?_,fun k c k' c' h h' hne b hb hb'=>?_,fun k c h b hb=>?_,fun k c h b hb=>?_,hh.inv.lt⟩,hh.os,hh.tape,hh.output,hh.size,hh.fr,hh.keepA,fun k c h b hb=>?_,hh.base,fun k cs1 hk hm=>?_,fun p hp=>hhid _ _ (hh.hid p hp),hh.gok⟩
 . obtain⟨Ds,h1,h2,h3⟩:=hh.df;exact⟨Ds,h1,h2,fun D hD=>⟨(h3 D hD).1,hhid _ _ (h3 D hD).2⟩⟩
 . rcases hmem k c hm with⟨rfl,rfl⟩ | ⟨h,_⟩
   . obtain⟨⟨g1,arr,ty,g2,g3,g4⟩,g5,g6⟩:=hh.inv.ok k _ hkm;refine⟨⟨g1,arr,ty,g2,by rw[hlen];exact g3,fun j c' hj=>?_⟩,by rw[hI];exact g5,by rw[hI];exact g6⟩;obtain⟨c,h1,h2⟩:=hc j c' hj;rcases h2 with rfl | ⟨q1,q2,q3⟩
     . exact g4 j _ h1
     . rcases g4 j c h1 with⟨r1,r2⟩ | ⟨⟨n,t,es,rfl⟩,_⟩
       . exact .inl ⟨q3 _ r1,r2⟩
       . simp[aL]at q1
   . exact hh.inv.ok k c h
 . obtain⟨c0,h0⟩:=hex k c h;obtain⟨c1,h1⟩:=hex k' c' h';exact hh.inv.sep k c0 k' c1 h0 h1 hne b hb hb'
 . obtain⟨c0,h0⟩:=hex k c h;exact hh.inv.out k c0 h0 b hb
 . obtain⟨c0,h0⟩:=hex k c h;exact hh.inv.fpl k c0 h0 b hb
 . obtain⟨c0,h0⟩:=hex k c h;exact hh.live k c0 h0 b hb
 . rcases hmem k _ hm with⟨rfl,_⟩ | ⟨h,_⟩
   . exact hh.fix k cs hk hkm
   . exact hh.fix k cs1 hk h
def nO (d kk off:Nat) (cs:List C) (c0:Ch) (s:ASt):ASt:=⟨bq [(d,.c .any)] s.t,(d,c0) :: am (ae [(d,.c .any)] (af s.ch d)) kk (.box ((cs.map (ah [(d,.c .any)])).set off (.own d)))⟩
theorem lK {m:List (Nat×Sb)} {kk:Nat} {cs:List C}:∀ {ch:Chs},lk ch kk=some (.box cs)->lk (ae m ch) kk=some (.box (cs.map (ah m)))
 |[],h=>by simp[lk]at h
 | (j,c) :: r,h=>by
  simp only[lk]at h;by_cases hj:j=kk
  . rw[qb hj]at h;cases h;simp[ae,lk,hj]
  . rw[qa hj]at h;have:=lK (m:=m) h;cases c <;> simpa only[ae,lk,qa hj]using this
theorem nL {α:Type} {d kk:Nat} (hne:kk≠d):∀ {t:List (Nat×α)},lk (af t d) kk=lk t kk
 |[]=>rfl
 | (j,c) :: r=>by
  simp only[af];by_cases hj:j=d
  . rw[qb hj];simp only[lk];rw[qa (fun e=>hne (by omega))]
  . rw[qa hj];simp only[lk];rw[nL hne]
theorem dW.nilcell (d kk off:Nat) {cs:List C} {c0:Ch} (hd:d < 100000) (hne:kk≠d) (h0:p6 c0=true) (hl:lk st.ch kk=some (.box cs)) (hc:cs[off]? = some (.s (.slice none 0 0))):dW P cx st (nO d kk off cs c0 st):=fun E U a w hh=>by
 have he:=Ev.freshNil hh.inv d (ke0 ⟨0,0,0,0,p7 c0,true⟩) c0 (fun b hb=>by cases hb.1) (vH h0);have h1:=hh.ghost hd he;have hl1:lk ((d,c0) :: ae [(d,.c .any)] (af st.ch d)) kk=some (.box (cs.map (ah [(d,.c .any)]))):=by
  simp only[lk];rw[qa (fun e=>hne e.symm)];exact lK (by rw[nL hne];exact hl)
 have h2:=Holds.recell (cs':=(cs.map (ah [(d,.c .any)])).set off (.own d)) h1 hl1 (by simp) (fun j c' hj=>by
  rw[zJ]at hj;split at hj
  . rename_i e;subst e;split at hj
    . cases hj;refine⟨.s (.slice none 0 0),by simp[hc,ah],.inr ⟨rfl,rfl,fun v hv=>?_⟩⟩;rw[dK hv];have:=Rep.own (E:=dQ E d (ke0 ⟨0,0,0,0,p7 c0,true⟩)) (U:=U) (h:=w.heap) d;rw[updE_same]at this;exact this
    . cases hj
  . exact⟨c',hj,.inl rfl⟩)
 refine⟨dQ E d (ke0 ⟨0,0,0,0,p7 c0,true⟩),U,?_⟩;have e1:am ((d,c0) :: ae [(d,.c .any)] (af st.ch d)) kk (.box ((cs.map (ah [(d,.c .any)])).set off (.own d)))=(d,c0) :: am (ae [(d,.c .any)] (af st.ch d)) kk (.box ((cs.map (ah [(d,.c .any)])).set off (.own d))):=by
  simp only[am];rw[qa (fun e=>hne e.symm)]
 rw[e1]at h2;exact h2
theorem tc (d kk off:Nat) {cs:List C} {c0:Ch} (hd:d < 100000) (hne:kk≠d) (h0:p6 c0=true) (hl:lk st.ch kk=some (.box cs)) (hc:cs[off]? = some (.s (.slice none 0 0))) (h:SG P cx Q k (nO d kk off cs c0 st)):SG P cx Q k st:=fE (dW.nilcell d kk off hd hne h0 hl hc) h
def absS (kk off t n:Nat) (ty:TypeId) (es:List (List C)) (cs:List C) (s:ASt):ASt:=⟨bq [(t,.c .any),(kk,.inner)] s.t,ae [(t,.c .any),(kk,.inner)] (af (am s.ch kk (.box (cs.set off (.isl n ty es)))) t)⟩
theorem Ev.absorbCell {E:Env} {U:Nat->Prop} {w:World} {ch:Chs} {k t off n:Nat} {ty:TypeId} {es:List (List C)} {cs:List C} (hi:Inv E U w.heap ch) (hl:lk ch k=some (.box cs)) (hlt:lk ch t=some (.row n ty es)) (hc:cs[off]? = some (.own t)) (hkt:k≠t) (d:Nat) :
 ∃ E',Ev E U w ch [(t,.c .any),(k,.inner)] d E' U w (ae [(t,.c .any),(k,.inner)] (af (am ch k (.box (cs.set off (.isl n ty es)))) t)):=by
 have hkm:=dH hl;have htm:=dH hlt;have h2:off < cs.length:=(zi.1 hc).1;obtain⟨⟨hn,arr,tya,b1,b2,b3⟩,hf,hin⟩:=hi.ok k _ hkm;obtain⟨hrow,hft⟩:=hi.ok t _ htm;have hval:arr.getD off undef=slV (E t).toKE0:=by
  rcases b3 off _ hc with⟨r1,_⟩ | ⟨⟨_,_,_,h⟩,_⟩
  . exact eS r1
  . cases h
 have hownk:(E k).fp (E k).blk:=(hf.fp _).2 (.inl ⟨hn,rfl⟩);have hownt:(E t).nil=false->(E t).fp (E t).blk:=fun h=>(hft.fp _).2 (.inl ⟨h,rfl⟩)
 obtain⟨f1,f2⟩:=lh (i:=off) (I':=eK (cs.set off (.isl n ty es))) (y:=(E t).toKE0) hf (fun j hj q hq=>by
  simp only[eK,zJ]at hq ⊢
  rwa[qa (fun e=>hj e.symm)]at hq) (fun b h1 h2 h3=>hi.sep k _ t _ hkm htm hkt b h3 (h2 ▸ hownt h1))
 refine⟨_,Ev.absorb (w1:=w) (xk:=mkK (E k).toKE0 (fun j=>if j=off then (E t).toKE0 else (E k).inn j) (eK (cs.set off (.isl n ty es)))) hi hl hlt hkt rfl rfl rfl (zw _) (fun b _ _ _=>rfl) rfl
  (fun b hb=>by
   rcases f2 b hb with g | g
   . exact .inl g
   . exact .inr (g.2 ▸ hownt g.1)) (fun _=>⟨cs,rfl⟩) (fun hkeep hrep hno=>?_) d⟩
 simp only[ec,dM,kD hno,updE_same];refine⟨⟨hn,arr,tya,b1,by simpa using b2,fun j c hj=>?_⟩,f1,fun j n' t' es' hj=>?_⟩
 . simp only[zh,za]at hj;obtain⟨c1,hj,rfl⟩:=hj;rw[zJ]at hj;split at hj
   . rename_i e;subst e;cases hj;exact .inr ⟨⟨_,_,_,rfl⟩,by rw[hval];simp[mkK]⟩
   . rename_i e;rcases b3 j c1 hj with⟨r1,r2⟩ | ⟨⟨n',t',es',rfl⟩,r2⟩
     . exact .inl ⟨hrep _ _ r1,r2⟩
     . exact .inr ⟨⟨n',t',es',rfl⟩,by rw[r2];simp only[mkK];rw[qa (fun e'=>e e'.symm)]⟩
 . simp only[eK,zJ]at hj;simp only[mkK];split at hj
   . rename_i e;subst e;cases hj;rw[qb rfl];exact hrow.mono hkeep (fun h=>rfl)
   . rename_i e;rw[qa (fun e'=>e e'.symm)];exact (hin j n' t' es' hj).mono hkeep (fun h=>rfl)
theorem dW.absorb (kk off t:Nat) {n:Nat} {ty:TypeId} {es:List (List C)} {cs:List C} (hl:lk st.ch kk=some (.box cs)) (hlt:lk st.ch t=some (.row n ty es)) (hc:cs[off]? = some (.own t)) (hkt:kk≠t):dW P cx st (absS kk off t n ty es cs st):=fun E U a w hh=>by
 obtain⟨E',he⟩:=Ev.absorbCell (d:=0) hh.inv hl hlt hc hkt;exact⟨_,U,hh.ghost (by decide) he⟩
theorem qB (kk off t:Nat) {n:Nat} {ty:TypeId} {es:List (List C)} {cs:List C} (hl:lk st.ch kk=some (.box cs)) (hlt:lk st.ch t=some (.row n ty es)) (hc:cs[off]? = some (.own t)) (hkt:kk≠t) (h:SG P cx Q k (absS kk off t n ty es cs st)):SG P cx Q k st:=fE (dW.absorb kk off t hl hlt hc hkt) h
end Go.Am
end
section
namespace Go.Am
open Dat (cells)
variable {P : Program}
structure MapTy (P:Program) (t k e:TypeId):Prop where
 ht:P.underlying t=some (.map k e)
 hk:P.underlying k=some (.int .i64)
 he:P.underlying e=some (.int .i64)
 hz:∀ w,(zeroValue e).run P w=.ok (.int .i64 0) w
end Go.Am
end
section
namespace Go.Am
open Dat (cells)
variable {P : Program} [Glob P]
section core
variable {cx : Cx} {ops : Array Oper} {aos : List AO} {Q : Exit → Act → World → Prop}
theorem sK {T:(Nat->Bool)->ASt} (hops:ops.size=aos.length) (hm:∀ (j:Nat) o ao,ops[j]? = some o->aos[j]? = some ao->fW P cx.n ops o ao)
 (hlt:∀ (j:Nat) l,(ops.toList.map dL)[j]? = some l->∀ p∈l,p < j)
 (hgo:∀ (S:Nat->Bool) (j:Nat) o ao,ops[j]? = some o->aos[j]? = some ao->S j=false->(∀ p∈dL o,S p=true)->(∀ (i:Nat) l,(ops.toList.map dL)[i]? = some l->S i=true->∀ p∈l,S p=true) ->
  ∃ ef2,StepE P ao (T S) ef2/\dW P cx (aw ao.dst ef2 (T S)) (T (fun i=>i == j || S i)))
 (hend:∀ S:Nat->Bool,(∀ i,i < ops.size->S i=true)->∀ E' U' a' w',Holds P cx E' U' a' w' (T S)->Q .normal a' w') :
 ∀ (fuel:Nat) (listed:Array Bool) (E:Env) (U:Nat->Prop) (a:Act) (w:World),listed.size=ops.size->((List.range ops.size).countP fun i=>!(listed.getD i false))=fuel ->
  (∀ (j:Nat) o,ops[j]? = some o->listed.getD j false=true->∀ p∈dL o,listed.getD p false=true) ->
  Holds P cx E U a w (T (fun i=>listed.getD i false))->wpAnyIn (FW cx.ro) 0 P .any ops Q fuel listed a w:=by
 have atEnd:∀ (listed:Array Bool) (E:Env) (U:Nat->Prop) (a:Act) (w:World),(∀ i,i < ops.size->listed.getD i false=true)->Holds P cx E U a w (T (fun i=>listed.getD i false))->Q .normal a w:=fun listed E U a w hall hh=>hend _ hall E U a w hh
 intro fuel
 induction fuel with
 | zero=>
  intro listed E U a w hls hcnt hcl hh;have hall:∀ i,i < ops.size->listed.getD i false=true:=fun i hi=>by
   have:=yk.1 hcnt i (zE.2 hi);simpa using this
  refine⟨?_,atEnd listed E U a w hall hh⟩;apply yi.2;intro i hi hf;simp only[zm]at hf;have hi':=zE.1 hi;have h1:=hall i hi';have h2:listed.getD i true=listed.getD i false:=by
   have hlt:i < listed.size:=by omega
   simp[zc,zj hlt]
  rw[h2,h1]at hf;simp at hf
 | succ fuel ih=>
  intro listed E U a w hls hcnt hcl hh;have hsome:∃ i,i < ops.size/\listed.getD i false=false:=by
   rcases qh (∃ i,i < ops.size/\listed.getD i false=false)with h | h
   . exact h
   . exfalso
     have:((List.range ops.size).countP fun i=>!(listed.getD i false))=0:=yk.2 (fun i hi=>by
      cases hf:listed.getD i false with
      | true=>simp
      | false=>exact absurd ⟨i,zE.1 hi,hf⟩ h)
     omega
  have hgd:∀ i,i < ops.size->listed.getD i true=listed.getD i false:=fun i hi=>by
   have hlt:i < listed.size:=by omega
   simp[zc,zj hlt]
  refine⟨fun hnil=>?_,fun j hj=>?_⟩
  . exfalso
    obtain⟨i,h1,h2,h3⟩:=jG hsome;have hnot:=yi.1 hnil i (zE.2 h1);apply hnot;obtain⟨o,ho⟩:∃ o,ops[i]? = some o:=⟨_,zj h1⟩;simp only[zm];refine⟨by rw[hgd i h1,h2];rfl,?_⟩;simp only[ho,zU,zN];rw[yn];intro e he;simp only[zV];by_cases hb:Region.binds .any e=true
    . right;have hp:e.on∈dL o:=zu.2 ⟨e,yf.2 ⟨by simpa using he,hb⟩,rfl⟩;exact h3 _ (hlt i (dL o) (by simp[ho]) _ hp)
    . left;simpa using hb
  . have hj2:=yf.1 hj;have hjm:=zE.1 hj2.1;have hjr:=hj2.2;simp only[zm]at hjr;obtain⟨o,ho⟩:∃ o,ops[j]? = some o:=⟨_,zj hjm⟩;obtain⟨ao,hao⟩:∃ ao,aos[j]? = some ao:=⟨_,ze (by omega)⟩;have hSj:listed.getD j false=false:=by
     have:=hjr.1;rw[hgd j hjm]at this;simpa using this
    have hpreds:∀ p∈dL o,listed.getD p false=true:=fun p hp=>by
     obtain⟨e,he,rfl⟩:=zu.1 hp;obtain⟨he1,he2⟩:=yf.1 he;have:=hjr.2;simp only[ho,zU,zN]at this;rw[yn]at this;have:=this e (by simpa using he1);simpa[he2]using this
    have hclS:∀ (i:Nat) l,(ops.toList.map dL)[i]? = some l->listed.getD i false=true->∀ p∈l,listed.getD p false=true:=fun i l hi hs p hp=>by
     simp only[zh,za,zM]at hi;obtain⟨o',ho',rfl⟩:=hi;exact hcl i o' ho' hs p hp
    obtain⟨ef2,hst2,hnext⟩:=hgo (fun i=>listed.getD i false) j o ao ho hao hSj hpreds hclS;have hS':(fun i=>(listed.setIfInBounds j true).getD i false)=fun i=>i == j || listed.getD i false:=by
     funext i
     rw[fO _ _ _ (by omega)]
    have hstep:=oy (Q:=Q) (K:=wpAnyIn (FW cx.ro) 0 P .any ops Q fuel (listed.setIfInBounds j true)) (hm j o ao ho hao) hst2 hh (fun E1 U1 a' w' h1=>by
     obtain⟨E',U',h⟩:=hnext E1 U1 a' w' h1;exact ih (listed.setIfInBounds j true) E' U' a' w' (by simpa using hls)
      (by
       have e:(fun i=>!((listed.setIfInBounds j true).getD i false))=fun i=>!(i == j || listed.getD i false):=by
        funext i;rw[fO _ _ _ (by omega)]
       rw[e];have:=lr (S:=fun i=>listed.getD i false) hjm hSj
       omega)
      (fun i o' ho' hs p hp=>by
       rw[fO _ _ _ (by omega)]at hs ⊢;simp only[zV,beq_iff_eq]at hs ⊢;right;rcases hs with rfl | hs
       . rw[ho]at ho';cases ho';exact hpreds p hp
       . exact hcl i o' ho' hs p hp)
      (by rw[hS'];exact h))
    unfold wpOpIn;rw[ho];rcases hstep with⟨e,h⟩ | ⟨e,h⟩
    . simp only[e,qj];exact h
    . simp only[e,zr,qi];exact⟨fun _ _=>trivial,h⟩
end core
end Go.Am
end
section
namespace Go.Am
open Dat (cells)
variable {P : Program} [Glob P]
variable {cx : Cx} {Q : ASt → Prop} {k : List It} {st : ASt}
theorem mz {rb:List Nat} {os:List AO} {T:(Nat->Bool)->ASt} (h0:LeS st (T fun _=>false))
 (hgo:∀ (S:Nat->Bool) (j:Nat) ao,os[j]? = some ao->S j=false->(∀ c∈rb,c % 100=j->S (c / 100)=true)->lg rb S->∃ ef2,StepE P ao (T S) ef2/\dW P cx (aw ao.dst ef2 (T S)) (T (fun i=>i == j || S i)))
 (hend:∀ S:Nat->Bool,(∀ i,i < os.length->S i=true)->SG P cx Q k (T S)):SG P cx Q (.c (.draw 999 rb os) :: k) st:=eW fun code hc E U a w hh=>by
 obtain⟨id,ops,rfl⟩:∃ id ops,code=.region id ops true:=by
  cases code with
  | region id ops draw=>
   cases draw with
   | false=>simp[d8]at hc
   | true=>exact⟨id,ops,rfl⟩
  |_=>simp[d8]at hc
 simp only[d8,zk]at hc;obtain⟨r,h3,h4⟩:=hc;split at h4
 . rename_i hok;simp only[zn,AC.draw.injEq,true_and]at h4;subst h4;obtain⟨g1,g2⟩:=iz h3;have g2':∀ (j:Nat) o ao,ops[j]? = some o->r[j]? = some ao->fW P cx.n ops o ao:=fun j o ao ho ha=>g2 j o ao (by simpa using ho) ha
   simp only[zm]at hok;obtain⟨hok1,hmix⟩:=hok;simp only[lW,qj,zm]at hok1;obtain⟨ok1,ok2⟩:=hok1;have hlt:∀ (j:Nat) l,(ops.toList.map dL)[j]? = some l->∀ p∈l,p < j:=fun j l hj p hp=>by
    have hz:(l,j)∈(ops.toList.map dL).zipIdx:=by
     rw[zG];exact hj
    have:=zx.1 ok1 (l,j) hz;simpa using zx.1 this p hp
   have hbit:∀ c∈rb,c % 100 < ops.size/\((iX (ops.toList.map dL) []).getD (c % 100) 0).testBit (c / 100)=true:=fun c hc=>by
    have:=zx.1 ok2 c hc;simpa using this
   have hcl:∀ S:Nat->Bool,(∀ (i:Nat) l,(ops.toList.map dL)[i]? = some l->S i=true->∀ p∈l,S p=true)->lg rb S:=fun S hS c hc hs=>by
    obtain⟨b1,b2⟩:=hbit c hc;obtain⟨o',ho'⟩:∃ o',ops[c % 100]? = some o':=⟨_,zj b1⟩;exact gE hS hlt (ops.toList.map dL) [] (by simp) (fun j i h=>by simp at h) (c % 100) (c / 100) b2 (dL o') (by simp[ho']) (hS (c % 100) (dL o') (by simp[ho']) hs)
   refine wpIn_region_any hmix (sK (T:=T) (by simpa using g1.symm) g2' hlt (fun S j o ao ho hao hSj hpreds hclS=>hgo S j ao hao hSj (fun c hc hcj=>?_) (hcl S hclS)) (fun S hS E' U' a' w' h=>hend S (fun i hi=>hS i (by have:=g1;simp at this;omega)) E' U' a' w' h) ops.size _ E U a _ (by simp) ?_ (fun j o ho hs=>?_) ?_)
   . obtain⟨b1,b2⟩:=hbit c hc;rw[hcj]at b2;exact gE hclS hlt (ops.toList.map dL) [] (by simp) (fun j i h=>by simp at h) j (c / 100) b2 (dL o) (by simp[ho]) hpreds
   . have:((List.range ops.size).countP fun i=>!((Array.replicate ops.size false).getD i false))=(List.range ops.size).length:=List.countP_eq_length.2 (fun i hi=>by
      have:=zE.1 hi
      simp[zc,this])
     simpa using this
   . exfalso
     by_cases h:j < ops.size <;> simp[zc,h]at hs
   . have e0:(fun i=>(Array.replicate ops.size false).getD i false)=fun _=>false:=by
      funext i
      by_cases h:i < ops.size <;> simp[zc,h]
     rw[e0];have hh:=hh.le h0;exact⟨hh.sz,hh.df,hh.tok,hh.inv,hh.os,hh.tape,hh.output,hh.size,hh.fr,hh.keepA,hh.live,hh.base,hh.fix,hh.hid,hh.gok⟩
 . cases h4
theorem dW.of_le {s s':ASt} (h:LeS s s'):dW P cx s s':=fun E U _ _ hh=>⟨E,U,hh.le h⟩
theorem dW.fzle {s s':ASt} (ks:List Nat) (h:LeS (cd ks s) s'):dW P cx s s':=fun E U _ _ hh=>by
 obtain⟨U',h2⟩:=hh.fz ks;exact⟨E,U',h2.le h⟩
end Go.Am
end
section
namespace Go.Am
open Dat (cells)
variable {P : Program} [Glob P] {cx : Cx} {Q : ASt → Prop} {k : List It} {st : ASt}
def isSt : AOp->Bool
 |.store _ _ _ _=>true
 |_=>false
def gy (i:Nat):List AO->List Nat
 |[]=>[]
 | o :: os=>if isSt o.op=true then i :: gy (i+1) os else gy (i+1) os
def pZ (os:List AO):Bool:=(os.filterMap (·.dst)).Nodup
def uw (rb:List Nat) (os:List AO):Bool:=os.zipIdx.all fun (o,j)=>o.guard.isNone && (eL o.op.reads).all fun x=>os.zipIdx.all fun (q,i)=>q.dst != some x || rb.contains (100*i+j)
def fQ (rb:List Nat):List Nat->Bool
 | e :: e' :: l=>rb.contains (100*e+e') && (decide (e < e') && fQ rb (e' :: l))
 |_=>true
def chkM (rb:List Nat) (os:List AO):Bool:=pZ os && (uw rb os && (fQ rb (gy 0 os) && decide (os.length<=100)))
def ge (S:Nat->Bool) (t:dJ):Nat->List AO->List C->dJ
 | i,o :: os,v :: vs=>match o.dst with | some d=>(d,if S i=true then v else .any) :: ge S t (i+1) os vs | none=>ge S t (i+1) os vs
 |_,_,_=>t
def gJ (t:dJ):List AO->List C->dJ
 | o :: os,v :: vs=>match o.dst with | some d=>(d,v) :: gJ t os vs | none=>gJ t os vs
 |_,_=>t
theorem mP (t:dJ) (S:Nat->Bool):∀ (os:List AO) (vs:List C) (i:Nat),(∀ j,j < os.length->S (i+j)=true)->ge S t i os vs=gJ t os vs
 |[],_,_,_=>by simp[ge,gJ]
 |_ :: _,[],_,_=>by simp[ge,gJ]
 | o :: os,v :: vs,i,h=>by
  have ih:=mP t S os vs (i+1) (fun j hj=>by rw[show i+1+j=i+(j+1) by omega];exact h (j+1) (by simpa using hj));have h0:=h 0 (by simp);rw[zL]at h0;cases hd:o.dst <;> simp[ge,gJ,hd,h0,ih]
theorem ii (t:dJ) (S:Nat->Bool) (x:Nat):∀ (os:List AO) (vs:List C) (i:Nat),os.length=vs.length->(os.filterMap (·.dst)).Nodup ->
 (∃ j o v,os[j]? = some o/\vs[j]? = some v/\o.dst=some x/\gt (ge S t i os vs) x=if S (i+j)=true then v else .any)\/((∀ o∈os,o.dst≠some x)/\gt (ge S t i os vs) x=gt t x)
 |[],[],i,_,_=>.inr ⟨by simp,by simp[ge]⟩
 | o :: os,v :: vs,i,hl,hn=>by
  have hn':(os.filterMap (·.dst)).Nodup:=by
   cases hd:o.dst with
   | none=>simpa[hd]using hn
   | some d=>simp[hd]at hn;exact hn.2
  by_cases hd:o.dst=some x
  . exact .inl ⟨0,o,v,rfl,rfl,hd,by simp[ge,hd,gt,lk]⟩
  . have e:gt (ge S t i (o :: os) (v :: vs)) x=gt (ge S t (i+1) os vs) x:=by
     cases hd2:o.dst with
     | none=>simp[ge,hd2]
     | some d=>
      have hne:d≠x:=fun e=>hd (by rw[hd2,e])
      simp[ge,hd2,gt,lk,hne]
    rcases ii t S x os vs (i+1) (by simpa using hl) hn' with⟨j,o',v',h1,h2,h3,h4⟩ | ⟨h1,h2⟩
    . exact .inl ⟨j+1,o',v',by simpa using h1,by simpa using h2,h3,by rw[e,h4,show i+1+j=i+(j+1) by omega]⟩
    . refine .inr ⟨fun q hq=>?_,by rw[e,h2]⟩;rcases zl.1 hq with rfl | hq
      . exact hd
      . exact h1 q hq
def fw (S:Nat->Bool):List (Nat×Chs)->Chs->Chs
 |[],h=>h
 | (e,h1) :: l,h=>if S e=true then fw S l h1 else h
def gA : List (Nat×Chs)->Chs->Chs
 |[],h=>h
 | (_,h1) :: l,_=>gA l h1
def gQ (rb:List Nat) (j:Nat):List (Nat×Chs)->Chs->(Chs->Prop)->Prop
 |[],h,K=>K h
 | (e,h1) :: l,h,K=>if e=j then K h else (if av rb (100*e+j)=true then True else K h)/\(if av rb (100*j+e)=true then True else gQ rb j l h1 K)
def ic (j:Nat):List (Nat×Chs)->Chs->Chs
 |[],h=>h
 | (e,h1) :: l,h=>if e=j then h1 else ic j l h
def reM (P:Program) [Glob P] (L:List (Ent P)) (t:dJ) (h h':Chs) (o:AO) (v:C):Option Eff->Prop
 | some e2=>e2.cond/\e2.v=v/\e2.ch=h'/\e2.sub=[]
 | none=>match aE L (aq P t) h (o.dst.getD 0) o.op with
  |.cal (.eff e2)=>e2.cond/\e2.v=v/\e2.ch=h'/\e2.sub=[]
  |_=>False
def kU (P:Program) [Glob P] (L:List (Ent P)) (rb:List Nat) (t:dJ) (E:List (Nat×Chs)) (h0:Chs):Nat->List AO->List C->Prop
 | j,o :: os,v :: vs=>gQ rb j E h0 (fun h=>reM P L t h (ic j E h) o v (ai (aq P t) h (o.dst.getD 0) o.op))/\kU P L rb t E h0 (j+1) os vs
 |_,[],[]=>True
 |_,_,_=>False
def ndE : List (Nat×Chs)->Prop
 |[]=>True
 | (_,h) :: l=>ap (ag h)/\ndE l
theorem iN : ∀ {l:List Nat} {x:Nat},av l x=true↔x∈l
 |[],x=>by simp[av]
 | y :: l,x=>by
  simp only[av];by_cases h:y=x
  . simp[h]
  . rw[qa h,iN,zl];exact⟨.inr,fun q=>q.resolve_left fun e=>h e.symm⟩
theorem m9 {rb:List Nat} {S:Nat->Bool} {j:Nat} {K:Chs->Prop} (hj:S j=false) (hp:∀ c∈rb,c % 100=j->S (c / 100)=true) (hs:lg rb S) (hj1:j < 100):∀ {E:List (Nat×Chs)} {h:Chs},(∀ q∈E,q.1 < 100)->gQ rb j E h K->K (fw S E h)
 |[],h,_,hc=>hc
 | (e,h1) :: l,h,hE,hc=>by
  have he:e < 100:=hE (e,h1) zq;simp only[gQ]at hc;simp only[fw];by_cases hej:e=j
  . subst hej;rw[qb rfl]at hc;rw[qa (by rw[hj];simp)];exact hc
  rw[qa hej]at hc;by_cases hse:S e=true
  . rw[qb hse];have hno:¬ av rb (100*j+e)=true:=fun hm=>by
     have:=hs _ (iN.1 hm);rw[show (100*j+e) % 100=e by omega,show (100*j+e) / 100=j by omega]at this;rw[this hse]at hj;cases hj
    rw[qa hno]at hc;exact m9 hj hp hs hj1 (fun q hq=>hE q (zo _ hq)) hc.2
  . rw[qa hse];have hno:¬ av rb (100*e+j)=true:=fun hm=>by
     have:=hp _ (iN.1 hm) (by omega);rw[show (100*e+j) / 100=e by omega]at this;exact hse this
    rw[qa hno]at hc;exact hc.1
theorem rZ {S:Nat->Bool} {E:List (Nat×Chs)} {h:Chs} (hE:∀ q,E.head? = some q->S q.1=false):fw S E h=h:=by
 cases E with
 | nil=>rfl
 | cons q l=>
  obtain⟨e,h1⟩:=q;simp only[fw];rw[qa (by rw[hE (e,h1) rfl];simp)]
theorem qN {rb:List Nat} {S:Nat->Bool} {j:Nat} (hj:S j=false) (hp:∀ c∈rb,c % 100=j->S (c / 100)=true) (hs:lg rb S):∀ {E:List (Nat×Chs)} {h:Chs},(∀ q∈E,q.1 < 100)->fQ rb (E.map (·.1))=true->(∀ q∈E,q.1 < j->S q.1=true)->fw (fun i=>i == j || S i) E h=ic j E (fw S E h)
 |[],h,_,_,_=>rfl
 | (e,h1) :: l,h,hE,ho,hb=>by
  have he:e < 100:=hE (e,h1) zq;have ho':fQ rb (l.map (·.1))=true:=by
   cases l with
   | nil=>rfl
   | cons q l=>
    simp only[zt,fQ,zm]at ho;exact ho.2.2
  simp only[fw,ic];by_cases hej:e=j
  . subst hej;rw[qb (by simp),qb rfl];refine rZ (fun q hq=>?_);cases l with
    | nil=>cases hq
    | cons q' l=>
     cases hq;simp only[zt,fQ,zm,qf]at ho;have hq1:=hE q (by simp);have hne:¬ q.1=e:=by omega
     cases hsq:S q.1 with
     | false=>simp[hne]
     | true=>
      have hm:=ho.1;simp only[List.contains_iff_mem]at hm;have:=hs _ hm;rw[show (100*e+q.1) % 100=q.1 by omega,show (100*e+q.1) / 100=e by omega]at this;rw[this hsq]at hj;cases hj
  . have hb1:(e == j)=false:=by simpa using hej
    simp only[hb1,zF];rw[qa hej];by_cases hse:S e=true
    . rw[qb hse,qb hse];exact qN hj hp hs (fun q hq=>hE q (zo _ hq)) ho' (fun q hq=>hb q (zo _ hq))
    . rw[qa hse,qa hse];have hlt:¬ e < j:=fun h=>hse (hb (e,h1) zq h)
      have key:∀ (E:List (Nat×Chs)) (e:Nat),fQ rb (e :: E.map (·.1))=true->j < e->∀ h,ic j E h=h:=by
       intro E
       induction E with
       | nil=>intros;rfl
       | cons q E ih=>
        intro e ho hlt h;simp only[zt,fQ,zm,qf]at ho;obtain⟨q1,q2⟩:=q;simp only at ho;simp only[ic];rw[qa (by omega)];exact ih q1 ho.2.2 (by omega) h
      exact (key l e ho (by omega) h).symm
theorem qK {S:Nat->Bool}:∀ {E:List (Nat×Chs)} {h:Chs},(∀ q∈E,S q.1=true)->fw S E h=gA E h
 |[],h,_=>rfl
 | (e,h1) :: l,h,hE=>by
  simp only[fw,gA];rw[qb (hE (e,h1) zq)];exact qK fun q hq=>hE q (zo _ hq)
theorem qL {S:Nat->Bool}:∀ {E:List (Nat×Chs)} {h:Chs},fw S E h=h\/∃ q∈E,fw S E h=q.2
 |[],h=>.inl rfl
 | (e,h1) :: l,h=>by
  simp only[fw];split
  . rcases qL (S:=S) (E:=l) (h:=h1)with q | ⟨q,hq,e'⟩
    . exact .inr ⟨(e,h1),zq,q⟩
    . exact .inr ⟨q,zo _ hq,e'⟩
  . exact .inl rfl
theorem sk : ∀ {E:List (Nat×Chs)},ndE E->∀ q∈E,(q.2.map (·.1)).Nodup
 |[],_,q,h=>by cases h
 | (e,h1) :: l,hn,q,h=>by
  rcases zl.1 h with rfl | h
  . rw[<- dT];exact dY hn.1
  . exact sk hn.2 q h
theorem so {L:List (Ent P)} {rb:List Nat} {t:dJ} {E:List (Nat×Chs)} {h0:Chs}:∀ {os:List AO} {vs:List C} {i:Nat},kU P L rb t E h0 i os vs->os.length=vs.length/\∀ (j:Nat) o,os[j]? = some o->∃ v,vs[j]? = some v/\gQ rb (i+j) E h0 (fun h=>reM P L t h (ic (i+j) E h) o v (ai (aq P t) h (o.dst.getD 0) o.op))
 |[],[],i,_=>⟨rfl,fun j o h=>by simp at h⟩
 | o :: os,v :: vs,i,h=>by
  obtain⟨h1,h2⟩:=h;obtain⟨g1,g2⟩:=so h2;refine⟨by simp[g1],fun j q hq=>?_⟩;cases j with
  | zero=>
   simp only[zD,zn]at hq;subst hq;exact⟨v,rfl,h1⟩
  | succ j=>
   obtain⟨v',e1,e2⟩:=g2 j q (by simpa using hq);exact⟨v',by simpa using e1,by rw[show i+(j+1)=i+1+j by omega];exact e2⟩
 |[],_ :: _,_,h=>by cases h
 |_ :: _,[],_,h=>by cases h
theorem lc : ∀ {os:List AO} {i e:Nat},e∈gy i os->i<=e/\e < i+os.length
 |[],i,e,h=>by cases h
 | o :: os,i,e,h=>by
  simp only[gy]at h;split at h
  . rcases zl.1 h with rfl | h
    . simp
    . have:=lc h;simp;omega
  . have:=lc h;simp;omega
theorem vR {L:List (Ent P)} {t:dJ} {h h':Chs} {o:AO} {v:C} (hg:o.guard=none) (hr:reM P L t h h' o v (ai (aq P t) h (o.dst.getD 0) o.op)):∃ ef2,StepE P o ⟨t,h⟩ ef2/\ef2.v=v/\ef2.ch=h'/\ef2.sub=[]:=by
 cases hq:ai (aq P t) h (o.dst.getD 0) o.op with
 | some e2=>
  rw[hq]at hr;obtain⟨h2,h3,h4,h5⟩:=hr;exact⟨e2,.yes e2 (by rw[hg];rfl) (.f hq h2),h3,h4,h5⟩
 | none=>
  rw[hq]at hr;simp only[reM]at hr;split at hr
  . rename_i e2 hm;obtain⟨h2,h3,h4,h5⟩:=hr;have hop:OpR P (aq P t) h (o.dst.getD 0) o.op ⟨True,e2.v,e2.ch,e2.sub⟩:=jh hm h2;exact⟨⟨True,e2.v,e2.ch,e2.sub⟩,.yes _ (by rw[hg];rfl) hop,h3,h4,h5⟩
  . cases hr
theorem gF {os:List AO} (h:(os.filterMap (·.dst)).Nodup):∀ (i j:Nat),i < j->∀ (o q:AO) (x:Nat),os[i]? = some o->os[j]? = some q->o.dst=some x->q.dst=some x->False:=by
 induction os with
 | nil=>intro i j _ o q x h1;simp at h1
 | cons a os ih=>
  intro i j hij o q x h1 h2 h3 h4;have hn':(os.filterMap (·.dst)).Nodup:=by
   cases hd:a.dst with
   | none=>simpa[hd]using h
   | some d=>simp[hd]at h;exact h.2
  cases j with
  | zero=>omega
  | succ j=>
   cases i with
   | zero=>
    simp only[zD,zn]at h1;subst h1;simp only[yp]at h2;rw[List.filterMap_cons,h3]at h;exact (zI.1 h).1 (List.mem_filterMap.2 ⟨q,zp h2,h4⟩)
   | succ i=>exact ih hn' i j (by omega) o q x (by simpa using h1) (by simpa using h2) h3 h4
theorem qM {S:Nat->Bool} {j:Nat}:∀ {E:List (Nat×Chs)} {h:Chs},j∉E.map (·.1)->fw (fun i=>i == j || S i) E h=fw S E h
 |[],h,_=>rfl
 | (e,h1) :: l,h,hn=>by
  simp only[zt,zl,not_or]at hn;have hb:(e == j)=false:=by simp;exact fun q=>hn.1 q.symm
  simp only[fw,hb,zF];split
  . exact qM hn.2
  . rfl
theorem sw {j:Nat}:∀ {E:List (Nat×Chs)} {h:Chs},j∉E.map (·.1)->ic j E h=h
 |[],h,_=>rfl
 | (e,h1) :: l,h,hn=>by
  simp only[zt,zl,not_or]at hn;simp only[ic];rw[qa (fun q=>hn.1 q.symm)];exact sw hn.2
theorem kV {rb:List Nat} {S:Nat->Bool} {j:Nat} (hp:∀ c∈rb,c % 100=j->S (c / 100)=true) (hs:lg rb S) (hj:j < 100):∀ {l:List Nat},(∀ e∈l,e < 100)->fQ rb l=true->j∈l->∀ e∈l,e < j->S e=true
 |[],_,_,h,_,_,_=>by cases h
 |[a],_,_,h,e,he,hlt=>by
  simp only[zg]at h he;omega
 | a :: b :: l,h100,ho,h,e,he,hlt=>by
  simp only[fQ,zm,qf,List.contains_iff_mem]at ho;obtain⟨o1,o2,o3⟩:=ho;have hab:S b=true->S a=true:=fun hb=>by
   have:=hs _ o1;have ha:=h100 a (by simp);have hb1:=h100 b (by simp);rw[show (100*a+b) % 100=b by omega,show (100*a+b) / 100=a by omega]at this;exact this hb
  have asc:∀ (l:List Nat) (x:Nat),fQ rb (x :: l)=true->∀ y∈l,x < y:=by
   intro l
   induction l with
   | nil=>intro x _ y hy;cases hy
   | cons z l ih=>
    intro x ho y hy;simp only[fQ,zm,qf]at ho;rcases zl.1 hy with rfl | hy
    . exact ho.2.1
    . have:=ih z ho.2.2 y hy;omega
  have hja:j≠a->j∈b :: l:=fun hne=>(zl.1 h).resolve_left hne
  rcases zl.1 he with rfl | he
  . have hjb:=hja (by omega);by_cases hbj:b=j
    . subst hbj;have:=hp _ o1 (by omega);rwa[show (100*e+b) / 100=e by omega]at this
    . have hlt2:b < j:=by
       rcases zl.1 hjb with q | q
       . exact absurd q.symm hbj
       . exact asc l b o3 j q
      exact hab (kV hp hs hj (fun x hx=>h100 x (zo _ hx)) o3 hjb b zq hlt2)
  . have hjb:j∈b :: l:=hja (by
     have h1:=asc (b :: l) a (by simp only[fQ,zm,qf,List.contains_iff_mem];exact⟨o1,o2,o3⟩) e he
     omega)
    exact kV hp hs hj (fun x hx=>h100 x (zo _ hx)) o3 hjb e he hlt
theorem vO {rb:List Nat} {S:Nat->Bool} {j:Nat} {E:List (Nat×Chs)} {os:List AO} (ho:fQ rb (gy 0 os)=true) (hE:E.map (·.1)=gy 0 os) (hs:lg rb S) (hp:∀ c∈rb,c % 100=j->S (c / 100)=true) (_:S j=false) {q:Nat×Chs} (hq:q∈E) (hlt:q.1 < j)
 (hjE:j∈E.map (·.1)) (h100:∀ q∈E,q.1 < 100):S q.1=true:=by
 have hj:j < 100:=by
  obtain⟨q',hq',rfl⟩:=zu.1 hjE;exact h100 q' hq'
 refine kV hp hs hj (l:=E.map (·.1)) (fun e he=>?_) (by rw[hE];exact ho) hjE q.1 (zu.2 ⟨q,hq,rfl⟩) hlt;obtain⟨q',hq',rfl⟩:=zu.1 he;exact h100 q' hq'
theorem S_multi {rb:List Nat} {os:List AO} {L:List (Ent P)} {vs:List C} {E:List (Nat×Chs)} (hchk:chkM rb os=true) (hE:E.map (·.1)=gy 0 os) (hn0:ap (ag st.ch)) (hnd:ndE E)
 (hops:kU P L rb (gJ st.t os vs) E st.ch 0 os vs) (hend:SG P cx Q k ⟨gJ st.t os vs,gA E st.ch⟩):SG P cx Q (.c (.draw 999 rb os) :: k) st:=by
 simp only[chkM,zm,qf]at hchk;obtain⟨k1,k2,k3,k4⟩:=hchk;have k1:(os.filterMap (·.dst)).Nodup:=by simpa[pZ]using k1
 obtain⟨l1,l2⟩:=so hops;have hE100:∀ q∈E,q.1 < 100:=fun q hq=>by
  have:q.1∈gy 0 os:=by rw[<- hE];exact zu.2 ⟨q,hq,rfl⟩
  have:=lc this;omega
 have hread:∀ (j:Nat) o,os[j]? = some o->o.guard=none/\∀ x∈eL o.op.reads,∀ (i:Nat) q,os[i]? = some q->q.dst=some x->100*i+j∈rb:=fun j o ho=>by
  have h1:=zx.1 k2 (o,j) (by rw[zG];exact ho);simp only[zm,Option.isNone_iff_eq_none]at h1;refine⟨h1.1,fun x hx i q hq hd=>?_⟩;have h2:=zx.1 h1.2 x hx;have h3:=zx.1 h2 (q,i) (by rw[zG];exact hq);simp only[hd,bne_self_eq_false,zF]at h3;simpa using h3
 have hndc:∀ S,((fw S E st.ch).map (·.1)).Nodup:=fun S=>by
  rcases qL (S:=S) (E:=E) (h:=st.ch)with h | ⟨q,hq,h⟩
  . rw[h,<- dT];exact dY hn0
  . rw[h];exact sk hnd q hq
 refine mz (T:=fun S=>⟨ge S st.t 0 os vs,fw S E st.ch⟩) ⟨fun x=>?_,hndc _,fun p hp=>?_⟩ (fun S j ao hj hSj hp hs=>?_) (fun S hS=>?_)
 . show gt (ge (fun _=>false) st.t 0 os vs) x=.any\/_
   rcases ii st.t (fun _=>false) x os vs 0 l1 k1 with⟨j,o,v,_,_,_,h⟩ | ⟨_,h⟩
   . exact .inl h
   . exact .inr h.symm
 . have e0:fw (fun _=>false) E st.ch=st.ch:=rZ (fun q _=>rfl);have hp':p∈fw (fun _=>false) E st.ch:=hp;rw[e0]at hp';exact eR (by rw[<- dT];exact dY hn0) hp'
 . have hjl:j < os.length:=(zi.1 hj).1;obtain⟨hg,hrd⟩:=hread j ao hj;obtain⟨v,hv,hc⟩:=l2 j ao hj;rw[zz]at hc;have hre:=m9 hSj hp hs (by omega) hE100 hc;obtain⟨ef2,s1,s2,s3,s4⟩:=vR hg hre;have hslots:∀ x∈ao.slots,gt (gJ st.t os vs) x=gt (ge S st.t 0 os vs) x:=fun x hx=>by
    have hx2:x∈eL ao.op.reads:=by
     simp only[AO.slots,hg,z4]at hx;exact iY hx
    rw[<- mP st.t (fun _=>true) os vs 0 (fun _ _=>rfl)];rcases ii st.t S x os vs 0 l1 k1 with⟨i,o,w,a1,a2,a3,a4⟩ | ⟨a1,a2⟩
    . have hcd:=hrd x hx2 i o a1 a3;have hSi:=hp _ hcd (by omega);rw[show (100*i+j) / 100=i by omega]at hSi;rw[zz,qb hSi]at a4;rw[a4];rcases ii st.t (fun _=>true) x os vs 0 l1 k1 with⟨i',o',w',b1,b2,b3,b4⟩ | ⟨b1,_⟩
      . rw[b4,qb rfl];have hii:i'=i:=by
         rcases yr i i' with h | h | h
         . exfalso
           exact (gF k1) i i' h o o' x a1 b1 a3 b3
         . exact h.symm
         . exfalso
           exact (gF k1) i' i h o' o x b1 a1 b3 a3
        subst hii;rw[a2]at b2;cases b2;rfl
      . exact absurd a3 (b1 o (zp a1))
    . rw[a2];rcases ii st.t (fun _=>true) x os vs 0 l1 k1 with⟨i',o',w',b1,b2,b3,b4⟩ | ⟨_,b2⟩
      . exact absurd b3 (a1 o' (zp b1))
      . exact b2
   refine⟨ef2,s1.congr hslots rfl,.of_le ⟨fun x=>?_,hndc _,fun p hp'=>?_⟩⟩
   . show gt (ge (fun i=>i == j || S i) st.t 0 os vs) x=.any\/gt (aU ao.dst ef2.sub ef2.v (ge S st.t 0 os vs)) x=_
     rw[s4,s2,fm,eC];right;rcases ii st.t (fun i=>i == j || S i) x os vs 0 l1 k1 with⟨i,o,w,a1,a2,a3,a4⟩ | ⟨a1,a2⟩
     . rw[zz]at a4;by_cases hij:i=j
       . subst hij;rw[hj]at a1;cases a1;rw[hv]at a2;cases a2;rw[a4,qb a3];simp
       . have hne:ao.dst≠some x:=fun e=>by
          rcases Nat.lt_or_gt_of_ne hij with h | h
          . exact (gF k1) i j h o ao x a1 hj a3 e
          . exact (gF k1) j i h ao o x hj a1 e a3
         rw[qa hne,a4];have hb:(i == j)=false:=by simpa using hij
         simp only[hb,zF];rcases ii st.t S x os vs 0 l1 k1 with⟨i',o',w',b1,b2,b3,b4⟩ | ⟨b1,_⟩
         . rw[b4,zz];have hii:i'=i:=by
            rcases yr i i' with h | h | h
            . exact absurd b3 (fun h3=>(gF k1) i i' h o o' x a1 b1 a3 h3)
            . exact h.symm
            . exact absurd b3 (fun h3=>(gF k1) i' i h o' o x b1 a1 h3 a3)
           subst hii;rw[a2]at b2;cases b2;rfl
         . exact absurd a3 (b1 o (zp a1))
     . have hne:ao.dst≠some x:=a1 ao (zp hj);rw[qa hne,a2];rcases ii st.t S x os vs 0 l1 k1 with⟨i',o',w',b1,b2,b3,b4⟩ | ⟨_,b2⟩
       . exact absurd b3 (a1 o' (zp b1))
       . exact b2
   . have hb:∀ q∈E,q.1 < j->S q.1=true\/¬ (j∈E.map (·.1)):=fun q hq hlt=>by
      by_cases hjE:j∈E.map (·.1)
      . left;have:100*q.1+j∈rb\/True:=.inr trivial;exact vO k3 hE hs hp hSj hq hlt hjE hE100
      . exact .inr hjE
     have hch:fw (fun i=>i == j || S i) E st.ch=ic j E (fw S E st.ch):=by
      by_cases hjE:j∈E.map (·.1)
      . exact qN hSj hp hs hE100 (by rw[hE];exact k3) (fun q hq hlt=>(hb q hq hlt).resolve_right (fun h=>h hjE))
      . exact (qM hjE).trans (sw hjE).symm
     show lk ef2.ch p.1=some p.2
     rw[s3,<- hch];exact eR (hndc _) hp'
 . have e1:ge S st.t 0 os vs=gJ st.t os vs:=mP st.t S os vs 0 (fun j hj=>by rw[zz];exact hS j hj)
   have e2:fw S E st.ch=gA E st.ch:=qK (fun q hq=>hS q.1 (by
    have:q.1∈gy 0 os:=by rw[<- hE];exact zu.2 ⟨q,hq,rfl⟩
    have:=lc this
    omega))
   simp only[e1,e2];exact hend
def j6 (op:AOp) (j:Nat) (h:Chs) (E:List (Nat×Chs)):List (Nat×Chs):=
 match op with
 |.store _ _ _ _=>E++[(j,h)]
 |_=>E
def mFin (P:Program) [Glob P] (L:List (Ent P)) (cx:Cx) (Q:ASt->Prop) (k:List It) (rb:List Nat) (all:List AO) (s0:ASt) (vs:List C) (E:List (Nat×Chs)):Prop:=
 ap (ag s0.ch)/\ndE E/\kU P L rb (gJ s0.t all vs) E s0.ch 0 all vs/\SG P cx Q k ⟨gJ s0.t all vs,gA E s0.ch⟩
def drM (P:Program) [Glob P] (L:List (Ent P)) (cx:Cx) (Q:ASt->Prop) (k:List It) (rb:List Nat) (all:List AO) (s0:ASt):Nat->Md->List AO->ASt->Nat->List C->List (Nat×Chs)->Prop
 |_+1,.run,[],_,_,vs,E=>mFin P L cx Q k rb all s0 vs E
 | n+1,.run,⟨dst,none,op,tot⟩ :: os,s,j,vs,E=>drM P L cx Q k rb all s0 n (.eff (ai (aq P s.t) s.ch (dst.getD 0) op)) (⟨dst,none,op,tot⟩ :: os) s j vs E
 | n+1,.eff (some ef),⟨dst,none,op,_⟩ :: os,s,j,vs,E=>drM P L cx Q k rb all s0 n .run os ⟨aU dst [] ef.v s.t,ef.ch⟩ (j+1) (vs++[ef.v]) (j6 op j ef.ch E)
 | n+1,.eff none,⟨dst,none,op,tot⟩ :: os,s,j,vs,E=>drM P L cx Q k rb all s0 n (aE L (aq P s.t) s.ch (dst.getD 0) op) (⟨dst,none,op,tot⟩ :: os) s j vs E
 | n+1,.cal (.eff ef),⟨dst,none,op,_⟩ :: os,s,j,vs,E=>drM P L cx Q k rb all s0 n .run os ⟨aU dst [] ef.v s.t,ef.ch⟩ (j+1) (vs++[ef.v]) (j6 op j ef.ch E)
 |_,_,_,_,_,_,_=>False
theorem addE_ix {op:AOp} {j:Nat} {h:Chs} {E:List (Nat×Chs)}:(j6 op j h E).map (·.1)=E.map (·.1)++if isSt op=true then [j]else []:=by
 cases op <;> simp[j6,isSt]
theorem tC {L:List (Ent P)} {rb:List Nat} {all:List AO} {s0:ASt} (hchk:chkM rb all=true):∀ (n:Nat) (m:Md) (os:List AO) (s:ASt) (j:Nat) (vs:List C) (E:List (Nat×Chs)),
 E.map (·.1)++gy j os=gy 0 all->drM P L cx Q k rb all s0 n m os s j vs E->SG P cx Q (.c (.draw 999 rb all) :: k) s0:=by
 intro n
 induction n with
 | zero=>intro m os s j vs E _ h;simp[drM]at h
 | succ n ih=>
  intro m os s j vs E hE h;have next:∀ (ef:Eff) (o:AO) (os:List AO),E.map (·.1)++gy j (o :: os)=gy 0 all->(j6 o.op j ef.ch E).map (·.1)++gy (j+1) os=gy 0 all:=fun ef o os h=>by
   rw[addE_ix,<- h,gy,ye];cases hq:isSt o.op <;> simp[hq]
  cases os with
  | nil=>
   cases m <;> simp only[drM]at h;obtain⟨h1,h2,h3,h4⟩:=h;exact S_multi hchk (by simpa[gy]using hE) h1 h2 h3 h4
  | cons o os=>
   obtain⟨dst,g,op,tot⟩:=o;cases g with
   | some g=>cases m <;> simp[drM]at h
   | none=>
    cases m with
    | run=>simp only[drM]at h;exact ih _ _ _ _ _ _ hE h
    | eff o=>
     cases o with
     | none=>simp only[drM]at h;exact ih _ _ _ _ _ _ hE h
     | some ef=>simp only[drM]at h;exact ih _ _ _ _ _ _ (next ef _ os hE) h
    | cal r=>
     cases r with
     | eff ef=>simp only[drM]at h;exact ih _ _ _ _ _ _ (next ef _ os hE) h
     |_=>simp[drM]at h
    |_=>simp[drM]at h
theorem kh {rb:List Nat} {os:List AO} (L:List (Ent P)) (n:Nat) (h:drM P L cx Q k rb os st n .run os st 0 [] []) (hchk:chkM rb os=true:=by rfl):SG P cx Q (.c (.draw 999 rb os) :: k) st:=
 tC hchk n .run os st 0 [] [] rfl h
end Go.Am
end
section
namespace Go.Am
open Dat (cells)
variable {P : Program} [Glob P] {ro : Option Nat} {ρ : Operand → C} {ch : Chs} {d : Nat}
theorem OpM.calls {f:FuncId} {fo:Operand} {aS:List Operand} {r:C} {ch':Chs} {m:List (Nat×Sb)} (hf:FnOk P f) (hfo:ρ fo=.fn (.func f) [] [])
 (h:∀ (E:Env) (U:Nat->Prop) (w:World) (vs:Array Value),Inv E U w.heap ch->eT P U w.heap->jo E U w.heap (aS.map ρ) vs->Calls P f vs w fun e w'=>∃ v E' U',e=.returned v/\Rep E' U' w'.heap r v/\Ev E U w ch m d E' U' w' ch') :
 OpM P ro ρ ch d (.call fo aS) (fun ef=>ef=⟨True,r,ch',m⟩):=by
 intro own o a E U w hc hi hg hρ K Q hK;obtain⟨args,ts,ho,ha⟩:=iw hc;subst ha;have hev:a.eval fo=.func (.func f) #[] #[]:=by
  have:=hfo ▸ hρ fo (by simp[AOp.reads]);generalize a.eval fo=q at this;cases this with
  | d hd=>cases hd
  | fn _ _ _ vs ws h1 h2 h3 h4=>
   have e1:vs=#[]:=yL.1 (by simpa using h1);have e2:ws=#[]:=yL.1 (by simpa using h3);rw[e1,e2]
 have hargs:jo E U w.heap (args.toList.map ρ) (args.map a.eval):=by
  refine⟨by simp,fun j c hj=>?_⟩;simp only[zh,za,zM]at hj;obtain⟨x,hx,rfl⟩:=hj;rw[ew (v:=a.eval x) (by simp[hx])];exact hρ x (by simp only[AOp.reads];exact zo _ (by simpa using Array.mem_of_getElem? hx))
 have hcall:=h E U w (args.map a.eval) hi hg hargs;obtain⟨fn,q1,q2,q3⟩:=hf;have hrun:(execOp a.eval o).run P w=.ok (.enter f (args.map a.eval)) w:=by
  simp only[execOp,ho,resolve,hev,Deferred.ofValue,Sem.run_bind,Sem.run_pure,Result.andThen_ok,invoke];have:=jP (P:=P) (w:=w) (args:=args.map a.eval) ⟨fn,q1,q2,q3⟩;simpa using this
 refine⟨fun _ _=>trivial,?_⟩;rw[Oper.semAt_eq _ _ _ (by rw[ho];simp),hrun,Oper.uponIn_enter];refine⟨fun h=>by simp[FW,Fence.wide]at h,kE (hcall.mono fun e w' h=>?_)⟩;obtain⟨v,E',U',rfl,hrep,hce⟩:=h;exact hK ⟨True,r,ch',m⟩ rfl v E' U' w' hrep hce
end Go.Am
end
section
namespace Go.Am
open Dat (cells)
variable {P : Program} [Glob P] {cx : Cx} {Q : ASt → Prop} {k : List It} {st : ASt}
def fN (m:List (Nat×Sb)):C->Bool
 |.own k=>match m.lookup k with | some (.c _)=>false | _=>true
 |.ptr k _=>match m.lookup k with | some (.c _)=>false | _=>true
 |.eptr k _ _=>match m.lookup k with | some (.c _)=>false | _=>true
 |.inn k _=>!(m.lookup k).isSome
 |.iptr k _ _ _=>!(m.lookup k).isSome
 |.agg cs=>fixBs m cs
 |.tup cs=>fixBs m cs
 |.fn _ xs ys=>fixBs m xs && fixBs m ys
 |_=>true
where fixBs (m:List (Nat×Sb)):List C->Bool
 |[]=>true
 | c :: cs=>fN m c && fixBs m cs
mutual
theorem om {m:List (Nat×Sb)}:∀ (c:C),fN m c=true->ah m c=c
 |.own k,h=>by
  simp only[fN]at h;simp only[ah];cases hm:m.lookup k with
  | none=>rfl
  | some s=>cases s with
   | c x=>rw[hm]at h;cases h
   | inner=>rfl
 |.ptr k o,h=>by
  simp only[fN]at h;simp only[ah];cases hm:m.lookup k with
  | none=>rfl
  | some s=>cases s with
   | c x=>rw[hm]at h;cases h
   | inner=>rfl
 |.eptr k i j,h=>by
  simp only[fN]at h;simp only[ah];cases hm:m.lookup k with
  | none=>rfl
  | some s=>cases s with
   | c x=>rw[hm]at h;cases h
   | inner=>rfl
 |.inn k i,h=>by
  simp only[fN,yC,Option.isSome_eq_false_iff,Option.isNone_iff_eq_none]at h;simp[ah,h]
 |.iptr k i a b,h=>by
  simp only[fN,yC,Option.isSome_eq_false_iff,Option.isNone_iff_eq_none]at h;simp[ah,h]
 |.agg cs,h=>by simp only[fN]at h;simp only[ah];rw[jH cs h]
 |.tup cs,h=>by simp only[fN]at h;simp only[ah];rw[jH cs h]
 |.fn f xs ys,h=>by
  simp only[fN,zm]at h;simp only[ah];rw[jH xs h.1,jH ys h.2]
 |.any,_=>rfl
 |.s v,_=>rfl
 |.sl n es,_=>rfl
 |.ref cs,_=>rfl
 |.isl n t es,_=>rfl
theorem jH {m:List (Nat×Sb)}:∀ (cs:List C),fN.fixBs m cs=true->ah.subCs m cs=cs
 |[],_=>rfl
 | c :: cs,h=>by
  simp only[fN.fixBs,zm]at h;simp only[ah.subCs];rw[om c h.1,jH cs h.2]
end
abbrev EL := List (Nat×List (Nat×Sb)×Chs)
def ixE : EL->List Nat
 |[]=>[]
 | (e,_,_) :: l=>e :: ixE l
def dX (S:Nat->Bool):EL->EL
 |[]=>[]
 | q :: l=>if S q.1=true then q :: dX S l else []
def fX (rb:List Nat) (i:Nat) (v:C):EL->Bool
 |[]=>true
 | (e,m,_) :: D=>(decide (e=i) || (av rb (100*e+i) || fN m v)) && fX rb i v D
def ff (c:C):EL->Bool
 |[]=>true
 | (_,m,_) :: D=>fN m c && ff c D
def g9 (D:EL):dJ->dJ
 |[]=>[]
 | (k,c) :: t=>(k,if ff c D=true then c else .any) :: g9 D t
def fU (rb:List Nat) (S:Nat->Bool) (D:EL) (t:dJ):Nat->List AO->List C->dJ
 | i,o :: os,v :: vs=>match o.dst with | some d=>(d,if (S i && fX rb i v D)=true then v else .any) :: fU rb S D t (i+1) os vs | none=>fU rb S D t (i+1) os vs
 |_,_,_=>g9 D t
def gP (rb:List Nat) (D:EL) (t:dJ):Nat->List AO->List C->dJ
 | i,o :: os,v :: vs=>match o.dst with | some d=>(d,if fX rb i v D=true then v else .any) :: gP rb D t (i+1) os vs | none=>gP rb D t (i+1) os vs
 |_,_,_=>g9 D t
theorem mU : ∀ D,ff .any D=true
 |[]=>rfl
 | (_,_,_) :: D=>by simp[ff,fN,mU D]
theorem kL (D:EL) (x:Nat):∀ t:dJ,gt (g9 D t) x=if ff (gt t x) D=true then gt t x else .any
 |[]=>by
  have:gt [] x=.any:=rfl;rw[this,mU,qb rfl];rfl
 | (j,c) :: t=>by
  by_cases h:j=x
  . subst h;have e:gt ((j,c) :: t) j=c:=by simp[gt,lk]
    have e2:gt (g9 D ((j,c) :: t)) j=if ff c D=true then c else .any:=by simp[g9,gt,lk]
    rw[e,e2]
  . have e:gt ((j,c) :: t) x=gt t x:=by simp[gt,lk,h]
    have e2:gt (g9 D ((j,c) :: t)) x=gt (g9 D t) x:=by simp[g9,gt,lk,h]
    rw[e,e2];exact kL D x t
theorem mO (rb:List Nat) (D:EL) (t:dJ) (S:Nat->Bool):∀ (os:List AO) (vs:List C) (i:Nat),(∀ j,j < os.length->S (i+j)=true)->fU rb S D t i os vs=gP rb D t i os vs
 |[],_,_,_=>by simp[fU,gP]
 |_ :: _,[],_,_=>by simp[fU,gP]
 | o :: os,v :: vs,i,h=>by
  have ih:=mO rb D t S os vs (i+1) (fun j hj=>by rw[show i+1+j=i+(j+1) by omega];exact h (j+1) (by simpa using hj));have h0:=h 0 (by simp);rw[zL]at h0;cases hd:o.dst <;> simp[fU,gP,hd,h0,ih]
theorem ig (rb:List Nat) (D:EL) (t:dJ) (S:Nat->Bool) (x:Nat):∀ (os:List AO) (vs:List C) (i:Nat),os.length=vs.length->(os.filterMap (·.dst)).Nodup ->
 (∃ j o v,os[j]? = some o/\vs[j]? = some v/\o.dst=some x/\gt (fU rb S D t i os vs) x=if (S (i+j) && fX rb (i+j) v D)=true then v else .any)\/((∀ o∈os,o.dst≠some x)/\gt (fU rb S D t i os vs) x=gt (g9 D t) x)
 |[],[],i,_,_=>.inr ⟨by simp,by simp[fU]⟩
 | o :: os,v :: vs,i,hl,hn=>by
  have hn':(os.filterMap (·.dst)).Nodup:=by
   cases hd:o.dst with
   | none=>simpa[hd]using hn
   | some d=>simp[hd]at hn;exact hn.2
  by_cases hd:o.dst=some x
  . exact .inl ⟨0,o,v,rfl,rfl,hd,by simp[fU,hd,gt,lk]⟩
  . have e:gt (fU rb S D t i (o :: os) (v :: vs)) x=gt (fU rb S D t (i+1) os vs) x:=by
     cases hd2:o.dst with
     | none=>simp[fU,hd2]
     | some d=>
      have hne:d≠x:=fun e=>hd (by rw[hd2,e])
      simp[fU,hd2,gt,lk,hne]
    rcases ig rb D t S x os vs (i+1) (by simpa using hl) hn' with⟨j,o',v',h1,h2,h3,h4⟩ | ⟨h1,h2⟩
    . exact .inl ⟨j+1,o',v',by simpa using h1,by simpa using h2,h3,by rw[e,h4,show i+1+j=i+(j+1) by omega]⟩
    . refine .inr ⟨fun q hq=>?_,by rw[e,h2]⟩;rcases zl.1 hq with rfl | hq
      . exact hd
      . exact h1 q hq
def fL : EL->Chs->Chs
 |[],h=>h
 | (_,_,h1) :: l,_=>fL l h1
def ja (rb:List Nat) (j:Nat) (D:EL):EL->Chs->(EL->Chs->Prop)->Prop
 |[],h,K=>K D h
 | (e,m,h1) :: l,h,K=>if e=j then K D h else (if av rb (100*e+j)=true then True else K D h)/\(if av rb (100*j+e)=true then True else ja rb j (D++[(e,m,h1)]) l h1 K)
def kd (j:Nat):EL->Chs->List (Nat×Sb)×Chs
 |[],h=>([],h)
 | (e,m,h1) :: l,h=>if e=j then (m,h1)else kd j l h
def finM (q:List (Nat×Sb)×Chs) (v:C) (pre:List (Nat×Sb)) (tk:Bool) (e2:Eff):Prop:=e2.cond/\e2.v=v/\e2.ch=q.2/\(match tk with | true=>a6 pre e2.sub | false=>e2.sub)=q.1
def l6 (q:List (Nat×Sb)×Chs) (v:C) (pre:List (Nat×Sb)) (tk:Bool):Md->Prop
 |.cal (.eff e2)=>finM q v pre tk e2
 |_=>False
def qr (P:Program) [Glob P] (L:List (Ent P)) (q:List (Nat×Sb)×Chs) (o:AO) (v:C) (pre:List (Nat×Sb)) (s1:ASt):Option Eff->Prop
 | some e2=>finM q v pre true e2
 | none=>l6 q v pre true (aE L (aq P s1.t) s1.ch (o.dst.getD 0) o.op)
def p9 (P:Program) [Glob P] (L:List (Ent P)) (t:dJ) (h:Chs) (q:List (Nat×Sb)×Chs) (o:AO) (v:C) (s kk:Nat):Option (Prop×Nat×TypeId×List (List C))->Option Chs->Prop
 | some (p,m,ty,es),some ch'=>p/\s < 100000/\kk≠s/\ke s o.op/\qr P L q o v [(s,.c .any),(kk,.inner)] (aT s kk m ty es ch' ⟨t,h⟩) (ai (aq P (aT s kk m ty es ch' ⟨t,h⟩).t) (aT s kk m ty es ch' ⟨t,h⟩).ch (o.dst.getD 0) o.op)
 |_,_=>False
def nR (P:Program) [Glob P] (L:List (Ent P)) (t:dJ) (h:Chs) (q:List (Nat×Sb)×Chs) (o:AO) (v:C):Option (Nat×Nat×Nat)->Prop
 | none=>l6 q v [] false (aE L (aq P t) h (o.dst.getD 0) o.op)
 | some (s,kk,j)=>p9 P L t h q o v s kk (aN h kk j) (aM h kk j)
def reM2 (P:Program) [Glob P] (L:List (Ent P)) (t:dJ) (h:Chs) (q:List (Nat×Sb)×Chs) (o:AO) (v:C):Option Eff->Prop
 | some e2=>finM q v [] false e2
 | none=>nR P L t h q o v (ce L (aq P t) o.op)
def ops2 (P:Program) [Glob P] (L:List (Ent P)) (rb:List Nat) (t:dJ) (all:List AO) (vall:List C) (E:EL) (h0:Chs):Nat->List AO->List C->Prop
 | j,o :: os,v :: vs=>ja rb j [] E h0 (fun D h=>reM2 P L (gP rb D t 0 all vall) h (kd j E h) o v (ai (aq P (gP rb D t 0 all vall)) h (o.dst.getD 0) o.op))/\ops2 P L rb t all vall E h0 (j+1) os vs
 |_,[],[]=>True
 |_,_,_=>False
def ndE2 : EL->Prop
 |[]=>True
 | (_,_,h) :: l=>ap (ag h)/\ndE2 l
theorem mg {rb:List Nat} {S:Nat->Bool} {j:Nat} {K:EL->Chs->Prop} (hj:S j=false) (hp:∀ c∈rb,c % 100=j->S (c / 100)=true) (hs:lg rb S) (hj1:j < 100):∀ {E D:EL} {h:Chs},(∀ q∈E,q.1 < 100)->ja rb j D E h K->K (D++dX S E) (fL (dX S E) h)
 |[],D,h,_,hc=>by simpa[dX,fL,ja]using hc
 | (e,m,h1) :: l,D,h,hE,hc=>by
  have he:e < 100:=hE (e,m,h1) zq;simp only[ja]at hc;simp only[dX];by_cases hej:e=j
  . subst hej;rw[qb rfl]at hc;rw[qa (by rw[hj];simp)];simpa[fL]using hc
  rw[qa hej]at hc;by_cases hse:S e=true
  . rw[qb hse];have hno:¬ av rb (100*j+e)=true:=fun hm=>by
     have:=hs _ (iN.1 hm);rw[show (100*j+e) % 100=e by omega,show (100*j+e) / 100=j by omega]at this;rw[this hse]at hj;cases hj
    rw[qa hno]at hc;have:=mg hj hp hs hj1 (fun q hq=>hE q (zo _ hq)) hc.2;simpa[fL]using this
  . rw[qa hse];have hno:¬ av rb (100*e+j)=true:=fun hm=>by
     have:=hp _ (iN.1 hm) (by omega);rw[show (100*e+j) / 100=e by omega]at this;exact hse this
    rw[qa hno]at hc;simpa[fL]using hc.1
theorem sn {L:List (Ent P)} {rb:List Nat} {t:dJ} {all:List AO} {vall:List C} {E:EL} {h0:Chs}:∀ {os:List AO} {vs:List C} {i:Nat},ops2 P L rb t all vall E h0 i os vs->os.length=vs.length/\∀ (j:Nat) o,os[j]? = some o->∃ v,vs[j]? = some v/\ja rb (i+j) [] E h0 (fun D h=>reM2 P L (gP rb D t 0 all vall) h (kd (i+j) E h) o v (ai (aq P (gP rb D t 0 all vall)) h (o.dst.getD 0) o.op))
 |[],[],i,_=>⟨rfl,fun j o h=>by simp at h⟩
 | o :: os,v :: vs,i,h=>by
  obtain⟨h1,h2⟩:=h;obtain⟨g1,g2⟩:=sn h2;refine⟨by simp[g1],fun j q hq=>?_⟩;cases j with
  | zero=>
   simp only[zD,zn]at hq;subst hq;exact⟨v,rfl,h1⟩
  | succ j=>
   obtain⟨v',e1,e2⟩:=g2 j q (by simpa using hq);exact⟨v',by simpa using e1,by rw[show i+(j+1)=i+1+j by omega];exact e2⟩
 |[],_ :: _,_,h=>by cases h
 |_ :: _,[],_,h=>by cases h
theorem uv {L:List (Ent P)} {t:dJ} {h:Chs} {q:List (Nat×Sb)×Chs} {o:AO} {v:C} (hg:o.guard=none) (hr:reM2 P L t h q o v (ai (aq P t) h (o.dst.getD 0) o.op)):∃ ef2,StepE P o ⟨t,h⟩ ef2/\ef2.v=v/\ef2.ch=q.2/\ef2.sub=q.1:=by
 cases hq:ai (aq P t) h (o.dst.getD 0) o.op with
 | some e2=>
  rw[hq]at hr;obtain⟨h2,h3,h4,h5⟩:=hr;exact⟨e2,.yes e2 (by rw[hg];rfl) (.f hq h2),h3,h4,h5⟩
 | none=>
  rw[hq]at hr;simp only[reM2]at hr;cases htk:ce L (aq P t) o.op with
  | none=>
   rw[htk]at hr;simp only[nR]at hr;unfold l6 at hr;split at hr
   . rename_i e2 hm;obtain⟨h2,h3,h4,h5⟩:=hr;have hop:OpR P (aq P t) h (o.dst.getD 0) o.op ⟨True,e2.v,e2.ch,e2.sub⟩:=jh hm h2;exact⟨⟨True,e2.v,e2.ch,e2.sub⟩,.yes _ (by rw[hg];rfl) hop,h3,h4,h5⟩
   . cases hr
  | some w=>
   obtain⟨s,kk,j⟩:=w;rw[htk]at hr;have hin:=mR htk;simp only[nR]at hr;unfold p9 at hr;split at hr
   . rename_i p m ty es ch' e1 e2;obtain⟨g1,g2,g3,g4,g5⟩:=hr;have step:∀ ef:Eff,OpR P (aq P (aT s kk m ty es ch' ⟨t,h⟩).t) (aT s kk m ty es ch' ⟨t,h⟩).ch (o.dst.getD 0) o.op ⟨True,ef.v,ef.ch,ef.sub⟩->finM q v [(s,.c .any),(kk,.inner)] true ef->∃ ef2,StepE P o ⟨t,h⟩ ef2/\ef2.v=v/\ef2.ch=q.2/\ef2.sub=q.1:=fun ef hop hf=>by
      obtain⟨h2,h3,h4,h5⟩:=hf;have:=mI (st:=⟨t,h⟩) (d:=o.dst.getD 0) (op:=o.op) (ef:=⟨True,ef.v,ef.ch,ef.sub⟩) g2 g1 g3 g4 hin e1 e2 hop;exact⟨_,.yes _ (by rw[hg];rfl) this,h3,h4,h5⟩
     cases hq2:ai (aq P (aT s kk m ty es ch' ⟨t,h⟩).t) (aT s kk m ty es ch' ⟨t,h⟩).ch (o.dst.getD 0) o.op with
     | some ef=>
      rw[hq2]at g5;exact step ef (.f' hq2 g5.1) g5
     | none=>
      rw[hq2]at g5;simp only[qr]at g5;unfold l6 at g5;split at g5
      . rename_i ef hm;exact step ef (jh hm g5.1) g5
      . cases g5
   . cases hr
theorem rl : ∀ {E:EL} {h:Chs} (S:Nat->Bool),ap (ag h)->ndE2 E->((fL (dX S E) h).map (·.1)).Nodup
 |[],h,S,h0,_=>by simp only[dX,fL];rw[<- dT];exact dY h0
 | (e,m,h1) :: l,h,S,h0,hn=>by
  simp only[dX];split
  . simp only[fL];exact rl S hn.1 hn.2
  . simp only[fL];rw[<- dT];exact dY h0
theorem kI {S:Nat->Bool} {j:Nat}:∀ {E:EL},j∉ixE E->dX (fun i=>i == j || S i) E=dX S E
 |[],_=>rfl
 | (e,m,h1) :: l,hn=>by
  simp only[ixE,zl,not_or]at hn;have hb:(e == j)=false:=by simp;exact fun q=>hn.1 q.symm
  simp only[dX,hb,zF];split
  . rw[kI hn.2]
  . rfl
theorem rA {j:Nat}:∀ {E:EL} {h:Chs},j∉ixE E->kd j E h=([],h)
 |[],h,_=>rfl
 | (e,m,h1) :: l,h,hn=>by
  simp only[ixE,zl,not_or]at hn;simp only[kd];rw[qa (fun q=>hn.1 q.symm)];exact rA hn.2
theorem nG : ∀ E:EL,ixE E=E.map (·.1)
 |[]=>rfl
 | (e,m,h) :: l=>by simp[ixE,nG l]
theorem mB {S:Nat->Bool} {E:EL} (h:∀ q,E.head? = some q->S q.1=false):dX S E=[]:=by
 cases E with
 | nil=>rfl
 | cons q l=>simp only[dX];rw[qa (by rw[h q rfl];simp)]
theorem pk {rb:List Nat} {S:Nat->Bool} {j:Nat} (hj:S j=false) (hs:lg rb S):∀ {E:EL} {h:Chs},(∀ q∈E,q.1 < 100)->fQ rb (ixE E)=true->(∀ q∈E,q.1 < j->S q.1=true)->j∈ixE E ->
 ∃ m h1,kd j E h=(m,h1)/\dX (fun i=>i == j || S i) E=dX S E++[(j,m,h1)]
 |[],h,_,_,_,hm=>by simp[ixE]at hm
 | (e,m,h1) :: l,h,hE,ho,hb,hm=>by
  have he:e < 100:=hE (e,m,h1) zq;have ho':fQ rb (ixE l)=true:=by
   cases l with
   | nil=>rfl
   | cons q l=>
    obtain⟨q1,q2,q3⟩:=q;simp only[ixE,fQ,zm]at ho ⊢;exact ho.2.2
  by_cases hej:e=j
  . subst hej;refine⟨m,h1,by simp[kd],?_⟩;simp only[dX];rw[qb (by simp),qa (by rw[hj];simp)];rw[mB]
    . rfl
    . intro q hq;cases l with
      | nil=>cases hq
      | cons q' l=>
       cases hq;obtain⟨q1,q2,q3⟩:=q;simp only[ixE,fQ,zm,qf]at ho;have hq1:=hE (q1,q2,q3) (by simp);have hne:¬ q1=e:=by omega
       cases hsq:S q1 with
       | false=>simp[hne,hsq]
       | true=>
        have hm:=ho.1;simp only[List.contains_iff_mem]at hm;have:=hs _ hm;simp only at hq1;rw[show (100*e+q1) % 100=q1 by omega,show (100*e+q1) / 100=e by omega]at this;rw[this hsq]at hj;cases hj
  . have hb1:(e == j)=false:=by simpa using hej
    have hjl:j∈ixE l:=by
     simp only[ixE,zl]at hm;exact hm.resolve_left (fun q=>hej q.symm)
    have asc:∀ (l:EL) (x:Nat),fQ rb (x :: ixE l)=true->∀ y∈ixE l,x < y:=by
     intro l
     induction l with
     | nil=>intro x _ y hy;simp[ixE]at hy
     | cons z l ih=>
      obtain⟨z1,z2,z3⟩:=z;intro x ho y hy;simp only[ixE,fQ,zm,qf]at ho;simp only[ixE,zl]at hy;rcases hy with rfl | hy
      . exact ho.2.1
      . have:=ih z1 ho.2.2 y hy;omega
    have hlt:e < j:=asc l e ho j hjl;have hse:S e=true:=hb (e,m,h1) zq hlt;obtain⟨m',h1',g1,g2⟩:=pk (h:=h) hj hs (fun q hq=>hE q (zo _ hq)) ho' (fun q hq=>hb q (zo _ hq)) hjl;refine⟨m',h1',by simp only[kd];rw[qa hej];exact g1,?_⟩;simp only[dX,hb1,zF];rw[qb hse,qb hse,g2];rfl
theorem mV {rb:List Nat} {i j:Nat} {v:C} {m:List (Nat×Sb)} {h:Chs}:∀ {D:EL},fX rb i v (D++[(j,m,h)])=(fX rb i v D && (decide (j=i) || (av rb (100*j+i) || fN m v)))
 |[]=>by simp[fX]
 | (e,m',h') :: D=>by simp only[yq,fX,mV (D:=D),Bool.and_assoc]
theorem l9 {c:C} {j:Nat} {m:List (Nat×Sb)} {h:Chs}:∀ {D:EL},ff c (D++[(j,m,h)])=(ff c D && fN m c)
 |[]=>by simp[ff]
 | (e,m',h') :: D=>by simp only[yq,ff,l9 (D:=D),Bool.and_assoc]
theorem pj {j:Nat} {m:List (Nat×Sb)} {h1:Chs}:∀ {D:EL} {h:Chs},fL (D++[(j,m,h1)]) h=h1
 |[],h=>rfl
 | (e,m',h') :: D,h=>by simp only[yq,fL];exact pj
def chk2 (rb:List Nat) (os:List AO) (ix:List Nat):Bool:=pZ os && (uw rb os && (fQ rb ix && (decide (os.length<=100) && ix.all fun e=>decide (e < os.length))))
theorem qR {S:Nat->Bool}:∀ {E:EL},(∀ q∈E,S q.1=true)->dX S E=E
 |[],_=>rfl
 | q :: l,h=>by
  simp only[dX];rw[qb (h q zq),qR fun q hq=>h q (zo _ hq)]
theorem uP {rb:List Nat} {os:List AO} {L:List (Ent P)} {vs:List C} {E:EL} (hchk:chk2 rb os (ixE E)=true) (hn0:ap (ag st.ch)) (hnd:ndE2 E)
 (hops:ops2 P L rb st.t os vs E st.ch 0 os vs) (hend:SG P cx Q k ⟨gP rb E st.t 0 os vs,fL E st.ch⟩):SG P cx Q (.c (.draw 999 rb os) :: k) st:=by
 simp only[chk2,zm,qf]at hchk;obtain⟨k1,k2,k3,k4,k5⟩:=hchk;have k1:(os.filterMap (·.dst)).Nodup:=by simpa[pZ]using k1
 obtain⟨l1,l2⟩:=sn hops;have hEl:∀ q∈E,q.1 < os.length:=fun q hq=>by
  have:q.1∈ixE E:=by rw[nG];exact zu.2 ⟨q,hq,rfl⟩
  simpa using zx.1 k5 _ this
 have hE100:∀ q∈E,q.1 < 100:=fun q hq=>by have:=hEl q hq;omega
 have hread:∀ (j:Nat) o,os[j]? = some o->o.guard=none/\∀ x∈eL o.op.reads,∀ (i:Nat) q,os[i]? = some q->q.dst=some x->100*i+j∈rb:=fun j o ho=>by
  have h1:=zx.1 k2 (o,j) (by rw[zG];exact ho);simp only[zm,Option.isNone_iff_eq_none]at h1;refine⟨h1.1,fun x hx i q hq hd=>?_⟩;have h2:=zx.1 h1.2 x hx;have h3:=zx.1 h2 (q,i) (by rw[zG];exact hq);simp only[hd,bne_self_eq_false,zF]at h3;simpa using h3
 have hndc:∀ S,((fL (dX S E) st.ch).map (·.1)).Nodup:=fun S=>rl S hn0 hnd
 have uniq:∀ (i i':Nat) (o o':AO) (x:Nat),os[i]? = some o->os[i']? = some o'->o.dst=some x->o'.dst=some x->i=i':=fun i i' o o' x a1 b1 a3 b3=>by
  rcases yr i i' with h | h | h
  . exact (gF k1 i i' h o o' x a1 b1 a3 b3).elim
  . exact h
  . exact (gF k1 i' i h o' o x b1 a1 b3 a3).elim
 refine mz (T:=fun S=>⟨fU rb S (dX S E) st.t 0 os vs,fL (dX S E) st.ch⟩) ⟨fun x=>?_,hndc _,fun p hp=>?_⟩ (fun S j ao hj hSj hp hs=>?_) (fun S hS=>?_)
 . have e0:dX (fun _=>false) E=[]:=mB (fun q _=>rfl);show gt (fU rb (fun _=>false) (dX (fun _=>false) E) st.t 0 os vs) x=.any\/gt st.t x=gt (fU rb (fun _=>false) (dX (fun _=>false) E) st.t 0 os vs) x
   rw[e0];rcases ig rb [] st.t (fun _=>false) x os vs 0 l1 k1 with⟨j,o,v,_,_,_,h⟩ | ⟨_,h⟩
   . left;rw[h];simp
   . right;rw[h,kL];simp[ff]
 . have e0:dX (fun _=>false) E=[]:=mB (fun q _=>rfl);have hp':p∈fL (dX (fun _=>false) E) st.ch:=hp;rw[e0]at hp';exact eR (by rw[<- dT];exact dY hn0) hp'
 . have hjl:j < os.length:=(zi.1 hj).1;obtain⟨hg,hrd⟩:=hread j ao hj;obtain⟨v,hv,hc⟩:=l2 j ao hj;rw[zz]at hc;have hre:=mg hSj hp hs (by omega) hE100 hc;rw[yb]at hre;obtain⟨ef2,s1,s2,s3,s4⟩:=uv hg hre;have hslots:∀ x∈ao.slots,gt (gP rb (dX S E) st.t 0 os vs) x=gt (fU rb S (dX S E) st.t 0 os vs) x:=fun x hx=>by
    have hx2:x∈eL ao.op.reads:=by
     simp only[AO.slots,hg,z4]at hx;exact iY hx
    rw[<- mO rb (dX S E) st.t (fun _=>true) os vs 0 (fun _ _=>rfl)];rcases ig rb (dX S E) st.t S x os vs 0 l1 k1 with⟨i,o,w,a1,a2,a3,a4⟩ | ⟨a1,a2⟩
    . have hcd:=hrd x hx2 i o a1 a3;have hSi:=hp _ hcd (by omega);rw[show (100*i+j) / 100=i by omega]at hSi;rcases ig rb (dX S E) st.t (fun _=>true) x os vs 0 l1 k1 with⟨i',o',w',b1,b2,b3,b4⟩ | ⟨b1,_⟩
      . have hii:=uniq i' i o' o x b1 a1 b3 a3;subst hii;rw[a2]at b2;cases b2;rw[b4,a4,zz,hSi]
      . exact absurd a3 (b1 o (zp a1))
    . rw[a2];rcases ig rb (dX S E) st.t (fun _=>true) x os vs 0 l1 k1 with⟨i',o',w',b1,b2,b3,b4⟩ | ⟨_,b2⟩
      . exact absurd b3 (a1 o' (zp b1))
      . exact b2
   have hb:∀ q∈E,q.1 < j->j∈ixE E->S q.1=true:=fun q hq hlt hjE=>by
    refine kV hp hs (by omega) (l:=ixE E) (fun e he=>?_) k3 hjE q.1 (by rw[nG];exact zu.2 ⟨q,hq,rfl⟩) hlt;rw[nG]at he;obtain⟨q',hq',rfl⟩:=zu.1 he;exact hE100 q' hq'
   have hkey:∃ m,ef2.sub=m/\ef2.ch=fL (dX (fun i=>i == j || S i) E) st.ch/\(∀ (i:Nat) w,i < 100->i≠j->fX rb i w (dX (fun i=>i == j || S i) E)=true->S i=true->fX rb i w (dX S E)=true/\ah m w=w)/\(∀ c,ff c (dX (fun i=>i == j || S i) E)=true->ff c (dX S E)=true/\ah m c=c):=by
    by_cases hjE:j∈ixE E
    . obtain⟨m,h1,g1,g2⟩:=pk (h:=fL (dX S E) st.ch) hSj hs hE100 k3 (fun q hq hlt=>hb q hq hlt hjE) hjE;rw[g1]at s3 s4;refine⟨m,s4,by rw[s3,g2,pj],fun i w hi1 hij ha hSi=>?_,fun c ha=>?_⟩
      . rw[g2,mV,zm]at ha;refine⟨ha.1,?_⟩;have h2:=ha.2;have hd:decide (j=i)=false:=by simp;exact fun q=>hij q.symm
        rw[hd,zF,zV]at h2;rcases h2 with h2 | h2
        . exfalso
          have:=hs _ (iN.1 h2);rw[show (100*j+i) % 100=i by omega,show (100*j+i) / 100=j by omega]at this;rw[this hSi]at hSj;cases hSj
        . exact om w h2
      . rw[g2,l9,zm]at ha;exact⟨ha.1,om c ha.2⟩
    . rw[rA hjE]at s3 s4;refine⟨[],s4,by rw[s3,kI hjE],fun i w _ _ ha _=>?_,fun c ha=>?_⟩
      . rw[kI hjE]at ha;exact⟨ha,eC w⟩
      . rw[kI hjE]at ha;exact⟨ha,eC c⟩
   obtain⟨m,q1,q2,q3,q4⟩:=hkey;refine⟨ef2,s1.congr hslots rfl,.of_le ⟨fun x=>?_,hndc _,fun p hp'=>?_⟩⟩
   . show gt (fU rb (fun i=>i == j || S i) (dX (fun i=>i == j || S i) E) st.t 0 os vs) x=.any\/gt (aU ao.dst ef2.sub ef2.v (fU rb S (dX S E) st.t 0 os vs)) x=_
     rw[q1,s2,fm];rcases ig rb (dX (fun i=>i == j || S i) E) st.t (fun i=>i == j || S i) x os vs 0 l1 k1 with⟨i,o,w,a1,a2,a3,a4⟩ | ⟨a1,a2⟩
     . rw[zz]at a4;rw[a4];by_cases hcond:((i == j || S i) && fX rb i w (dX (fun i=>i == j || S i) E))=true
       . right;rw[qb hcond];rw[zm]at hcond;by_cases hij:i=j
         . subst hij;rw[hj]at a1;cases a1;rw[hv]at a2;cases a2;rw[qb a3]
         . have hne:ao.dst≠some x:=fun e=>hij (uniq i j o ao x a1 hj a3 e)
           rw[qa hne];have hb0:(i == j)=false:=by simpa using hij
           have hSi:S i=true:=by simpa[hb0]using hcond.1
           have hi1:i < 100:=by have:=(zi.1 a1).1;omega
           obtain⟨r1,r2⟩:=q3 i w hi1 hij hcond.2 hSi;rcases ig rb (dX S E) st.t S x os vs 0 l1 k1 with⟨i',o',w',b1,b2,b3,b4⟩ | ⟨b1,_⟩
           . have hii:=uniq i' i o' o x b1 a1 b3 a3;subst hii;rw[a2]at b2;cases b2;rw[b4,zz,hSi,r1,qb (by rfl)];exact r2
           . exact absurd a3 (b1 o (zp a1))
       . left;rw[qa hcond]
     . have hne:ao.dst≠some x:=a1 ao (zp hj);rw[qa hne,a2,kL];by_cases hcond:ff (gt st.t x) (dX (fun i=>i == j || S i) E)=true
       . right;rw[qb hcond];obtain⟨r1,r2⟩:=q4 _ hcond;rcases ig rb (dX S E) st.t S x os vs 0 l1 k1 with⟨i',o',w',b1,b2,b3,b4⟩ | ⟨_,b2⟩
         . exact absurd b3 (a1 o' (zp b1))
         . rw[b2,kL,qb r1];exact r2
       . left;rw[qa hcond]
   . show lk ef2.ch p.1=some p.2
     rw[q2];exact eR (hndc _) hp'
 . have eD:dX S E=E:=qR (fun q hq=>hS q.1 (hEl q hq));have e1:fU rb S E st.t 0 os vs=gP rb E st.t 0 os vs:=mO rb E st.t S os vs 0 (fun j hj=>by rw[zz];exact hS j hj);simp only[eD,e1];exact hend
def ot : AOp->Bool
 |.store _ _ _ _=>false
 |.call _ _=>false
 |.mkSl own _ _ _ _ _=>!own
 |.makeSl _ _ _ _ _ _=>false
 |.alloc _=>false
 |.box _=>false
 |.app _ _ _ _ _ _ _=>false
 |.ssl _ _ _ _ _=>false
 |_=>true
def lP (op:AOp) (j:Nat) (ef:Eff) (E:EL):EL:=match ot op with | true=>E | false=>E++[(j,ef.sub,ef.ch)]
def mFin2 (P:Program) [Glob P] (L:List (Ent P)) (cx:Cx) (Q:ASt->Prop) (k:List It) (rb:List Nat) (all:List AO) (s0:ASt) (vs:List C) (E:EL):Prop:=
 chk2 rb all (ixE E)=true/\ap (ag s0.ch)/\ndE2 E/\ops2 P L rb s0.t all vs E s0.ch 0 all vs/\SG P cx Q k ⟨gP rb E s0.t 0 all vs,fL E s0.ch⟩
def gB (P:Program) [Glob P] (L:List (Ent P)) (cx:Cx) (Q:ASt->Prop) (k:List It) (rb:List Nat) (all:List AO) (s0:ASt):Nat->Md->List AO->ASt->Nat->List C->EL->Prop
 |_+1,.run,[],_,_,vs,E=>mFin2 P L cx Q k rb all s0 vs E
 | n+1,.run,⟨dst,none,op,tot⟩ :: os,s,j,vs,E=>gB P L cx Q k rb all s0 n (.eff (ai (aq P s.t) s.ch (dst.getD 0) op)) (⟨dst,none,op,tot⟩ :: os) s j vs E
 | n+1,.eff (some ef),⟨dst,none,op,_⟩ :: os,s,j,vs,E=>gB P L cx Q k rb all s0 n .run os ⟨aU dst ef.sub ef.v s.t,ef.ch⟩ (j+1) (vs++[ef.v]) (lP op j ef E)
 | n+1,.eff none,⟨dst,none,op,tot⟩ :: os,s,j,vs,E=>gB P L cx Q k rb all s0 n (.tk1 (ce L (aq P s.t) op)) (⟨dst,none,op,tot⟩ :: os) s j vs E
 | n+1,.tk1 none,⟨dst,none,op,tot⟩ :: os,s,j,vs,E=>gB P L cx Q k rb all s0 n (aE L (aq P s.t) s.ch (dst.getD 0) op) (⟨dst,none,op,tot⟩ :: os) s j vs E
 | n+1,.tk1 (some (a,kk,i)),⟨dst,none,op,tot⟩ :: os,s,j,vs,E=>gB P L cx Q k rb all s0 n (.tq a kk i (aN s.ch kk i) (aM s.ch kk i)) (⟨dst,none,op,tot⟩ :: os) s j vs E
 | n+1,.tq a kk _ (some (p,m,ty,es)) (some ch'),⟨dst,none,op,tot⟩ :: os,s,j,vs,E=>gB P L cx Q k rb all s0 n (.tr a kk p (aT a kk m ty es ch' s) (ai (aq P (aT a kk m ty es ch' s).t) (aT a kk m ty es ch' s).ch (dst.getD 0) op)) (⟨dst,none,op,tot⟩ :: os) s j vs E
 | n+1,.tr a kk _ _ (some ef),⟨dst,none,op,_⟩ :: os,s,j,vs,E=>gB P L cx Q k rb all s0 n .run os ⟨aU dst (a6 [(a,.c .any),(kk,.inner)] ef.sub) ef.v s.t,ef.ch⟩ (j+1) (vs++[ef.v]) (lP op j ⟨ef.cond,ef.v,ef.ch,a6 [(a,.c .any),(kk,.inner)] ef.sub⟩ E)
 | n+1,.tr a kk p s1 none,⟨dst,none,op,tot⟩ :: os,s,j,vs,E=>gB P L cx Q k rb all s0 n (.ts a kk p s1 (aE L (aq P s1.t) s1.ch (dst.getD 0) op)) (⟨dst,none,op,tot⟩ :: os) s j vs E
 | n+1,.ts a kk _ _ (.cal (.eff ef)),⟨dst,none,op,_⟩ :: os,s,j,vs,E=>gB P L cx Q k rb all s0 n .run os ⟨aU dst (a6 [(a,.c .any),(kk,.inner)] ef.sub) ef.v s.t,ef.ch⟩ (j+1) (vs++[ef.v]) (lP op j ⟨ef.cond,ef.v,ef.ch,a6 [(a,.c .any),(kk,.inner)] ef.sub⟩ E)
 | n+1,.cal (.eff ef),⟨dst,none,op,_⟩ :: os,s,j,vs,E=>gB P L cx Q k rb all s0 n .run os ⟨aU dst ef.sub ef.v s.t,ef.ch⟩ (j+1) (vs++[ef.v]) (lP op j ef E)
 |_,_,_,_,_,_,_=>False
theorem sJ {L:List (Ent P)} {rb:List Nat} {all:List AO} {s0:ASt}:∀ (n:Nat) (m:Md) (os:List AO) (s:ASt) (j:Nat) (vs:List C) (E:EL),gB P L cx Q k rb all s0 n m os s j vs E->SG P cx Q (.c (.draw 999 rb all) :: k) s0:=by
 intro n
 induction n with
 | zero=>intro m os s j vs E h;simp[gB]at h
 | succ n ih=>
  intro m os s j vs E h;cases os with
  | nil=>
   cases m <;> simp only[gB]at h;obtain⟨h0,h1,h2,h3,h4⟩:=h;exact uP h0 h1 h2 h3 h4
  | cons o os=>
   unfold gB at h;split at h <;> first | exact h.elim | exact ih _ _ _ _ _ _ h | (simp at*<;> (subst_vars;exact ih _ _ _ _ _ _ h))
theorem qC {rb:List Nat} {os:List AO} (L:List (Ent P)) (n:Nat) (h:gB P L cx Q k rb os st n .run os st 0 [] []):SG P cx Q (.c (.draw 999 rb os) :: k) st:=
 sJ n .run os st 0 [] [] h
end Go.Am
end
section
open Go Go.Am
open Go.Am.Dat (cells)
namespace Go.Proofs.YtcbabnbiinkafaaGreatDoor
def oO (k:Nat):Operand:=.tmp k
def oN (n:Int):Operand:=.const (.int .i64 n)
def oA (d:Nat) (op:AOp):AO:=⟨some d,none,op,false⟩
def oM (d k:Nat):AO:=⟨some d,none,.mv (.tmp k),false⟩
def oT (d:Nat) (op:AOp):AO:=⟨some d,none,op,true⟩
def oG (d g:Nat) (w:Bool) (op:AOp):AO:=⟨some d,some (g,w),op,false⟩
def oR (l:List AO):AC:=.region false l
def oQ (l:List AO):AC:=.region true l
def oS (a b:AC):AC:=.seq a b
def oK (l:List Nat) (a:AC):AC:=.keep l a
def oF (d n k:Nat):AO:=⟨some d,none,.faddr n (.tmp k),false⟩
def oL (d k:Nat):AO:=⟨some d,none,.load false 1 (.tmp k),false⟩
def oV (d:Nat) (n:Int):AO:=⟨some d,none,.mv (.const (.int .i64 n)),false⟩
def oC (d f:Nat) (l:List Operand):AO:=⟨some d,none,.call (.func f) l,false⟩
def oW (s a b:Nat):AO:=⟨none,none,.store false s (.tmp a) (.tmp b),false⟩
def oY (b:Bool) (s:Nat) (x y:Operand):AO:=⟨none,none,.store b s x y,false⟩
def oI (k:Nat) (a:AC):AC:=.cond (.tmp k) a .skip
def oX (l:List AO) (k:List Nat) (a:AC):AC:=.seq (.region false l) (.keep k a)
def oP (d a b:Nat):AO:=⟨some d,none,.pick (.tmp a) (.tmp b) (.const (.bool false)),false⟩
def oH (d a b:Nat):AO:=⟨some d,none,.pick (.tmp a) (.const (.bool true)) (.tmp b),false⟩
def oB (d:Nat) (op:BinOp) (t a:Nat) (x:Operand):AO:=⟨some d,none,.bin op t (.tmp a) x,false⟩
def oD (d g:Nat) (w:Bool) (a:Nat):AO:=⟨some d,some (g,w),.mv (.tmp a),false⟩
def oE (d g:Nat) (w:Bool) (n a:Nat):AO:=⟨some d,some (g,w),.faddr n (.tmp a),false⟩
def oJ (d g:Nat) (w:Bool) (a:Nat):AO:=⟨some d,some (g,w),.load false 1 (.tmp a),false⟩
def o0 : List Value:=[.slice none 0 0]
def o1 : List Value:=[.int .i64 0]
def o2 : List Value:=[.int .i64 0,.int .i64 0]
def o3 : List Value:=[.int .i64 0,.int .i64 0,.int .i64 0]
def oZ : List Value:=[.int .i64 0,.int .i64 0,.int .i64 0,.int .i64 0,.int .i64 0,.int .i64 0,.int .i64 0,.int .i64 0,.int .i64 0,.slice none 0 0]
def o4 (d a:Nat):AO:=⟨some d,none,.len false (.tmp a),false⟩
def o5 (d s a:Nat):AO:=⟨some d,none,.load true s (.tmp a),false⟩
def o6 (d a:Nat):AO:=⟨some d,none,.nilc (.tmp a),false⟩
def o7 (d a:Nat):AO:=⟨some d,none,.box (.tmp a),false⟩
def o8 (d a i:Nat):AO:=⟨some d,none,.extr (.tmp a) i,false⟩
def o9 (d:Nat) (b:Bool):AO:=⟨some d,none,.mv (.const (.bool b)),false⟩
def jf : List C:=[
 .s (.string ⟨#[100,97,116,97]⟩),.s (.bool false),.s (.func (.func 268) #[] #[]),
 .s (.string ⟨#[115,101,110,100]⟩),.s (.bool false),.s (.func (.func 269) #[] #[]),
 .s (.string ⟨#[97,99,107]⟩),.s (.bool false),.s (.func (.func 270) #[] #[]),
 .s (.string ⟨#[112,114,101,112,97,114,101]⟩),.s (.bool true),.s (.func (.func 271) #[] #[]),
 .s (.string ⟨#[99,97,110,99,101,108]⟩),.s (.bool false),.s (.func (.func 272) #[] #[]),
 .s (.string ⟨#[99,111,109,109,97,110,100]⟩),.s (.bool false),.s (.func (.func 273) #[] #[]),
 .s (.string ⟨#[99,111,109,112,108,101,116,101]⟩),.s (.bool false),.s (.func (.func 274) #[] #[]),
 .s (.string ⟨#[102,111,114,119,97,114,100]⟩),.s (.bool false),.s (.func (.func 275) #[] #[]),
 .s (.string ⟨#[115,119,105,116,99,104]⟩),.s (.bool false),.s (.func (.func 276) #[] #[]),
 .s (.string ⟨#[102,97,105,108]⟩),.s (.bool false),.s (.func (.func 277) #[] #[]),
 .s (.string ⟨#[114,101,99,111,118,101,114]⟩),.s (.bool true),.s (.func (.func 278) #[] #[]),
 .s (.string ⟨#[112,97,115,115]⟩),.s (.bool false),.s (.func (.func 279) #[] #[])]
def varsOk (U:Nat->Prop) (h:Array Obj):Prop:=
 (∃ ty fz,U 2/\h[2]? = some (.cells (Lib.pow10Tab.map fun z=>Value.int .u64 z).toArray ty fz)) /\
 (∃ tp p ty fz,U 5/\h[5]? = some (.cells #[.iface tp p] ty fz))/\(∃ tp p ty fz,U 6/\h[6]? = some (.cells #[.iface tp p] ty fz))
instance : Glob Tryz.prog where
 gl:=[(0,jf)]
 inv:=varsOk
 mono:=fun U U' h h' ⟨⟨a,b,c,d⟩,⟨e,f,g,i,j,k⟩,l,m,n,o,p,q⟩ hk=>
  ⟨⟨a,b,(hk 2 c).1,(hk 2 c).2.trans d⟩,⟨e,f,g,i,(hk 5 j).1,(hk 5 j).2.trans k⟩,l,m,n,o,(hk 6 p).1,(hk 6 p).2.trans q⟩
def c3 : AC:=oX [o7 3 0,o9 6 false] [1,2,3] (oS (oX [oC 14 21 [],oA 15 (.un .not (oO 14))] [1,2,3,15] (oI 15 (oX [o9 6 false] [6] .ret))) (oK [1,2,3] (oS (oX [oM 16 1,oC 17 22 [oO 16],oA 18 (.un .not (oO 17)),oM 19 18,oD 20 19 false 2,oG 21 19 false (.call (.func 22) [oO 20]),oG 22 19 false (.un .not (oO 21)),oH 23 19 22] [1,2,3,23] (oI 23 (oX [o9 6 true] [6] .ret))) (oK [1,2,3] (oS (oQ [o5 25 3 3,oM 26 1,oC 27 24 [oO 26],oM 28 2,oC 29 24 [oO 28],oT 30 (.call (.func 23) [oO 25,oO 27,oO 29]),oT 24 (.mv (oO 30)),o8 31 24 0,o8 32 24 1,oM 7 31,oT 8 (.mv (oO 32))]) (oK [1,2,3,7,8] (oS (oQ [o5 34 3 3,oM 35 1,oC 36 24 [oO 35],oM 37 2,oC 38 24 [oO 37],oT 39 (.call (.func 25) [oO 34,oO 36,oO 38]),oT 33 (.mv (oO 39)),o8 40 33 0,o8 41 33 1,oM 9 40,oT 10 (.mv (oO 41))]) (oK [1,2,3,7,8,9,10] (oX [o5 42 3 3,oC 43 26 [oO 42],oM 11 43] [1,2,3,7,8,9,10,11] (oX [o5 44 3 3,oC 45 27 [oO 44],oM 12 45] [1,2,3,7,8,9,10,11,12] (oS (oX [oM 46 11,oM 47 12,oB 48 .neq 3 46 (oO 47)] [1,2,3,7,8,9,10,12,48] (oI 48 (oX [o9 6 false] [6] .ret))) (oK [1,2,3,7,8,9,10,12] (oS (oX [oM 49 12,oB 50 .eql 3 49 (oN 0)] [1,2,3,7,8,9,10,12,50] (oI 50 (oR [oM 51 1,oM 52 2,oC 53 28 [oO 51,oO 52],oM 12 53]))) (oK [1,2,3,7,8,9,10,12] (oS (oX [oM 54 12,oB 55 .neq 3 54 (oN 0)] [1,2,3,7,8,9,10,12,55] (oI 55 (oX [oM 56 8,oM 57 12,oB 58 .eql 3 56 (oO 57),oM 59 58,oD 60 59 true 10,oD 61 59 true 12,oG 62 59 true (.bin .eql 3 (oO 60) (oO 61)),oP 63 59 62,oM 64 63,oD 65 64 true 7,oG 66 64 true (.len false (oO 65)),oG 67 64 true (.bin .eql 3 (oO 66) (oN 0)),oP 68 64 67,oM 69 68,oD 70 69 true 9,oG 71 69 true (.bin .eql 3 (oO 70) (oN 0)),oP 72 69 71,oM 6 72] [6] .ret))) (oK [1,2,3,7,8,9,10] (oX [o5 73 3 3,oM 74 1,oM 75 2,oC 76 29 [oO 73,oO 74,oO 75],oM 13 76] [7,8,9,10,13] (oS (oX [oM 77 8,oB 78 .neq 27 77 (oN 0),oM 79 78,oD 80 79 false 7,oD 81 79 false 13,oG 82 79 false (.call (.func 30) [oO 80,oO 81]),oG 83 79 false (.un .not (oO 82)),oH 84 79 83] [9,10,13,84] (oI 84 (oX [o9 6 false] [6] .ret))) (oK [9,10,13] (oS (oX [oM 85 13,o4 86 85,oB 87 .eql 3 86 (oN 0)] [9,10,13,87] (oI 87 (oX [oM 88 10,oB 89 .eql 27 88 (oN 12),oM 90 89,oD 91 90 true 9,oG 92 90 true (.bin .eql 3 (oO 91) (oN 0)),oP 93 90 92,oM 6 93] [6] .ret))) (oK [9,10,13] (oX [oM 94 10,oB 95 .eql 27 94 (oN 0),oM 96 95,oD 97 96 true 9,oD 98 96 true 13,oG 99 96 true (.iaddr 1 o1 (oO 98) (oN 0)),oJ 100 96 true 99,oG 101 96 true (.bin .eql 3 (oO 97) (oO 100)),oP 102 96 101,oM 6 102] [6] .ret))))))))))))))))))))))
def c4l1 : AC:=oS (oX [oM 89 12,oM 90 9,oM 91 11,oA 92 (.iaddr 1 o1 (oO 90) (oO 91)),oL 93 92,oB 94 .leq 3 89 (oO 93)] [3,5,7,8,9,11,12,94] (.cond (oO 94) .skip (.exit 2))) (oK [3,5,7,8,9,11,12] (oS (.block 3 (oX [o5 97 3 3,oM 98 7,oM 99 8,oM 100 12,oC 101 32 [oO 97,oO 98,oO 99,oO 100],oA 102 (.un .not (oO 101))] [3,5,7,8,9,11,12,102] (oI 102 (oX [o9 6 false] [6] .ret)))) (oK [3,5,7,8,9,11,12] (oR [oM 95 12,oB 96 .add 3 95 (oN 1),oM 12 96]))))
def c4l2 : AC:=oS (oX [oM 111 14,oM 112 9,oM 113 11,oA 114 (.iaddr 1 o1 (oO 112) (oO 113)),oL 115 114,oB 116 .lss 3 111 (oO 115)] [3,5,7,8,9,11,13,14,116] (.cond (oO 116) .skip (.exit 4))) (oK [3,5,7,8,9,11,13,14] (oS (.block 5 (oR [oM 119 13,oM 120 119,oG 121 120 false (.load true 3 (oO 3)),oD 122 120 false 7,oD 123 120 false 8,oD 124 120 false 14,oG 125 120 false (.call (.func 33) [oO 121,oO 122,oO 123,oO 124]),oH 126 120 125,oM 13 126])) (oK [3,5,7,8,9,11,13,14] (oR [oM 117 14,oB 118 .add 3 117 (oN 1),oM 14 118]))))
def c4l3 : AC:=oS (oX [oM 49 11,oM 50 9,o4 51 50,oB 52 .lss 3 49 (oO 51)] [3,5,7,8,9,11,52] (.cond (oO 52) .skip (.exit 0))) (oK [3,5,7,8,9,11] (oS (.block 1 (oS (oS (oQ [oM 55 9,oA 56 (.mvs (oO 11)),oA 57 (.iaddr 1 o1 (oO 55) (oO 56)),oL 58 57,oF 59 2 3,oL 60 59,oM 61 7,o4 62 61,oB 63 .sub 3 62 (oN 1),oT 64 (.call (.func 31) [oO 58,oO 60,oO 63]),oT 65 (.un .not (oO 64)),oT 66 (.mv (oO 65)),⟨some 67,some (66,false),.mv (oO 11),true⟩,⟨some 68,some (66,false),.bin .gtr 3 (oO 67) (oN 0),true⟩,⟨some 69,some (66,false),.mv (oO 68),true⟩,oD 70 69 true 9,oD 71 69 true 11,oG 72 69 true (.iaddr 1 o1 (oO 70) (oO 71)),oJ 73 69 true 72,oD 74 69 true 9,oD 75 69 true 11,oG 76 69 true (.bin .sub 3 (oO 75) (oN 1)),oG 77 69 true (.iaddr 1 o1 (oO 74) (oO 76)),oJ 78 69 true 77,⟨some 79,some (69,true),.bin .leq 3 (oO 73) (oO 78),true⟩,⟨some 80,some (66,false),.pick (oO 69) (oO 79) (.const (.bool false)),true⟩,oT 81 (.pick (oO 66) (.const (.bool true)) (oO 80))]) (oK [3,5,7,8,9,11,81] (oI 81 (oX [o9 6 false] [6] .ret)))) (oK [3,5,7,8,9,11] (oS (oS (oQ [oM 82 9,oA 83 (.mvs (oO 11)),oA 84 (.iaddr 1 o1 (oO 82) (oO 83)),oL 85 84,oF 86 2 3,oL 87 86,oT 88 (.bin .sub 3 (oO 85) (oO 87)),oT 12 (.mv (oO 88))]) (oK [3,5,7,8,9,11,12] (.block 2 (.loop c4l1)))) (oK [3,5,7,8,9,11] (oX [oM 103 11,oB 104 .eql 3 103 (oN 0),oM 13 104] [3,5,7,8,9,11,13] (oS (oX [oM 105 9,oM 106 11,oB 107 .sub 3 106 (oN 1),oA 108 (.ext (.mx true) [oN 0,oO 107]),oA 109 (.iaddr 1 o1 (oO 105) (oO 108)),oL 110 109,oM 14 110] [3,5,7,8,9,11,13,14] (.block 4 (.loop c4l2))) (oK [3,5,7,8,9,11,13] (oX [oM 127 13,oA 128 (.un .not (oO 127))] [3,5,7,8,9,11,128] (oI 128 (oX [o9 6 false] [6] .ret))))))))))) (oK [3,5,7,8,9,11] (oR [oM 53 11,oB 54 .add 3 53 (oN 1),oM 11 54]))))
def c4 : AC:=oX [o7 3 0,o7 4 1,o7 5 2,o9 6 false] [3,4,5] (oS (oX [oC 18 21 [],oA 19 (.un .not (oO 18))] [3,4,5,19] (oI 19 (oX [o9 6 false] [6] .ret))) (oK [3,4,5] (oS (oQ [oA 20 (.iarr 2 1 (oO 4) (oN 0)),oL 21 20,oA 22 (.iarr 2 1 (oO 4) (oN 1)),oL 23 22,oM 7 21,oT 8 (.mv (oO 23))]) (oK [3,5,7,8] (oS (oX [oM 24 7,oC 25 22 [oO 24],oA 26 (.un .not (oO 25)),oM 27 26,oG 28 27 false (.load true 3 (oO 3)),oG 29 27 false (.call (.func 27) [oO 28]),oG 30 27 false (.bin .neq 3 (oO 29) (oN 0)),oH 31 27 30,oM 32 31,oD 33 32 false 7,oD 34 32 false 8,oG 35 32 false (.call (.func 28) [oO 33,oO 34]),oG 36 32 false (.bin .neq 3 (oO 35) (oN 0)),oH 37 32 36] [3,5,7,8,37] (oI 37 (oX [o9 6 true] [6] .ret))) (oK [3,5,7,8] (oS (oQ [o5 39 3 3,oM 40 7,oC 41 24 [oO 40],oM 42 8,oC 43 24 [oO 42],oT 44 (.call (.func 23) [oO 39,oO 41,oO 43]),oT 38 (.mv (oO 44)),o8 45 38 0,o8 46 38 1,oM 9 45,oT 10 (.mv (oO 46))]) (oK [3,5,7,8,9,10] (oS (oX [oM 47 10,oB 48 .neq 27 47 (oN 0)] [3,5,7,8,9,48] (oI 48 (oX [o9 6 false] [6] .ret))) (oK [3,5,7,8,9] (oS (oX [oV 11 0] [3,5,7,8,9,11] (.block 0 (.loop c4l3))) (oK [3,5,7,8,9] (oX [o5 129 3 3,oA 15 (.alloc o3),oW 3 15 129] [3,5,7,8,9,15] (oS (oX [oA 130 (.iarr 2 1 (oO 5) (oN 0)),oL 131 130,oC 132 31 [oO 131,oN 0,oN 20],oM 133 132,oG 134 133 true (.iarr 2 1 (oO 5) (oN 1)),oJ 135 133 true 134,oG 136 133 true (.call (.func 31) [oO 135,oN 0,oN 100]),oP 137 133 136] [3,5,7,8,9,15,137] (oI 137 (oQ [oF 138 2 3,oL 139 138,oA 140 (.iarr 2 1 (oO 5) (oN 0)),oL 141 140,oB 142 .add 3 139 (oO 141),oF 143 0 3,oL 144 143,oA 145 (.iarr 2 1 (oO 5) (oN 1)),oL 146 145,oB 147 .add 3 144 (oO 146),oF 148 2 15,oW 1 148 142,oT 149 (.faddr 0 (oO 15)),⟨none,none,.store false 1 (oO 149) (oO 147),true⟩]))) (oK [7,8,9,15] (oS (oX [o5 150 3 15,oC 151 27 [oO 150],oB 152 .neq 3 151 (oN 0)] [7,8,9,15,152] (oI 152 (oX [o9 6 true] [6] .ret))) (oK [7,8,9,15] (oS (oQ [o5 154 3 15,oM 155 7,oC 156 24 [oO 155],oM 157 8,oC 158 24 [oO 157],oT 159 (.call (.func 25) [oO 154,oO 156,oO 158]),oT 153 (.mv (oO 159)),o8 160 153 0,o8 161 153 1,oM 16 160,oT 17 (.mv (oO 161))]) (oK [9,16,17] (oS (oX [oM 162 17,oB 163 .neq 27 162 (oN 0)] [9,16,17,163] (oI 163 (oX [oM 164 17,oB 165 .eql 27 164 (oN 12),oM 166 165,oD 167 166 true 16,oG 168 166 true (.bin .eql 3 (oO 167) (oN 0)),oP 169 166 168,oM 6 169] [6] .ret))) (oK [9,16] (oX [oM 170 9,o4 171 170,oB 172 .gtr 3 171 (oN 0),oM 173 172,oD 174 173 true 9,oG 175 173 true (.iaddr 1 o1 (oO 174) (oN 0)),oJ 176 173 true 175,oD 177 173 true 16,oG 178 173 true (.bin .leq 3 (oO 176) (oO 177)),oP 179 173 178,oM 6 179] [6] .ret))))))))))))))))))))))
def c5 : AC:=oX [o7 3 0,o9 6 false] [1,2,3] (oS (oX [oC 16 21 [],oA 17 (.un .not (oO 16))] [1,2,3,17] (oI 17 (oX [o9 6 false] [6] .ret))) (oK [1,2,3] (oS (oX [o5 18 3 3,oC 19 34 [oO 18],oA 20 (.un .not (oO 19)),oM 21 20,oD 22 21 false 2,oG 23 21 false (.call (.func 35) [oO 22]),oG 24 21 false (.un .not (oO 23)),oH 25 21 24] [1,2,3,25] (oI 25 (oX [o9 6 true] [6] .ret))) (oK [1,2,3] (oX [o5 27 3 3,oC 28 37 [oO 27],oM 29 1,oM 30 2,oC 31 38 [oO 30],oC 32 36 [oO 28,oO 29,oO 31],oM 26 32,o8 33 26 0,o8 34 26 1,o8 35 26 2,oA 7 (.alloc oZ),oW 10 7 33,oM 8 34,oM 9 35] [1,2,3,7,8,9] (oX [o5 37 3 3,oC 38 37 [oO 37],oM 39 1,oM 40 2,oC 41 38 [oO 40],oC 42 39 [oO 38,oO 39,oO 41],oM 36 42,o8 43 36 0,o8 44 36 1,oM 10 43,oM 11 44] [1,2,3,7,8,9,10,11] (oS (oX [o5 45 3 3,oM 46 1,oC 47 40 [oO 45,oO 46],oM 12 47] [1,2,3,7,8,9,10,11,12] (oX [oM 48 12,oB 49 .neq 3 48 (oN 0)] [1,2,3,7,8,9,10,11,12,49] (oI 49 (oX [oM 50 9,oM 51 12,oB 52 .eql 3 50 (oO 51),oM 53 52,oD 54 53 true 11,oD 55 53 true 12,oG 56 53 true (.bin .eql 3 (oO 54) (oO 55)),oP 57 53 56,oM 58 57,oD 59 58 true 8,oG 60 58 true (.bin .eql 3 (oO 59) (oN 0)),oP 61 58 60,oM 62 61,oG 63 62 true (.load true 10 (oO 7)),oG 64 62 true (.build oZ []),oG 65 62 true (.call (.func 41) [oO 63,oO 64]),oP 66 62 65,oM 67 66,oD 68 67 true 10,oG 69 67 true (.len false (oO 68)),oG 70 67 true (.bin .eql 3 (oO 69) (oN 0)),oP 71 67 70,oM 6 71] [6] .ret)))) (oK [1,2,3,7,8,9,10,11] (oX [o5 73 3 3,oM 74 1,oM 75 2,oC 76 42 [oO 73,oO 74,oO 75],oM 72 76,o8 77 72 0,o8 78 72 1,o8 79 72 2,oA 13 (.alloc oZ),oW 10 13 77,oM 14 78,oM 15 79] [1,2,3,7,8,9,10,11,13,14,15] (oS (oX [oM 80 9,oM 81 15,oB 82 .neq 3 80 (oO 81),oM 83 82,oD 84 83 false 8,oD 85 83 false 14,oG 86 83 false (.bin .neq 3 (oO 84) (oO 85)),oH 87 83 86,oM 88 87,oG 89 88 false (.load true 10 (oO 7)),oG 90 88 false (.load true 10 (oO 13)),oG 91 88 false (.call (.func 41) [oO 89,oO 90]),oG 92 88 false (.un .not (oO 91)),oH 93 88 92] [1,2,3,10,11,15,93] (oI 93 (oX [o9 6 false] [6] .ret))) (oK [1,2,3,10,11,15] (oS (oX [oM 94 15,oB 95 .neq 3 94 (oN 0)] [1,2,3,10,11,15,95] (oI 95 (oX [oM 96 11,oM 97 15,oB 98 .eql 3 96 (oO 97),oM 99 98,oD 100 99 true 10,oG 101 99 true (.len false (oO 100)),oG 102 99 true (.bin .eql 3 (oO 101) (oN 0)),oP 103 99 102,oM 6 103] [6] .ret))) (oK [1,2,3,10,11] (oX [oM 104 11,oB 105 .eql 27 104 (oN 0),oM 106 105,oD 107 106 true 10,oG 108 106 true (.load true 3 (oO 3)),oD 109 106 true 1,oD 110 106 true 2,oG 111 106 true (.call (.func 43) [oO 108,oO 109,oO 110]),oG 112 106 true (.call (.func 30) [oO 107,oO 111]),oP 113 106 112,oM 6 113] [6] .ret))))))))))))))
def c9l1 : AC:=oS (oX [oM 74 15,oM 75 13,o4 76 75,oB 77 .lss 3 74 (oO 76)] [3,7,8,9,10,12,13,14,15,77] (.cond (oO 77) .skip (.exit 0))) (oK [3,7,8,9,10,12,13,14,15] (oS (.block 1 (oQ [oA 80 (.mvs (oO 14)),oM 81 13,oA 82 (.mvs (oO 15)),oA 83 (.iaddr 2 o2 (oO 81) (oO 82)),oF 84 1 83,oL 85 84,oM 86 13,oM 87 15,oA 88 (.iaddr 2 o2 (oO 86) (oO 87)),oF 89 0 88,oL 90 89,oT 91 (.bin .sub 3 (oO 85) (oO 90)),oT 92 (.ext (.mx true) [oO 80,oO 91]),oT 14 (.mv (oO 92))])) (oK [3,7,8,9,10,12,13,14,15] (oR [oM 78 15,oB 79 .add 3 78 (oN 1),oM 15 79]))))
def c9 : AC:=oX [o7 3 0,o9 6 false] [1,2,3] (oS (oX [oC 16 21 [],oA 17 (.un .not (oO 16))] [1,2,3,17] (oI 17 (oX [o9 6 false] [6] .ret))) (oK [1,2,3] (oS (oX [o5 18 3 3,oC 19 34 [oO 18],oA 20 (.un .not (oO 19)),oM 21 20,oD 22 21 false 2,oG 23 21 false (.call (.func 35) [oO 22]),oG 24 21 false (.un .not (oO 23)),oH 25 21 24] [1,2,3,25] (oI 25 (oX [o9 6 true] [6] .ret))) (oK [1,2,3] (oX [o5 27 3 3,oC 28 37 [oO 27],oM 29 1,oM 30 2,oC 31 38 [oO 30],oC 32 55 [oO 28,oO 29,oO 31],oM 26 32,o8 33 26 0,o8 34 26 1,oM 7 33,oM 8 34] [1,2,3,7,8] (oX [o5 36 3 3,oC 37 37 [oO 36],oM 38 1,oM 39 2,oC 40 38 [oO 39],oC 41 56 [oO 37,oO 38,oO 40],oM 35 41,o8 42 35 0,o8 43 35 1,oM 9 42,oM 10 43] [1,2,3,7,8,9,10] (oS (oX [o5 44 3 3,oM 45 1,oM 46 2,oC 47 53 [oO 44,oO 45,oO 46],oM 11 47] [1,2,3,7,8,9,10,11] (oX [oM 48 11,oB 49 .neq 3 48 (oN 0)] [1,2,3,7,8,9,10,11,49] (oI 49 (oX [oM 50 8,oM 51 11,oB 52 .eql 3 50 (oO 51),oM 53 52,oD 54 53 true 10,oD 55 53 true 11,oG 56 53 true (.bin .eql 3 (oO 54) (oO 55)),oP 57 53 56,oM 58 57,oD 59 58 true 7,oG 60 58 true (.len false (oO 59)),oG 61 58 true (.bin .eql 3 (oO 60) (oN 0)),oP 62 58 61,oM 63 62,oD 64 63 true 9,oG 65 63 true (.bin .eql 3 (oO 64) (oN 0)),oP 66 63 65,oM 6 66] [6] .ret)))) (oK [1,2,3,7,8,9,10] (oX [o5 68 3 3,oM 69 1,oM 70 2,oC 71 58 [oO 68,oO 69,oO 70],oM 67 71,o8 72 67 0,o8 73 67 1,oM 12 72,oM 13 73] [3,7,8,9,10,12,13] (oX [oV 14 0] [3,7,8,9,10,12,13,14] (oS (oX [oV 15 0] [3,7,8,9,10,12,13,14,15] (.block 0 (.loop c9l1))) (oK [3,7,8,9,10,12,14] (oX [oM 93 8,oB 94 .eql 27 93 (oN 0),oM 95 94,oD 96 95 true 7,oD 97 95 true 12,oG 98 95 true (.call (.func 57) [oO 96,oO 97]),oP 99 95 98,oM 100 99,oG 101 100 true (.load true 3 (oO 3)),oD 102 100 true 7,oG 103 100 true (.call (.func 47) [oO 101,oO 102]),oG 104 100 true (.bin .eql 3 (oO 103) (oN 0)),oP 105 100 104,oM 106 105,oD 107 106 true 10,oG 108 106 true (.bin .eql 27 (oO 107) (oN 0)),oP 109 106 108,oM 110 109,oD 111 110 true 9,oD 112 110 true 14,oG 113 110 true (.bin .eql 3 (oO 111) (oO 112)),oP 114 110 113,oM 115 114,oD 116 115 true 9,oE 117 115 true 2 3,oJ 118 115 true 117,oG 119 115 true (.bin .leq 3 (oO 116) (oO 118)),oP 120 115 119,oM 6 120] [6] .ret)))))))))))))
end Go.Proofs.YtcbabnbiinkafaaGreatDoor
end
