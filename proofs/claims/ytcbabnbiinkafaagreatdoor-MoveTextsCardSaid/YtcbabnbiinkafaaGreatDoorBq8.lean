/- Part 8 of the proof of: the statements about chapter 8 -/
import Derived.Maps.RangeWalk
import Derived.Test.YtcbabnbiinkafaaGreatDoorProg
import Derived.Lib.ItoaNum
import Derived.KernelRfl
import Derived.Test.YtcbabnbiinkafaaGreatDoorBq7
set_option linter.all false
section
namespace Go.Am
open Dat (cells)
variable {P : Program} {E : Env} {U : Nat → Prop} {w : World} {ch : Chs} {d : Nat}
theorem dX.ren [Glob P] {cx:Cx} {st:ASt} (m:List (Nat×Nat)) (hk:ba (ag st.ch) st.ch=true) (hnd:an ((ag st.ch).map (rn m))) (hbs:jn m st.ch):dX P cx st (renS m st):=fun E U a w hh=>by
 obtain⟨ks,hks⟩:∃ ks,ag st.ch=ks:=⟨_,rfl⟩;have hinj:∀ x∈ks,∀ y∈ks,rn m x=rn m y->x=y:=l7 (by rw[<- hks];exact d9 hnd);have hin:∀ k c,(k,c)∈st.ch->k∈ks:=fun k c h=>by rw[<- hks,dV];exact zu.2 ⟨_,h,rfl⟩
 let E':Env:=fun j=>match ks.find? (fun k=>rn m k == j)with | some k=>E k | none=>E j
 have hE:∀ k∈ks,E' (rn m k)=E k:=fun k hk=>by
  simp only[E'];cases hfnd:ks.find? (fun k'=>rn m k' == rn m k)with
  | none=>
   have:=List.find?_eq_none.1 hfnd k hk;simp at this
  | some k'=>
   have h1:=List.find?_some hfnd;have h2:=List.mem_of_find?_eq_some hfnd;have h3:rn m k'=rn m k:=by simpa using h1
   have:k'=k:=hinj k' h2 k hk h3;rw[this]
 have hch:∀ k c,(k,c)∈ar m st.ch->∃ k0 c0,(k0,c0)∈st.ch/\k=rn m k0/\c=aG m c0/\E' k=E k0:=fun k c h=>by
  obtain⟨k0,c0,h0,rfl,rfl⟩:=eO h;exact⟨k0,c0,h0,rfl,rfl,hE k0 (hin k0 c0 h0)⟩
 have hkc:∀ k c,(k,c)∈st.ch->gm ks c:=fun k c h=>by
  cases c with
  | box cs=>exact gZ fun c hc=>ln c (by rw[<- hks];exact ig hk k cs h c hc)
  |_=>trivial
 have hid:∀ D o,gH E U w.heap st.ch D o->gH E' U w.heap (ar m st.ch) D o:=fun D o ⟨h1,h2,h3⟩=>⟨h1,h2,fun k c h hf=>by
  obtain⟨k0,c0,h0,_,_,e⟩:=hch k c h;rw[e]at hf
  exact h3 k0 c0 h0 hf⟩
 have e1:renS m st=⟨bu ks m st.t,ar m st.ch⟩:=by simp only[renS,hks]
 rw[e1];refine⟨E',U,hh.sz,?_,fun i=>?_,⟨?_,fun k c h=>?_,fun k c k' c' h h' hne x hx hx'=>?_,fun k c h x hx=>?_,fun k c h x hx=>?_,hh.inv.lt⟩,hh.os,hh.tape,hh.output,hh.size,hh.fr,hh.keepA,fun k c h x hx=>?_,hh.base,fun k cs hk1 h=>?_,fun p hp=>hid _ _ (hh.hid p hp),hh.gok⟩
 . obtain⟨Ds,h1,h2,h3⟩:=hh.df;exact⟨Ds,h1,h2,fun D hD=>⟨(h3 D hD).1,hid _ _ (h3 D hD).2⟩⟩
 . rcases pF ks m st.t i with e | ⟨e,ek⟩
   . show Rep _ _ _ (gt (bu ks m st.t) i) _
     rw[e];exact .d (.any _)
   . show Rep _ _ _ (gt (bu ks m st.t) i) _
     rw[e];exact (hh.tok i).ren (ln _ ek) hE
 . have e2:(ar m st.ch).map (·.1)=ks.map (rn m):=by rw[fD,<- hks,dV,zT,zT];rfl
   rw[e2];refine iU (by rw[<- hks,dV];exact hh.inv.nd) (fun x hx y hy e=>hinj x hx y hy e)
 . obtain⟨k0,c0,h0,rfl,rfl,e⟩:=hch k c h;exact (hh.inv.ok k0 c0 h0).ren (hin k0 c0 h0) (hkc k0 c0 h0) hE
 . obtain⟨k0,c0,h0,rfl,rfl,e⟩:=hch k c h;obtain⟨k1,c1,h1,rfl,rfl,e'⟩:=hch k' c' h';rw[e]at hx;rw[e']at hx';exact hh.inv.sep k0 c0 k1 c1 h0 h1 (fun e=>hne (by rw[e])) x hx hx'
 . obtain⟨k0,c0,h0,rfl,rfl,e⟩:=hch k c h;rw[e]at hx;exact hh.inv.out k0 c0 h0 x hx
 . obtain⟨k0,c0,h0,rfl,rfl,e⟩:=hch k c h;rw[e]at hx;exact hh.inv.fpl k0 c0 h0 x hx
 . obtain⟨k0,c0,h0,rfl,rfl,e⟩:=hch k c h;rw[e]at hx;exact hh.live k0 c0 h0 x hx
 . obtain⟨k0,c0,h0,rfl,hc0,e⟩:=hch k _ h;have hge:=Cx.fx_ge hk1;cases c0 with
   | box cs0=>
    rcases kM hbs k0 cs0 h0 with g | g
    . rw[e,g];rw[g]at hk1;exact hh.fix k0 cs0 hk1 h0
    . omega
   |_=>simp[aG]at hc0
end Go.Am
end
section
namespace Go.Am
open Dat (cells)
variable {P : Program} [Glob P] {cx : Cx} {Q : ASt → Prop} {k : List It} {st : ASt}
def qM : Ch->Bool
 |.row _ _ []=>true
 |.deep _ _ _ none []=>true
 |_=>false
def qN : Ch->Nat
 |.row sz _ _=>sz
 |_=>1
theorem wG {E:Env} {U:Nat->Prop} {h:Array Obj} {d:Nat} {c0:Ch} (hc:qM c0=true):dN (dO E d (ke0 ⟨0,0,0,0,qN c0,true⟩)) U h d c0:=by
 unfold qM at hc;split at hc
 . rw[dN,updE_same];exact⟨⟨rfl,rfl,(fun n el h=>by simp at h),.inl ⟨rfl,rfl⟩⟩,gB _⟩
 . rw[dN,updE_same];refine⟨⟨rfl,rfl,.inl ⟨rfl,rfl⟩⟩,⟨fun b=>⟨fun hb=>(by cases hb.1),fun hb=>?_⟩,fun i q h=>by simp[eo]at h,fun i j q q' _ h=>by simp[eo]at h⟩,fun i n t es h=>by simp[eo]at h⟩;rcases hb with hb | ⟨i,q,h,_⟩
   . cases hb.1
   . simp[eo]at h
 . cases hc
theorem rL {c:C} (h:aE c=true):jI (some c)=none:=by cases c <;> first | rfl | cases h
theorem Holds.recell {E:Env} {U:Nat->Prop} {a:Act} {w:World} (hh:Holds P cx E U a w st) {kk:Nat} {cs cs':List C} (hl:lk st.ch kk=some (.box cs)) (hlen:cs'.length=cs.length)
 (hc:∀ (j:Nat) c',cs'[j]? = some c'->∃ c,cs[j]? = some c/\(c'=c\/(aE c=true/\aE c'=true/\∀ v,Rep E U w.heap c v->Rep E U w.heap c' v))):Holds P cx E U a w ⟨st.t,am st.ch kk (.box cs')⟩:=by
 have hkm:=dH hl;have hmem:∀ k c,(k,c)∈am st.ch kk (.box cs')->(k=kk/\c=.box cs')\/((k,c)∈st.ch/\k≠kk):=fun k c hm=>by
  by_cases hk:k=kk
  . subst hk;have h1:=eU (by rw[fi hl];exact hh.inv.nd) hm;rw[mB,if_pos rfl]at h1;cases h1;exact .inl ⟨rfl,rfl⟩
  . rcases fC hh.inv.nd hm with g | g
    . exact absurd (congrArg Prod.fst g) hk
    . exact .inr ⟨eL g,hk⟩
 have hex:∀ k c,(k,c)∈am st.ch kk (.box cs')->∃ c0,(k,c0)∈st.ch:=fun k c hm=>by
  rcases hmem k c hm with⟨rfl,_⟩ | ⟨h,_⟩
  . exact⟨_,hkm⟩
  . exact⟨_,h⟩
 have hhid:∀ b o,gH E U w.heap st.ch b o->gH E U w.heap (am st.ch kk (.box cs')) b o:=fun b o h=>⟨h.1,h.2.1,fun k c hm=>by
  obtain⟨c0,h0⟩:=hex k c hm
  exact h.2.2 k c0 h0⟩
 have hI:eH cs'=eH cs:=by
  funext j
  simp only[eH];cases hj:cs'[j]? with
  | none=>
   have:cs[j]? = none:=by
    rw[List.getElem?_eq_none_iff]at hj ⊢;omega
   rw[this]
  | some c'=>
   obtain⟨c,h1,h2⟩:=hc j c' hj;rw[h1];rcases h2 with rfl | ⟨g1,g2,_⟩
   . rfl
   . rw[rL g1,rL g2]
 refine⟨hh.sz,?_,hh.tok,⟨by rw[fi hl];exact hh.inv.nd,fun k c hm=>?_,fun k c k' c' h h' hne b hb hb'=>?_,fun k c h b hb=>?_,fun k c h b hb=>?_,hh.inv.lt⟩,hh.os,hh.tape,hh.output,hh.size,hh.fr,hh.keepA,fun k c h b hb=>?_,hh.base,fun k cs1 hk hm=>?_,fun p hp=>hhid _ _ (hh.hid p hp),hh.gok⟩
 . obtain⟨Ds,h1,h2,h3⟩:=hh.df;exact⟨Ds,h1,h2,fun D hD=>⟨(h3 D hD).1,hhid _ _ (h3 D hD).2⟩⟩
 . rcases hmem k c hm with⟨rfl,rfl⟩ | ⟨h,_⟩
   . obtain⟨⟨g1,arr,ty,g2,g3,g4⟩,g5,g6⟩:=hh.inv.ok k _ hkm;refine⟨⟨g1,arr,ty,g2,by rw[hlen];exact g3,fun j c' hj=>?_⟩,by rw[hI];exact g5,by rw[hI];exact g6⟩;obtain⟨c,h1,h2⟩:=hc j c' hj;rcases h2 with rfl | ⟨q1,q2,q3⟩
     . exact g4 j _ h1
     . rcases g4 j c h1 with⟨r1,r2⟩ | ⟨⟨n,t,es,rfl⟩,_⟩
       . exact .inl ⟨q3 _ r1,r2⟩
       . simp[aE]at q1
   . exact hh.inv.ok k c h
 . obtain⟨c0,h0⟩:=hex k c h;obtain⟨c1,h1⟩:=hex k' c' h';exact hh.inv.sep k c0 k' c1 h0 h1 hne b hb hb'
 . obtain⟨c0,h0⟩:=hex k c h;exact hh.inv.out k c0 h0 b hb
 . obtain⟨c0,h0⟩:=hex k c h;exact hh.inv.fpl k c0 h0 b hb
 . obtain⟨c0,h0⟩:=hex k c h;exact hh.live k c0 h0 b hb
 . rcases hmem k _ hm with⟨rfl,_⟩ | ⟨h,_⟩
   . exact hh.fix k cs hk hkm
   . exact hh.fix k cs1 hk h
def oy (d kk off:Nat) (cs:List C) (c0:Ch) (s:ASt):ASt:=⟨bq [(d,.c .any)] s.t,(d,c0) :: am (ae [(d,.c .any)] (af s.ch d)) kk (.box ((cs.map (ah [(d,.c .any)])).set off (.own d)))⟩
theorem mc {m:List (Nat×Sb)} {kk:Nat} {cs:List C}:∀ {ch:Chs},lk ch kk=some (.box cs)->lk (ae m ch) kk=some (.box (cs.map (ah m)))
 |[],h=>by simp[lk]at h
 | (j,c) :: r,h=>by
  simp only[lk]at h;by_cases hj:j=kk
  . rw[if_pos hj]at h;cases h;simp[ae,lk,hj]
  . rw[if_neg hj]at h;have:=mc (m:=m) h;cases c <;> simpa only[ae,lk,if_neg hj]using this
theorem ou {α:Type} {d kk:Nat} (hne:kk≠d):∀ {t:List (Nat×α)},lk (af t d) kk=lk t kk
 |[]=>rfl
 | (j,c) :: r=>by
  simp only[af];by_cases hj:j=d
  . rw[if_pos hj];simp only[lk];rw[if_neg (fun e=>hne (by omega))]
  . rw[if_neg hj];simp only[lk];rw[ou hne]
theorem dX.nilcell (d kk off:Nat) {cs:List C} {c0:Ch} (hd:d < 100000) (hne:kk≠d) (h0:qM c0=true) (hl:lk st.ch kk=some (.box cs)) (hc:cs[off]? = some (.s (.slice none 0 0))):dX P cx st (oy d kk off cs c0 st):=fun E U a w hh=>by
 have he:=Ev.freshNil hh.inv d (ke0 ⟨0,0,0,0,qN c0,true⟩) c0 (fun b hb=>by cases hb.1) (wG h0);have h1:=hh.ghost hd he;have hl1:lk ((d,c0) :: ae [(d,.c .any)] (af st.ch d)) kk=some (.box (cs.map (ah [(d,.c .any)]))):=by
  simp only[lk];rw[if_neg (fun e=>hne e.symm)];exact mc (by rw[ou hne];exact hl)
 have h2:=Holds.recell (cs':=(cs.map (ah [(d,.c .any)])).set off (.own d)) h1 hl1 (by simp) (fun j c' hj=>by
  rw[zJ]at hj;split at hj
  . rename_i e;subst e;split at hj
    . cases hj;refine⟨.s (.slice none 0 0),by simp[hc,ah],.inr ⟨rfl,rfl,fun v hv=>?_⟩⟩;rw[dK hv];have:=Rep.own (E:=dO E d (ke0 ⟨0,0,0,0,qN c0,true⟩)) (U:=U) (h:=w.heap) d;rw[updE_same]at this;exact this
    . cases hj
  . exact⟨c',hj,.inl rfl⟩)
 refine⟨dO E d (ke0 ⟨0,0,0,0,qN c0,true⟩),U,?_⟩;have e1:am ((d,c0) :: ae [(d,.c .any)] (af st.ch d)) kk (.box ((cs.map (ah [(d,.c .any)])).set off (.own d)))=(d,c0) :: am (ae [(d,.c .any)] (af st.ch d)) kk (.box ((cs.map (ah [(d,.c .any)])).set off (.own d))):=by
  simp only[am];rw[if_neg (fun e=>hne e.symm)]
 rw[e1]at h2;exact h2
theorem ud (d kk off:Nat) {cs:List C} {c0:Ch} (hd:d < 100000) (hne:kk≠d) (h0:qM c0=true) (hl:lk st.ch kk=some (.box cs)) (hc:cs[off]? = some (.s (.slice none 0 0))) (h:SG P cx Q k (oy d kk off cs c0 st)):SG P cx Q k st:=fE (dX.nilcell d kk off hd hne h0 hl hc) h
def absS (kk off t n:Nat) (ty:TypeId) (es:List (List C)) (cs:List C) (s:ASt):ASt:=⟨bq [(t,.c .any),(kk,.inner)] s.t,ae [(t,.c .any),(kk,.inner)] (af (am s.ch kk (.box (cs.set off (.isl n ty es)))) t)⟩
theorem Ev.absorbCell {E:Env} {U:Nat->Prop} {w:World} {ch:Chs} {k t off n:Nat} {ty:TypeId} {es:List (List C)} {cs:List C} (hi:Inv E U w.heap ch) (hl:lk ch k=some (.box cs)) (hlt:lk ch t=some (.row n ty es)) (hc:cs[off]? = some (.own t)) (hkt:k≠t) (d:Nat) :
 ∃ E',Ev E U w ch [(t,.c .any),(k,.inner)] d E' U w (ae [(t,.c .any),(k,.inner)] (af (am ch k (.box (cs.set off (.isl n ty es)))) t)):=by
 have hkm:=dH hl;have htm:=dH hlt;have h2:off < cs.length:=(zi.1 hc).1;obtain⟨⟨hn,arr,tya,b1,b2,b3⟩,hf,hin⟩:=hi.ok k _ hkm;obtain⟨hrow,hft⟩:=hi.ok t _ htm;have hval:arr.getD off undef=slV (E t).toKE0:=by
  rcases b3 off _ hc with⟨r1,_⟩ | ⟨⟨_,_,_,h⟩,_⟩
  . exact eV r1
  . cases h
 have hownk:(E k).fp (E k).blk:=(hf.fp _).2 (.inl ⟨hn,rfl⟩);have hownt:(E t).nil=false->(E t).fp (E t).blk:=fun h=>(hft.fp _).2 (.inl ⟨h,rfl⟩)
 obtain⟨f1,f2⟩:=lL (i:=off) (I':=eH (cs.set off (.isl n ty es))) (y:=(E t).toKE0) hf (fun j hj q hq=>by
  simp only[eH,zJ]at hq ⊢
  rwa[if_neg (fun e=>hj e.symm)]at hq) (fun b h1 h2 h3=>hi.sep k _ t _ hkm htm hkt b h3 (h2 ▸ hownt h1))
 refine⟨_,Ev.absorb (w1:=w) (xk:=mkK (E k).toKE0 (fun j=>if j=off then (E t).toKE0 else (E k).inn j) (eH (cs.set off (.isl n ty es)))) hi hl hlt hkt rfl rfl rfl (zw _) (fun b _ _ _=>rfl) rfl
  (fun b hb=>by
   rcases f2 b hb with g | g
   . exact .inl g
   . exact .inr (g.2 ▸ hownt g.1)) (fun _=>⟨cs,rfl⟩) (fun hkeep hrep hno=>?_) d⟩
 simp only[ei,dN,kZ hno,updE_same];refine⟨⟨hn,arr,tya,b1,by simpa using b2,fun j c hj=>?_⟩,f1,fun j n' t' es' hj=>?_⟩
 . simp only[zh,za]at hj;obtain⟨c1,hj,rfl⟩:=hj;rw[zJ]at hj;split at hj
   . rename_i e;subst e;cases hj;exact .inr ⟨⟨_,_,_,rfl⟩,by rw[hval];simp[mkK]⟩
   . rename_i e;rcases b3 j c1 hj with⟨r1,r2⟩ | ⟨⟨n',t',es',rfl⟩,r2⟩
     . exact .inl ⟨hrep _ _ r1,r2⟩
     . exact .inr ⟨⟨n',t',es',rfl⟩,by rw[r2];simp only[mkK];rw[if_neg (fun e'=>e e'.symm)]⟩
 . simp only[eH,zJ]at hj;simp only[mkK];split at hj
   . rename_i e;subst e;cases hj;rw[if_pos rfl];exact hrow.mono hkeep (fun h=>rfl)
   . rename_i e;rw[if_neg (fun e'=>e e'.symm)];exact (hin j n' t' es' hj).mono hkeep (fun h=>rfl)
theorem dX.absorb (kk off t:Nat) {n:Nat} {ty:TypeId} {es:List (List C)} {cs:List C} (hl:lk st.ch kk=some (.box cs)) (hlt:lk st.ch t=some (.row n ty es)) (hc:cs[off]? = some (.own t)) (hkt:kk≠t):dX P cx st (absS kk off t n ty es cs st):=fun E U a w hh=>by
 obtain⟨E',he⟩:=Ev.absorbCell (d:=0) hh.inv hl hlt hc hkt;exact⟨_,U,hh.ghost (by decide) he⟩
theorem qZ (kk off t:Nat) {n:Nat} {ty:TypeId} {es:List (List C)} {cs:List C} (hl:lk st.ch kk=some (.box cs)) (hlt:lk st.ch t=some (.row n ty es)) (hc:cs[off]? = some (.own t)) (hkt:kk≠t) (h:SG P cx Q k (absS kk off t n ty es cs st)):SG P cx Q k st:=fE (dX.absorb kk off t hl hlt hc hkt) h
end Go.Am
end
section
namespace Go.Am
open Dat (cells)
variable {P : Program}
structure MapTy (P:Program) (t k e:TypeId):Prop where
 ht:P.underlying t=some (.map k e)
 hk:P.underlying k=some (.int .i64)
 he:P.underlying e=some (.int .i64)
 hz:∀ w,(zeroValue e).run P w=.ok (.int .i64 0) w
end Go.Am
end
section
namespace Go.Am
open Dat (cells)
variable {P : Program}
variable [Glob P] {ro : Option Nat} {ρ : Operand → C} {ch : Chs} {d : Nat}
def Ent.of4 {α β γ δ:Type} [Dat α] [Dat β] [Dat γ] [Dat δ] (id:FuncId) (pre:α->β->γ->δ->Prop) (res:α->β->γ->δ->C) (hk:∀ a b c d,dF [] (res a b c d)) (h:∀ a b c d,pre a b c d->FC P id [enc a,enc b,enc c,enc d] [] (res a b c d) []):Ent P where
 id:=id
 sp:=fun args chs=>match args,chs with
  |[x,y,z,u],[]=>(fy x).bind fun a=>(fy y).bind fun b=>(fy z).bind fun c=>(fy u).bind fun d=>some (pre a b c d,res a b c d,[],[])
  |_,_=>none
 ok:=by
  intro args chs p r chs' nk hs hp;split at hs
  . simp only[zk,zn,zf]at hs;obtain⟨a,ha,b,hb,c,hc,d,hd,rfl,rfl,rfl,rfl⟩:=hs;exact⟨(h a b c d hp).le (args':=[_,_,_,_]) ⟨gE ha,gE hb,gE hc,gE hd,trivial⟩,.plain (hk a b c d)⟩
  . cases hs
end Go.Am
end
section
namespace Go.Am
open Dat (cells)
variable {P : Program} [Glob P]
section core
variable {cx : Cx} {ops : Array Oper} {aos : List AO} {Q : Exit → Act → World → Prop}
theorem tE {T:(Nat->Bool)->ASt} (hops:ops.size=aos.length) (hm:∀ (j:Nat) o ao,ops[j]? = some o->aos[j]? = some ao->gg P cx.n ops o ao)
 (hlt:∀ (j:Nat) l,(ops.toList.map dL)[j]? = some l->∀ p∈l,p < j)
 (hgo:∀ (S:Nat->Bool) (j:Nat) o ao,ops[j]? = some o->aos[j]? = some ao->S j=false->(∀ p∈dL o,S p=true)->(∀ (i:Nat) l,(ops.toList.map dL)[i]? = some l->S i=true->∀ p∈l,S p=true) ->
  ∃ ef2,StepE P ao (T S) ef2/\dX P cx (aw ao.dst ef2 (T S)) (T (fun i=>i == j || S i)))
 (hend:∀ S:Nat->Bool,(∀ i,i < ops.size->S i=true)->∀ E' U' a' w',Holds P cx E' U' a' w' (T S)->Q .normal a' w') :
 ∀ (fuel:Nat) (listed:Array Bool) (E:Env) (U:Nat->Prop) (a:Act) (w:World),listed.size=ops.size->((List.range ops.size).countP fun i=>!(listed.getD i false))=fuel ->
  (∀ (j:Nat) o,ops[j]? = some o->listed.getD j false=true->∀ p∈dL o,listed.getD p false=true) ->
  Holds P cx E U a w (T (fun i=>listed.getD i false))->wpAnyIn (FW cx.ro) 0 P .any ops Q fuel listed a w:=by
 have atEnd:∀ (listed:Array Bool) (E:Env) (U:Nat->Prop) (a:Act) (w:World),(∀ i,i < ops.size->listed.getD i false=true)->Holds P cx E U a w (T (fun i=>listed.getD i false))->Q .normal a w:=fun listed E U a w hall hh=>hend _ hall E U a w hh
 intro fuel
 induction fuel with
 | zero=>
  intro listed E U a w hls hcnt hcl hh;have hall:∀ i,i < ops.size->listed.getD i false=true:=fun i hi=>by
   have:=yk.1 hcnt i (zE.2 hi);simpa using this
  refine⟨?_,atEnd listed E U a w hall hh⟩;apply yi.2;intro i hi hf;simp only[zm]at hf;have hi':=zE.1 hi;have h1:=hall i hi';have h2:listed.getD i true=listed.getD i false:=by
   have hlt:i < listed.size:=by omega
   simp[zc,zj hlt]
  rw[h2,h1]at hf;simp at hf
 | succ fuel ih=>
  intro listed E U a w hls hcnt hcl hh;have hsome:∃ i,i < ops.size/\listed.getD i false=false:=by
   rcases Classical.em (∃ i,i < ops.size/\listed.getD i false=false)with h | h
   . exact h
   . exfalso
     have:((List.range ops.size).countP fun i=>!(listed.getD i false))=0:=yk.2 (fun i hi=>by
      cases hf:listed.getD i false with
      | true=>simp
      | false=>exact absurd ⟨i,zE.1 hi,hf⟩ h)
     omega
  have hgd:∀ i,i < ops.size->listed.getD i true=listed.getD i false:=fun i hi=>by
   have hlt:i < listed.size:=by omega
   simp[zc,zj hlt]
  refine⟨fun hnil=>?_,fun j hj=>?_⟩
  . exfalso
    obtain⟨i,h1,h2,h3⟩:=jW hsome;have hnot:=yi.1 hnil i (zE.2 h1);apply hnot;obtain⟨o,ho⟩:∃ o,ops[i]? = some o:=⟨_,zj h1⟩;simp only[zm];refine⟨by rw[hgd i h1,h2];rfl,?_⟩;simp only[ho,zU,zN];rw[yn];intro e he;simp only[zV];by_cases hb:Region.binds .any e=true
    . right;have hp:e.on∈dL o:=zu.2 ⟨e,yf.2 ⟨by simpa using he,hb⟩,rfl⟩;exact h3 _ (hlt i (dL o) (by simp[ho]) _ hp)
    . left;simpa using hb
  . have hj2:=yf.1 hj;have hjm:=zE.1 hj2.1;have hjr:=hj2.2;simp only[zm]at hjr;obtain⟨o,ho⟩:∃ o,ops[j]? = some o:=⟨_,zj hjm⟩;obtain⟨ao,hao⟩:∃ ao,aos[j]? = some ao:=⟨_,ze (by omega)⟩;have hSj:listed.getD j false=false:=by
     have:=hjr.1;rw[hgd j hjm]at this;simpa using this
    have hpreds:∀ p∈dL o,listed.getD p false=true:=fun p hp=>by
     obtain⟨e,he,rfl⟩:=zu.1 hp;obtain⟨he1,he2⟩:=yf.1 he;have:=hjr.2;simp only[ho,zU,zN]at this;rw[yn]at this;have:=this e (by simpa using he1);simpa[he2]using this
    have hclS:∀ (i:Nat) l,(ops.toList.map dL)[i]? = some l->listed.getD i false=true->∀ p∈l,listed.getD p false=true:=fun i l hi hs p hp=>by
     simp only[zh,za,zM]at hi;obtain⟨o',ho',rfl⟩:=hi;exact hcl i o' ho' hs p hp
    obtain⟨ef2,hst2,hnext⟩:=hgo (fun i=>listed.getD i false) j o ao ho hao hSj hpreds hclS;have hS':(fun i=>(listed.setIfInBounds j true).getD i false)=fun i=>i == j || listed.getD i false:=by
     funext i
     rw[fX _ _ _ (by omega)]
    have hstep:=pM (Q:=Q) (K:=wpAnyIn (FW cx.ro) 0 P .any ops Q fuel (listed.setIfInBounds j true)) (hm j o ao ho hao) hst2 hh (fun E1 U1 a' w' h1=>by
     obtain⟨E',U',h⟩:=hnext E1 U1 a' w' h1;exact ih (listed.setIfInBounds j true) E' U' a' w' (by simpa using hls)
      (by
       have e:(fun i=>!((listed.setIfInBounds j true).getD i false))=fun i=>!(i == j || listed.getD i false):=by
        funext i;rw[fX _ _ _ (by omega)]
       rw[e];have:=lQ (S:=fun i=>listed.getD i false) hjm hSj
       omega)
      (fun i o' ho' hs p hp=>by
       rw[fX _ _ _ (by omega)]at hs ⊢;simp only[zV,beq_iff_eq]at hs ⊢;right;rcases hs with rfl | hs
       . rw[ho]at ho';cases ho';exact hpreds p hp
       . exact hcl i o' ho' hs p hp)
      (by rw[hS'];exact h))
    unfold wpOpIn;rw[ho];rcases hstep with⟨e,h⟩ | ⟨e,h⟩
    . simp only[e,if_true];exact h
    . simp only[e,zr,if_false];exact⟨fun _ _=>trivial,h⟩
end core
end Go.Am
end
section
namespace Go.Am
open Dat (cells)
variable {P : Program} [Glob P]
variable {cx : Cx} {Q : ASt → Prop} {k : List It} {st : ASt}
theorem m8 {rb:List Nat} {os:List AO} {T:(Nat->Bool)->ASt} (h0:LeS st (T fun _=>false))
 (hgo:∀ (S:Nat->Bool) (j:Nat) ao,os[j]? = some ao->S j=false->(∀ c∈rb,c % 100=j->S (c / 100)=true)->lK rb S->∃ ef2,StepE P ao (T S) ef2/\dX P cx (aw ao.dst ef2 (T S)) (T (fun i=>i == j || S i)))
 (hend:∀ S:Nat->Bool,(∀ i,i < os.length->S i=true)->SG P cx Q k (T S)):SG P cx Q (.c (.draw 999 rb os) :: k) st:=e9 fun code hc E U a w hh=>by
 obtain⟨id,ops,rfl⟩:∃ id ops,code=.region id ops true:=by
  cases code with
  | region id ops draw=>
   cases draw with
   | false=>simp[ec]at hc
   | true=>exact⟨id,ops,rfl⟩
  |_=>simp[ec]at hc
 simp only[ec,zk]at hc;obtain⟨r,h3,h4⟩:=hc;split at h4
 . rename_i hok;simp only[zn,AC.draw.injEq,true_and]at h4;subst h4;obtain⟨g1,g2⟩:=iO h3;have g2':∀ (j:Nat) o ao,ops[j]? = some o->r[j]? = some ao->gg P cx.n ops o ao:=fun j o ao ho ha=>g2 j o ao (by simpa using ho) ha
   simp only[zm]at hok;obtain⟨hok1,hmix⟩:=hok;simp only[mu,if_true,zm]at hok1;obtain⟨ok1,ok2⟩:=hok1;have hlt:∀ (j:Nat) l,(ops.toList.map dL)[j]? = some l->∀ p∈l,p < j:=fun j l hj p hp=>by
    have hz:(l,j)∈(ops.toList.map dL).zipIdx:=by
     rw[zG];exact hj
    have:=zx.1 ok1 (l,j) hz;simpa using zx.1 this p hp
   have hbit:∀ c∈rb,c % 100 < ops.size/\((jj (ops.toList.map dL) []).getD (c % 100) 0).testBit (c / 100)=true:=fun c hc=>by
    have:=zx.1 ok2 c hc;simpa using this
   have hcl:∀ S:Nat->Bool,(∀ (i:Nat) l,(ops.toList.map dL)[i]? = some l->S i=true->∀ p∈l,S p=true)->lK rb S:=fun S hS c hc hs=>by
    obtain⟨b1,b2⟩:=hbit c hc;obtain⟨o',ho'⟩:∃ o',ops[c % 100]? = some o':=⟨_,zj b1⟩;exact gQ hS hlt (ops.toList.map dL) [] (by simp) (fun j i h=>by simp at h) (c % 100) (c / 100) b2 (dL o') (by simp[ho']) (hS (c % 100) (dL o') (by simp[ho']) hs)
   refine wpIn_region_any hmix (tE (T:=T) (by simpa using g1.symm) g2' hlt (fun S j o ao ho hao hSj hpreds hclS=>hgo S j ao hao hSj (fun c hc hcj=>?_) (hcl S hclS)) (fun S hS E' U' a' w' h=>hend S (fun i hi=>hS i (by have:=g1;simp at this;omega)) E' U' a' w' h) ops.size _ E U a _ (by simp) ?_ (fun j o ho hs=>?_) ?_)
   . obtain⟨b1,b2⟩:=hbit c hc;rw[hcj]at b2;exact gQ hclS hlt (ops.toList.map dL) [] (by simp) (fun j i h=>by simp at h) j (c / 100) b2 (dL o) (by simp[ho]) hpreds
   . have:((List.range ops.size).countP fun i=>!((Array.replicate ops.size false).getD i false))=(List.range ops.size).length:=List.countP_eq_length.2 (fun i hi=>by
      have:=zE.1 hi
      simp[zc,this])
     simpa using this
   . exfalso
     by_cases h:j < ops.size <;> simp[zc,h]at hs
   . have e0:(fun i=>(Array.replicate ops.size false).getD i false)=fun _=>false:=by
      funext i
      by_cases h:i < ops.size <;> simp[zc,h]
     rw[e0];have hh:=hh.le h0;exact⟨hh.sz,hh.df,hh.tok,hh.inv,hh.os,hh.tape,hh.output,hh.size,hh.fr,hh.keepA,hh.live,hh.base,hh.fix,hh.hid,hh.gok⟩
 . cases h4
theorem dX.of_le {s s':ASt} (h:LeS s s'):dX P cx s s':=fun E U _ _ hh=>⟨E,U,hh.le h⟩
theorem dX.fzle {s s':ASt} (ks:List Nat) (h:LeS (cg ks s) s'):dX P cx s s':=fun E U _ _ hh=>by
 obtain⟨U',h2⟩:=hh.fz ks;exact⟨E,U',h2.le h⟩
end Go.Am
end
section
namespace Go.Am
open Dat (cells)
variable {P : Program} [Glob P] {cx : Cx} {Q : ASt → Prop} {k : List It} {st : ASt}
def isSt : AOp->Bool
 |.store _ _ _ _=>true
 |_=>false
def gI (i:Nat):List AO->List Nat
 |[]=>[]
 | o :: os=>if isSt o.op=true then i :: gI (i+1) os else gI (i+1) os
def qJ (os:List AO):Bool:=(os.filterMap (·.dst)).Nodup
def vu (rb:List Nat) (os:List AO):Bool:=os.zipIdx.all fun (o,j)=>o.guard.isNone && (eQ o.op.reads).all fun x=>os.zipIdx.all fun (q,i)=>q.dst != some x || rb.contains (100*i+j)
def fZ (rb:List Nat):List Nat->Bool
 | e :: e' :: l=>rb.contains (100*e+e') && (decide (e < e') && fZ rb (e' :: l))
 |_=>true
def chkM (rb:List Nat) (os:List AO):Bool:=qJ os && (vu rb os && (fZ rb (gI 0 os) && decide (os.length<=100)))
def gp (S:Nat->Bool) (t:dJ):Nat->List AO->List C->dJ
 | i,o :: os,v :: vs=>match o.dst with | some d=>(d,if S i=true then v else .any) :: gp S t (i+1) os vs | none=>gp S t (i+1) os vs
 |_,_,_=>t
def gV (t:dJ):List AO->List C->dJ
 | o :: os,v :: vs=>match o.dst with | some d=>(d,v) :: gV t os vs | none=>gV t os vs
 |_,_=>t
theorem nw (t:dJ) (S:Nat->Bool):∀ (os:List AO) (vs:List C) (i:Nat),(∀ j,j < os.length->S (i+j)=true)->gp S t i os vs=gV t os vs
 |[],_,_,_=>by simp[gp,gV]
 |_ :: _,[],_,_=>by simp[gp,gV]
 | o :: os,v :: vs,i,h=>by
  have ih:=nw t S os vs (i+1) (fun j hj=>by rw[show i+1+j=i+(j+1) by omega];exact h (j+1) (by simpa using hj));have h0:=h 0 (by simp);rw[zL]at h0;cases hd:o.dst <;> simp[gp,gV,hd,h0,ih]
theorem iB (t:dJ) (S:Nat->Bool) (x:Nat):∀ (os:List AO) (vs:List C) (i:Nat),os.length=vs.length->(os.filterMap (·.dst)).Nodup ->
 (∃ j o v,os[j]? = some o/\vs[j]? = some v/\o.dst=some x/\gt (gp S t i os vs) x=if S (i+j)=true then v else .any)\/((∀ o∈os,o.dst≠some x)/\gt (gp S t i os vs) x=gt t x)
 |[],[],i,_,_=>.inr ⟨by simp,by simp[gp]⟩
 | o :: os,v :: vs,i,hl,hn=>by
  have hn':(os.filterMap (·.dst)).Nodup:=by
   cases hd:o.dst with
   | none=>simpa[hd]using hn
   | some d=>simp[hd]at hn;exact hn.2
  by_cases hd:o.dst=some x
  . exact .inl ⟨0,o,v,rfl,rfl,hd,by simp[gp,hd,gt,lk]⟩
  . have e:gt (gp S t i (o :: os) (v :: vs)) x=gt (gp S t (i+1) os vs) x:=by
     cases hd2:o.dst with
     | none=>simp[gp,hd2]
     | some d=>
      have hne:d≠x:=fun e=>hd (by rw[hd2,e])
      simp[gp,hd2,gt,lk,hne]
    rcases iB t S x os vs (i+1) (by simpa using hl) hn' with⟨j,o',v',h1,h2,h3,h4⟩ | ⟨h1,h2⟩
    . exact .inl ⟨j+1,o',v',by simpa using h1,by simpa using h2,h3,by rw[e,h4,show i+1+j=i+(j+1) by omega]⟩
    . refine .inr ⟨fun q hq=>?_,by rw[e,h2]⟩;rcases zl.1 hq with rfl | hq
      . exact hd
      . exact h1 q hq
def fL (S:Nat->Bool):List (Nat×Chs)->Chs->Chs
 |[],h=>h
 | (e,h1) :: l,h=>if S e=true then fL S l h1 else h
def gK : List (Nat×Chs)->Chs->Chs
 |[],h=>h
 | (_,h1) :: l,_=>gK l h1
def ib (rb:List Nat) (j:Nat):List (Nat×Chs)->Chs->(Chs->Prop)->Prop
 |[],h,K=>K h
 | (e,h1) :: l,h,K=>if e=j then K h else (if av rb (100*e+j)=true then True else K h)/\(if av rb (100*j+e)=true then True else ib rb j l h1 K)
def iu (j:Nat):List (Nat×Chs)->Chs->Chs
 |[],h=>h
 | (e,h1) :: l,h=>if e=j then h1 else iu j l h
def reM (P:Program) [Glob P] (L:List (Ent P)) (t:dJ) (h h':Chs) (o:AO) (v:C):Option Eff->Prop
 | some e2=>e2.cond/\e2.v=v/\e2.ch=h'/\e2.sub=[]
 | none=>match aF L (aq P t) h (o.dst.getD 0) o.op with
  |.cal (.eff e2)=>e2.cond/\e2.v=v/\e2.ch=h'/\e2.sub=[]
  |_=>False
def lz (P:Program) [Glob P] (L:List (Ent P)) (rb:List Nat) (t:dJ) (E:List (Nat×Chs)) (h0:Chs):Nat->List AO->List C->Prop
 | j,o :: os,v :: vs=>ib rb j E h0 (fun h=>reM P L t h (iu j E h) o v (ai (aq P t) h (o.dst.getD 0) o.op))/\lz P L rb t E h0 (j+1) os vs
 |_,[],[]=>True
 |_,_,_=>False
def ndE : List (Nat×Chs)->Prop
 |[]=>True
 | (_,h) :: l=>an (ag h)/\ndE l
theorem ja : ∀ {l:List Nat} {x:Nat},av l x=true↔x∈l
 |[],x=>by simp[av]
 | y :: l,x=>by
  simp only[av];by_cases h:y=x
  . simp[h]
  . rw[if_neg h,ja,zl];exact⟨.inr,fun q=>q.resolve_left fun e=>h e.symm⟩
theorem nP {rb:List Nat} {S:Nat->Bool} {j:Nat} {K:Chs->Prop} (hj:S j=false) (hp:∀ c∈rb,c % 100=j->S (c / 100)=true) (hs:lK rb S) (hj1:j < 100):∀ {E:List (Nat×Chs)} {h:Chs},(∀ q∈E,q.1 < 100)->ib rb j E h K->K (fL S E h)
 |[],h,_,hc=>hc
 | (e,h1) :: l,h,hE,hc=>by
  have he:e < 100:=hE (e,h1) zq;simp only[ib]at hc;simp only[fL];by_cases hej:e=j
  . subst hej;rw[if_pos rfl]at hc;rw[if_neg (by rw[hj];simp)];exact hc
  rw[if_neg hej]at hc;by_cases hse:S e=true
  . rw[if_pos hse];have hno:¬ av rb (100*j+e)=true:=fun hm=>by
     have:=hs _ (ja.1 hm);rw[show (100*j+e) % 100=e by omega,show (100*j+e) / 100=j by omega]at this;rw[this hse]at hj;cases hj
    rw[if_neg hno]at hc;exact nP hj hp hs hj1 (fun q hq=>hE q (zo _ hq)) hc.2
  . rw[if_neg hse];have hno:¬ av rb (100*e+j)=true:=fun hm=>by
     have:=hp _ (ja.1 hm) (by omega);rw[show (100*e+j) / 100=e by omega]at this;exact hse this
    rw[if_neg hno]at hc;exact hc.1
theorem sM {S:Nat->Bool} {E:List (Nat×Chs)} {h:Chs} (hE:∀ q,E.head? = some q->S q.1=false):fL S E h=h:=by
 cases E with
 | nil=>rfl
 | cons q l=>
  obtain⟨e,h1⟩:=q;simp only[fL];rw[if_neg (by rw[hE (e,h1) rfl];simp)]
theorem rx {rb:List Nat} {S:Nat->Bool} {j:Nat} (hj:S j=false) (hp:∀ c∈rb,c % 100=j->S (c / 100)=true) (hs:lK rb S):∀ {E:List (Nat×Chs)} {h:Chs},(∀ q∈E,q.1 < 100)->fZ rb (E.map (·.1))=true->(∀ q∈E,q.1 < j->S q.1=true)->fL (fun i=>i == j || S i) E h=iu j E (fL S E h)
 |[],h,_,_,_=>rfl
 | (e,h1) :: l,h,hE,ho,hb=>by
  have he:e < 100:=hE (e,h1) zq;have ho':fZ rb (l.map (·.1))=true:=by
   cases l with
   | nil=>rfl
   | cons q l=>
    simp only[zt,fZ,zm]at ho;exact ho.2.2
  simp only[fL,iu];by_cases hej:e=j
  . subst hej;rw[if_pos (by simp),if_pos rfl];refine sM (fun q hq=>?_);cases l with
    | nil=>cases hq
    | cons q' l=>
     cases hq;simp only[zt,fZ,zm,decide_eq_true_eq]at ho;have hq1:=hE q (by simp);have hne:¬ q.1=e:=by omega
     cases hsq:S q.1 with
     | false=>simp[hne]
     | true=>
      have hm:=ho.1;simp only[List.contains_iff_mem]at hm;have:=hs _ hm;rw[show (100*e+q.1) % 100=q.1 by omega,show (100*e+q.1) / 100=e by omega]at this;rw[this hsq]at hj;cases hj
  . have hb1:(e == j)=false:=by simpa using hej
    simp only[hb1,zF];rw[if_neg hej];by_cases hse:S e=true
    . rw[if_pos hse,if_pos hse];exact rx hj hp hs (fun q hq=>hE q (zo _ hq)) ho' (fun q hq=>hb q (zo _ hq))
    . rw[if_neg hse,if_neg hse];have hlt:¬ e < j:=fun h=>hse (hb (e,h1) zq h)
      have key:∀ (E:List (Nat×Chs)) (e:Nat),fZ rb (e :: E.map (·.1))=true->j < e->∀ h,iu j E h=h:=by
       intro E
       induction E with
       | nil=>intros;rfl
       | cons q E ih=>
        intro e ho hlt h;simp only[zt,fZ,zm,decide_eq_true_eq]at ho;obtain⟨q1,q2⟩:=q;simp only at ho;simp only[iu];rw[if_neg (by omega)];exact ih q1 ho.2.2 (by omega) h
      exact (key l e ho (by omega) h).symm
theorem rr {S:Nat->Bool}:∀ {E:List (Nat×Chs)} {h:Chs},(∀ q∈E,S q.1=true)->fL S E h=gK E h
 |[],h,_=>rfl
 | (e,h1) :: l,h,hE=>by
  simp only[fL,gK];rw[if_pos (hE (e,h1) zq)];exact rr fun q hq=>hE q (zo _ hq)
theorem rt {S:Nat->Bool}:∀ {E:List (Nat×Chs)} {h:Chs},fL S E h=h\/∃ q∈E,fL S E h=q.2
 |[],h=>.inl rfl
 | (e,h1) :: l,h=>by
  simp only[fL];split
  . rcases rt (S:=S) (E:=l) (h:=h1)with q | ⟨q,hq,e'⟩
    . exact .inr ⟨(e,h1),zq,q⟩
    . exact .inr ⟨q,zo _ hq,e'⟩
  . exact .inl rfl
theorem sX : ∀ {E:List (Nat×Chs)},ndE E->∀ q∈E,(q.2.map (·.1)).Nodup
 |[],_,q,h=>by cases h
 | (e,h1) :: l,hn,q,h=>by
  rcases zl.1 h with rfl | h
  . rw[<- dV];exact d9 hn.1
  . exact sX hn.2 q h
theorem s5 {L:List (Ent P)} {rb:List Nat} {t:dJ} {E:List (Nat×Chs)} {h0:Chs}:∀ {os:List AO} {vs:List C} {i:Nat},lz P L rb t E h0 i os vs->os.length=vs.length/\∀ (j:Nat) o,os[j]? = some o->∃ v,vs[j]? = some v/\ib rb (i+j) E h0 (fun h=>reM P L t h (iu (i+j) E h) o v (ai (aq P t) h (o.dst.getD 0) o.op))
 |[],[],i,_=>⟨rfl,fun j o h=>by simp at h⟩
 | o :: os,v :: vs,i,h=>by
  obtain⟨h1,h2⟩:=h;obtain⟨g1,g2⟩:=s5 h2;refine⟨by simp[g1],fun j q hq=>?_⟩;cases j with
  | zero=>
   simp only[zD,zn]at hq;subst hq;exact⟨v,rfl,h1⟩
  | succ j=>
   obtain⟨v',e1,e2⟩:=g2 j q (by simpa using hq);exact⟨v',by simpa using e1,by rw[show i+(j+1)=i+1+j by omega];exact e2⟩
 |[],_ :: _,_,h=>by cases h
 |_ :: _,[],_,h=>by cases h
theorem lG : ∀ {os:List AO} {i e:Nat},e∈gI i os->i<=e/\e < i+os.length
 |[],i,e,h=>by cases h
 | o :: os,i,e,h=>by
  simp only[gI]at h;split at h
  . rcases zl.1 h with rfl | h
    . simp
    . have:=lG h;simp;omega
  . have:=lG h;simp;omega
theorem wO {L:List (Ent P)} {t:dJ} {h h':Chs} {o:AO} {v:C} (hg:o.guard=none) (hr:reM P L t h h' o v (ai (aq P t) h (o.dst.getD 0) o.op)):∃ ef2,StepE P o ⟨t,h⟩ ef2/\ef2.v=v/\ef2.ch=h'/\ef2.sub=[]:=by
 cases hq:ai (aq P t) h (o.dst.getD 0) o.op with
 | some e2=>
  rw[hq]at hr;obtain⟨h2,h3,h4,h5⟩:=hr;exact⟨e2,.yes e2 (by rw[hg];rfl) (.f hq h2),h3,h4,h5⟩
 | none=>
  rw[hq]at hr;simp only[reM]at hr;split at hr
  . rename_i e2 hm;obtain⟨h2,h3,h4,h5⟩:=hr;have hop:OpR P (aq P t) h (o.dst.getD 0) o.op ⟨True,e2.v,e2.ch,e2.sub⟩:=ju hm h2;exact⟨⟨True,e2.v,e2.ch,e2.sub⟩,.yes _ (by rw[hg];rfl) hop,h3,h4,h5⟩
  . cases hr
theorem gR {os:List AO} (h:(os.filterMap (·.dst)).Nodup):∀ (i j:Nat),i < j->∀ (o q:AO) (x:Nat),os[i]? = some o->os[j]? = some q->o.dst=some x->q.dst=some x->False:=by
 induction os with
 | nil=>intro i j _ o q x h1;simp at h1
 | cons a os ih=>
  intro i j hij o q x h1 h2 h3 h4;have hn':(os.filterMap (·.dst)).Nodup:=by
   cases hd:a.dst with
   | none=>simpa[hd]using h
   | some d=>simp[hd]at h;exact h.2
  cases j with
  | zero=>omega
  | succ j=>
   cases i with
   | zero=>
    simp only[zD,zn]at h1;subst h1;simp only[yp]at h2;rw[List.filterMap_cons,h3]at h;exact (zI.1 h).1 (List.mem_filterMap.2 ⟨q,zp h2,h4⟩)
   | succ i=>exact ih hn' i j (by omega) o q x (by simpa using h1) (by simpa using h2) h3 h4
theorem ru {S:Nat->Bool} {j:Nat}:∀ {E:List (Nat×Chs)} {h:Chs},j∉E.map (·.1)->fL (fun i=>i == j || S i) E h=fL S E h
 |[],h,_=>rfl
 | (e,h1) :: l,h,hn=>by
  simp only[zt,zl,not_or]at hn;have hb:(e == j)=false:=by simp;exact fun q=>hn.1 q.symm
  simp only[fL,hb,zF];split
  . exact ru hn.2
  . rfl
theorem tc {j:Nat}:∀ {E:List (Nat×Chs)} {h:Chs},j∉E.map (·.1)->iu j E h=h
 |[],h,_=>rfl
 | (e,h1) :: l,h,hn=>by
  simp only[zt,zl,not_or]at hn;simp only[iu];rw[if_neg (fun q=>hn.1 q.symm)];exact tc hn.2
theorem lA {rb:List Nat} {S:Nat->Bool} {j:Nat} (hp:∀ c∈rb,c % 100=j->S (c / 100)=true) (hs:lK rb S) (hj:j < 100):∀ {l:List Nat},(∀ e∈l,e < 100)->fZ rb l=true->j∈l->∀ e∈l,e < j->S e=true
 |[],_,_,h,_,_,_=>by cases h
 |[a],_,_,h,e,he,hlt=>by
  simp only[zg]at h he;omega
 | a :: b :: l,h100,ho,h,e,he,hlt=>by
  simp only[fZ,zm,decide_eq_true_eq,List.contains_iff_mem]at ho;obtain⟨o1,o2,o3⟩:=ho;have hab:S b=true->S a=true:=fun hb=>by
   have:=hs _ o1;have ha:=h100 a (by simp);have hb1:=h100 b (by simp);rw[show (100*a+b) % 100=b by omega,show (100*a+b) / 100=a by omega]at this;exact this hb
  have asc:∀ (l:List Nat) (x:Nat),fZ rb (x :: l)=true->∀ y∈l,x < y:=by
   intro l
   induction l with
   | nil=>intro x _ y hy;cases hy
   | cons z l ih=>
    intro x ho y hy;simp only[fZ,zm,decide_eq_true_eq]at ho;rcases zl.1 hy with rfl | hy
    . exact ho.2.1
    . have:=ih z ho.2.2 y hy;omega
  have hja:j≠a->j∈b :: l:=fun hne=>(zl.1 h).resolve_left hne
  rcases zl.1 he with rfl | he
  . have hjb:=hja (by omega);by_cases hbj:b=j
    . subst hbj;have:=hp _ o1 (by omega);rwa[show (100*e+b) / 100=e by omega]at this
    . have hlt2:b < j:=by
       rcases zl.1 hjb with q | q
       . exact absurd q.symm hbj
       . exact asc l b o3 j q
      exact hab (lA hp hs hj (fun x hx=>h100 x (zo _ hx)) o3 hjb b zq hlt2)
  . have hjb:j∈b :: l:=hja (by
     have h1:=asc (b :: l) a (by simp only[fZ,zm,decide_eq_true_eq,List.contains_iff_mem];exact⟨o1,o2,o3⟩) e he
     omega)
    exact lA hp hs hj (fun x hx=>h100 x (zo _ hx)) o3 hjb e he hlt
theorem wM {rb:List Nat} {S:Nat->Bool} {j:Nat} {E:List (Nat×Chs)} {os:List AO} (ho:fZ rb (gI 0 os)=true) (hE:E.map (·.1)=gI 0 os) (hs:lK rb S) (hp:∀ c∈rb,c % 100=j->S (c / 100)=true) (_:S j=false) {q:Nat×Chs} (hq:q∈E) (hlt:q.1 < j)
 (hjE:j∈E.map (·.1)) (h100:∀ q∈E,q.1 < 100):S q.1=true:=by
 have hj:j < 100:=by
  obtain⟨q',hq',rfl⟩:=zu.1 hjE;exact h100 q' hq'
 refine lA hp hs hj (l:=E.map (·.1)) (fun e he=>?_) (by rw[hE];exact ho) hjE q.1 (zu.2 ⟨q,hq,rfl⟩) hlt;obtain⟨q',hq',rfl⟩:=zu.1 he;exact h100 q' hq'
theorem S_multi {rb:List Nat} {os:List AO} {L:List (Ent P)} {vs:List C} {E:List (Nat×Chs)} (hchk:chkM rb os=true) (hE:E.map (·.1)=gI 0 os) (hn0:an (ag st.ch)) (hnd:ndE E)
 (hops:lz P L rb (gV st.t os vs) E st.ch 0 os vs) (hend:SG P cx Q k ⟨gV st.t os vs,gK E st.ch⟩):SG P cx Q (.c (.draw 999 rb os) :: k) st:=by
 simp only[chkM,zm,decide_eq_true_eq]at hchk;obtain⟨k1,k2,k3,k4⟩:=hchk;have k1:(os.filterMap (·.dst)).Nodup:=by simpa[qJ]using k1
 obtain⟨l1,l2⟩:=s5 hops;have hE100:∀ q∈E,q.1 < 100:=fun q hq=>by
  have:q.1∈gI 0 os:=by rw[<- hE];exact zu.2 ⟨q,hq,rfl⟩
  have:=lG this;omega
 have hread:∀ (j:Nat) o,os[j]? = some o->o.guard=none/\∀ x∈eQ o.op.reads,∀ (i:Nat) q,os[i]? = some q->q.dst=some x->100*i+j∈rb:=fun j o ho=>by
  have h1:=zx.1 k2 (o,j) (by rw[zG];exact ho);simp only[zm,Option.isNone_iff_eq_none]at h1;refine⟨h1.1,fun x hx i q hq hd=>?_⟩;have h2:=zx.1 h1.2 x hx;have h3:=zx.1 h2 (q,i) (by rw[zG];exact hq);simp only[hd,bne_self_eq_false,zF]at h3;simpa using h3
 have hndc:∀ S,((fL S E st.ch).map (·.1)).Nodup:=fun S=>by
  rcases rt (S:=S) (E:=E) (h:=st.ch)with h | ⟨q,hq,h⟩
  . rw[h,<- dV];exact d9 hn0
  . rw[h];exact sX hnd q hq
 refine m8 (T:=fun S=>⟨gp S st.t 0 os vs,fL S E st.ch⟩) ⟨fun x=>?_,hndc _,fun p hp=>?_⟩ (fun S j ao hj hSj hp hs=>?_) (fun S hS=>?_)
 . show gt (gp (fun _=>false) st.t 0 os vs) x=.any\/_
   rcases iB st.t (fun _=>false) x os vs 0 l1 k1 with⟨j,o,v,_,_,_,h⟩ | ⟨_,h⟩
   . exact .inl h
   . exact .inr h.symm
 . have e0:fL (fun _=>false) E st.ch=st.ch:=sM (fun q _=>rfl);have hp':p∈fL (fun _=>false) E st.ch:=hp;rw[e0]at hp';exact eU (by rw[<- dV];exact d9 hn0) hp'
 . have hjl:j < os.length:=(zi.1 hj).1;obtain⟨hg,hrd⟩:=hread j ao hj;obtain⟨v,hv,hc⟩:=l2 j ao hj;rw[zz]at hc;have hre:=nP hSj hp hs (by omega) hE100 hc;obtain⟨ef2,s1,s2,s3,s4⟩:=wO hg hre;have hslots:∀ x∈ao.slots,gt (gV st.t os vs) x=gt (gp S st.t 0 os vs) x:=fun x hx=>by
    have hx2:x∈eQ ao.op.reads:=by
     simp only[AO.slots,hg,z4]at hx;exact jk hx
    rw[<- nw st.t (fun _=>true) os vs 0 (fun _ _=>rfl)];rcases iB st.t S x os vs 0 l1 k1 with⟨i,o,w,a1,a2,a3,a4⟩ | ⟨a1,a2⟩
    . have hcd:=hrd x hx2 i o a1 a3;have hSi:=hp _ hcd (by omega);rw[show (100*i+j) / 100=i by omega]at hSi;rw[zz,if_pos hSi]at a4;rw[a4];rcases iB st.t (fun _=>true) x os vs 0 l1 k1 with⟨i',o',w',b1,b2,b3,b4⟩ | ⟨b1,_⟩
      . rw[b4,if_pos rfl];have hii:i'=i:=by
         rcases yr i i' with h | h | h
         . exfalso
           exact (gR k1) i i' h o o' x a1 b1 a3 b3
         . exact h.symm
         . exfalso
           exact (gR k1) i' i h o' o x b1 a1 b3 a3
        subst hii;rw[a2]at b2;cases b2;rfl
      . exact absurd a3 (b1 o (zp a1))
    . rw[a2];rcases iB st.t (fun _=>true) x os vs 0 l1 k1 with⟨i',o',w',b1,b2,b3,b4⟩ | ⟨_,b2⟩
      . exact absurd b3 (a1 o' (zp b1))
      . exact b2
   refine⟨ef2,s1.congr hslots rfl,.of_le ⟨fun x=>?_,hndc _,fun p hp'=>?_⟩⟩
   . show gt (gp (fun i=>i == j || S i) st.t 0 os vs) x=.any\/gt (aU ao.dst ef2.sub ef2.v (gp S st.t 0 os vs)) x=_
     rw[s4,s2,fF,eG];right;rcases iB st.t (fun i=>i == j || S i) x os vs 0 l1 k1 with⟨i,o,w,a1,a2,a3,a4⟩ | ⟨a1,a2⟩
     . rw[zz]at a4;by_cases hij:i=j
       . subst hij;rw[hj]at a1;cases a1;rw[hv]at a2;cases a2;rw[a4,if_pos a3];simp
       . have hne:ao.dst≠some x:=fun e=>by
          rcases Nat.lt_or_gt_of_ne hij with h | h
          . exact (gR k1) i j h o ao x a1 hj a3 e
          . exact (gR k1) j i h ao o x hj a1 e a3
         rw[if_neg hne,a4];have hb:(i == j)=false:=by simpa using hij
         simp only[hb,zF];rcases iB st.t S x os vs 0 l1 k1 with⟨i',o',w',b1,b2,b3,b4⟩ | ⟨b1,_⟩
         . rw[b4,zz];have hii:i'=i:=by
            rcases yr i i' with h | h | h
            . exact absurd b3 (fun h3=>(gR k1) i i' h o o' x a1 b1 a3 h3)
            . exact h.symm
            . exact absurd b3 (fun h3=>(gR k1) i' i h o' o x b1 a1 h3 a3)
           subst hii;rw[a2]at b2;cases b2;rfl
         . exact absurd a3 (b1 o (zp a1))
     . have hne:ao.dst≠some x:=a1 ao (zp hj);rw[if_neg hne,a2];rcases iB st.t S x os vs 0 l1 k1 with⟨i',o',w',b1,b2,b3,b4⟩ | ⟨_,b2⟩
       . exact absurd b3 (a1 o' (zp b1))
       . exact b2
   . have hb:∀ q∈E,q.1 < j->S q.1=true\/¬ (j∈E.map (·.1)):=fun q hq hlt=>by
      by_cases hjE:j∈E.map (·.1)
      . left;have:100*q.1+j∈rb\/True:=.inr trivial;exact wM k3 hE hs hp hSj hq hlt hjE hE100
      . exact .inr hjE
     have hch:fL (fun i=>i == j || S i) E st.ch=iu j E (fL S E st.ch):=by
      by_cases hjE:j∈E.map (·.1)
      . exact rx hSj hp hs hE100 (by rw[hE];exact k3) (fun q hq hlt=>(hb q hq hlt).resolve_right (fun h=>h hjE))
      . exact (ru hjE).trans (tc hjE).symm
     show lk ef2.ch p.1=some p.2
     rw[s3,<- hch];exact eU (hndc _) hp'
 . have e1:gp S st.t 0 os vs=gV st.t os vs:=nw st.t S os vs 0 (fun j hj=>by rw[zz];exact hS j hj)
   have e2:fL S E st.ch=gK E st.ch:=rr (fun q hq=>hS q.1 (by
    have:q.1∈gI 0 os:=by rw[<- hE];exact zu.2 ⟨q,hq,rfl⟩
    have:=lG this
    omega))
   simp only[e1,e2];exact hend
def kx (op:AOp) (j:Nat) (h:Chs) (E:List (Nat×Chs)):List (Nat×Chs):=
 match op with
 |.store _ _ _ _=>E++[(j,h)]
 |_=>E
def mFin (P:Program) [Glob P] (L:List (Ent P)) (cx:Cx) (Q:ASt->Prop) (k:List It) (rb:List Nat) (all:List AO) (s0:ASt) (vs:List C) (E:List (Nat×Chs)):Prop:=
 an (ag s0.ch)/\ndE E/\lz P L rb (gV s0.t all vs) E s0.ch 0 all vs/\SG P cx Q k ⟨gV s0.t all vs,gK E s0.ch⟩
def drM (P:Program) [Glob P] (L:List (Ent P)) (cx:Cx) (Q:ASt->Prop) (k:List It) (rb:List Nat) (all:List AO) (s0:ASt):Nat->Md->List AO->ASt->Nat->List C->List (Nat×Chs)->Prop
 |_+1,.run,[],_,_,vs,E=>mFin P L cx Q k rb all s0 vs E
 | n+1,.run,⟨dst,none,op,tot⟩ :: os,s,j,vs,E=>drM P L cx Q k rb all s0 n (.eff (ai (aq P s.t) s.ch (dst.getD 0) op)) (⟨dst,none,op,tot⟩ :: os) s j vs E
 | n+1,.eff (some ef),⟨dst,none,op,_⟩ :: os,s,j,vs,E=>drM P L cx Q k rb all s0 n .run os ⟨aU dst [] ef.v s.t,ef.ch⟩ (j+1) (vs++[ef.v]) (kx op j ef.ch E)
 | n+1,.eff none,⟨dst,none,op,tot⟩ :: os,s,j,vs,E=>drM P L cx Q k rb all s0 n (aF L (aq P s.t) s.ch (dst.getD 0) op) (⟨dst,none,op,tot⟩ :: os) s j vs E
 | n+1,.cal (.eff ef),⟨dst,none,op,_⟩ :: os,s,j,vs,E=>drM P L cx Q k rb all s0 n .run os ⟨aU dst [] ef.v s.t,ef.ch⟩ (j+1) (vs++[ef.v]) (kx op j ef.ch E)
 |_,_,_,_,_,_,_=>False
theorem addE_ix {op:AOp} {j:Nat} {h:Chs} {E:List (Nat×Chs)}:(kx op j h E).map (·.1)=E.map (·.1)++if isSt op=true then [j]else []:=by
 cases op <;> simp[kx,isSt]
theorem us {L:List (Ent P)} {rb:List Nat} {all:List AO} {s0:ASt} (hchk:chkM rb all=true):∀ (n:Nat) (m:Md) (os:List AO) (s:ASt) (j:Nat) (vs:List C) (E:List (Nat×Chs)),
 E.map (·.1)++gI j os=gI 0 all->drM P L cx Q k rb all s0 n m os s j vs E->SG P cx Q (.c (.draw 999 rb all) :: k) s0:=by
 intro n
 induction n with
 | zero=>intro m os s j vs E _ h;simp[drM]at h
 | succ n ih=>
  intro m os s j vs E hE h;have next:∀ (ef:Eff) (o:AO) (os:List AO),E.map (·.1)++gI j (o :: os)=gI 0 all->(kx o.op j ef.ch E).map (·.1)++gI (j+1) os=gI 0 all:=fun ef o os h=>by
   rw[addE_ix,<- h,gI,ye];cases hq:isSt o.op <;> simp[hq]
  cases os with
  | nil=>
   cases m <;> simp only[drM]at h;obtain⟨h1,h2,h3,h4⟩:=h;exact S_multi hchk (by simpa[gI]using hE) h1 h2 h3 h4
  | cons o os=>
   obtain⟨dst,g,op,tot⟩:=o;cases g with
   | some g=>cases m <;> simp[drM]at h
   | none=>
    cases m with
    | run=>simp only[drM]at h;exact ih _ _ _ _ _ _ hE h
    | eff o=>
     cases o with
     | none=>simp only[drM]at h;exact ih _ _ _ _ _ _ hE h
     | some ef=>simp only[drM]at h;exact ih _ _ _ _ _ _ (next ef _ os hE) h
    | cal r=>
     cases r with
     | eff ef=>simp only[drM]at h;exact ih _ _ _ _ _ _ (next ef _ os hE) h
     |_=>simp[drM]at h
    |_=>simp[drM]at h
theorem kI {rb:List Nat} {os:List AO} (L:List (Ent P)) (n:Nat) (h:drM P L cx Q k rb os st n .run os st 0 [] []) (hchk:chkM rb os=true:=by rfl):SG P cx Q (.c (.draw 999 rb os) :: k) st:=
 us hchk n .run os st 0 [] [] rfl h
end Go.Am
end
section
namespace Go.Am
open Dat (cells)
variable {P : Program} [Glob P] {ro : Option Nat} {ρ : Operand → C} {ch : Chs} {d : Nat}
theorem OpM.calls {f:FuncId} {fo:Operand} {aS:List Operand} {r:C} {ch':Chs} {m:List (Nat×Sb)} (hf:FnOk P f) (hfo:ρ fo=.fn (.func f) [] [])
 (h:∀ (E:Env) (U:Nat->Prop) (w:World) (vs:Array Value),Inv E U w.heap ch->eX P U w.heap->jD E U w.heap (aS.map ρ) vs->Calls P f vs w fun e w'=>∃ v E' U',e=.returned v/\Rep E' U' w'.heap r v/\Ev E U w ch m d E' U' w' ch') :
 OpM P ro ρ ch d (.call fo aS) (fun ef=>ef=⟨True,r,ch',m⟩):=by
 intro own o a E U w hc hi hg hρ K Q hK;obtain⟨args,ts,ho,ha⟩:=iM hc;subst ha;have hev:a.eval fo=.func (.func f) #[] #[]:=by
  have:=hfo ▸ hρ fo (by simp[AOp.reads]);generalize a.eval fo=q at this;cases this with
  | d hd=>cases hd
  | fn _ _ _ vs ws h1 h2 h3 h4=>
   have e1:vs=#[]:=yL.1 (by simpa using h1);have e2:ws=#[]:=yL.1 (by simpa using h3);rw[e1,e2]
 have hargs:jD E U w.heap (args.toList.map ρ) (args.map a.eval):=by
  refine⟨by simp,fun j c hj=>?_⟩;simp only[zh,za,zM]at hj;obtain⟨x,hx,rfl⟩:=hj;rw[eB (v:=a.eval x) (by simp[hx])];exact hρ x (by simp only[AOp.reads];exact zo _ (by simpa using Array.mem_of_getElem? hx))
 have hcall:=h E U w (args.map a.eval) hi hg hargs;obtain⟨fn,q1,q2,q3⟩:=hf;have hrun:(execOp a.eval o).run P w=.ok (.enter f (args.map a.eval)) w:=by
  simp only[execOp,ho,resolve,hev,Deferred.ofValue,Sem.run_bind,Sem.run_pure,Result.andThen_ok,invoke];have:=j6 (P:=P) (w:=w) (args:=args.map a.eval) ⟨fn,q1,q2,q3⟩;simpa using this
 refine⟨fun _ _=>trivial,?_⟩;rw[Oper.semAt_eq _ _ _ (by rw[ho];simp),hrun,Oper.uponIn_enter];refine⟨fun h=>by simp[FW,Fence.wide]at h,lc (hcall.mono fun e w' h=>?_)⟩;obtain⟨v,E',U',rfl,hrep,hce⟩:=h;exact hK ⟨True,r,ch',m⟩ rfl v E' U' w' hrep hce
end Go.Am
end
section
namespace Go.Am
open Dat (cells)
variable {P : Program} [Glob P] {cx : Cx} {Q : ASt → Prop} {k : List It} {st : ASt}
def fW (m:List (Nat×Sb)):C->Bool
 |.own k=>match m.lookup k with | some (.c _)=>false | _=>true
 |.ptr k _=>match m.lookup k with | some (.c _)=>false | _=>true
 |.eptr k _ _=>match m.lookup k with | some (.c _)=>false | _=>true
 |.inn k _=>!(m.lookup k).isSome
 |.iptr k _ _ _=>!(m.lookup k).isSome
 |.agg cs=>fixBs m cs
 |.tup cs=>fixBs m cs
 |.fn _ xs ys=>fixBs m xs && fixBs m ys
 |_=>true
where fixBs (m:List (Nat×Sb)):List C->Bool
 |[]=>true
 | c :: cs=>fW m c && fixBs m cs
mutual
theorem pD {m:List (Nat×Sb)}:∀ (c:C),fW m c=true->ah m c=c
 |.own k,h=>by
  simp only[fW]at h;simp only[ah];cases hm:m.lookup k with
  | none=>rfl
  | some s=>cases s with
   | c x=>rw[hm]at h;cases h
   | inner=>rfl
 |.ptr k o,h=>by
  simp only[fW]at h;simp only[ah];cases hm:m.lookup k with
  | none=>rfl
  | some s=>cases s with
   | c x=>rw[hm]at h;cases h
   | inner=>rfl
 |.eptr k i j,h=>by
  simp only[fW]at h;simp only[ah];cases hm:m.lookup k with
  | none=>rfl
  | some s=>cases s with
   | c x=>rw[hm]at h;cases h
   | inner=>rfl
 |.inn k i,h=>by
  simp only[fW,yC,Option.isSome_eq_false_iff,Option.isNone_iff_eq_none]at h;simp[ah,h]
 |.iptr k i a b,h=>by
  simp only[fW,yC,Option.isSome_eq_false_iff,Option.isNone_iff_eq_none]at h;simp[ah,h]
 |.agg cs,h=>by simp only[fW]at h;simp only[ah];rw[jX cs h]
 |.tup cs,h=>by simp only[fW]at h;simp only[ah];rw[jX cs h]
 |.fn f xs ys,h=>by
  simp only[fW,zm]at h;simp only[ah];rw[jX xs h.1,jX ys h.2]
 |.any,_=>rfl
 |.s v,_=>rfl
 |.sl n es,_=>rfl
 |.ref cs,_=>rfl
 |.isl n t es,_=>rfl
theorem jX {m:List (Nat×Sb)}:∀ (cs:List C),fW.fixBs m cs=true->ah.subCs m cs=cs
 |[],_=>rfl
 | c :: cs,h=>by
  simp only[fW.fixBs,zm]at h;simp only[ah.subCs];rw[pD c h.1,jX cs h.2]
end
abbrev EL := List (Nat×List (Nat×Sb)×Chs)
def ixE : EL->List Nat
 |[]=>[]
 | (e,_,_) :: l=>e :: ixE l
def dZ (S:Nat->Bool):EL->EL
 |[]=>[]
 | q :: l=>if S q.1=true then q :: dZ S l else []
def gh (rb:List Nat) (i:Nat) (v:C):EL->Bool
 |[]=>true
 | (e,m,_) :: D=>(decide (e=i) || (av rb (100*e+i) || fW m v)) && gh rb i v D
def ft (c:C):EL->Bool
 |[]=>true
 | (_,m,_) :: D=>fW m c && ft c D
def ip (D:EL):dJ->dJ
 |[]=>[]
 | (k,c) :: t=>(k,if ft c D=true then c else .any) :: ip D t
def gf (rb:List Nat) (S:Nat->Bool) (D:EL) (t:dJ):Nat->List AO->List C->dJ
 | i,o :: os,v :: vs=>match o.dst with | some d=>(d,if (S i && gh rb i v D)=true then v else .any) :: gf rb S D t (i+1) os vs | none=>gf rb S D t (i+1) os vs
 |_,_,_=>ip D t
def ia (rb:List Nat) (D:EL) (t:dJ):Nat->List AO->List C->dJ
 | i,o :: os,v :: vs=>match o.dst with | some d=>(d,if gh rb i v D=true then v else .any) :: ia rb D t (i+1) os vs | none=>ia rb D t (i+1) os vs
 |_,_,_=>ip D t
theorem nE : ∀ D,ft .any D=true
 |[]=>rfl
 | (_,_,_) :: D=>by simp[ft,fW,nE D]
theorem ll (D:EL) (x:Nat):∀ t:dJ,gt (ip D t) x=if ft (gt t x) D=true then gt t x else .any
 |[]=>by
  have:gt [] x=.any:=rfl;rw[this,nE,if_pos rfl];rfl
 | (j,c) :: t=>by
  by_cases h:j=x
  . subst h;have e:gt ((j,c) :: t) j=c:=by simp[gt,lk]
    have e2:gt (ip D ((j,c) :: t)) j=if ft c D=true then c else .any:=by simp[ip,gt,lk]
    rw[e,e2]
  . have e:gt ((j,c) :: t) x=gt t x:=by simp[gt,lk,h]
    have e2:gt (ip D ((j,c) :: t)) x=gt (ip D t) x:=by simp[ip,gt,lk,h]
    rw[e,e2];exact ll D x t
theorem nu (rb:List Nat) (D:EL) (t:dJ) (S:Nat->Bool):∀ (os:List AO) (vs:List C) (i:Nat),(∀ j,j < os.length->S (i+j)=true)->gf rb S D t i os vs=ia rb D t i os vs
 |[],_,_,_=>by simp[gf,ia]
 |_ :: _,[],_,_=>by simp[gf,ia]
 | o :: os,v :: vs,i,h=>by
  have ih:=nu rb D t S os vs (i+1) (fun j hj=>by rw[show i+1+j=i+(j+1) by omega];exact h (j+1) (by simpa using hj));have h0:=h 0 (by simp);rw[zL]at h0;cases hd:o.dst <;> simp[gf,ia,hd,h0,ih]
theorem iA (rb:List Nat) (D:EL) (t:dJ) (S:Nat->Bool) (x:Nat):∀ (os:List AO) (vs:List C) (i:Nat),os.length=vs.length->(os.filterMap (·.dst)).Nodup ->
 (∃ j o v,os[j]? = some o/\vs[j]? = some v/\o.dst=some x/\gt (gf rb S D t i os vs) x=if (S (i+j) && gh rb (i+j) v D)=true then v else .any)\/((∀ o∈os,o.dst≠some x)/\gt (gf rb S D t i os vs) x=gt (ip D t) x)
 |[],[],i,_,_=>.inr ⟨by simp,by simp[gf]⟩
 | o :: os,v :: vs,i,hl,hn=>by
  have hn':(os.filterMap (·.dst)).Nodup:=by
   cases hd:o.dst with
   | none=>simpa[hd]using hn
   | some d=>simp[hd]at hn;exact hn.2
  by_cases hd:o.dst=some x
  . exact .inl ⟨0,o,v,rfl,rfl,hd,by simp[gf,hd,gt,lk]⟩
  . have e:gt (gf rb S D t i (o :: os) (v :: vs)) x=gt (gf rb S D t (i+1) os vs) x:=by
     cases hd2:o.dst with
     | none=>simp[gf,hd2]
     | some d=>
      have hne:d≠x:=fun e=>hd (by rw[hd2,e])
      simp[gf,hd2,gt,lk,hne]
    rcases iA rb D t S x os vs (i+1) (by simpa using hl) hn' with⟨j,o',v',h1,h2,h3,h4⟩ | ⟨h1,h2⟩
    . exact .inl ⟨j+1,o',v',by simpa using h1,by simpa using h2,h3,by rw[e,h4,show i+1+j=i+(j+1) by omega]⟩
    . refine .inr ⟨fun q hq=>?_,by rw[e,h2]⟩;rcases zl.1 hq with rfl | hq
      . exact hd
      . exact h1 q hq
def fV : EL->Chs->Chs
 |[],h=>h
 | (_,_,h1) :: l,_=>fV l h1
def jo (rb:List Nat) (j:Nat) (D:EL):EL->Chs->(EL->Chs->Prop)->Prop
 |[],h,K=>K D h
 | (e,m,h1) :: l,h,K=>if e=j then K D h else (if av rb (100*e+j)=true then True else K D h)/\(if av rb (100*j+e)=true then True else jo rb j (D++[(e,m,h1)]) l h1 K)
def kE (j:Nat):EL->Chs->List (Nat×Sb)×Chs
 |[],h=>([],h)
 | (e,m,h1) :: l,h=>if e=j then (m,h1)else kE j l h
def finM (q:List (Nat×Sb)×Chs) (v:C) (pre:List (Nat×Sb)) (tk:Bool) (e2:Eff):Prop:=e2.cond/\e2.v=v/\e2.ch=q.2/\(match tk with | true=>a6 pre e2.sub | false=>e2.sub)=q.1
def mE (q:List (Nat×Sb)×Chs) (v:C) (pre:List (Nat×Sb)) (tk:Bool):Md->Prop
 |.cal (.eff e2)=>finM q v pre tk e2
 |_=>False
def qQ (P:Program) [Glob P] (L:List (Ent P)) (q:List (Nat×Sb)×Chs) (o:AO) (v:C) (pre:List (Nat×Sb)) (s1:ASt):Option Eff->Prop
 | some e2=>finM q v pre true e2
 | none=>mE q v pre true (aF L (aq P s1.t) s1.ch (o.dst.getD 0) o.op)
def qP (P:Program) [Glob P] (L:List (Ent P)) (t:dJ) (h:Chs) (q:List (Nat×Sb)×Chs) (o:AO) (v:C) (s kk:Nat):Option (Prop×Nat×TypeId×List (List C))->Option Chs->Prop
 | some (p,m,ty,es),some ch'=>p/\s < 100000/\kk≠s/\kF s o.op/\qQ P L q o v [(s,.c .any),(kk,.inner)] (aT s kk m ty es ch' ⟨t,h⟩) (ai (aq P (aT s kk m ty es ch' ⟨t,h⟩).t) (aT s kk m ty es ch' ⟨t,h⟩).ch (o.dst.getD 0) o.op)
 |_,_=>False
def pc (P:Program) [Glob P] (L:List (Ent P)) (t:dJ) (h:Chs) (q:List (Nat×Sb)×Chs) (o:AO) (v:C):Option (Nat×Nat×Nat)->Prop
 | none=>mE q v [] false (aF L (aq P t) h (o.dst.getD 0) o.op)
 | some (s,kk,j)=>qP P L t h q o v s kk (aN h kk j) (aM h kk j)
def reM2 (P:Program) [Glob P] (L:List (Ent P)) (t:dJ) (h:Chs) (q:List (Nat×Sb)×Chs) (o:AO) (v:C):Option Eff->Prop
 | some e2=>finM q v [] false e2
 | none=>pc P L t h q o v (cj L (aq P t) o.op)
def ops2 (P:Program) [Glob P] (L:List (Ent P)) (rb:List Nat) (t:dJ) (all:List AO) (vall:List C) (E:EL) (h0:Chs):Nat->List AO->List C->Prop
 | j,o :: os,v :: vs=>jo rb j [] E h0 (fun D h=>reM2 P L (ia rb D t 0 all vall) h (kE j E h) o v (ai (aq P (ia rb D t 0 all vall)) h (o.dst.getD 0) o.op))/\ops2 P L rb t all vall E h0 (j+1) os vs
 |_,[],[]=>True
 |_,_,_=>False
def ndE2 : EL->Prop
 |[]=>True
 | (_,_,h) :: l=>an (ag h)/\ndE2 l
theorem mR {rb:List Nat} {S:Nat->Bool} {j:Nat} {K:EL->Chs->Prop} (hj:S j=false) (hp:∀ c∈rb,c % 100=j->S (c / 100)=true) (hs:lK rb S) (hj1:j < 100):∀ {E D:EL} {h:Chs},(∀ q∈E,q.1 < 100)->jo rb j D E h K->K (D++dZ S E) (fV (dZ S E) h)
 |[],D,h,_,hc=>by simpa[dZ,fV,jo]using hc
 | (e,m,h1) :: l,D,h,hE,hc=>by
  have he:e < 100:=hE (e,m,h1) zq;simp only[jo]at hc;simp only[dZ];by_cases hej:e=j
  . subst hej;rw[if_pos rfl]at hc;rw[if_neg (by rw[hj];simp)];simpa[fV]using hc
  rw[if_neg hej]at hc;by_cases hse:S e=true
  . rw[if_pos hse];have hno:¬ av rb (100*j+e)=true:=fun hm=>by
     have:=hs _ (ja.1 hm);rw[show (100*j+e) % 100=e by omega,show (100*j+e) / 100=j by omega]at this;rw[this hse]at hj;cases hj
    rw[if_neg hno]at hc;have:=mR hj hp hs hj1 (fun q hq=>hE q (zo _ hq)) hc.2;simpa[fV]using this
  . rw[if_neg hse];have hno:¬ av rb (100*e+j)=true:=fun hm=>by
     have:=hp _ (ja.1 hm) (by omega);rw[show (100*e+j) / 100=e by omega]at this;exact hse this
    rw[if_neg hno]at hc;simpa[fV]using hc.1
theorem sZ {L:List (Ent P)} {rb:List Nat} {t:dJ} {all:List AO} {vall:List C} {E:EL} {h0:Chs}:∀ {os:List AO} {vs:List C} {i:Nat},ops2 P L rb t all vall E h0 i os vs->os.length=vs.length/\∀ (j:Nat) o,os[j]? = some o->∃ v,vs[j]? = some v/\jo rb (i+j) [] E h0 (fun D h=>reM2 P L (ia rb D t 0 all vall) h (kE (i+j) E h) o v (ai (aq P (ia rb D t 0 all vall)) h (o.dst.getD 0) o.op))
 |[],[],i,_=>⟨rfl,fun j o h=>by simp at h⟩
 | o :: os,v :: vs,i,h=>by
  obtain⟨h1,h2⟩:=h;obtain⟨g1,g2⟩:=sZ h2;refine⟨by simp[g1],fun j q hq=>?_⟩;cases j with
  | zero=>
   simp only[zD,zn]at hq;subst hq;exact⟨v,rfl,h1⟩
  | succ j=>
   obtain⟨v',e1,e2⟩:=g2 j q (by simpa using hq);exact⟨v',by simpa using e1,by rw[show i+(j+1)=i+1+j by omega];exact e2⟩
 |[],_ :: _,_,h=>by cases h
 |_ :: _,[],_,h=>by cases h
theorem vt {L:List (Ent P)} {t:dJ} {h:Chs} {q:List (Nat×Sb)×Chs} {o:AO} {v:C} (hg:o.guard=none) (hr:reM2 P L t h q o v (ai (aq P t) h (o.dst.getD 0) o.op)):∃ ef2,StepE P o ⟨t,h⟩ ef2/\ef2.v=v/\ef2.ch=q.2/\ef2.sub=q.1:=by
 cases hq:ai (aq P t) h (o.dst.getD 0) o.op with
 | some e2=>
  rw[hq]at hr;obtain⟨h2,h3,h4,h5⟩:=hr;exact⟨e2,.yes e2 (by rw[hg];rfl) (.f hq h2),h3,h4,h5⟩
 | none=>
  rw[hq]at hr;simp only[reM2]at hr;cases htk:cj L (aq P t) o.op with
  | none=>
   rw[htk]at hr;simp only[pc]at hr;unfold mE at hr;split at hr
   . rename_i e2 hm;obtain⟨h2,h3,h4,h5⟩:=hr;have hop:OpR P (aq P t) h (o.dst.getD 0) o.op ⟨True,e2.v,e2.ch,e2.sub⟩:=ju hm h2;exact⟨⟨True,e2.v,e2.ch,e2.sub⟩,.yes _ (by rw[hg];rfl) hop,h3,h4,h5⟩
   . cases hr
  | some w=>
   obtain⟨s,kk,j⟩:=w;rw[htk]at hr;have hin:=ny htk;simp only[pc]at hr;unfold qP at hr;split at hr
   . rename_i p m ty es ch' e1 e2;obtain⟨g1,g2,g3,g4,g5⟩:=hr;have step:∀ ef:Eff,OpR P (aq P (aT s kk m ty es ch' ⟨t,h⟩).t) (aT s kk m ty es ch' ⟨t,h⟩).ch (o.dst.getD 0) o.op ⟨True,ef.v,ef.ch,ef.sub⟩->finM q v [(s,.c .any),(kk,.inner)] true ef->∃ ef2,StepE P o ⟨t,h⟩ ef2/\ef2.v=v/\ef2.ch=q.2/\ef2.sub=q.1:=fun ef hop hf=>by
      obtain⟨h2,h3,h4,h5⟩:=hf;have:=np (st:=⟨t,h⟩) (d:=o.dst.getD 0) (op:=o.op) (ef:=⟨True,ef.v,ef.ch,ef.sub⟩) g2 g1 g3 g4 hin e1 e2 hop;exact⟨_,.yes _ (by rw[hg];rfl) this,h3,h4,h5⟩
     cases hq2:ai (aq P (aT s kk m ty es ch' ⟨t,h⟩).t) (aT s kk m ty es ch' ⟨t,h⟩).ch (o.dst.getD 0) o.op with
     | some ef=>
      rw[hq2]at g5;exact step ef (.f' hq2 g5.1) g5
     | none=>
      rw[hq2]at g5;simp only[qQ]at g5;unfold mE at g5;split at g5
      . rename_i ef hm;exact step ef (ju hm g5.1) g5
      . cases g5
   . cases hr
theorem rS : ∀ {E:EL} {h:Chs} (S:Nat->Bool),an (ag h)->ndE2 E->((fV (dZ S E) h).map (·.1)).Nodup
 |[],h,S,h0,_=>by simp only[dZ,fV];rw[<- dV];exact d9 h0
 | (e,m,h1) :: l,h,S,h0,hn=>by
  simp only[dZ];split
  . simp only[fV];exact rS S hn.1 hn.2
  . simp only[fV];rw[<- dV];exact d9 h0
theorem lh {S:Nat->Bool} {j:Nat}:∀ {E:EL},j∉ixE E->dZ (fun i=>i == j || S i) E=dZ S E
 |[],_=>rfl
 | (e,m,h1) :: l,hn=>by
  simp only[ixE,zl,not_or]at hn;have hb:(e == j)=false:=by simp;exact fun q=>hn.1 q.symm
  simp only[dZ,hb,zF];split
  . rw[lh hn.2]
  . rfl
theorem sb {j:Nat}:∀ {E:EL} {h:Chs},j∉ixE E->kE j E h=([],h)
 |[],h,_=>rfl
 | (e,m,h1) :: l,h,hn=>by
  simp only[ixE,zl,not_or]at hn;simp only[kE];rw[if_neg (fun q=>hn.1 q.symm)];exact sb hn.2
theorem om : ∀ E:EL,ixE E=E.map (·.1)
 |[]=>rfl
 | (e,m,h) :: l=>by simp[ixE,om l]
theorem nf {S:Nat->Bool} {E:EL} (h:∀ q,E.head? = some q->S q.1=false):dZ S E=[]:=by
 cases E with
 | nil=>rfl
 | cons q l=>simp only[dZ];rw[if_neg (by rw[h q rfl];simp)]
theorem pV {rb:List Nat} {S:Nat->Bool} {j:Nat} (hj:S j=false) (hs:lK rb S):∀ {E:EL} {h:Chs},(∀ q∈E,q.1 < 100)->fZ rb (ixE E)=true->(∀ q∈E,q.1 < j->S q.1=true)->j∈ixE E ->
 ∃ m h1,kE j E h=(m,h1)/\dZ (fun i=>i == j || S i) E=dZ S E++[(j,m,h1)]
 |[],h,_,_,_,hm=>by simp[ixE]at hm
 | (e,m,h1) :: l,h,hE,ho,hb,hm=>by
  have he:e < 100:=hE (e,m,h1) zq;have ho':fZ rb (ixE l)=true:=by
   cases l with
   | nil=>rfl
   | cons q l=>
    obtain⟨q1,q2,q3⟩:=q;simp only[ixE,fZ,zm]at ho ⊢;exact ho.2.2
  by_cases hej:e=j
  . subst hej;refine⟨m,h1,by simp[kE],?_⟩;simp only[dZ];rw[if_pos (by simp),if_neg (by rw[hj];simp)];rw[nf]
    . rfl
    . intro q hq;cases l with
      | nil=>cases hq
      | cons q' l=>
       cases hq;obtain⟨q1,q2,q3⟩:=q;simp only[ixE,fZ,zm,decide_eq_true_eq]at ho;have hq1:=hE (q1,q2,q3) (by simp);have hne:¬ q1=e:=by omega
       cases hsq:S q1 with
       | false=>simp[hne,hsq]
       | true=>
        have hm:=ho.1;simp only[List.contains_iff_mem]at hm;have:=hs _ hm;simp only at hq1;rw[show (100*e+q1) % 100=q1 by omega,show (100*e+q1) / 100=e by omega]at this;rw[this hsq]at hj;cases hj
  . have hb1:(e == j)=false:=by simpa using hej
    have hjl:j∈ixE l:=by
     simp only[ixE,zl]at hm;exact hm.resolve_left (fun q=>hej q.symm)
    have asc:∀ (l:EL) (x:Nat),fZ rb (x :: ixE l)=true->∀ y∈ixE l,x < y:=by
     intro l
     induction l with
     | nil=>intro x _ y hy;simp[ixE]at hy
     | cons z l ih=>
      obtain⟨z1,z2,z3⟩:=z;intro x ho y hy;simp only[ixE,fZ,zm,decide_eq_true_eq]at ho;simp only[ixE,zl]at hy;rcases hy with rfl | hy
      . exact ho.2.1
      . have:=ih z1 ho.2.2 y hy;omega
    have hlt:e < j:=asc l e ho j hjl;have hse:S e=true:=hb (e,m,h1) zq hlt;obtain⟨m',h1',g1,g2⟩:=pV (h:=h) hj hs (fun q hq=>hE q (zo _ hq)) ho' (fun q hq=>hb q (zo _ hq)) hjl;refine⟨m',h1',by simp only[kE];rw[if_neg hej];exact g1,?_⟩;simp only[dZ,hb1,zF];rw[if_pos hse,if_pos hse,g2];rfl
theorem nF {rb:List Nat} {i j:Nat} {v:C} {m:List (Nat×Sb)} {h:Chs}:∀ {D:EL},gh rb i v (D++[(j,m,h)])=(gh rb i v D && (decide (j=i) || (av rb (100*j+i) || fW m v)))
 |[]=>by simp[gh]
 | (e,m',h') :: D=>by simp only[yq,gh,nF (D:=D),Bool.and_assoc]
theorem mM {c:C} {j:Nat} {m:List (Nat×Sb)} {h:Chs}:∀ {D:EL},ft c (D++[(j,m,h)])=(ft c D && fW m c)
 |[]=>by simp[ft]
 | (e,m',h') :: D=>by simp only[yq,ft,mM (D:=D),Bool.and_assoc]
theorem pU {j:Nat} {m:List (Nat×Sb)} {h1:Chs}:∀ {D:EL} {h:Chs},fV (D++[(j,m,h1)]) h=h1
 |[],h=>rfl
 | (e,m',h') :: D,h=>by simp only[yq,fV];exact pU
def chk2 (rb:List Nat) (os:List AO) (ix:List Nat):Bool:=qJ os && (vu rb os && (fZ rb ix && (decide (os.length<=100) && ix.all fun e=>decide (e < os.length))))
theorem rB {S:Nat->Bool}:∀ {E:EL},(∀ q∈E,S q.1=true)->dZ S E=E
 |[],_=>rfl
 | q :: l,h=>by
  simp only[dZ];rw[if_pos (h q zq),rB fun q hq=>h q (zo _ hq)]
theorem vN {rb:List Nat} {os:List AO} {L:List (Ent P)} {vs:List C} {E:EL} (hchk:chk2 rb os (ixE E)=true) (hn0:an (ag st.ch)) (hnd:ndE2 E)
 (hops:ops2 P L rb st.t os vs E st.ch 0 os vs) (hend:SG P cx Q k ⟨ia rb E st.t 0 os vs,fV E st.ch⟩):SG P cx Q (.c (.draw 999 rb os) :: k) st:=by
 simp only[chk2,zm,decide_eq_true_eq]at hchk;obtain⟨k1,k2,k3,k4,k5⟩:=hchk;have k1:(os.filterMap (·.dst)).Nodup:=by simpa[qJ]using k1
 obtain⟨l1,l2⟩:=sZ hops;have hEl:∀ q∈E,q.1 < os.length:=fun q hq=>by
  have:q.1∈ixE E:=by rw[om];exact zu.2 ⟨q,hq,rfl⟩
  simpa using zx.1 k5 _ this
 have hE100:∀ q∈E,q.1 < 100:=fun q hq=>by have:=hEl q hq;omega
 have hread:∀ (j:Nat) o,os[j]? = some o->o.guard=none/\∀ x∈eQ o.op.reads,∀ (i:Nat) q,os[i]? = some q->q.dst=some x->100*i+j∈rb:=fun j o ho=>by
  have h1:=zx.1 k2 (o,j) (by rw[zG];exact ho);simp only[zm,Option.isNone_iff_eq_none]at h1;refine⟨h1.1,fun x hx i q hq hd=>?_⟩;have h2:=zx.1 h1.2 x hx;have h3:=zx.1 h2 (q,i) (by rw[zG];exact hq);simp only[hd,bne_self_eq_false,zF]at h3;simpa using h3
 have hndc:∀ S,((fV (dZ S E) st.ch).map (·.1)).Nodup:=fun S=>rS S hn0 hnd
 have uniq:∀ (i i':Nat) (o o':AO) (x:Nat),os[i]? = some o->os[i']? = some o'->o.dst=some x->o'.dst=some x->i=i':=fun i i' o o' x a1 b1 a3 b3=>by
  rcases yr i i' with h | h | h
  . exact (gR k1 i i' h o o' x a1 b1 a3 b3).elim
  . exact h
  . exact (gR k1 i' i h o' o x b1 a1 b3 a3).elim
 refine m8 (T:=fun S=>⟨gf rb S (dZ S E) st.t 0 os vs,fV (dZ S E) st.ch⟩) ⟨fun x=>?_,hndc _,fun p hp=>?_⟩ (fun S j ao hj hSj hp hs=>?_) (fun S hS=>?_)
 . have e0:dZ (fun _=>false) E=[]:=nf (fun q _=>rfl);show gt (gf rb (fun _=>false) (dZ (fun _=>false) E) st.t 0 os vs) x=.any\/gt st.t x=gt (gf rb (fun _=>false) (dZ (fun _=>false) E) st.t 0 os vs) x
   rw[e0];rcases iA rb [] st.t (fun _=>false) x os vs 0 l1 k1 with⟨j,o,v,_,_,_,h⟩ | ⟨_,h⟩
   . left;rw[h];simp
   . right;rw[h,ll];simp[ft]
 . have e0:dZ (fun _=>false) E=[]:=nf (fun q _=>rfl);have hp':p∈fV (dZ (fun _=>false) E) st.ch:=hp;rw[e0]at hp';exact eU (by rw[<- dV];exact d9 hn0) hp'
 . have hjl:j < os.length:=(zi.1 hj).1;obtain⟨hg,hrd⟩:=hread j ao hj;obtain⟨v,hv,hc⟩:=l2 j ao hj;rw[zz]at hc;have hre:=mR hSj hp hs (by omega) hE100 hc;rw[yb]at hre;obtain⟨ef2,s1,s2,s3,s4⟩:=vt hg hre;have hslots:∀ x∈ao.slots,gt (ia rb (dZ S E) st.t 0 os vs) x=gt (gf rb S (dZ S E) st.t 0 os vs) x:=fun x hx=>by
    have hx2:x∈eQ ao.op.reads:=by
     simp only[AO.slots,hg,z4]at hx;exact jk hx
    rw[<- nu rb (dZ S E) st.t (fun _=>true) os vs 0 (fun _ _=>rfl)];rcases iA rb (dZ S E) st.t S x os vs 0 l1 k1 with⟨i,o,w,a1,a2,a3,a4⟩ | ⟨a1,a2⟩
    . have hcd:=hrd x hx2 i o a1 a3;have hSi:=hp _ hcd (by omega);rw[show (100*i+j) / 100=i by omega]at hSi;rcases iA rb (dZ S E) st.t (fun _=>true) x os vs 0 l1 k1 with⟨i',o',w',b1,b2,b3,b4⟩ | ⟨b1,_⟩
      . have hii:=uniq i' i o' o x b1 a1 b3 a3;subst hii;rw[a2]at b2;cases b2;rw[b4,a4,zz,hSi]
      . exact absurd a3 (b1 o (zp a1))
    . rw[a2];rcases iA rb (dZ S E) st.t (fun _=>true) x os vs 0 l1 k1 with⟨i',o',w',b1,b2,b3,b4⟩ | ⟨_,b2⟩
      . exact absurd b3 (a1 o' (zp b1))
      . exact b2
   have hb:∀ q∈E,q.1 < j->j∈ixE E->S q.1=true:=fun q hq hlt hjE=>by
    refine lA hp hs (by omega) (l:=ixE E) (fun e he=>?_) k3 hjE q.1 (by rw[om];exact zu.2 ⟨q,hq,rfl⟩) hlt;rw[om]at he;obtain⟨q',hq',rfl⟩:=zu.1 he;exact hE100 q' hq'
   have hkey:∃ m,ef2.sub=m/\ef2.ch=fV (dZ (fun i=>i == j || S i) E) st.ch/\(∀ (i:Nat) w,i < 100->i≠j->gh rb i w (dZ (fun i=>i == j || S i) E)=true->S i=true->gh rb i w (dZ S E)=true/\ah m w=w)/\(∀ c,ft c (dZ (fun i=>i == j || S i) E)=true->ft c (dZ S E)=true/\ah m c=c):=by
    by_cases hjE:j∈ixE E
    . obtain⟨m,h1,g1,g2⟩:=pV (h:=fV (dZ S E) st.ch) hSj hs hE100 k3 (fun q hq hlt=>hb q hq hlt hjE) hjE;rw[g1]at s3 s4;refine⟨m,s4,by rw[s3,g2,pU],fun i w hi1 hij ha hSi=>?_,fun c ha=>?_⟩
      . rw[g2,nF,zm]at ha;refine⟨ha.1,?_⟩;have h2:=ha.2;have hd:decide (j=i)=false:=by simp;exact fun q=>hij q.symm
        rw[hd,zF,zV]at h2;rcases h2 with h2 | h2
        . exfalso
          have:=hs _ (ja.1 h2);rw[show (100*j+i) % 100=i by omega,show (100*j+i) / 100=j by omega]at this;rw[this hSi]at hSj;cases hSj
        . exact pD w h2
      . rw[g2,mM,zm]at ha;exact⟨ha.1,pD c ha.2⟩
    . rw[sb hjE]at s3 s4;refine⟨[],s4,by rw[s3,lh hjE],fun i w _ _ ha _=>?_,fun c ha=>?_⟩
      . rw[lh hjE]at ha;exact⟨ha,eG w⟩
      . rw[lh hjE]at ha;exact⟨ha,eG c⟩
   obtain⟨m,q1,q2,q3,q4⟩:=hkey;refine⟨ef2,s1.congr hslots rfl,.of_le ⟨fun x=>?_,hndc _,fun p hp'=>?_⟩⟩
   . show gt (gf rb (fun i=>i == j || S i) (dZ (fun i=>i == j || S i) E) st.t 0 os vs) x=.any\/gt (aU ao.dst ef2.sub ef2.v (gf rb S (dZ S E) st.t 0 os vs)) x=_
     rw[q1,s2,fF];rcases iA rb (dZ (fun i=>i == j || S i) E) st.t (fun i=>i == j || S i) x os vs 0 l1 k1 with⟨i,o,w,a1,a2,a3,a4⟩ | ⟨a1,a2⟩
     . rw[zz]at a4;rw[a4];by_cases hcond:((i == j || S i) && gh rb i w (dZ (fun i=>i == j || S i) E))=true
       . right;rw[if_pos hcond];rw[zm]at hcond;by_cases hij:i=j
         . subst hij;rw[hj]at a1;cases a1;rw[hv]at a2;cases a2;rw[if_pos a3]
         . have hne:ao.dst≠some x:=fun e=>hij (uniq i j o ao x a1 hj a3 e)
           rw[if_neg hne];have hb0:(i == j)=false:=by simpa using hij
           have hSi:S i=true:=by simpa[hb0]using hcond.1
           have hi1:i < 100:=by have:=(zi.1 a1).1;omega
           obtain⟨r1,r2⟩:=q3 i w hi1 hij hcond.2 hSi;rcases iA rb (dZ S E) st.t S x os vs 0 l1 k1 with⟨i',o',w',b1,b2,b3,b4⟩ | ⟨b1,_⟩
           . have hii:=uniq i' i o' o x b1 a1 b3 a3;subst hii;rw[a2]at b2;cases b2;rw[b4,zz,hSi,r1,if_pos (by rfl)];exact r2
           . exact absurd a3 (b1 o (zp a1))
       . left;rw[if_neg hcond]
     . have hne:ao.dst≠some x:=a1 ao (zp hj);rw[if_neg hne,a2,ll];by_cases hcond:ft (gt st.t x) (dZ (fun i=>i == j || S i) E)=true
       . right;rw[if_pos hcond];obtain⟨r1,r2⟩:=q4 _ hcond;rcases iA rb (dZ S E) st.t S x os vs 0 l1 k1 with⟨i',o',w',b1,b2,b3,b4⟩ | ⟨_,b2⟩
         . exact absurd b3 (a1 o' (zp b1))
         . rw[b2,ll,if_pos r1];exact r2
       . left;rw[if_neg hcond]
   . show lk ef2.ch p.1=some p.2
     rw[q2];exact eU (hndc _) hp'
 . have eD:dZ S E=E:=rB (fun q hq=>hS q.1 (hEl q hq));have e1:gf rb S E st.t 0 os vs=ia rb E st.t 0 os vs:=nu rb E st.t S os vs 0 (fun j hj=>by rw[zz];exact hS j hj);simp only[eD,e1];exact hend
def pG : AOp->Bool
 |.store _ _ _ _=>false
 |.call _ _=>false
 |.mkSl own _ _ _ _ _=>!own
 |.makeSl _ _ _ _ _ _=>false
 |.alloc _=>false
 |.box _=>false
 |.app _ _ _ _ _ _ _=>false
 |.ssl _ _ _ _ _=>false
 |_=>true
def ml (op:AOp) (j:Nat) (ef:Eff) (E:EL):EL:=match pG op with | true=>E | false=>E++[(j,ef.sub,ef.ch)]
def mFin2 (P:Program) [Glob P] (L:List (Ent P)) (cx:Cx) (Q:ASt->Prop) (k:List It) (rb:List Nat) (all:List AO) (s0:ASt) (vs:List C) (E:EL):Prop:=
 chk2 rb all (ixE E)=true/\an (ag s0.ch)/\ndE2 E/\ops2 P L rb s0.t all vs E s0.ch 0 all vs/\SG P cx Q k ⟨ia rb E s0.t 0 all vs,fV E s0.ch⟩
def gL (P:Program) [Glob P] (L:List (Ent P)) (cx:Cx) (Q:ASt->Prop) (k:List It) (rb:List Nat) (all:List AO) (s0:ASt):Nat->Md->List AO->ASt->Nat->List C->EL->Prop
 |_+1,.run,[],_,_,vs,E=>mFin2 P L cx Q k rb all s0 vs E
 | n+1,.run,⟨dst,none,op,tot⟩ :: os,s,j,vs,E=>gL P L cx Q k rb all s0 n (.eff (ai (aq P s.t) s.ch (dst.getD 0) op)) (⟨dst,none,op,tot⟩ :: os) s j vs E
 | n+1,.eff (some ef),⟨dst,none,op,_⟩ :: os,s,j,vs,E=>gL P L cx Q k rb all s0 n .run os ⟨aU dst ef.sub ef.v s.t,ef.ch⟩ (j+1) (vs++[ef.v]) (ml op j ef E)
 | n+1,.eff none,⟨dst,none,op,tot⟩ :: os,s,j,vs,E=>gL P L cx Q k rb all s0 n (.tk1 (cj L (aq P s.t) op)) (⟨dst,none,op,tot⟩ :: os) s j vs E
 | n+1,.tk1 none,⟨dst,none,op,tot⟩ :: os,s,j,vs,E=>gL P L cx Q k rb all s0 n (aF L (aq P s.t) s.ch (dst.getD 0) op) (⟨dst,none,op,tot⟩ :: os) s j vs E
 | n+1,.tk1 (some (a,kk,i)),⟨dst,none,op,tot⟩ :: os,s,j,vs,E=>gL P L cx Q k rb all s0 n (.tq a kk i (aN s.ch kk i) (aM s.ch kk i)) (⟨dst,none,op,tot⟩ :: os) s j vs E
 | n+1,.tq a kk _ (some (p,m,ty,es)) (some ch'),⟨dst,none,op,tot⟩ :: os,s,j,vs,E=>gL P L cx Q k rb all s0 n (.tr a kk p (aT a kk m ty es ch' s) (ai (aq P (aT a kk m ty es ch' s).t) (aT a kk m ty es ch' s).ch (dst.getD 0) op)) (⟨dst,none,op,tot⟩ :: os) s j vs E
 | n+1,.tr a kk _ _ (some ef),⟨dst,none,op,_⟩ :: os,s,j,vs,E=>gL P L cx Q k rb all s0 n .run os ⟨aU dst (a6 [(a,.c .any),(kk,.inner)] ef.sub) ef.v s.t,ef.ch⟩ (j+1) (vs++[ef.v]) (ml op j ⟨ef.cond,ef.v,ef.ch,a6 [(a,.c .any),(kk,.inner)] ef.sub⟩ E)
 | n+1,.tr a kk p s1 none,⟨dst,none,op,tot⟩ :: os,s,j,vs,E=>gL P L cx Q k rb all s0 n (.ts a kk p s1 (aF L (aq P s1.t) s1.ch (dst.getD 0) op)) (⟨dst,none,op,tot⟩ :: os) s j vs E
 | n+1,.ts a kk _ _ (.cal (.eff ef)),⟨dst,none,op,_⟩ :: os,s,j,vs,E=>gL P L cx Q k rb all s0 n .run os ⟨aU dst (a6 [(a,.c .any),(kk,.inner)] ef.sub) ef.v s.t,ef.ch⟩ (j+1) (vs++[ef.v]) (ml op j ⟨ef.cond,ef.v,ef.ch,a6 [(a,.c .any),(kk,.inner)] ef.sub⟩ E)
 | n+1,.cal (.eff ef),⟨dst,none,op,_⟩ :: os,s,j,vs,E=>gL P L cx Q k rb all s0 n .run os ⟨aU dst ef.sub ef.v s.t,ef.ch⟩ (j+1) (vs++[ef.v]) (ml op j ef E)
 |_,_,_,_,_,_,_=>False
theorem tD {L:List (Ent P)} {rb:List Nat} {all:List AO} {s0:ASt}:∀ (n:Nat) (m:Md) (os:List AO) (s:ASt) (j:Nat) (vs:List C) (E:EL),gL P L cx Q k rb all s0 n m os s j vs E->SG P cx Q (.c (.draw 999 rb all) :: k) s0:=by
 intro n
 induction n with
 | zero=>intro m os s j vs E h;simp[gL]at h
 | succ n ih=>
  intro m os s j vs E h;cases os with
  | nil=>
   cases m <;> simp only[gL]at h;obtain⟨h0,h1,h2,h3,h4⟩:=h;exact vN h0 h1 h2 h3 h4
  | cons o os=>
   unfold gL at h;split at h <;> first | exact h.elim | exact ih _ _ _ _ _ _ h | (simp at*<;> (subst_vars;exact ih _ _ _ _ _ _ h))
theorem rc {rb:List Nat} {os:List AO} (L:List (Ent P)) (n:Nat) (h:gL P L cx Q k rb os st n .run os st 0 [] []):SG P cx Q (.c (.draw 999 rb os) :: k) st:=
 tD n .run os st 0 [] [] h
end Go.Am
end
section
open Go Go.Am
open Go.Am.Dat (cells)
namespace Go.Proofs.YtcbabnbiinkafaaGreatDoor
def oO (k:Nat):Operand:=.tmp k
def oN (n:Int):Operand:=.const (.int .i64 n)
def oA (d:Nat) (op:AOp):AO:=⟨some d,none,op,false⟩
def oM (d k:Nat):AO:=⟨some d,none,.mv (.tmp k),false⟩
def oT (d:Nat) (op:AOp):AO:=⟨some d,none,op,true⟩
def oG (d g:Nat) (w:Bool) (op:AOp):AO:=⟨some d,some (g,w),op,false⟩
def oR (l:List AO):AC:=.region false l
def oQ (l:List AO):AC:=.region true l
def oS (a b:AC):AC:=.seq a b
def oK (l:List Nat) (a:AC):AC:=.keep l a
def oF (d n k:Nat):AO:=⟨some d,none,.faddr n (.tmp k),false⟩
def oL (d k:Nat):AO:=⟨some d,none,.load false 1 (.tmp k),false⟩
def oV (d:Nat) (n:Int):AO:=⟨some d,none,.mv (.const (.int .i64 n)),false⟩
def oC (d f:Nat) (l:List Operand):AO:=⟨some d,none,.call (.func f) l,false⟩
def oW (s a b:Nat):AO:=⟨none,none,.store false s (.tmp a) (.tmp b),false⟩
def oY (b:Bool) (s:Nat) (x y:Operand):AO:=⟨none,none,.store b s x y,false⟩
def oI (k:Nat) (a:AC):AC:=.cond (.tmp k) a .skip
def oX (l:List AO) (k:List Nat) (a:AC):AC:=.seq (.region false l) (.keep k a)
def oP (d a b:Nat):AO:=⟨some d,none,.pick (.tmp a) (.tmp b) (.const (.bool false)),false⟩
def oH (d a b:Nat):AO:=⟨some d,none,.pick (.tmp a) (.const (.bool true)) (.tmp b),false⟩
def oB (d:Nat) (op:BinOp) (t a:Nat) (x:Operand):AO:=⟨some d,none,.bin op t (.tmp a) x,false⟩
def oD (d g:Nat) (w:Bool) (a:Nat):AO:=⟨some d,some (g,w),.mv (.tmp a),false⟩
def oE (d g:Nat) (w:Bool) (n a:Nat):AO:=⟨some d,some (g,w),.faddr n (.tmp a),false⟩
def oJ (d g:Nat) (w:Bool) (a:Nat):AO:=⟨some d,some (g,w),.load false 1 (.tmp a),false⟩
def o0 : List Value:=[.slice none 0 0]
def o1 : List Value:=[.int .i64 0]
def o2 : List Value:=[.int .i64 0,.int .i64 0]
def o3 : List Value:=[.int .i64 0,.int .i64 0,.int .i64 0]
def oZ : List Value:=[.int .i64 0,.int .i64 0,.int .i64 0,.int .i64 0,.int .i64 0,.int .i64 0,.int .i64 0,.int .i64 0,.int .i64 0,.slice none 0 0]
def o4 (d a:Nat):AO:=⟨some d,none,.len false (.tmp a),false⟩
def o5 (d s a:Nat):AO:=⟨some d,none,.load true s (.tmp a),false⟩
def o6 (d a:Nat):AO:=⟨some d,none,.nilc (.tmp a),false⟩
def o7 (d a:Nat):AO:=⟨some d,none,.box (.tmp a),false⟩
def o8 (d a i:Nat):AO:=⟨some d,none,.extr (.tmp a) i,false⟩
def o9 (d:Nat) (b:Bool):AO:=⟨some d,none,.mv (.const (.bool b)),false⟩
def jt : List C:=[
 .s (.string ⟨#[100,97,116,97]⟩),.s (.bool false),.s (.func (.func 268) #[] #[]),
 .s (.string ⟨#[115,101,110,100]⟩),.s (.bool false),.s (.func (.func 269) #[] #[]),
 .s (.string ⟨#[97,99,107]⟩),.s (.bool false),.s (.func (.func 270) #[] #[]),
 .s (.string ⟨#[112,114,101,112,97,114,101]⟩),.s (.bool true),.s (.func (.func 271) #[] #[]),
 .s (.string ⟨#[99,97,110,99,101,108]⟩),.s (.bool false),.s (.func (.func 272) #[] #[]),
 .s (.string ⟨#[99,111,109,109,97,110,100]⟩),.s (.bool false),.s (.func (.func 273) #[] #[]),
 .s (.string ⟨#[99,111,109,112,108,101,116,101]⟩),.s (.bool false),.s (.func (.func 274) #[] #[]),
 .s (.string ⟨#[102,111,114,119,97,114,100]⟩),.s (.bool false),.s (.func (.func 275) #[] #[]),
 .s (.string ⟨#[115,119,105,116,99,104]⟩),.s (.bool false),.s (.func (.func 276) #[] #[]),
 .s (.string ⟨#[102,97,105,108]⟩),.s (.bool false),.s (.func (.func 277) #[] #[]),
 .s (.string ⟨#[114,101,99,111,118,101,114]⟩),.s (.bool true),.s (.func (.func 278) #[] #[]),
 .s (.string ⟨#[112,97,115,115]⟩),.s (.bool false),.s (.func (.func 279) #[] #[])]
def varsOk (U:Nat->Prop) (h:Array Obj):Prop:=
 (∃ ty fz,U 2/\h[2]? = some (.cells (Lib.pow10Tab.map fun z=>Value.int .u64 z).toArray ty fz)) /\
 (∃ tp p ty fz,U 5/\h[5]? = some (.cells #[.iface tp p] ty fz))/\(∃ tp p ty fz,U 6/\h[6]? = some (.cells #[.iface tp p] ty fz))
instance : Glob Tryz.prog where
 gl:=[(0,jt)]
 inv:=varsOk
 mono:=fun U U' h h' ⟨⟨a,b,c,d⟩,⟨e,f,g,i,j,k⟩,l,m,n,o,p,q⟩ hk=>
  ⟨⟨a,b,(hk 2 c).1,(hk 2 c).2.trans d⟩,⟨e,f,g,i,(hk 5 j).1,(hk 5 j).2.trans k⟩,l,m,n,o,(hk 6 p).1,(hk 6 p).2.trans q⟩
end Go.Proofs.YtcbabnbiinkafaaGreatDoor
end
section
open Go Go.Am
open Go.Am.Dat (cells)
namespace Go.Proofs.YtcbabnbiinkafaaGreatDoor
set_option maxRecDepth 100000
def c3 : AC:=oX [o7 3 0,o9 6 false] [1,2,3] (oS (oX [oC 14 21 [],oA 15 (.un .not (oO 14))] [1,2,3,15] (oI 15 (oX [o9 6 false] [6] .ret))) (oK [1,2,3] (oS (oX [oM 16 1,oC 17 22 [oO 16],oA 18 (.un .not (oO 17)),oM 19 18,oD 20 19 false 2,oG 21 19 false (.call (.func 22) [oO 20]),oG 22 19 false (.un .not (oO 21)),oH 23 19 22] [1,2,3,23] (oI 23 (oX [o9 6 true] [6] .ret))) (oK [1,2,3] (oS (oQ [o5 25 3 3,oM 26 1,oC 27 24 [oO 26],oM 28 2,oC 29 24 [oO 28],oT 30 (.call (.func 23) [oO 25,oO 27,oO 29]),oT 24 (.mv (oO 30)),o8 31 24 0,o8 32 24 1,oM 7 31,oT 8 (.mv (oO 32))]) (oK [1,2,3,7,8] (oS (oQ [o5 34 3 3,oM 35 1,oC 36 24 [oO 35],oM 37 2,oC 38 24 [oO 37],oT 39 (.call (.func 25) [oO 34,oO 36,oO 38]),oT 33 (.mv (oO 39)),o8 40 33 0,o8 41 33 1,oM 9 40,oT 10 (.mv (oO 41))]) (oK [1,2,3,7,8,9,10] (oX [o5 42 3 3,oC 43 26 [oO 42],oM 11 43] [1,2,3,7,8,9,10,11] (oX [o5 44 3 3,oC 45 27 [oO 44],oM 12 45] [1,2,3,7,8,9,10,11,12] (oS (oX [oM 46 11,oM 47 12,oB 48 .neq 3 46 (oO 47)] [1,2,3,7,8,9,10,12,48] (oI 48 (oX [o9 6 false] [6] .ret))) (oK [1,2,3,7,8,9,10,12] (oS (oX [oM 49 12,oB 50 .eql 3 49 (oN 0)] [1,2,3,7,8,9,10,12,50] (oI 50 (oR [oM 51 1,oM 52 2,oC 53 28 [oO 51,oO 52],oM 12 53]))) (oK [1,2,3,7,8,9,10,12] (oS (oX [oM 54 12,oB 55 .neq 3 54 (oN 0)] [1,2,3,7,8,9,10,12,55] (oI 55 (oX [oM 56 8,oM 57 12,oB 58 .eql 3 56 (oO 57),oM 59 58,oD 60 59 true 10,oD 61 59 true 12,oG 62 59 true (.bin .eql 3 (oO 60) (oO 61)),oP 63 59 62,oM 64 63,oD 65 64 true 7,oG 66 64 true (.len false (oO 65)),oG 67 64 true (.bin .eql 3 (oO 66) (oN 0)),oP 68 64 67,oM 69 68,oD 70 69 true 9,oG 71 69 true (.bin .eql 3 (oO 70) (oN 0)),oP 72 69 71,oM 6 72] [6] .ret))) (oK [1,2,3,7,8,9,10] (oX [o5 73 3 3,oM 74 1,oM 75 2,oC 76 29 [oO 73,oO 74,oO 75],oM 13 76] [7,8,9,10,13] (oS (oX [oM 77 8,oB 78 .neq 27 77 (oN 0),oM 79 78,oD 80 79 false 7,oD 81 79 false 13,oG 82 79 false (.call (.func 30) [oO 80,oO 81]),oG 83 79 false (.un .not (oO 82)),oH 84 79 83] [9,10,13,84] (oI 84 (oX [o9 6 false] [6] .ret))) (oK [9,10,13] (oS (oX [oM 85 13,o4 86 85,oB 87 .eql 3 86 (oN 0)] [9,10,13,87] (oI 87 (oX [oM 88 10,oB 89 .eql 27 88 (oN 12),oM 90 89,oD 91 90 true 9,oG 92 90 true (.bin .eql 3 (oO 91) (oN 0)),oP 93 90 92,oM 6 93] [6] .ret))) (oK [9,10,13] (oX [oM 94 10,oB 95 .eql 27 94 (oN 0),oM 96 95,oD 97 96 true 9,oD 98 96 true 13,oG 99 96 true (.iaddr 1 o1 (oO 98) (oN 0)),oJ 100 96 true 99,oG 101 96 true (.bin .eql 3 (oO 97) (oO 100)),oP 102 96 101,oM 6 102] [6] .ret))))))))))))))))))))))
def c4l1 : AC:=oS (oX [oM 89 12,oM 90 9,oM 91 11,oA 92 (.iaddr 1 o1 (oO 90) (oO 91)),oL 93 92,oB 94 .leq 3 89 (oO 93)] [3,5,7,8,9,11,12,94] (.cond (oO 94) .skip (.exit 2))) (oK [3,5,7,8,9,11,12] (oS (.block 3 (oX [o5 97 3 3,oM 98 7,oM 99 8,oM 100 12,oC 101 32 [oO 97,oO 98,oO 99,oO 100],oA 102 (.un .not (oO 101))] [3,5,7,8,9,11,12,102] (oI 102 (oX [o9 6 false] [6] .ret)))) (oK [3,5,7,8,9,11,12] (oR [oM 95 12,oB 96 .add 3 95 (oN 1),oM 12 96]))))
def c4l2 : AC:=oS (oX [oM 111 14,oM 112 9,oM 113 11,oA 114 (.iaddr 1 o1 (oO 112) (oO 113)),oL 115 114,oB 116 .lss 3 111 (oO 115)] [3,5,7,8,9,11,13,14,116] (.cond (oO 116) .skip (.exit 4))) (oK [3,5,7,8,9,11,13,14] (oS (.block 5 (oR [oM 119 13,oM 120 119,oG 121 120 false (.load true 3 (oO 3)),oD 122 120 false 7,oD 123 120 false 8,oD 124 120 false 14,oG 125 120 false (.call (.func 33) [oO 121,oO 122,oO 123,oO 124]),oH 126 120 125,oM 13 126])) (oK [3,5,7,8,9,11,13,14] (oR [oM 117 14,oB 118 .add 3 117 (oN 1),oM 14 118]))))
def c4l3 : AC:=oS (oX [oM 49 11,oM 50 9,o4 51 50,oB 52 .lss 3 49 (oO 51)] [3,5,7,8,9,11,52] (.cond (oO 52) .skip (.exit 0))) (oK [3,5,7,8,9,11] (oS (.block 1 (oS (oS (oQ [oM 55 9,oA 56 (.mvs (oO 11)),oA 57 (.iaddr 1 o1 (oO 55) (oO 56)),oL 58 57,oF 59 2 3,oL 60 59,oM 61 7,o4 62 61,oB 63 .sub 3 62 (oN 1),oT 64 (.call (.func 31) [oO 58,oO 60,oO 63]),oT 65 (.un .not (oO 64)),oT 66 (.mv (oO 65)),⟨some 67,some (66,false),.mv (oO 11),true⟩,⟨some 68,some (66,false),.bin .gtr 3 (oO 67) (oN 0),true⟩,⟨some 69,some (66,false),.mv (oO 68),true⟩,oD 70 69 true 9,oD 71 69 true 11,oG 72 69 true (.iaddr 1 o1 (oO 70) (oO 71)),oJ 73 69 true 72,oD 74 69 true 9,oD 75 69 true 11,oG 76 69 true (.bin .sub 3 (oO 75) (oN 1)),oG 77 69 true (.iaddr 1 o1 (oO 74) (oO 76)),oJ 78 69 true 77,⟨some 79,some (69,true),.bin .leq 3 (oO 73) (oO 78),true⟩,⟨some 80,some (66,false),.pick (oO 69) (oO 79) (.const (.bool false)),true⟩,oT 81 (.pick (oO 66) (.const (.bool true)) (oO 80))]) (oK [3,5,7,8,9,11,81] (oI 81 (oX [o9 6 false] [6] .ret)))) (oK [3,5,7,8,9,11] (oS (oS (oQ [oM 82 9,oA 83 (.mvs (oO 11)),oA 84 (.iaddr 1 o1 (oO 82) (oO 83)),oL 85 84,oF 86 2 3,oL 87 86,oT 88 (.bin .sub 3 (oO 85) (oO 87)),oT 12 (.mv (oO 88))]) (oK [3,5,7,8,9,11,12] (.block 2 (.loop c4l1)))) (oK [3,5,7,8,9,11] (oX [oM 103 11,oB 104 .eql 3 103 (oN 0),oM 13 104] [3,5,7,8,9,11,13] (oS (oX [oM 105 9,oM 106 11,oB 107 .sub 3 106 (oN 1),oA 108 (.ext (.mx true) [oN 0,oO 107]),oA 109 (.iaddr 1 o1 (oO 105) (oO 108)),oL 110 109,oM 14 110] [3,5,7,8,9,11,13,14] (.block 4 (.loop c4l2))) (oK [3,5,7,8,9,11,13] (oX [oM 127 13,oA 128 (.un .not (oO 127))] [3,5,7,8,9,11,128] (oI 128 (oX [o9 6 false] [6] .ret))))))))))) (oK [3,5,7,8,9,11] (oR [oM 53 11,oB 54 .add 3 53 (oN 1),oM 11 54]))))
def c4 : AC:=oX [o7 3 0,o7 4 1,o7 5 2,o9 6 false] [3,4,5] (oS (oX [oC 18 21 [],oA 19 (.un .not (oO 18))] [3,4,5,19] (oI 19 (oX [o9 6 false] [6] .ret))) (oK [3,4,5] (oS (oQ [oA 20 (.iarr 2 1 (oO 4) (oN 0)),oL 21 20,oA 22 (.iarr 2 1 (oO 4) (oN 1)),oL 23 22,oM 7 21,oT 8 (.mv (oO 23))]) (oK [3,5,7,8] (oS (oX [oM 24 7,oC 25 22 [oO 24],oA 26 (.un .not (oO 25)),oM 27 26,oG 28 27 false (.load true 3 (oO 3)),oG 29 27 false (.call (.func 27) [oO 28]),oG 30 27 false (.bin .neq 3 (oO 29) (oN 0)),oH 31 27 30,oM 32 31,oD 33 32 false 7,oD 34 32 false 8,oG 35 32 false (.call (.func 28) [oO 33,oO 34]),oG 36 32 false (.bin .neq 3 (oO 35) (oN 0)),oH 37 32 36] [3,5,7,8,37] (oI 37 (oX [o9 6 true] [6] .ret))) (oK [3,5,7,8] (oS (oQ [o5 39 3 3,oM 40 7,oC 41 24 [oO 40],oM 42 8,oC 43 24 [oO 42],oT 44 (.call (.func 23) [oO 39,oO 41,oO 43]),oT 38 (.mv (oO 44)),o8 45 38 0,o8 46 38 1,oM 9 45,oT 10 (.mv (oO 46))]) (oK [3,5,7,8,9,10] (oS (oX [oM 47 10,oB 48 .neq 27 47 (oN 0)] [3,5,7,8,9,48] (oI 48 (oX [o9 6 false] [6] .ret))) (oK [3,5,7,8,9] (oS (oX [oV 11 0] [3,5,7,8,9,11] (.block 0 (.loop c4l3))) (oK [3,5,7,8,9] (oX [o5 129 3 3,oA 15 (.alloc o3),oW 3 15 129] [3,5,7,8,9,15] (oS (oX [oA 130 (.iarr 2 1 (oO 5) (oN 0)),oL 131 130,oC 132 31 [oO 131,oN 0,oN 20],oM 133 132,oG 134 133 true (.iarr 2 1 (oO 5) (oN 1)),oJ 135 133 true 134,oG 136 133 true (.call (.func 31) [oO 135,oN 0,oN 100]),oP 137 133 136] [3,5,7,8,9,15,137] (oI 137 (oQ [oF 138 2 3,oL 139 138,oA 140 (.iarr 2 1 (oO 5) (oN 0)),oL 141 140,oB 142 .add 3 139 (oO 141),oF 143 0 3,oL 144 143,oA 145 (.iarr 2 1 (oO 5) (oN 1)),oL 146 145,oB 147 .add 3 144 (oO 146),oF 148 2 15,oW 1 148 142,oT 149 (.faddr 0 (oO 15)),⟨none,none,.store false 1 (oO 149) (oO 147),true⟩]))) (oK [7,8,9,15] (oS (oX [o5 150 3 15,oC 151 27 [oO 150],oB 152 .neq 3 151 (oN 0)] [7,8,9,15,152] (oI 152 (oX [o9 6 true] [6] .ret))) (oK [7,8,9,15] (oS (oQ [o5 154 3 15,oM 155 7,oC 156 24 [oO 155],oM 157 8,oC 158 24 [oO 157],oT 159 (.call (.func 25) [oO 154,oO 156,oO 158]),oT 153 (.mv (oO 159)),o8 160 153 0,o8 161 153 1,oM 16 160,oT 17 (.mv (oO 161))]) (oK [9,16,17] (oS (oX [oM 162 17,oB 163 .neq 27 162 (oN 0)] [9,16,17,163] (oI 163 (oX [oM 164 17,oB 165 .eql 27 164 (oN 12),oM 166 165,oD 167 166 true 16,oG 168 166 true (.bin .eql 3 (oO 167) (oN 0)),oP 169 166 168,oM 6 169] [6] .ret))) (oK [9,16] (oX [oM 170 9,o4 171 170,oB 172 .gtr 3 171 (oN 0),oM 173 172,oD 174 173 true 9,oG 175 173 true (.iaddr 1 o1 (oO 174) (oN 0)),oJ 176 173 true 175,oD 177 173 true 16,oG 178 173 true (.bin .leq 3 (oO 176) (oO 177)),oP 179 173 178,oM 6 179] [6] .ret))))))))))))))))))))))
def c5 : AC:=oX [o7 3 0,o9 6 false] [1,2,3] (oS (oX [oC 16 21 [],oA 17 (.un .not (oO 16))] [1,2,3,17] (oI 17 (oX [o9 6 false] [6] .ret))) (oK [1,2,3] (oS (oX [o5 18 3 3,oC 19 34 [oO 18],oA 20 (.un .not (oO 19)),oM 21 20,oD 22 21 false 2,oG 23 21 false (.call (.func 35) [oO 22]),oG 24 21 false (.un .not (oO 23)),oH 25 21 24] [1,2,3,25] (oI 25 (oX [o9 6 true] [6] .ret))) (oK [1,2,3] (oX [o5 27 3 3,oC 28 37 [oO 27],oM 29 1,oM 30 2,oC 31 38 [oO 30],oC 32 36 [oO 28,oO 29,oO 31],oM 26 32,o8 33 26 0,o8 34 26 1,o8 35 26 2,oA 7 (.alloc oZ),oW 10 7 33,oM 8 34,oM 9 35] [1,2,3,7,8,9] (oX [o5 37 3 3,oC 38 37 [oO 37],oM 39 1,oM 40 2,oC 41 38 [oO 40],oC 42 39 [oO 38,oO 39,oO 41],oM 36 42,o8 43 36 0,o8 44 36 1,oM 10 43,oM 11 44] [1,2,3,7,8,9,10,11] (oS (oX [o5 45 3 3,oM 46 1,oC 47 40 [oO 45,oO 46],oM 12 47] [1,2,3,7,8,9,10,11,12] (oX [oM 48 12,oB 49 .neq 3 48 (oN 0)] [1,2,3,7,8,9,10,11,12,49] (oI 49 (oX [oM 50 9,oM 51 12,oB 52 .eql 3 50 (oO 51),oM 53 52,oD 54 53 true 11,oD 55 53 true 12,oG 56 53 true (.bin .eql 3 (oO 54) (oO 55)),oP 57 53 56,oM 58 57,oD 59 58 true 8,oG 60 58 true (.bin .eql 3 (oO 59) (oN 0)),oP 61 58 60,oM 62 61,oG 63 62 true (.load true 10 (oO 7)),oG 64 62 true (.build oZ []),oG 65 62 true (.call (.func 41) [oO 63,oO 64]),oP 66 62 65,oM 67 66,oD 68 67 true 10,oG 69 67 true (.len false (oO 68)),oG 70 67 true (.bin .eql 3 (oO 69) (oN 0)),oP 71 67 70,oM 6 71] [6] .ret)))) (oK [1,2,3,7,8,9,10,11] (oX [o5 73 3 3,oM 74 1,oM 75 2,oC 76 42 [oO 73,oO 74,oO 75],oM 72 76,o8 77 72 0,o8 78 72 1,o8 79 72 2,oA 13 (.alloc oZ),oW 10 13 77,oM 14 78,oM 15 79] [1,2,3,7,8,9,10,11,13,14,15] (oS (oX [oM 80 9,oM 81 15,oB 82 .neq 3 80 (oO 81),oM 83 82,oD 84 83 false 8,oD 85 83 false 14,oG 86 83 false (.bin .neq 3 (oO 84) (oO 85)),oH 87 83 86,oM 88 87,oG 89 88 false (.load true 10 (oO 7)),oG 90 88 false (.load true 10 (oO 13)),oG 91 88 false (.call (.func 41) [oO 89,oO 90]),oG 92 88 false (.un .not (oO 91)),oH 93 88 92] [1,2,3,10,11,15,93] (oI 93 (oX [o9 6 false] [6] .ret))) (oK [1,2,3,10,11,15] (oS (oX [oM 94 15,oB 95 .neq 3 94 (oN 0)] [1,2,3,10,11,15,95] (oI 95 (oX [oM 96 11,oM 97 15,oB 98 .eql 3 96 (oO 97),oM 99 98,oD 100 99 true 10,oG 101 99 true (.len false (oO 100)),oG 102 99 true (.bin .eql 3 (oO 101) (oN 0)),oP 103 99 102,oM 6 103] [6] .ret))) (oK [1,2,3,10,11] (oX [oM 104 11,oB 105 .eql 27 104 (oN 0),oM 106 105,oD 107 106 true 10,oG 108 106 true (.load true 3 (oO 3)),oD 109 106 true 1,oD 110 106 true 2,oG 111 106 true (.call (.func 43) [oO 108,oO 109,oO 110]),oG 112 106 true (.call (.func 30) [oO 107,oO 111]),oP 113 106 112,oM 6 113] [6] .ret))))))))))))))
def c9l1 : AC:=oS (oX [oM 74 15,oM 75 13,o4 76 75,oB 77 .lss 3 74 (oO 76)] [3,7,8,9,10,12,13,14,15,77] (.cond (oO 77) .skip (.exit 0))) (oK [3,7,8,9,10,12,13,14,15] (oS (.block 1 (oQ [oA 80 (.mvs (oO 14)),oM 81 13,oA 82 (.mvs (oO 15)),oA 83 (.iaddr 2 o2 (oO 81) (oO 82)),oF 84 1 83,oL 85 84,oM 86 13,oM 87 15,oA 88 (.iaddr 2 o2 (oO 86) (oO 87)),oF 89 0 88,oL 90 89,oT 91 (.bin .sub 3 (oO 85) (oO 90)),oT 92 (.ext (.mx true) [oO 80,oO 91]),oT 14 (.mv (oO 92))])) (oK [3,7,8,9,10,12,13,14,15] (oR [oM 78 15,oB 79 .add 3 78 (oN 1),oM 15 79]))))
end Go.Proofs.YtcbabnbiinkafaaGreatDoor
end
