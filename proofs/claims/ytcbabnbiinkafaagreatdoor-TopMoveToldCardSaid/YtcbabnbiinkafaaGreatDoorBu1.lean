/- Part 1 of the proof of: the statements about chapter 8 -/
import Derived.Below
import Derived.Orders
import Derived.Laws.AppendOwn
import Derived.Laws.BytesArg
import Derived.WalkKit
set_option linter.all false
set_option maxHeartbeats 8000000
set_option maxRecDepth 100000
section
namespace Go.Am
def aI {a b:Prop} (x:a) (y:b):a/\b:=⟨x,y⟩
def za := @Option.map_eq_some_iff
def zb := @List.getD_eq_getElem?_getD
def zc := @Array.getD_eq_getD_getElem?
def ze := @List.getElem?_eq_getElem
def zf := @Prod.mk.injEq
def zg := @List.mem_singleton
def zh := @List.getElem?_map
def zi := @List.getElem?_eq_some_iff
def zj := @Array.getElem?_eq_getElem
def zk := @Option.bind_eq_some_iff
def zl := @List.mem_cons
def zm := @Bool.and_eq_true
def zn := @Option.some.injEq
def zo := @List.mem_cons_of_mem
def zp := @List.mem_of_getElem?
def zq := @List.mem_cons_self
def zr := @Bool.false_eq_true
def zt := @List.map_cons
def zu := @List.mem_map
def zv := @List.drop_eq_nil_of_le
def zw := @Nat.le_refl
def zx := @List.all_eq_true
def zy := @List.length_map
def zz := @Nat.zero_add
def zA := @List.not_mem_nil
def zB := @Nat.mul_le_mul_right
def zD := @List.getElem?_cons_zero
def zE := @List.mem_range
def zF := @Bool.false_or
def zG := @List.mk_mem_zipIdx_iff_getElem?
def zH := @List.map_congr_left
def zI := @List.nodup_cons
def zJ := @List.getElem?_set
def zK := @List.length_append
def zL := @Nat.add_zero
def zM := @Array.getElem?_toList
def zN := @Option.getD_some
def zO := @List.getElem?_drop
def zP := @Nat.add_mul
def zQ := @List.length_cons
def zR := @List.map_nil
def zS := @List.getElem?_append
def zT := @List.map_map
def zU := @Option.map_some
def zV := @Bool.or_eq_true
def zW := @List.mem_append
def zX := @Array.getElem?_append_left
def zY := @Bool.true_and
def zZ := @Bool.and_true
def z0 := @List.lookup_cons
def z4 := @List.append_nil
def z5 := @Int.toNat_natCast
def z6 := @Nat.le_trans
def z7 := @Bool.false_and
def z8 := @Nat.one_mul
def z9 := @List.drop_eq_getElem_cons
def ya := @List.getElem?_take
def yb := @List.nil_append
def yc := @List.headD_cons
def yd := @Bool.and_false
def ye := @List.append_assoc
def yf := @List.mem_filter
def yg := @List.map_append
def yh := @List.length_nil
def yi := @List.filter_eq_nil_iff
def yj := @List.getElem?_append_left
def yk := @List.countP_eq_zero
def yl := @Array.getElem?_setIfInBounds
def ym := @Bool.true_eq_false
def yn := @Array.all_eq_true'
def yo := @List.take_length
def yp := @List.getElem?_cons_succ
def yq := @List.cons_append
def yr := @Nat.lt_trichotomy
def yu := @Nat.lt_or_ge
def yv := @List.getElem?_range
def yw := @List.drop_succ_cons
def yx := @Array.getElem?_append
def yy := @List.getElem_mem
def yz := @Bool.true_or
def yA := @Nat.mul_one
def yB := @List.drop_zero
def yC := @Bool.not_eq_true'
def yD := @List.take_succ_cons
def yE := @Array.getElem?_push
def yF := @Nat.zero_le
def yG := @Nat.add_assoc
def yH := @Bool.eq_iff_iff
def yI := @List.take_succ_eq_append_getElem
def yJ := @Nat.lt_of_lt_of_le
def yK := @List.pairwise_cons
def yL := @Array.size_eq_zero_iff
def yM := @Int.natCast_add
def qa := @if_neg
def qb := @if_pos
def qc := @not_true_eq_false
def qd := @not_false_eq_true
def qf := @decide_eq_true_eq
def qg := @Classical.propComplete
def qh := @Classical.em
def qi := @if_false
def qj := @if_true
def qk := @or_false
def ql := @decide_eq_false_iff_not
def qm := @Option.isSome_some
def qn := @Option.isSome_none
def qo := @List.take_of_length_le
def qp := @List.length_take
inductive C where
 | any
 | s (v:Value)
 | sl (sz:Nat) (es:List (List C))
 | ref (cs:List C)
 | agg (cs:List C)
 | tup (cs:List C)
 | fn (f:Fn) (first caps:List C)
 | own (k:Nat)
 | ptr (k off:Nat)
 | eptr (k i j:Nat)
 | isl (sz:Nat) (ty:TypeId) (es:List (List C))
 | inn (k i:Nat)
 | iptr (k i m j:Nat)
 deriving Inhabited
structure KE0 where
 blk:Nat
 off:Nat
 cap:Nat
 len:Nat
 sz:Nat
 nil:Bool
 deriving Inhabited
structure KE extends KE0 where
 inn:Nat->KE0
 fp:Nat->Prop
instance : Inhabited KE:=⟨⟨default,fun _=>default,fun _=>False⟩⟩
def slV (x:KE0):Value:=if x.nil=true then .slice none 0 0 else .slice (some ⟨x.blk,x.off,none⟩) x.len x.cap
abbrev Env := Nat->KE
inductive RepD (U:Nat->Prop) (h:Array Obj):C->Value->Prop
 | any (v:Value):RepD U h .any v
 | s (v:Value):RepD U h (.s v) v
 | sl0 (sz:Nat) (a:Option Addr) (cap:Nat) (hc:cap<=maxLen):RepD U h (.sl sz []) (.slice a 0 cap)
 | sl (es:List (List C)) (b off cap sz:Nat) (arr:Array Value) (ty:TypeId) (fz:Nat×Nat) (vf:Nat->Nat->Value) (hU:U b) (hb:h[b]? = some (.cells arr ty fz)) (hcap:es.length<=cap) (hmax:cap<=maxLen)
  (hsz:∀ (i:Nat) (e:List C),es[i]? = some e->e.length=sz)
  (hv:∀ (i:Nat) (e:List C) (j:Nat) (c:C),es[i]? = some e->e[j]? = some c->arr[off+i*sz+j]? = some (vf i j)/\(vf i j).oneCell'=true)
  (hr:∀ (i:Nat) (e:List C) (j:Nat) (c:C),es[i]? = some e->e[j]? = some c->RepD U h c (vf i j)):RepD U h (.sl sz es) (.slice (some ⟨b,off,none⟩) es.length cap)
theorem RepD.mono {U U':Nat->Prop} {h h':Array Obj} {c:C} {v:Value} (hr:RepD U h c v) (hk:∀ b,U b->U' b/\h'[b]? = h[b]?):RepD U' h' c v:=by
 induction hr with
 | any v=>exact .any v
 | s v=>exact .s v
 | sl0 sz a cap hc=>exact .sl0 sz a cap hc
 | sl es b off cap sz arr ty fz vf hU hb hcap hmax hsz hv hr ih=>exact .sl es b off cap sz arr ty fz vf (hk b hU).1 ((hk b hU).2.trans hb) hcap hmax hsz hv (fun i e j c h1 h2=>ih i e j c h1 h2)
inductive Rep (E:Env) (U:Nat->Prop) (h:Array Obj):C->Value->Prop
 | d {c:C} {v:Value} (hd:RepD U h c v):Rep E U h c v
 | ref (cs:List C) (b off:Nat) (arr:Array Value) (ty:TypeId) (fz:Nat×Nat) (vf:Nat->Value) (hU:U b) (hb:h[b]? = some (.cells arr ty fz))
  (hv:∀ (j:Nat) (c:C),cs[j]? = some c->arr[off+j]? = some (vf j)/\(vf j).oneCell'=true) (hr:∀ (j:Nat) (c:C),cs[j]? = some c->RepD U h c (vf j)):Rep E U h (.ref cs) (.pointer (some ⟨b,off,none⟩))
 | agg (cs:List C) (vs:Array Value) (hl:vs.size=cs.length) (hr:∀ (j:Nat) c,cs[j]? = some c->Rep E U h c (vs.getD j undef)) (h1:∀ j,j < vs.size->(vs.getD j undef).oneCell'=true):Rep E U h (.agg cs) (.agg vs)
 | tup (cs:List C) (vs:Array Value) (hl:vs.size=cs.length) (hr:∀ (j:Nat) c,cs[j]? = some c->Rep E U h c (vs.getD j undef)):Rep E U h (.tup cs) (.tuple vs)
 | fn (f:Fn) (xs ys:List C) (vs ws:Array Value) (hl:vs.size=xs.length) (hr:∀ (j:Nat) c,xs[j]? = some c->Rep E U h c (vs.getD j undef)) (hl':ws.size=ys.length)
  (hr':∀ (j:Nat) c,ys[j]? = some c->Rep E U h c (ws.getD j undef)):Rep E U h (.fn f xs ys) (.func f vs ws)
 | own (k:Nat):Rep E U h (.own k) (slV (E k).toKE0)
 | ptr (k off:Nat):Rep E U h (.ptr k off) (.pointer (some ⟨(E k).blk,off,none⟩))
 | eptr (k i j:Nat):Rep E U h (.eptr k i j) (.pointer (some ⟨(E k).blk,(E k).off+i*(E k).sz+j,none⟩))
 | inn (k i:Nat):Rep E U h (.inn k i) (slV ((E k).inn i))
 | iptr (k i m j:Nat):Rep E U h (.iptr k i m j) (.pointer (some ⟨((E k).inn i).blk,((E k).inn i).off+m*((E k).inn i).sz+j,none⟩))
inductive Sb where
 | c (x:C)
 | inner
 deriving Inhabited
def ah (m:List (Nat×Sb)):C->C
 |.own k=>match m.lookup k with | some (.c x)=>x | _=>.own k
 |.ptr k off=>match m.lookup k with | some (.c _)=>.any | _=>.ptr k off
 |.eptr k i j=>match m.lookup k with | some (.c _)=>.any | _=>.eptr k i j
 |.inn k i=>if (m.lookup k).isSome then .any else .inn k i
 |.iptr k i n j=>if (m.lookup k).isSome then .any else .iptr k i n j
 |.agg cs=>.agg (subCs m cs)
 |.tup cs=>.tup (subCs m cs)
 |.fn f xs ys=>.fn f (subCs m xs) (subCs m ys)
 | c=>c
where subCs (m:List (Nat×Sb)):List C->List C
 |[]=>[]
 | c :: cs=>ah m c :: subCs m cs
theorem ib (m:List (Nat×Sb)):∀ cs,ah.subCs m cs=cs.map (ah m)
 |[]=>by simp[ah.subCs]
 | c :: cs=>by simp[ah.subCs,ib m cs]
structure Res where
 φ:(Nat->Prop)->(Nat->Prop)->Array Obj->Prop
 mono:∀ F U U' h h',φ F U h->(∀ b,U b->U' b/\h'[b]? = h[b]?)->(∀ b,F b->h'[b]? = h[b]?)->φ F U' h'
inductive Ch where
 | box (cs:List C)
 | row (sz:Nat) (ty:TypeId) (es:List (List C))
 | deep (isz:Nat) (ity ty:TypeId) (hole:Option Nat) (rows:List (List (List C)))
 | res (R:Res)
instance : Inhabited Ch:=⟨.box []⟩
abbrev Chs := List (Nat×Ch)
def ld (E:Env) (U:Nat->Prop) (h:Array Obj) (c:C) (v:Value):Prop:=Rep E U h c v/\v.oneCell'=true
def fa (U:Nat->Prop) (h:Array Obj) (y:KE0) (sz:Nat) (ty:TypeId) (es:List (List C)):Prop:=
 y.len=es.length/\y.sz=sz/\(∀ (i:Nat) (e:List C),es[i]? = some e->e.length=sz) /\
  ((y.nil=true/\es=[]) \/
   (y.nil=false/\es.length<=y.cap/\y.cap<=maxLen/\∃ arr,h[y.blk]? = some (.cells arr ty (0,0))/\y.off+y.cap*sz<=arr.size /\
    ∀ (i:Nat) (e:List C) (j:Nat) (c:C),es[i]? = some e->e[j]? = some c->RepD U h c (arr.getD (y.off+i*sz+j) undef)/\(arr.getD (y.off+i*sz+j) undef).oneCell'=true))
abbrev j5 := Nat->Option (Nat×TypeId×List (List C))
structure FpOk (x:KE) (I:j5):Prop where
 fp:∀ b,x.fp b↔(x.nil=false/\x.blk=b)\/∃ i q,I i=some q/\(x.inn i).nil=false/\(x.inn i).blk=b
 ne:∀ i q,I i=some q->(x.inn i).nil=false->x.nil=false->(x.inn i).blk≠x.blk
 sep:∀ i j q q',i≠j->I i=some q->I j=some q'->(x.inn i).nil=false->(x.inn j).nil=false->(x.inn i).blk≠(x.inn j).blk
def jB (U:Nat->Prop) (h:Array Obj) (x:KE) (I:j5):Prop:=∀ i n t es,I i=some (n,t,es)->fa U h (x.inn i) n t es
def jW : Option C->Option (Nat×TypeId×List (List C))
 | some (.isl n t es)=>some (n,t,es)
 |_=>none
def eK (cs:List C):j5:=fun j=>jW cs[j]?
def eh (isz:Nat) (ity:TypeId) (hole:Option Nat) (rows:List (List (List C))):j5:=fun i=>if hole=some i then none else (rows[i]?).map fun es=>(isz,ity,es)
def noI : j5:=fun _=>none
def BoxOk (E:Env) (U:Nat->Prop) (h:Array Obj) (x:KE) (cs:List C):Prop:=
 x.nil=false/\∃ arr ty,h[x.blk]? = some (.cells arr ty (0,0))/\arr.size=cs.length /\
  ∀ (j:Nat) (c:C),cs[j]? = some c->ld E U h c (arr.getD j undef)\/((∃ n t es,c=.isl n t es)/\arr.getD j undef=slV (x.inn j))
def qz (h:Array Obj) (x:KE) (ty:TypeId) (hole:Option Nat) (rows:List (List (List C))):Prop:=
 x.len=rows.length/\x.sz=1/\((x.nil=true/\rows=[])\/(x.nil=false/\rows.length<=x.cap/\x.cap<=maxLen/\∃ arr,h[x.blk]? = some (.cells arr ty (0,0))/\x.off+x.cap<=arr.size /\
  ∀ i,i < rows.length->(arr.getD (x.off+i) undef).oneCell'=true/\(hole≠some i->arr.getD (x.off+i) undef=slV (x.inn i))))
def chI : Ch->j5
 |.box cs=>eK cs
 |.deep isz ity _ hole rows=>eh isz ity hole rows
 |_=>noI
def dM (E:Env) (U:Nat->Prop) (h:Array Obj) (k:Nat):Ch->Prop
 |.box cs=>BoxOk E U h (E k) cs/\FpOk (E k) (eK cs)/\jB U h (E k) (eK cs)
 |.row sz ty es=>fa U h (E k).toKE0 sz ty es/\FpOk (E k) noI
 |.deep isz ity ty hole rows=>qz h (E k) ty hole rows/\FpOk (E k) (eh isz ity hole rows)/\jB U h (E k) (eh isz ity hole rows)
 |.res R=>R.φ (E k).fp U h
structure Inv (E:Env) (U:Nat->Prop) (h:Array Obj) (ch:Chs):Prop where
 nd:(ch.map (·.1)).Nodup
 ok:∀ k c,(k,c)∈ch->dM E U h k c
 sep:∀ k c k' c',(k,c)∈ch->(k',c')∈ch->k≠k'->∀ b,(E k).fp b->¬ (E k').fp b
 out:∀ k c,(k,c)∈ch->∀ b,(E k).fp b->¬ U b
 fpl:∀ k c,(k,c)∈ch->∀ b,(E k).fp b->b < h.size
 lt:∀ b,U b->b < h.size
theorem lt_of_getElem? {h:Array Obj} {b:Nat} {o:Obj} (e:h[b]? = some o):b < h.size:=by
 rcases yu b h.size with hl | hl
 . exact hl
 . rw[Array.getElem?_eq_none hl]at e;cases e
theorem dM.own {E:Env} {U:Nat->Prop} {h:Array Obj} {k:Nat} {c:Ch} (hc:dM E U h k c) (hr:∀ R,c≠.res R) (hn:(E k).nil=false):(E k).fp (E k).blk:=by
 cases c with
 | box cs=>exact (hc.2.1.fp _).2 (.inl ⟨hn,rfl⟩)
 | row sz ty es=>exact (hc.2.fp _).2 (.inl ⟨hn,rfl⟩)
 | deep isz ity ty hole rows=>exact (hc.2.1.fp _).2 (.inl ⟨hn,rfl⟩)
 | res R=>exact absurd rfl (hr R)
theorem fa.mono {U U':Nat->Prop} {h h':Array Obj} {y:KE0} {sz:Nat} {ty:TypeId} {es:List (List C)} (hr:fa U h y sz ty es) (hk:∀ b,U b->U' b/\h'[b]? = h[b]?) (hb:y.nil=false->h'[y.blk]? = h[y.blk]?):fa U' h' y sz ty es:=by
 obtain⟨h1,h2,h3,h4⟩:=hr;refine⟨h1,h2,h3,?_⟩;rcases h4 with h4 | ⟨h4,h5,h6,arr,h7,h8,h9⟩
 . exact .inl h4
 . exact .inr ⟨h4,h5,h6,arr,(hb h4).trans h7,h8,fun i e j c he hj=>⟨(h9 i e j c he hj).1.mono hk,(h9 i e j c he hj).2⟩⟩
theorem Rep.mono {E E':Env} {U U':Nat->Prop} {h h':Array Obj} {c:C} {v:Value} {m:List (Nat×Sb)} (hr:Rep E U h c v) (hk:∀ b,U b->U' b/\h'[b]? = h[b]?)
 (hE:∀ k,m.lookup k=none->E' k=E k) (hI:∀ k,m.lookup k=some .inner->(E' k).toKE0=(E k).toKE0) (hs:∀ k c',m.lookup k=some (.c c')->∀ v,Rep E U h (.own k) v->Rep E' U' h' c' v):Rep E' U' h' (ah m c) v:=by
 induction hr with
 | d hd=>
  have:=hd.mono hk;cases hd <;> simpa[ah]using Rep.d this
 | ref cs b off arr ty fz vf hU hb hv hr=>exact .ref cs b off arr ty fz vf (hk b hU).1 ((hk b hU).2.trans hb) hv (fun j c hj=>(hr j c hj).mono hk)
 | agg cs vs hl hr h1 ih=>
  simp only[ah,ib];refine .agg _ vs (by simpa using hl) (fun j c hj=>?_) h1;simp only[zh,za]at hj;obtain⟨c0,h0,rfl⟩:=hj;exact ih j c0 h0
 | tup cs vs hl hr ih=>
  simp only[ah,ib];refine .tup _ vs (by simpa using hl) (fun j c hj=>?_);simp only[zh,za]at hj;obtain⟨c0,h0,rfl⟩:=hj;exact ih j c0 h0
 | fn f xs ys vs ws hl hr hl' hr' ih ih'=>
  simp only[ah,ib];refine .fn f _ _ vs ws (by simpa using hl) (fun j c hj=>?_) (by simpa using hl') (fun j c hj=>?_)
  . simp only[zh,za]at hj;obtain⟨c0,h0,rfl⟩:=hj;exact ih j c0 h0
  . simp only[zh,za]at hj;obtain⟨c0,h0,rfl⟩:=hj;exact ih' j c0 h0
 | own k=>
  simp only[ah];cases hm:m.lookup k with
  | none=>rw[<- hE k hm];exact .own k
  | some s=>
   cases s with
   | c x=>exact hs k x hm _ (.own k)
   | inner=>have:=hI k hm;rw[<- this];exact .own k
 | ptr k off=>
  simp only[ah];cases hm:m.lookup k with
  | none=>rw[<- hE k hm];exact .ptr k off
  | some s=>
   cases s with
   | c x=>exact .d (.any _)
   | inner=>have:=hI k hm;rw[<- this];exact .ptr k off
 | eptr k i j=>
  simp only[ah];cases hm:m.lookup k with
  | none=>rw[<- hE k hm];exact .eptr k i j
  | some s=>
   cases s with
   | c x=>exact .d (.any _)
   | inner=>have:=hI k hm;rw[<- this];exact .eptr k i j
 | inn k i=>
  simp only[ah];cases hm:m.lookup k with
  | none=>rw[<- hE k hm];simp only[qn,zr,qi];exact .inn k i
  | some s=>exact .d (.any _)
 | iptr k i n j=>
  simp only[ah];cases hm:m.lookup k with
  | none=>rw[<- hE k hm];simp only[qn,zr,qi];exact .iptr k i n j
  | some s=>exact .d (.any _)
structure Ev (E:Env) (U:Nat->Prop) (w:World) (ch:Chs) (m:List (Nat×Sb)) (d:Nat) (E':Env) (U':Nat->Prop) (w':World) (ch':Chs):Prop where
 os:w'.os=w.os
 tape:w'.tape=w.tape
 output:w'.output=w.output
 size:w.heap.size<=w'.heap.size
 keep:∀ b,U b->U' b/\w'.heap[b]? = w.heap[b]?
 env:∀ k,m.lookup k=none->E' k=E k
 envI:∀ k,m.lookup k=some .inner->(E' k).toKE0=(E k).toKE0
 sub:∀ k c',m.lookup k=some (.c c')->∀ v,Rep E U w.heap (.own k) v->Rep E' U' w'.heap c' v
 rest:∀ b,b < w.heap.size->(∀ k c,(k,c)∈ch->¬ (E k).fp b)->w'.heap[b]? = w.heap[b]?
 live:∀ k c,(k,c)∈ch'->∀ b,(E' k).fp b->w.heap.size<=b\/∃ k0 c0,(k0,c0)∈ch/\(E k0).fp b
 newU:∀ b,U' b->U b\/w.heap.size<=b\/∃ k0 c0,(k0,c0)∈ch/\(E k0).fp b
 boxes:∀ k cs,(k,.box cs)∈ch'->(k=d\/k < 100000)\/((∃ cs0,(k,.box cs0)∈ch)/\(E' k).toKE0=(E k).toKE0)
 inv:Inv E' U' w'.heap ch'
theorem Ev.rep {E E':Env} {U U':Nat->Prop} {w w':World} {ch ch':Chs} {m:List (Nat×Sb)} {d:Nat} (he:Ev E U w ch m d E' U' w' ch') {c:C} {v:Value} (hr:Rep E U w.heap c v) :
 Rep E' U' w'.heap (ah m c) v:=hr.mono he.keep he.env he.envI he.sub
theorem eC : ∀ c:C,ah [] c=c:=by
 intro c;have h:∀ (n:Nat) (c:C),SizeOf.sizeOf c<=n->ah [] c=c:=by
  intro n
  induction n with
  | zero=>intro c hc;cases c <;> simp at hc
  | succ n ih=>
   intro c hc;have hl:∀ cs:List C,SizeOf.sizeOf cs<=n->cs.map (ah [])=cs:=by
    intro cs
    induction cs with
    | nil=>intro _;rfl
    | cons x xs ihx=>
     intro hx;simp at hx;simp only[zt];rw[ih x (by omega),ihx (by omega)]
   cases c with
   | agg cs=>simp only[ah,ib];simp at hc;rw[hl cs (by omega)]
   | tup cs=>simp only[ah,ib];simp at hc;rw[hl cs (by omega)]
   | fn f xs ys=>simp only[ah,ib];simp at hc;rw[hl xs (by omega),hl ys (by omega)]
   |_=>simp[ah]
 exact h _ c (zw _)
theorem Rep.same {E:Env} {U U':Nat->Prop} {h h':Array Obj} {c:C} {v:Value} (hr:Rep E U h c v) (hk:∀ b,U b->U' b/\h'[b]? = h[b]?):Rep E U' h' c v:=by
 have:=hr.mono (m:=[]) (E':=E) hk (fun _ _=>rfl) (fun k h=>by simp at h) (fun k c' h=>by simp at h);rwa[eC]at this
theorem Ev.refl {E:Env} {U:Nat->Prop} {w:World} {ch:Chs} (hi:Inv E U w.heap ch) (d:Nat):Ev E U w ch [] d E U w ch where
 os:=rfl
 tape:=rfl
 output:=rfl
 size:=zw _
 keep:=fun b hb=>⟨hb,rfl⟩
 env:=fun _ _=>rfl
 envI:=fun _ _=>rfl
 sub:=fun k c' h=>by simp at h
 rest:=fun _ _ _=>rfl
 live:=fun k c h b hb=>.inr ⟨k,c,h,hb⟩
 newU:=fun b hb=>.inl hb
 boxes:=fun k cs h=>.inr ⟨⟨cs,h⟩,rfl⟩
 inv:=hi
inductive Ext where
 | mx (max:Bool)
 | eqs (neg:Bool) (ks:List Nat)
 | isnil (neg:Bool)
 | i2f
 | f2i (k:IntKind)
 | cplx
 | re
 | im
 | cbin (op:BinOp)
 | fbin (op:BinOp)
 | b2s
 | s2b
 deriving Inhabited
inductive AOp where
 | ext (e:Ext) (aS:List Operand)
 | mv (x:Operand)
 | mvs (x:Operand)
 | pick (c a b:Operand)
 | alloc (zero:List Value)
 | box (x:Operand)
 | build (zero:List Value) (places:List (Nat×Nat×Operand))
 | mkSl (own:Bool) (ty:TypeId) (sz:Nat) (zero:List Value) (len:Nat) (parts:List (Nat×Operand))
 | load (agg:Bool) (sz:Nat) (a:Operand)
 | store (ab:Bool) (sz:Nat) (a x:Operand)
 | nilc (x:Operand)
 | bin (op:BinOp) (xT:TypeId) (x y:Operand)
 | beq (neg:Bool) (xT:TypeId) (x y:Operand)
 | un (op:UnOp) (x:Operand)
 | cvi (k:IntKind) (x:Operand)
 | cvs (x:Operand)
 | conv (src dst:TypeId) (x:Operand)
 | mkFn (f:Fn) (first caps:List Operand)
 | makeSl (ty:TypeId) (sz bytes:Nat) (zero:List Value) (l c:Operand)
 | ssl (sz:Nat) (x:Operand) (lo hi mx:Option Operand)
 | sstr (x:Operand) (lo hi:Option Operand)
 | faddr (off:Nat) (x:Operand)
 | field (agg:Bool) (sz off:Nat) (x:Operand)
 | iaddr (sz:Nat) (zero:List Value) (x i:Operand)
 | iarr (len sz:Nat) (x i:Operand)
 | istr (x i:Operand)
 | extr (x:Operand) (i:Nat)
 | call (f:Operand) (args:List Operand)
 | len (str:Bool) (x:Operand)
 | app (t:TypeId) (ty:TypeId) (sz bytes:Nat) (zero:List Value) (s x:Operand)
 | bi (b:Builtin) (argTypes:List TypeId) (type:TypeId) (args:List Operand)
 | opq (o:Op) (type:TypeId)
 deriving Inhabited
structure AO where
 dst:Option Nat
 guard:Option (Nat×Bool)
 op:AOp
 tot:Bool
 deriving Inhabited
def je (P:Program) (t:TypeId):Option Bool:=
 match P.underlying t with
 | some (.struct _) | some (.array _ _)=>some true
 | some _=>some false
 | none=>none
def gf (P:Program) (t:TypeId):Option (List Value):=(P.info? t).bind fun i=>i.zero.map fun z=>z.cells.toList
def eq (P:Program) (t:TypeId):Option Nat:=(P.info? t).map (·.size)
def mL (P:Program) (t:TypeId) (parts:List (Nat×Operand)):Option (List (Nat×Nat×Operand)):=
 match P.underlying t with
 | some (.struct fields)=>
  if fields.toList.all (fun f=>(eq P f.type).isSome)then
   parts.mapM fun (i,x)=>(fields[i]?).bind fun f=>(eq P f.type).map fun n=>(f.offset,n,x)
  else none
 | some (.array _ e)=>(eq P e).map fun n=>parts.map fun (i,x)=>(i*n,n,x)
 |_=>none
def eA (P:Program) (own:Bool) (op:Op) (type:TypeId):Option AOp:=
 match op with
 |.move x | .assign x=>some (match own with | true=>.mvs x | false=>.mv x)
 |.pick c a b=>some (.pick c a b)
 |.alloc t=>(gf P t).map .alloc
 |.box _ x=>some (.box x)
 |.build t parts=>(gf P t).bind fun z=>(mL P t parts.toList).map fun ps=>.build z ps
 |.buildSlice t len parts=>
  match P.underlying t with
  | some (.slice e)=>(gf P e).bind fun z=>(eq P e).bind fun n=>if len*n<=2 ^ 24/\z.length=n/\len<=2 ^ 24 then some (.mkSl own e n z len parts.toList)else none
  |_=>none
 |.load t a=>(je P t).bind fun b=>(eq P t).map fun n=>.load b n a
 |.store t a x=>(eq P t).map fun n=>.store own n a x
 |.nilCheck x=>some (.nilc x)
 |.binOp op t x y _=>
  match op,P.underlying t with
  |.eql,some .bool=>some (.beq false t x y)
  |.neq,some .bool=>some (.beq true t x y)
  |_,_=>some (.bin op t x y)
 |.unOp op _ x=>some (.un op x)
 |.convert src dst x=>
  match P.underlying src,P.underlying dst with
  | some (.int _),some (.int k)=>some (.cvi k x)
  | some .string,some .string=>some (.cvs x)
  |_,_=>some (.conv src dst x)
 |.makeFunc f first caps=>some (.mkFn f first.toList caps.toList)
 |.makeSlice t l c=>
  match P.underlying t with
  | some (.slice e)=>(P.info? e).bind fun i=>i.zero.bind fun z=>if z.cells.size=i.size then some (.makeSl e i.size i.bytes z.cells.toList l c)else none
  |_=>none
 |.slice t x lo hi mx=>
  match P.underlying t,mx with
  | some (.slice e),mx=>(eq P e).map fun n=>.ssl n x lo hi mx
  | some .string,none=>some (.sstr x lo hi)
  |_,_=>some (.opq (.slice t x lo hi mx) type)
 |.fieldAddr t x f=>
  match P.underlying t with
  | some (.struct fields)=>(fields[f]?).bind fun g=>(eq P g.type).bind fun n=>if n=0 then none else some (.faddr g.offset x)
  |_=>none
 |.field t x f=>
  match P.underlying t with
  | some (.struct fields)=>(fields[f]?).bind fun g=>(je P g.type).bind fun b=>(eq P g.type).map fun n=>.field b n g.offset x
  |_=>none
 |.indexAddr t x i=>
  match P.underlying t with
  | some (.slice e)=>(eq P e).bind fun n=>(gf P e).map fun z=>.iaddr n z x i
  | some (.array len e)=>(eq P e).map fun n=>.iarr len n x i
  |_=>none
 |.index t x i=>
  match P.underlying t with
  | some .string=>some (.istr x i)
  |_=>some (.opq (.index t x i) type)
 |.extract x i=>some (.extr x i)
 |.call c=>
  match c.callee with
  |.value f=>some (.call f c.args.toList)
  |.builtin .len=>
   match c.args.toList,c.argTypes.toList with
   |[x],[t]=>
    match P.underlying t with
    | some .string=>some (.len true x)
    | some (.slice _)=>some (.len false x)
    |_=>some (.bi .len [t] type [x])
   |_,_=>none
  |.builtin .append=>
   match c.args.toList,c.argTypes.toList with
   |[s,x],[t,u]=>
    match P.underlying t,P.underlying u with
    | some (.slice e),some (.slice _)=>(P.info? e).bind fun i=>i.zero.bind fun z=>if z.cells.size=i.size/\0 < i.size then some (.app t e i.size i.bytes z.cells.toList s x)else none
    |_,_=>some (.bi .append c.argTypes.toList type c.args.toList)
   |_,_=>none
  |.builtin b=>some (.bi b c.argTypes.toList type c.args.toList)
  |_=>some (.opq (.call c) type)
 | o=>some (.opq o type)
def iD (P:Program) (t:TypeId):Option Nat:=
 match P.underlying t with
 | some (.int _)=>some 0
 | some .bool=>some 1
 | some .string=>some 2
 |_=>none
def gr (P:Program):Nat->List Field->Option (List Nat)
 |_,[]=>some []
 | off,f :: fs=>if f.name ≠ "_" /\ f.offset=off then (iD P f.type).bind fun k=>(gr P (off+1) fs).map (k :: ·)else none
def tg (P:Program) (t e:TypeId) (len:Nat) (op:BinOp) (x y:Operand):Option (Ext×List Operand):=
 if !P.eqGuardType P.depth t && (len == 2 && (iD P e == some 0 && eq P e == some 1))then
  match op with
  |.eql=>some (.eqs false [0,0],[x,y])
  |.neq=>some (.eqs true [0,0],[x,y])
  |_=>none
 else none
def lT (P:Program) (op:Op):Option (Ext×List Operand):=
 match op with
 |.binOp op t x y _=>
  match P.underlying t with
  | some (.struct fields)=>
   if !P.stoodInHeld t && !P.eqGuardType P.depth t then
    match op,gr P 0 fields.toList with
    |.eql,some ks=>some (.eqs false ks,[x,y])
    |.neq,some ks=>some (.eqs true ks,[x,y])
    |_,_=>none
   else none
  | some (.array len e)=>tg P t e len op x y
  | some (.slice _)=>
   match op,y with
   |.eql,.const (.slice none 0 0)=>some (.isnil false,[x])
   |.neq,.const (.slice none 0 0)=>some (.isnil true,[x])
   |_,_=>none
  | some (.complex .f64)=>some (.cbin op,[x,y])
  | some (.float .f64)=>some (.fbin op,[x,y])
  |_=>none
 |.convert src dst x=>
  match P.underlying src,P.underlying dst with
  | some (.int _),some (.float .f64)=>some (.i2f,[x])
  | some (.float .f64),some (.int k)=>some (.f2i k,[x])
  | some (.slice e),some .string=>match P.underlying e with | some (.int .u8)=>some (.b2s,[x]) | _=>none
  | some .string,some (.slice e)=>match P.underlying e with | some (.int .u8)=>some (.s2b,[x]) | _=>none
  |_,_=>none
 |.call c=>
  match c.callee with
  |.builtin .max=>some (.mx true,c.args.toList)
  |.builtin .min=>some (.mx false,c.args.toList)
  |.builtin .complex=>some (.cplx,c.args.toList)
  |.builtin .real=>some (.re,c.args.toList)
  |.builtin .imag=>some (.im,c.args.toList)
  |_=>none
 |_=>none
def gS (P:Program) (own:Bool) (op:Op) (type:TypeId):Option AOp:=
 match lT P op with
 | some (e,aS)=>some (.ext e aS)
 | none=>eA P own op type
def lU (P:Program) (own tot:Bool) (ops:Array Oper) (o:Oper):Option AO:=
 (gS P own o.op o.type).bind fun a=>
  match o.guard with
  | none=>some ⟨o.dst,none,a,tot⟩
  | some (j,want)=>((ops[j]?).bind (·.dst)).map fun d=>⟨o.dst,some (d,want),a,tot⟩
abbrev dJ := List (Nat×C)
def lk {α:Type}:List (Nat×α)->Nat->Option α
 |[],_=>none
 | (j,x) :: t,i=>if j=i then some x else lk t i
def am {α:Type}:List (Nat×α)->Nat->α->List (Nat×α)
 |[],i,c=>[(i,c)]
 | (j,x) :: t,i,c=>if j=i then (i,c) :: t else (j,x) :: am t i c
def af {α:Type}:List (Nat×α)->Nat->List (Nat×α)
 |[],_=>[]
 | (j,x) :: t,i=>if j=i then t else (j,x) :: af t i
def gt (t:dJ) (i:Nat):C:=(lk t i).getD .any
def aj : C->List C
 |.agg cs=>cs
 | c=>[c]
def aR : C->Bool
 |.s v=>v.oneCell'
 |.sl _ _ | .ref _ | .fn _ _ _ | .own _ | .ptr _ _ | .eptr _ _ _ | .inn _ _ | .iptr _ _ _ _=>true
 |_=>false
def aL : C->Bool
 |.isl _ _ _=>false
 |_=>true
def a8 : C->Bool
 |.s v=>v.oneCell'
 |.sl _ _=>true
 |_=>false
def aH (cs:List C) (off:Nat) (xs:List C):List C:=cs.take off++xs++cs.drop (off+xs.length)
def bN (cells:List C):List (Nat×Nat×C)->Option (List C)
 |[]=>some cells
 | (off,sz,c) :: rest=>if (aj c).length=sz/\off+sz<=cells.length/\(aj c).all aR=true then bN (aH cells off (aj c)) rest else none
def bl (sz:Nat) (es:List (List C)):List (Nat×C)->Option (List (List C))
 |[]=>some es
 | (i,c) :: rest=>if (aj c).length=sz/\i < es.length/\(aj c).all a8=true then bl sz (es.set i (aj c)) rest else none
def ae (m:List (Nat×Sb)):Chs->Chs
 |[]=>[]
 | (k,.box cs) :: r=>(k,.box (cs.map (ah m))) :: ae m r
 | x :: r=>x :: ae m r
def aB {α β:Type} (t:List (Nat×α)):List (Nat×β)->List (Nat×α)
 |[]=>t
 | (k,_) :: r=>aB (af t k) r
def bz : Ch->Option C
 |.row n _ es=>some (.sl n es)
 |.deep n _ _ none rows=>some (.sl 1 (rows.map fun es=>[.sl n es]))
 |_=>none
def ay (ch:Chs):List (Nat×C)->List (Nat×C)×List (Nat×Sb)
 |[]=>([],[])
 | (i,.own k) :: r=>
  match (lk ch k).bind bz with
  | some x=>((i,x) :: (ay ch r).1,(k,.c x) :: (ay ch r).2)
  |_=>((i,.own k) :: (ay ch r).1,(ay ch r).2)
 | x :: r=>(x :: (ay ch r).1,(ay ch r).2)
def InR : IntKind->Int->Prop
 |.i8,n=>-128<=n/\n<=127
 |.i16,n=>-32768<=n/\n<=32767
 |.i32,n=>-2147483648<=n/\n<=2147483647
 |.i64,n=>-9223372036854775808<=n/\n<=9223372036854775807
 |.u8,n=>0<=n/\n<=255
 |.u16,n=>0<=n/\n<=65535
 |.u32,n=>0<=n/\n<=4294967295
 |.u64,n=>0<=n/\n<=18446744073709551615
def li (op:BinOp) (k:IntKind) (a b:Int):Int:=
 match op with
 |.and=>k.wrap ((BitVec.ofInt k.bits a &&& BitVec.ofInt k.bits b).toNat)
 |.or=>k.wrap ((BitVec.ofInt k.bits a ||| BitVec.ofInt k.bits b).toNat)
 |.xor=>k.wrap ((BitVec.ofInt k.bits a ^^^ BitVec.ofInt k.bits b).toNat)
 |_=>k.wrap ((BitVec.ofInt k.bits a &&& ~~~BitVec.ofInt k.bits b).toNat)
def bg (op:BinOp) (k:IntKind) (a b:Int):Option (Prop×C):=
 match op with
 |.add=>some (InR k (a+b),.s (.int k (a+b)))
 |.sub=>some (InR k (a - b),.s (.int k (a - b)))
 |.mul=>some (InR k (a*b),.s (.int k (a*b)))
 |.quo=>some (b≠0/\InR k (a.tdiv b),.s (.int k (a.tdiv b)))
 |.rem=>some (b≠0,.s (.int k (a.tmod b)))
 |.and=>some (True,.s (.int k (li .and k a b)))
 |.or=>some (True,.s (.int k (li .or k a b)))
 |.xor=>some (True,.s (.int k (li .xor k a b)))
 |.andNot=>some (True,.s (.int k (li .andNot k a b)))
 |.eql=>some (True,.s (.bool (decide (a=b))))
 |.neq=>some (True,.s (.bool (!decide (a=b))))
 |.lss=>some (True,.s (.bool (decide (a < b))))
 |.leq=>some (True,.s (.bool (decide (a<=b))))
 |.gtr=>some (True,.s (.bool (decide (b < a))))
 |.geq=>some (True,.s (.bool (decide (b<=a))))
 |_=>none
def cD (op:BinOp) (a b:ByteArray):Option (Prop×C):=
 match op with
 |.add=>some (((a.size+b.size:Nat):Int)<=9223372036854775807,.s (.string (a++b)))
 |.eql=>some (True,.s (.bool (decide (a=b))))
 |.neq=>some (True,.s (.bool (!decide (a=b))))
 |_=>none
def cj (op:BinOp) (x y:C):Option (Prop×C):=
 match op,x,y with
 |.shl,.s (.int k a),.s (.int _ b)=>some (0<=b/\InR k (a*2 ^ min b.toNat k.bits),.s (.int k (a*2 ^ min b.toNat k.bits)))
 |.shr,.s (.int k a),.s (.int _ b)=>some (0<=b,.s (.int k (a.fdiv (2 ^ min b.toNat k.bits))))
 | op,.s (.int k a),.s (.int k' b)=>if k=k' then bg op k a b else none
 | op,.s (.string a),.s (.string b)=>cD op a b
 |_,_,_=>none
def cN : C->Nat->Bool
 |.own k',k=>decide (k'=k)
 |_,_=>false
structure Eff where
 cond:Prop
 v:C
 ch:Chs
 sub:List (Nat×Sb)
def cC : C->Option Int
 |.s (.int _ n)=>some n
 |_=>none
def aZ (ρ:Operand->C) (o:Option Operand) (dflt:Int):Option Int:=
 match o with
 | none=>some dflt
 | some x=>cC (ρ x)
def au (agg:Bool) (sz:Nat) (cs:List C) (off:Nat):C:=
 if agg then .agg ((cs.drop off).take sz)else (cs.drop off).headD .any
def cZ (k:Nat) (agg:Bool) (sz:Nat) (cs:List C) (off:Nat):C:=
 match au agg sz cs off with
 |.isl _ _ _=>.inn k off
 | c=>c
def zC : Value->C
 |.slice none 0 0=>.sl 0 []
 | v=>.s v
def aN (ch:Chs) (k i:Nat):Option (Prop×Nat×TypeId×List (List C)):=
 match lk ch k with
 | some (.box cs)=>
  match cs[i]? with
  | some (.isl n t es)=>some (True,n,t,es)
  |_=>none
 | some (.deep n t _ hole rows)=>some (i < rows.length/\hole≠some i,n,t,rows.getD i [])
 |_=>none
def setInn (ch:Chs) (k i:Nat) (es:List (List C)):Chs:=
 match lk ch k with
 | some (.box cs)=>
  match cs[i]? with
  | some (.isl n t _)=>am ch k (.box (cs.set i (.isl n t es)))
  |_=>ch
 | some (.deep n t ty hole rows)=>am ch k (.deep n t ty hole (rows.set i es))
 |_=>ch
def aM (ch:Chs) (k i:Nat):Option Chs:=
 match lk ch k with
 | some (.box cs)=>
  match cs[i]? with
  | some (.isl _ _ _)=>some (am ch k (.box (cs.set i .any)))
  |_=>none
 | some (.deep n t ty none rows)=>some (am ch k (.deep n t ty (some i) rows))
 |_=>none
def aV (ch:Chs) (sz:Nat):C->Option (List (List C))
 |.sl n es=>if n=sz then some es else none
 |.s (.slice none 0 0)=>some []
 |.own k=>
  match lk ch k with
  | some (.row n _ es)=>if n=sz then some es else none
  |_=>none
 |_=>none
def cb (ch:Chs) (str:Bool):C->Option Nat
 |.s (.string s)=>if str then some s.size else none
 |.sl _ es=>if str then none else some es.length
 |.s (.slice none 0 0)=>if str then none else some 0
 |.own k=>if str then none else
  match lk ch k with
  | some (.row _ _ es)=>some es.length
  | some (.deep _ _ _ _ rows)=>some rows.length
  |_=>none
 |_=>none
def aQ : List Nat->List C->List C->Option Bool
 |[],[],[]=>some true
 | 0 :: ks,.s (.int k a) :: cs,.s (.int k' b) :: ds=>if k=k' then (aQ ks cs ds).map (decide (a=b) && ·)else none
 | 1 :: ks,.s (.bool a) :: cs,.s (.bool b) :: ds=>(aQ ks cs ds).map (decide (a=b) && ·)
 | 2 :: ks,.s (.string a) :: cs,.s (.string b) :: ds=>(aQ ks cs ds).map (decide (a=b) && ·)
 |_,_,_=>none
def dz (max:Bool) (a b:Int):Int:=if max then (if b > a then b else a)else (if b < a then b else a)
def cI (max:Bool) (k:IntKind) (a:Int):List C->Option Int
 |[]=>some a
 |.s (.int k' b) :: l=>if k=k' then cI max k (dz max a b) l else none
 |_=>none
def fy (op:BinOp) (a b:Nat):Option Nat:=
 match op with
 |.add=>FloatKind.f64.format.add a b
 |.sub=>FloatKind.f64.format.sub a b
 |.mul=>FloatKind.f64.format.mul a b
 |.quo=>FloatKind.f64.format.div a b
 |_=>none
def bJ (op:BinOp) (a b c d:Nat):Option (Nat×Nat):=
 match op with
 |.add=>(fy .add a c).bind fun x=>(fy .add b d).map fun y=>(x,y)
 |.sub=>(fy .sub a c).bind fun x=>(fy .sub b d).map fun y=>(x,y)
 |.mul=>(fy .mul a c).bind fun ac=>(fy .mul b d).bind fun bd=>(fy .mul a d).bind fun ad=>(fy .mul b c).bind fun bc=>
  (fy .sub ac bd).bind fun x=>(fy .add ad bc).map fun y=>(x,y)
 |_=>none
def mX : List (List C)->Option (List Int)
 |[]=>some []
 |[.s (.int .u8 n)] :: es=>(mX es).map (n :: ·)
 |_=>none
def iT (s:ByteArray):List (List C):=s.data.toList.map fun b=>[.s (.int .u8 (b.toNat:Int))]
def aA (ch:Chs) (e:Ext) (cs:List C):Option (Prop×C):=
 match e with
 |.mx m=>match cs with | .s (.int k a) :: l=>(cI m k a l).map fun r=>(True,.s (.int k r)) | _=>none
 |.eqs neg ks=>match cs with | [.agg cs,.agg ds]=>(aQ ks cs ds).map fun b=>(True,.s (.bool (if neg then !b else b))) | _=>none
 |.isnil neg=>
  match cs with
  |[.s (.slice none 0 0)]=>some (True,.s (.bool (!neg)))
  |[.sl _ (_ :: _)]=>some (True,.s (.bool neg))
  |[.own k]=>match lk ch k with | some (.row _ _ (_ :: _))=>some (True,.s (.bool neg)) | _=>none
  |_=>none
 |.i2f=>match cs with | [.s (.int _ n)]=>some (True,.s (.float .f64 (FloatKind.f64.nearest n))) | _=>none
 |.f2i k=>match cs with | [.s (.float .f64 b)]=>((FloatKind.f64.decode b).toInt .zero).map fun n=>(k.min<=n/\n<=k.max,.s (.int k n)) | _=>none
 |.cplx=>match cs with | [.s (.float .f64 a),.s (.float .f64 b)]=>some (True,.s (.complex .f64 a b)) | _=>none
 |.re=>match cs with | [.s (.complex .f64 a _)]=>some (True,.s (.float .f64 a)) | _=>none
 |.im=>match cs with | [.s (.complex .f64 _ b)]=>some (True,.s (.float .f64 b)) | _=>none
 |.cbin op=>match cs with | [.s (.complex .f64 a b),.s (.complex .f64 c d)]=>(bJ op a b c d).map fun (x,y)=>(True,.s (.complex .f64 x y)) | _=>none
 |.fbin op=>match cs with | [.s (.float .f64 a),.s (.float .f64 b)]=>(fy op a b).map fun x=>(True,.s (.float .f64 x)) | _=>none
 |.b2s=>match cs with | [.sl 1 (e :: es)]=>(mX (e :: es)).map fun xs=>(True,.s (.string (strOfNums xs))) | _=>none
 |.s2b=>match cs with | [.s (.string s)]=>some (s.size<=9223372036854775807,.sl 1 (iT s)) | _=>none
def ai (ρ:Operand->C) (ch:Chs) (d:Nat) (o:AOp):Option Eff:=
 match o with
 |.ext e aS=>(aA ch e (aS.map ρ)).map fun (p,v)=>⟨p,v,ch,[]⟩
 |.mv x=>some ⟨True,ρ x,ch,[]⟩
 |.mvs x=>match ρ x with | .s v=>some ⟨True,.s v,ch,[]⟩ | _=>none
 |.pick c a b=>
  match ρ c with
  |.s (.bool true)=>some ⟨True,ρ a,ch,[]⟩
  |.s (.bool false)=>some ⟨True,ρ b,ch,[]⟩
  |_=>none
 |.alloc z=>some ⟨z.all (·.oneCell')=true,.ptr d 0,(d,.box (z.map .s)) :: ae [(d,.c .any)] (af ch d),[(d,.c .any)]⟩
 |.box x=>some ⟨(aj (ρ x)).all aR=true,.ptr d 0,(d,.box ((aj (ρ x)).map (ah [(d,.c .any)]))) :: ae [(d,.c .any)] (af ch d),[(d,.c .any)]⟩
 |.build z ps=>(bN (z.map .s) (ps.map fun (a,b,x)=>(a,b,ρ x))).map fun cs=>⟨z.all (·.oneCell')=true,.agg cs,ch,[]⟩
 |.mkSl own ty sz z len parts=>
  if own then
   if parts.isEmpty then some ⟨z.all (·.oneCell')=true,.own d,(d,.row sz ty (List.replicate len (z.map .s))) :: ae [(d,.c .any)] (af ch d),[(d,.c .any)]⟩else
   match (parts.map fun (i,x)=>(i,ρ x):List (Nat×C))with
   |[(0,.own k)]=>
    match lk ch k with
    | some (.row n t es)=>some ⟨len=1/\sz=1/\k≠d/\z.all (·.oneCell')=true,.own d,(d,.deep n t ty none [es]) :: ae [(d,.c .any),(k,.c .any)] (af (af ch k) d),[(d,.c .any),(k,.c .any)]⟩
    |_=>none
   | qs=>(bl sz (List.replicate len (z.map .s)) qs).map fun es=>⟨z.all (·.oneCell')=true/\es.length=len,.own d,(d,.row sz ty es) :: ae [(d,.c .any)] (af ch d),[(d,.c .any)]⟩
  else
   let q:=ay ch (parts.map fun (i,x)=>(i,ρ x))
   (bl sz (List.replicate len (z.map .s)) q.1).map fun es=>⟨z.all (·.oneCell')=true,.sl sz es,if q.2.isEmpty then ch else ae q.2 (aB ch q.2),q.2⟩
 |.load agg sz a=>
  match ρ a with
  |.ptr k off=>
   match lk ch k with
   | some (.box cs)=>some ⟨off+sz<=cs.length/\(agg=false->sz=1)/\(agg=true->((cs.drop off).take sz).all aL=true),cZ k agg sz cs off,ch,[]⟩
   |_=>none
  |.ref cs=>some ⟨sz<=cs.length/\(agg=false->sz=1),au agg sz cs 0,ch,[]⟩
  |.eptr k i j=>
   match lk ch k with
   | some (.row n _ es)=>some ⟨i < es.length/\j+sz<=n/\(agg=false->sz=1),au agg sz (es.getD i []) j,ch,[]⟩
   | some (.deep _ _ _ hole rows)=>some ⟨i < rows.length/\hole≠some i/\j=0/\sz=1/\agg=false,.inn k i,ch,[]⟩
   |_=>none
  |.iptr k i m j=>
   match aN ch k i with
   | some (p,n,_,es)=>some ⟨p/\m < es.length/\j+sz<=n/\(agg=false->sz=1),au agg sz (es.getD m []) j,ch,[]⟩
   |_=>none
  |_=>none
 |.store ab sz a x=>
  match ab with
  | true=>
   match ρ a,ρ x with
   |.ptr k off,.own t=>
    match lk ch t,lk ch k with
    | some (.row n ty es),some (.box cs)=>some ⟨sz=1/\off < cs.length/\k≠t,.s undef,ae [(t,.c .any),(k,.inner)] (af (am ch k (.box (cs.set off (.isl n ty es)))) t),[(t,.c .any),(k,.inner)]⟩
    | some (.deep _ _ _ _ _),some (.box cs)=>some ⟨sz=1/\off+sz<=cs.length/\((cs.drop off).take sz).all aL=true,.s undef,am ch k (.box (aH cs off [.own t])),[]⟩
    |_,_=>none
   |.eptr k i j,.own t=>
    match lk ch t,lk ch k with
    | some (.row n ty es),some (.deep n' ty' ty0 hole rows)=>some ⟨sz=1/\j=0/\i < rows.length/\(hole=none\/hole=some i)/\n=n'/\ty=ty'/\k≠t,.s undef,
     ae [(t,.c .any),(k,.inner)] (af (am ch k (.deep n' ty' ty0 none (rows.set i es))) t),[(t,.c .any),(k,.inner)]⟩
    |_,_=>none
   |_,_=>none
  | false=>
   match ρ a with
   |.ptr k off=>
    match lk ch k with
    | some (.box cs)=>some ⟨(aj (ρ x)).length=sz/\off+sz<=cs.length/\(aj (ρ x)).all aR=true/\((cs.drop off).take sz).all aL=true,.s undef,am ch k (.box (aH cs off (aj (ρ x)))),[]⟩
    |_=>none
   |.eptr k i j=>
    match lk ch k with
    | some (.row n ty es)=>some ⟨(aj (ρ x)).length=sz/\i < es.length/\j+sz<=n/\(aj (ρ x)).all a8=true,.s undef,
     am ch k (.row n ty (es.set i (aH (es.getD i []) j (aj (ρ x))))),[]⟩
    | some (.deep n' ty' ty0 hole rows)=>
     match ρ x with
     |.own t=>
      match lk ch t with
      | some (.row n ty es)=>some ⟨sz=1/\j=0/\i < rows.length/\(hole=none\/hole=some i)/\n=n'/\ty=ty'/\k≠t,.s undef,
       ae [(t,.c .any),(k,.inner)] (af (am ch k (.deep n' ty' ty0 none (rows.set i es))) t),[(t,.c .any),(k,.inner)]⟩
      |_=>none
     |_=>none
    |_=>none
   |.iptr k i m j=>
    match aN ch k i with
    | some (p,n,_,es)=>some ⟨p/\(aj (ρ x)).length=sz/\m < es.length/\j+sz<=n/\(aj (ρ x)).all a8=true,.s undef,setInn ch k i (es.set m (aH (es.getD m []) j (aj (ρ x)))),[]⟩
    |_=>none
   |_=>none
 |.nilc x=>
  match ρ x with
  |.ptr k off=>some ⟨True,.ptr k off,ch,[]⟩
  |.eptr k i j=>some ⟨True,.eptr k i j,ch,[]⟩
  |.iptr k i m j=>some ⟨True,.iptr k i m j,ch,[]⟩
  |.ref cs=>some ⟨True,.ref cs,ch,[]⟩
  |.s (.pointer (some a))=>some ⟨True,.s (.pointer (some a)),ch,[]⟩
  |.fn (.func f) xs ys=>some ⟨True,.fn (.func f) xs ys,ch,[]⟩
  |_=>none
 |.bin op _ x y=>(cj op (ρ x) (ρ y)).map fun (p,v)=>⟨p,v,ch,[]⟩
 |.beq neg _ x y=>
  match ρ x,ρ y with
  |.s (.bool a),.s (.bool b)=>some ⟨True,.s (.bool (if neg then !(decide (a=b))else decide (a=b))),ch,[]⟩
  |_,_=>none
 |.un op x=>
  match op,ρ x with
  |.neg,.s (.int k n)=>some ⟨InR k (-n),.s (.int k (-n)),ch,[]⟩
  |.not,.s (.bool b)=>some ⟨True,.s (.bool (!b)),ch,[]⟩
  |_,_=>none
 |.cvi k x=>
  match ρ x with
  |.s (.int _ n)=>some ⟨InR k n,.s (.int k n),ch,[]⟩
  |_=>none
 |.cvs x=>
  match ρ x with
  |.s (.string s)=>some ⟨True,.s (.string s),ch,[]⟩
  |_=>none
 |.mkFn f first caps=>some ⟨True,.fn f (first.map ρ) (caps.map ρ),ch,[]⟩
 |.makeSl ty sz bytes z l c=>
  match ρ l,ρ c with
  |.s (.int _ n),.s (.int _ m)=>some ⟨0<=n/\n=m/\n*bytes<=140737488355328/\n<=9223372036854775807/\z.all (·.oneCell')=true,.own d,(d,.row sz ty (List.replicate n.toNat (z.map .s))) :: ae [(d,.c .any)] (af ch d),[(d,.c .any)]⟩
  |_,_=>none
 |.ssl sz x lo hi mx=>
  match ρ x with
  |.sl n es=>
   if n=sz then
    match aZ ρ lo 0,aZ ρ hi es.length,aZ ρ mx es.length with
    | some l,some h,some m=>some ⟨0<=l/\l<=h/\h<=es.length/\(mx.isSome=true->hi.isSome=true/\h<=m/\m<=es.length),.sl sz ((es.take h.toNat).drop l.toNat),ch,[]⟩
    |_,_,_=>none
   else none
  |.own k=>
   match lk ch k,mx with
   | some (.row n ty es),none=>
    if n=sz then
     match aZ ρ lo 0,aZ ρ hi es.length with
     | some l,some h=>some ⟨0<=l/\l<=h/\h<=es.length,.own k,am (ae [(k,.c .any)] ch) k (.row n ty ((es.take h.toNat).drop l.toNat)),[(k,.c .any)]⟩
     |_,_=>none
    else none
   |_,_=>none
  |.s (.slice none 0 0)=>
   match aZ ρ lo 0,aZ ρ hi 0,mx with
   | some l,some h,none=>some ⟨0<=l/\l<=h/\h<=0,.s (.slice none 0 0),ch,[]⟩
   |_,_,_=>none
  |_=>none
 |.sstr x lo hi=>
  match ρ x with
  |.s (.string s)=>
   match aZ ρ lo 0,aZ ρ hi s.size with
   | some l,some h=>some ⟨0<=l/\l<=h/\h<=s.size,.s (.string (s.extract l.toNat h.toNat)),ch,[]⟩
   |_,_=>none
  |_=>none
 |.faddr off x=>
  match ρ x with
  |.ptr k o=>some ⟨True,.ptr k (o+off),ch,[]⟩
  |.eptr k i j=>some ⟨True,.eptr k i (j+off),ch,[]⟩
  |.iptr k i m j=>some ⟨True,.iptr k i m (j+off),ch,[]⟩
  |.ref cs=>some ⟨True,.ref (cs.drop off),ch,[]⟩
  |_=>none
 |.field agg sz off x=>
  match ρ x with
  |.agg cs=>some ⟨off+sz<=cs.length/\(agg=false->sz=1),au agg sz cs off,ch,[]⟩
  |_=>none
 |.iaddr sz z x i=>
  match ρ x,cC (ρ i)with
  |.sl m es,some n=>if m=sz then some ⟨0<=n/\n < es.length,.ref (es.getD n.toNat (z.map zC)),ch,[]⟩else none
  |.own k,some n=>
   match lk ch k with
   | some (.row m _ es)=>if m=sz then some ⟨0<=n/\n < es.length,.eptr k n.toNat 0,ch,[]⟩else none
   | some (.deep _ _ _ _ rows)=>if sz=1 then some ⟨0<=n/\n < rows.length,.eptr k n.toNat 0,ch,[]⟩else none
   |_=>none
  |.inn k j,some n=>
   match aN ch k j with
   | some (p,m,_,es)=>if m=sz then some ⟨p/\0<=n/\n < es.length,.iptr k j n.toNat 0,ch,[]⟩else none
   |_=>none
  |_,_=>none
 |.iarr len sz x i=>
  match ρ x,cC (ρ i)with
  |.ptr k off,some n=>some ⟨0<=n/\n < len,.ptr k (off+n.toNat*sz),ch,[]⟩
  |.ref cs,some n=>some ⟨0<=n/\n < len,.ref (cs.drop (n.toNat*sz)),ch,[]⟩
  |_,_=>none
 |.istr x i=>
  match ρ x,cC (ρ i)with
  |.s (.string s),some n=>some ⟨0<=n/\n < s.size,.s (.int .u8 (s.data.toList.getD n.toNat 0).toNat),ch,[]⟩
  |_,_=>none
 |.extr x i=>
  match ρ x with
  |.tup cs=>some ⟨i < cs.length,cs.getD i .any,ch,[]⟩
  |_=>none
 |.len str x=>
  match ρ x,str with
  |.inn k i,false=>
   match aN ch k i with
   | some (p,_,_,es)=>some ⟨p,.s (.int .i64 (es.length:Int)),ch,[]⟩
   |_=>none
  | c,str=>(cb ch str c).map fun (n:Nat)=>⟨True,.s (.int .i64 (n:Int)),ch,[]⟩
 |.app _ ty sz bytes _ s x=>
  match aV ch sz (ρ x)with
  | none=>
   match ρ s,ρ x with
   |.own k,.own t=>
    match lk ch k,lk ch t with
    | some (.deep n t0 ty0 none rows),some (.deep n' t0' _ none news)=>
     some ⟨n'=n/\t0'=t0/\ty0=ty/\sz=1/\k≠t/\(rows.length+news.length)*bytes<=140737488355328/\rows.length+news.length<=9223372036854775807,.own k,
      am (ae [(k,.c .any),(t,.c .any)] (af ch t)) k (.deep n t0 ty0 none (rows++news)),[(k,.c .any),(t,.c .any)]⟩
    |_,_=>none
   |_,_=>none
  | some news=>
   match ρ s with
   |.own k=>
    match lk ch k with
    | some (.row n ty' es)=>
     if n=sz/\ty'=ty/\cN (ρ x) k=false then
     some ⟨(es.length+news.length)*bytes<=140737488355328/\es.length+news.length<=9223372036854775807,
      .own k,am (ae [(k,.c .any)] ch) k (.row sz ty (es++news)),[(k,.c .any)]⟩else none
    |_=>none
   |.inn k i=>
    match aN ch k i,aM ch k i with
    | some (p,n,ty',es),some ch'=>
     some ⟨p/\n=sz/\ty'=ty/\k≠d/\(es.length+news.length)*bytes<=140737488355328/\es.length+news.length<=9223372036854775807,
      .own d,(d,.row sz ty (es++news)) :: ae [(d,.c .any),(k,.inner)] (af ch' d),[(d,.c .any),(k,.inner)]⟩
    |_,_=>none
   |.s (.slice none 0 0)=>
    some ⟨news.length*bytes<=140737488355328/\news.length<=9223372036854775807,.own d,(d,.row sz ty news) :: ae [(d,.c .any)] (af ch d),[(d,.c .any)]⟩
   |_=>none
 |_=>none
inductive AC where
 | skip
 | ret
 | seq (a b:AC)
 | region (draw:Bool) (ops:List AO)
 | cond (c:Operand) (a b:AC)
 | block (id:Nat) (a:AC)
 | loop (a:AC)
 | exit (id:Nat)
 | keep (live:List Nat) (a:AC)
 | cut (a:AC)
 | nilrow (i sz:Nat) (ty:TypeId) (a:AC)
 | deepen (i isz:Nat) (ity:TypeId) (a:AC)
 | rangeFunc (g:Operand) (params:List Nat) (assign body:AC)
 | fz (l:List Nat) (a:AC)
 | draw (e:Nat) (rb:List Nat) (ops:List AO)
 deriving Inhabited
structure ASt where
 t:dJ
 ch:Chs
 deriving Inhabited
end Go.Am
end
section
namespace Go.Am
section lists
variable {α β : Type}
theorem dH : ∀ {t:List (Nat×α)} {k:Nat} {c:α},lk t k=some c->(k,c)∈t
 |[],_,_,h=>by simp[lk]at h
 | (j,x) :: t,k,c,h=>by
  simp only[lk]at h;split at h
  . rename_i e;subst e;cases h;exact zq
  . exact zo _ (dH h)
theorem eH : ∀ {t:List (Nat×α)} {d k:Nat} {c:α},(k,c)∈af t d->(k,c)∈t
 |[],_,_,_,h=>by simp[af]at h
 | (j,x) :: t,d,k,c,h=>by
  simp only[af]at h;split at h
  . exact zo _ h
  . rcases zl.1 h with h | h
    . rw[h];exact zq
    . exact zo _ (eH h)
theorem eu : ∀ (t:List (Nat×α)) (d:Nat),(af t d).Sublist t
 |[],_=>by simp[af]
 | (j,x) :: t,d=>by
  simp only[af];split
  . exact List.sublist_cons_self _ _
  . exact (eu t d).cons_cons _
theorem fq {t:List (Nat×α)} {d:Nat} (h:(t.map (·.1)).Nodup):((af t d).map (·.1)).Nodup:=h.sublist ((eu t d).map _)
theorem dZ : ∀ {t:List (Nat×α)} {d:Nat} {c:α},(t.map (·.1)).Nodup->(d,c)∉af t d
 |[],_,_,_=>by simp[af]
 | (j,x) :: t,d,c,h=>by
  simp only[zt,zI]at h;simp only[af];split
  . rename_i e;subst e;exact fun hm=>h.1 (zu.2 ⟨_,hm,rfl⟩)
  . rename_i e;intro hm;rcases zl.1 hm with hm | hm
    . cases hm;exact e rfl
    . exact dZ h.2 hm
theorem jr : ∀ (m:List (Nat×β)) (t:List (Nat×α)),(aB t m).Sublist t
 |[],t=>by simp[aB]
 | (k,_) :: r,t=>by simp only[aB];exact (jr r _).trans (eu t k)
theorem kR : ∀ {m:List (Nat×β)} {t:List (Nat×α)} {k:Nat} {c:α},(t.map (·.1)).Nodup->(k,c)∈aB t m->(k,c)∈t/\m.lookup k=none
 |[],t,k,c,_,h=>by simpa[aB]using h
 | (j,y) :: r,t,k,c,hn,h=>by
  simp only[aB]at h;obtain⟨h1,h2⟩:=kR (fq hn) h;have hne:k≠j:=fun e=>dZ hn (e ▸ h1)
  have hb:(k == j)=false:=by simp[hne]
  exact⟨eH h1,by simp[z0,hb,h2]⟩
theorem fb : ∀ {t:List (Nat×α)} {k:Nat} {c c0:α},lk t k=some c0->(am t k c).map (·.1)=t.map (·.1)
 |[],_,_,_,h=>by simp[lk]at h
 | (j,x) :: t,k,c,c0,h=>by
  simp only[lk]at h;simp only[am];split
  . rename_i e;subst e;rfl
  . rename_i e;rw[qa e]at h;simp only[zt,fb h]
theorem lZ (t:List (Nat×α)) (i:Nat) (c:α) (j:Nat):lk (am t i c) j=if i=j then some c else lk t j:=by
 induction t with
 | nil=>simp[am,lk]
 | cons x t ih=>
  obtain⟨k,y⟩:=x;simp only[am];by_cases hk:k=i
  . subst hk;simp only[qj,lk];by_cases hj:k=j <;> simp[hj]
  . rw[qa hk];simp only[lk];by_cases hj:k=j
    . subst hj;rw[qb rfl,qa (fun e=>hk e.symm),qb rfl]
    . simp[hj,ih]
theorem eR : ∀ {t:List (Nat×α)} {k:Nat} {c:α},(t.map (·.1)).Nodup->(k,c)∈t->lk t k=some c
 |[],_,_,_,h=>by simp at h
 | (j,x) :: t,k,c,hn,h=>by
  simp only[zt,zI]at hn;simp only[lk];rcases zl.1 h with h | h
  . cases h;simp
  . have:j≠k:=fun e=>hn.1 (e ▸ zu.2 ⟨_,h,rfl⟩)
    rw[qa this];exact eR hn.2 h
theorem fk : ∀ {t:List (Nat×α)} {k:Nat} {c:α} {p:Nat×α},(t.map (·.1)).Nodup->p∈am t k c->p=(k,c)\/(p∈af t k)
 |[],k,c,p,_,h=>by simp[am]at h;exact .inl h
 | (j,x) :: t,k,c,p,hn,h=>by
  simp only[zt,zI]at hn;simp only[am]at h;simp only[af];split at h
  . rename_i hj;rw[qb hj];rcases zl.1 h with h | h
    . exact .inl h
    . exact .inr h
  . rename_i hj;rw[qa hj];rcases zl.1 h with h | h
    . exact .inr (by rw[h];exact zq)
    . rcases fk hn.2 h with h | h
      . exact .inl h
      . exact .inr (zo _ h)
end lists
end Go.Am
end
section
namespace Go.Am
def ec (m:List (Nat×Sb)):Ch->Ch
 |.box cs=>.box (cs.map (ah m))
 | x=>x
theorem fS (m:List (Nat×Sb)):∀ ch:Chs,ae m ch=ch.map fun p=>(p.1,ec m p.2)
 |[]=>rfl
 | (k,.box cs) :: r=>by simp[ae,ec,fS m r]
 | (k,.row sz ty es) :: r=>by simp[ae,ec,fS m r]
 | (k,.deep _ _ _ _ _) :: r=>by simp[ae,ec,fS m r]
 | (k,.res _) :: r=>by simp[ae,ec,fS m r]
theorem ik {m:List (Nat×Sb)} {ch:Chs} {k:Nat} {c:Ch} (h:(k,c)∈ae m ch):∃ c0,(k,c0)∈ch/\c=ec m c0:=by
 rw[fS]at h;obtain⟨⟨k0,c0⟩,h1,h2⟩:=zu.1 h;cases h2;exact⟨c0,h1,rfl⟩
theorem jk {m:List (Nat×Sb)} {ch:Chs} {k:Nat} {c:Ch} (h:(k,c)∈ch):(k,ec m c)∈ae m ch:=by
 rw[fS];exact zu.2 ⟨_,h,rfl⟩
theorem fj (m:List (Nat×Sb)) (ch:Chs):(ae m ch).map (·.1)=ch.map (·.1):=by
 rw[fS,zT];rfl
theorem ub (f:Ch->Ch):∀ (ch:Chs) (k:Nat),lk (ch.map fun p=>(p.1,f p.2)) k=(lk ch k).map f
 |[],k=>rfl
 | (j,c) :: r,k=>by simp only[zt,lk];split <;> simp[ub f r]
theorem rj (m:List (Nat×Sb)) (ch:Chs) (k:Nat):lk (ae m ch) k=(lk ch k).map (ec m):=by
 rw[fS,ub]
theorem n8 (c:Ch):ec [] c=c:=by
 cases c with
 | box cs=>simp only[ec];congr 1;exact (zH (fun x _=>eC x)).trans (List.map_id _)
 |_=>rfl
theorem j3 (ch:Chs):ae [] ch=ch:=by
 rw[fS];have:∀ p∈ch,(fun (p:Nat×Ch)=>(p.1,ec [] p.2)) p=p:=fun p _=>by simp only[n8]
 exact (zH this).trans (List.map_id _)
theorem gW {E:Env} {U:Nat->Prop} {h:Array Obj} {n:Nat} {t:TypeId} {es:List (List C)} {v:Value}:¬ Rep E U h (.isl n t es) v:=by
 intro hr;cases hr with | d hd=>cases hd
def iR (m:List (Nat×Sb)):Prop:=∀ k x,m.lookup k=some (.c x)->aL x=true
theorem wc {m:List (Nat×Sb)} (hm:iR m) {c:C} {n:Nat} {t:TypeId} {es:List (List C)}:ah m c=.isl n t es↔c=.isl n t es:=by
 constructor
 . intro h;cases c <;> simp only[ah]at h <;> try (first | exact h | cases h)
   . rename_i k;cases hk:m.lookup k with
     | none=>rw[hk]at h;cases h
     | some s=>
      rw[hk]at h;cases s with
      | c x=>simp only at h;have:=hm k x hk;rw[h]at this;cases this
      | inner=>cases h
   all_goals (split at h <;> cases h)
 . rintro rfl;rfl
theorem kD {m:List (Nat×Sb)} (hm:iR m) (cs:List C):eK (cs.map (ah m))=eK cs:=by
 funext j
 simp only[eK,zh];cases hc:cs[j]? with
 | none=>rfl
 | some c=>
  simp only[zU];by_cases h:∃ n t es,c=.isl n t es
  . obtain⟨n,t,es,rfl⟩:=h;rfl
  . have h1:∀ n t es,c≠.isl n t es:=fun n t es e=>h ⟨n,t,es,e⟩
    have h2:∀ n t es,ah m c≠.isl n t es:=fun n t es e=>h1 n t es ((wc hm).1 e)
    have r1:∀ x:C,(∀ n t es,x≠.isl n t es)->jW (some x)=none:=fun x hx=>by
     cases x <;> first | rfl | exact absurd rfl (hx _ _ _)
    exact (r1 _ h2).trans (r1 _ h1).symm
theorem dM.go {E E':Env} {U U':Nat->Prop} {h h':Array Obj} {m:List (Nat×Sb)} {k:Nat} {c:Ch} (hc:dM E U h k c) (hk:∀ b,U b->U' b/\h'[b]? = h[b]?)
 (hE:∀ k,m.lookup k=none->E' k=E k) (hI:∀ k,m.lookup k=some .inner->(E' k).toKE0=(E k).toKE0) (hs:∀ k c',m.lookup k=some (.c c')->∀ v,Rep E U h (.own k) v->Rep E' U' h' c' v)
 (hkk:E' k=E k) (hb:∀ b,(E k).fp b->h'[b]? = h[b]?):dM E' U' h' k (ec m c):=by
 have hm:iR m:=fun k x hx=>by
  have:=hs k x hx _ (.own k);cases x <;> first | rfl | exact absurd this gW
 have inns:∀ I,FpOk (E k) I->jB U h (E k) I->jB U' h' (E' k) I:=fun I hf hin i n t es hi=>by
  rw[hkk];exact (hin i n t es hi).mono hk (fun hn=>hb _ ((hf.fp _).2 (.inr ⟨i,_,hi,hn,rfl⟩)))
 cases c with
 | box cs=>
  obtain⟨⟨hn,arr,ty,h1,h2,h3⟩,hf,hin⟩:=hc;simp only[ec,dM,kD hm];refine⟨⟨by rw[hkk];exact hn,arr,ty,by rw[hkk];exact (hb _ ((hf.fp _).2 (.inl ⟨hn,rfl⟩))).trans h1,by simpa using h2,fun j c hj=>?_⟩,by rw[hkk];exact hf,inns _ hf hin⟩;simp only[zh,za]at hj;obtain⟨c0,h0,rfl⟩:=hj;rcases h3 j c0 h0 with⟨r1,r2⟩ | ⟨⟨n,t,es,rfl⟩,r2⟩
  . exact .inl ⟨r1.mono hk hE hI hs,r2⟩
  . exact .inr ⟨⟨n,t,es,rfl⟩,by rw[hkk];exact r2⟩
 | row sz ty es=>
  obtain⟨h1,hf⟩:=hc;simp only[ec,dM];rw[hkk];exact⟨h1.mono hk (fun hn=>hb _ ((hf.fp _).2 (.inl ⟨hn,rfl⟩))),hf⟩
 | deep isz ity ty hole rows=>
  obtain⟨⟨h1,h2,h3⟩,hf,hin⟩:=hc;simp only[ec,dM];have hin':=inns _ hf hin;rw[hkk]at hin' ⊢;refine⟨⟨h1,h2,?_⟩,hf,hin'⟩;rcases h3 with h3 | ⟨h3,h4,h5,arr,h6,h7⟩
  . exact .inl h3
  . exact .inr ⟨h3,h4,h5,arr,(hb _ ((hf.fp _).2 (.inl ⟨h3,rfl⟩))).trans h6,h7⟩
 | res R=>
  simp only[ec,dM];rw[hkk];exact R.mono _ _ _ _ _ hc hk hb
theorem dM.same {E:Env} {U U':Nat->Prop} {h h':Array Obj} {k:Nat} {c:Ch} (hc:dM E U h k c) (hk:∀ b,U b->U' b/\h'[b]? = h[b]?) (hb:∀ b,(E k).fp b->h'[b]? = h[b]?):dM E U' h' k c:=by
 have:=hc.go (m:=[]) (E':=E) hk (fun _ _=>rfl) (fun k h=>by simp at h) (fun k c' h=>by simp at h) rfl hb;rwa[n8]at this
theorem Inv.sub {E:Env} {U:Nat->Prop} {h:Array Obj} {ch chs:Chs} (hi:Inv E U h ch) (hs:∀ k c,(k,c)∈chs->(k,c)∈ch) (hn:(chs.map (·.1)).Nodup):Inv E U h chs:=
 ⟨hn,fun k c h=>hi.ok k c (hs k c h),fun k c k' c' h h'=>hi.sep k c k' c' (hs k c h) (hs k' c' h'),fun k c h=>hi.out k c (hs k c h),fun k c h=>hi.fpl k c (hs k c h),hi.lt⟩
theorem Ev.chs {E E':Env} {U U':Nat->Prop} {w w':World} {ch ch1 ch2:Chs} {m:List (Nat×Sb)} {d:Nat} (he:Ev E U w ch m d E' U' w' ch1) (hs:∀ k c,(k,c)∈ch2->(k,c)∈ch1) (hn:(ch2.map (·.1)).Nodup):Ev E U w ch m d E' U' w' ch2:=
 ⟨he.os,he.tape,he.output,he.size,he.keep,he.env,he.envI,he.sub,he.rest,fun k c h=>he.live k c (hs k c h),he.newU,fun k cs h=>he.boxes k cs (hs k _ h),he.inv.sub hs hn⟩
theorem Ev.gen {E E':Env} {U U':Nat->Prop} {w w1:World} {ch old news:Chs} {m:List (Nat×Sb)} {d:Nat} (hi:Inv E U w.heap ch)
 (hos:w1.os=w.os) (htp:w1.tape=w.tape) (hou:w1.output=w.output) (hsz:w.heap.size<=w1.heap.size) (hold:old.Sublist ch)
 (hkeep:∀ b,U b->U' b/\w1.heap[b]? = w.heap[b]?) (henv:∀ k,m.lookup k=none->E' k=E k) (henvI:∀ k,m.lookup k=some .inner->(E' k).toKE0=(E k).toKE0)
 (hsub:∀ k c',m.lookup k=some (.c c')->∀ v,Rep E U w.heap (.own k) v->Rep E' U' w1.heap c' v)
 (hko:∀ k c,(k,c)∈old->E' k=E k) (hbo:∀ k c,(k,c)∈old->∀ b,(E k).fp b->w1.heap[b]? = w.heap[b]?)
 (hrest:∀ b,b < w.heap.size->(∀ k c,(k,c)∈ch->¬ (E k).fp b)->w1.heap[b]? = w.heap[b]?)
 (hnd:(news.map (·.1)).Nodup) (hdis:∀ k c,(k,c)∈news->∀ c',(k,c')∉old) (hok:∀ k c,(k,c)∈news->dM E' U' w1.heap k c)
 (hfp:∀ k c,(k,c)∈news->∀ b,(E' k).fp b->w.heap.size<=b\/∃ k0 c0,(k0,c0)∈ch/\(∀ c',(k0,c')∉old)/\(E k0).fp b)
 (hfl:∀ k c,(k,c)∈news->∀ b,(E' k).fp b->b < w1.heap.size)
 (hsep:∀ k c k' c',(k,c)∈news->(k',c')∈news->k≠k'->∀ b,(E' k).fp b->¬ (E' k').fp b)
 (hU:∀ b,U' b->U b\/w.heap.size<=b\/∃ k0 c0,(k0,c0)∈ch/\(∀ c',(k0,c')∉old)/\(E k0).fp b)
 (hUn:∀ k c,(k,c)∈news->∀ b,(E' k).fp b->¬ U' b) (hlt:∀ b,U' b->b < w1.heap.size)
 (hbox:∀ k cs,(k,.box cs)∈news->(k=d\/k < 100000)\/((∃ cs0,(k,.box cs0)∈ch)/\(E' k).toKE0=(E k).toKE0)):Ev E U w ch m d E' U' w1 (news++ae m old):=by
 have hmem:∀ k c,(k,c)∈old->(k,c)∈ch:=fun k c h=>hold.subset h
 have split:∀ k c,(k,c)∈news++ae m old->(k,c)∈news\/∃ c0,(k,c0)∈old/\c=ec m c0:=fun k c h=>by
  rcases zW.1 h with h | h
  . exact .inl h
  . exact .inr (ik h)
 have cross:∀ k c,(k,c)∈news->∀ k' c',(k',c')∈old->∀ b,(E' k).fp b->¬ (E k').fp b:=fun k c h k' c' h' b hb hb'=>by
  rcases hfp k c h b hb with g | ⟨k0,c0,g1,g2,g3⟩
  . have:=hi.fpl k' c' (hmem _ _ h') b hb';omega
  . exact hi.sep k0 c0 k' c' g1 (hmem _ _ h') (fun e=>g2 c' (e ▸ h')) b g3 hb'
 refine⟨hos,htp,hou,hsz,hkeep,henv,henvI,hsub,hrest,fun k c hm b hb=>?_,fun b hb=>?_,fun k cs hm=>?_,?_⟩
 . rcases split k c hm with h | ⟨c0,h0,rfl⟩
   . rcases hfp k c h b hb with g | ⟨k0,c0,g1,_,g3⟩
     . exact .inl g
     . exact .inr ⟨k0,c0,g1,g3⟩
   . rw[hko k c0 h0]at hb;exact .inr ⟨k,c0,hmem _ _ h0,hb⟩
 . rcases hU b hb with g | g | ⟨k0,c0,g1,_,g3⟩
   . exact .inl g
   . exact .inr (.inl g)
   . exact .inr (.inr ⟨k0,c0,g1,g3⟩)
 . rcases split k _ hm with h | ⟨c0,h0,he⟩
   . exact hbox k cs h
   . refine .inr ⟨?_,by rw[hko k c0 h0]⟩;cases c0 with
     | box cs0=>exact⟨cs0,hmem _ _ h0⟩
     |_=>simp[ec]at he
 . refine⟨?_,fun k c hm=>?_,fun k c k' c' hm hm' hne b hb=>?_,fun k c hm b hb=>?_,fun k c hm b hb=>?_,hlt⟩
   . simp only[yg,fj];refine List.nodup_append.2 ⟨hnd,hi.nd.sublist (hold.map _),fun x hx y hy e=>?_⟩;subst e;obtain⟨⟨k,c⟩,h1,rfl⟩:=zu.1 hx;obtain⟨⟨k',c'⟩,h2,e⟩:=zu.1 hy;simp only at e;exact hdis k c h1 c' (e ▸ h2)
   . rcases split k c hm with h | ⟨c0,h0,rfl⟩
     . exact hok k c h
     . exact (hi.ok k c0 (hmem _ _ h0)).go hkeep henv henvI hsub (hko k c0 h0) (hbo k c0 h0)
   . rcases split k c hm with h | ⟨c0,h0,rfl⟩ <;> rcases split k' c' hm' with h' | ⟨c0',h0',rfl⟩
     . exact hsep k c k' c' h h' hne b hb
     . rw[hko k' c0' h0'];exact cross k c h k' c0' h0' b hb
     . rw[hko k c0 h0]at hb;exact fun hb'=>cross k' c' h' k c0 h0 b hb' hb
     . rw[hko k c0 h0]at hb;rw[hko k' c0' h0'];exact hi.sep k c0 k' c0' (hmem _ _ h0) (hmem _ _ h0') hne b hb
   . rcases split k c hm with h | ⟨c0,h0,rfl⟩
     . exact hUn k c h b hb
     . rw[hko k c0 h0]at hb;intro hu;rcases hU b hu with g | g | ⟨k1,c1,g1,g2,g3⟩
       . exact hi.out k c0 (hmem _ _ h0) b hb g
       . have:=hi.fpl k c0 (hmem _ _ h0) b hb;omega
       . exact hi.sep k1 c1 k c0 g1 (hmem _ _ h0) (fun e=>g2 c0 (e ▸ h0)) b g3 hb
   . rcases split k c hm with h | ⟨c0,h0,rfl⟩
     . exact hfl k c h b hb
     . rw[hko k c0 h0]at hb;have:=hi.fpl k c0 (hmem _ _ h0) b hb;omega
def dQ (E:Env) (d:Nat) (x:KE):Env:=fun k=>if k=d then x else E k
@[simp] theorem updE_same (E:Env) (d:Nat) (x:KE):dQ E d x d=x:=by simp[dQ]
theorem d0 (E:Env) {d k:Nat} (x:KE) (h:k≠d):dQ E d x k=E k:=by simp[dQ,h]
theorem fV {d k:Nat} {c:Sb}:[(d,c)].lookup k=if k=d then some c else none:=by
 simp only[z0,List.lookup_nil];by_cases h:k=d
 . simp[h]
 . have hb:(k == d)=false:=by simp[h]
   simp[h,hb]
theorem gj {d e k:Nat} {c c':Sb}:[(d,c),(e,c')].lookup k=if k=d then some c else if k=e then some c' else none:=by
 simp only[z0,List.lookup_nil];by_cases h:k=d
 . simp[h]
 . have hb:(k == d)=false:=by simp[h]
   by_cases h2:k=e
   . subst h2;simp[h,hb]
   . have hb2:(k == e)=false:=by simp[h2]
     simp[h,hb,h2,hb2]
def ke0 (y:KE0):KE:={ y with inn:=fun _=>default,fp:=fun b=>y.nil=false/\y.blk=b }
theorem gn (y:KE0):FpOk (ke0 y) noI where
 fp b:=⟨fun h=>.inl h,fun h=>by
  rcases h with h | ⟨i,q,h,_⟩
  . exact h
  . cases h⟩
 ne _ _ h:=by cases h
 sep _ _ _ _ _ h:=by cases h
@[simp] theorem ke0_to (y:KE0):(ke0 y).toKE0=y:=rfl
theorem Ev.one {E:Env} {U:Nat->Prop} {w w1:World} {ch:Chs} (hi:Inv E U w.heap ch) (d:Nat) (x:KE) (c:Ch)
 (hos:w1.os=w.os) (htp:w1.tape=w.tape) (hou:w1.output=w.output) (hsz:w.heap.size<=w1.heap.size) (hold:∀ b,b < w.heap.size->w1.heap[b]? = w.heap[b]?)
 (hx:∀ b,x.fp b->w.heap.size<=b/\b < w1.heap.size) (hc:dM (dQ E d x) U w1.heap d c) :
 Ev E U w ch [(d,.c .any)] d (dQ E d x) U w1 ((d,c) :: ae [(d,.c .any)] (af ch d)):=by
 have hd:∀ c,(d,c)∉af ch d:=fun c=>dZ hi.nd
 refine Ev.gen (news:=[(d,c)]) (old:=af ch d) hi hos htp hou hsz (eu ch d) (fun b hb=>⟨hb,hold b (hi.lt b hb)⟩) (fun k hk=>?_) (fun k hk=>?_) (fun k c' hk v _=>?_) (fun k c hm=>d0 E x (fun e=>hd c (e ▸ hm)))
  (fun k c hm b hb=>hold b (hi.fpl k c (eH hm) b hb)) (fun b hb _=>hold b hb) (by simp) (fun k c' hm=>?_) (fun k c' hm=>?_) (fun k c' hm b hb=>?_) (fun k c' hm b hb=>?_) (fun k c k' c' hm hm' hne=>?_) (fun b hb=>.inl hb) (fun k c' hm b hb hu=>?_) (fun b hb=>by have:=hi.lt b hb;omega) (fun k cs hm=>?_)
 . rw[fV]at hk;split at hk
   . cases hk
   . rename_i h;exact d0 E x h
 . rw[fV]at hk;split at hk <;> cases hk
 . rw[fV]at hk;split at hk
   . cases hk;exact .d (.any v)
   . cases hk
 . simp only[zg,zf]at hm;obtain⟨rfl,rfl⟩:=hm;exact fun c'=>hd c'
 . simp only[zg,zf]at hm;obtain⟨rfl,rfl⟩:=hm;exact hc
 . simp only[zg,zf]at hm;obtain⟨rfl,rfl⟩:=hm;rw[updE_same]at hb;exact .inl (hx b hb).1
 . simp only[zg,zf]at hm;obtain⟨rfl,rfl⟩:=hm;rw[updE_same]at hb;exact (hx b hb).2
 . simp only[zg,zf]at hm hm';exact absurd (hm.1.trans hm'.1.symm) hne
 . simp only[zg,zf]at hm;obtain⟨rfl,rfl⟩:=hm;rw[updE_same]at hb;have:=(hx b hb).1;have:=hi.lt b hu;omega
 . simp only[zg,zf]at hm;exact .inl (.inl hm.1)
theorem Ev.fresh {E:Env} {U:Nat->Prop} {w w1:World} {ch:Chs} (hi:Inv E U w.heap ch) (d:Nat) (x:KE) (arr:Array Value) (ty:TypeId) (c:Ch)
 (hos:w1.os=w.os) (htp:w1.tape=w.tape) (hou:w1.output=w.output) (hh:w1.heap=w.heap.push (.cells arr ty))
 (hx:∀ b,x.fp b->b=w.heap.size) (hc:dM (dQ E d x) U w1.heap d c) :
 Ev E U w ch [(d,.c .any)] d (dQ E d x) U w1 ((d,c) :: ae [(d,.c .any)] (af ch d)):=
 Ev.one hi d x c hos htp hou (by rw[hh];simp) (fun b hb=>by rw[hh,yE,qa (by omega)]) (fun b hb=>by rw[hx b hb,hh];simp) hc
end Go.Am
end
section
namespace Go.Am
variable {P : Program} {E : Env} {U : Nat → Prop} {w : World} {ch : Chs} {d : Nat}
def dN (P:Program) (E:Env) (U:Nat->Prop) (w:World) (ch:Chs) (d:Nat) (s:Sem Next) (ef:Eff):Prop:=
 ∃ v E' U' w',(s.run P w=.ok (.value v) w'\/(s.run P w=.ok .skip w'/\v=undef))/\Rep E' U' w'.heap ef.v v/\Ev E U w ch ef.sub d E' U' w' ef.ch
theorem dK {v0 v:Value} {h:Array Obj} (hr:Rep E U h (.s v0) v):v=v0:=by cases hr with | d hd=>cases hd;rfl
theorem ft {k off:Nat} {v:Value} {h:Array Obj} (hr:Rep E U h (.ptr k off) v):v=.pointer (some ⟨(E k).blk,off,none⟩):=by
 cases hr with
 | d hd=>cases hd
 | ptr=>rfl
theorem gI {k i j:Nat} {v:Value} {h:Array Obj} (hr:Rep E U h (.eptr k i j) v):v=.pointer (some ⟨(E k).blk,(E k).off+i*(E k).sz+j,none⟩):=by
 cases hr with
 | d hd=>cases hd
 | eptr=>rfl
theorem gh (x:KE0):(x.nil=true/\slV x=.slice none 0 0)\/(x.nil=false/\slV x=.slice (some ⟨x.blk,x.off,none⟩) x.len x.cap):=by
 unfold slV;cases hn:x.nil with
 | true=>exact .inl ⟨rfl,rfl⟩
 | false=>exact .inr ⟨rfl,by simp⟩
theorem gu (x:KE0):(slV x).oneCell'=true:=by rcases gh x with h | h <;> rw[h.2] <;> rfl
theorem j2 (x:KE0):(slV x).cells=#[slV x]:=by rcases gh x with h | h <;> rw[h.2] <;> rfl
theorem eS {k:Nat} {v:Value} {h:Array Obj} (hr:Rep E U h (.own k) v):v=slV (E k).toKE0:=by
 cases hr with
 | d hd=>cases hd
 | own=>rfl
theorem iP {k:Nat} {v:Value} {h:Array Obj} (hr:Rep E U h (.own k) v) :
 ((E k).nil=true/\v=.slice none 0 0)\/((E k).nil=false/\v=.slice (some ⟨(E k).blk,(E k).off,none⟩) (E k).len (E k).cap):=by
 rw[eS hr];exact gh _
theorem kx {k i:Nat} {v:Value} {h:Array Obj} (hr:Rep E U h (.inn k i) v):v=slV ((E k).inn i):=by
 cases hr with
 | d hd=>cases hd
 | inn=>rfl
theorem jN {k i m j:Nat} {v:Value} {h:Array Obj} (hr:Rep E U h (.iptr k i m j) v):v=.pointer (some ⟨((E k).inn i).blk,((E k).inn i).off+m*((E k).inn i).sz+j,none⟩):=by
 cases hr with
 | d hd=>cases hd
 | iptr=>rfl
theorem ji {sz:Nat} {es:List (List C)} {v:Value} {h:Array Obj} (hr:Rep E U h (.sl sz es) v):RepD U h (.sl sz es) v:=by cases hr with | d hd=>exact hd
theorem ow {cs:List C} {v:Value} {h:Array Obj} (hr:Rep E U h (.ref cs) v) :
 ∃ (b off:Nat) (arr:Array Value) (ty:TypeId) (fz:Nat×Nat) (vf:Nat->Value),v=.pointer (some ⟨b,off,none⟩)/\U b/\h[b]? = some (.cells arr ty fz)/\(∀ (j:Nat) (c:C),cs[j]? = some c->arr[off+j]? = some (vf j)/\(vf j).oneCell'=true)/\∀ (j:Nat) (c:C),cs[j]? = some c->RepD U h c (vf j):=by
 cases hr with
 | d hd=>cases hd
 | ref cs b off arr ty fz vf hU hb hv hr=>exact⟨b,off,arr,ty,fz,vf,rfl,hU,hb,hv,hr⟩
theorem il {cs:List C} {v:Value} {h:Array Obj} (hr:Rep E U h (.agg cs) v) :
 ∃ vs:Array Value,v=.agg vs/\vs.size=cs.length/\(∀ (j:Nat) c,cs[j]? = some c->Rep E U h c (vs.getD j undef))/\∀ j,j < vs.size->(vs.getD j undef).oneCell'=true:=by
 cases hr with
 | d hd=>cases hd
 | agg cs vs hl hr h1=>exact⟨vs,rfl,hl,hr,h1⟩
theorem sr {cs:List C} {v:Value} {h:Array Obj} (hr:Rep E U h (.tup cs) v) :
 ∃ vs:Array Value,v=.tuple vs/\vs.size=cs.length/\(∀ (j:Nat) c,cs[j]? = some c->Rep E U h c (vs.getD j undef)):=by
 cases hr with
 | d hd=>cases hd
 | tup cs vs hl hr=>exact⟨vs,rfl,hl,hr⟩
theorem uy {f:Fn} {xs ys:List C} {v:Value} {h:Array Obj} (hr:Rep E U h (.fn f xs ys) v) :
 ∃ vs ws:Array Value,v=.func f vs ws/\vs.size=xs.length/\(∀ (j:Nat) c,xs[j]? = some c->Rep E U h c (vs.getD j undef))/\ws.size=ys.length/\(∀ (j:Nat) c,ys[j]? = some c->Rep E U h c (ws.getD j undef)):=by
 cases hr with
 | d hd=>cases hd
 | fn f xs ys vs ws hl hr hl' hr'=>exact⟨vs,ws,rfl,hl,hr,hl',hr'⟩
theorem uW {c:C} {v:Value} {h:Array Obj} (hr:Rep E U h c v) (hc:aR c=true):v.oneCell'=true:=by
 cases hr with
 | d hd=>
  cases hd with
  | any=>simp[aR]at hc
  | s v=>simpa[aR]using hc
  | sl0=>rfl
  | sl=>rfl
 | own k=>exact gu _
 | inn k i=>exact gu _
 |_=>first | rfl | simp[aR]at hc
theorem u6 {c:C} {v:Value} {h:Array Obj} (hr:Rep E U h c v) (hc:a8 c=true):RepD U h c v/\v.oneCell'=true:=by
 cases hr with
 | d hd=>
  refine⟨hd,?_⟩;cases hd with
  | any=>simp[a8]at hc
  | s v=>simpa[a8]using hc
  | sl0=>rfl
  | sl=>rfl
 |_=>simp[a8]at hc
theorem dF {s:Sem Next} {c:C} {v:Value} {p:Prop} (hi:Inv E U w.heap ch) (hs:s.run P w=.ok (.value v) w) (hr:Rep E U w.heap c v):dN P E U w ch d s ⟨p,c,ch,[]⟩:=
 ⟨v,E,U,w,.inl hs,hr,Ev.refl hi d⟩
theorem ph {c:C} {v:Value} {h:Array Obj} (hr:Rep E U h c v) (hn:c≠.any) (hs:∀ v0,c=.s v0->v0.oneCell'=true):v.cells.size=(aj c).length/\(∀ (j:Nat) c0,(aj c)[j]? = some c0->Rep E U h c0 (v.cells.getD j undef)):=by
 have one:∀ v:Value,v.cells=#[v]->aj c=[c]->Rep E U h c v->v.cells.size=(aj c).length/\(∀ (j:Nat) c0,(aj c)[j]? = some c0->Rep E U h c0 (v.cells.getD j undef)):=by
  intro v h1 h2 h3;rw[h1,h2];refine⟨rfl,fun j c0 hj=>?_⟩;cases j with
  | zero=>simp at hj;subst hj;simpa using h3
  | succ j=>simp at hj
 cases hr with
 | d hd=>
  cases hd with
  | any=>exact absurd rfl hn
  | s v=>exact one v (by have:=hs v rfl;cases v <;> first | rfl | simp[Value.oneCell']at this) rfl (.d (.s v))
  | sl0 sz a cap hc=>exact one _ rfl rfl (.d (.sl0 sz a cap hc))
  | sl es b off cap sz arr ty fz vf hU hb hcap hmax hsz hv hr=>exact one _ rfl rfl (.d (.sl es b off cap sz arr ty fz vf hU hb hcap hmax hsz hv hr))
 | ref cs b off arr ty fz vf hU hb hv hr=>exact one _ rfl rfl (.ref cs b off arr ty fz vf hU hb hv hr)
 | agg cs vs hl hr h1=>exact⟨hl,hr⟩
 | tup cs vs hl hr=>exact one _ rfl rfl (.tup cs vs hl hr)
 | fn f xs ys vs ws hl hr hl' hr'=>exact one _ rfl rfl (.fn f xs ys vs ws hl hr hl' hr')
 | own k=>exact one _ (j2 _) rfl (.own k)
 | inn k i=>exact one _ (j2 _) rfl (.inn k i)
 | iptr k i m j=>exact one _ rfl rfl (.iptr k i m j)
 | ptr k off=>exact one _ rfl rfl (.ptr k off)
 | eptr k i j=>exact one _ rfl rfl (.eptr k i j)
theorem jy {l:List C} {f:C->Bool} (h:l.all f=true) {j:Nat} {c:C} (hj:l[j]? = some c):f c=true:=
 zx.1 h c (zp hj)
theorem lm {c:C} {v:Value} {h:Array Obj} (hr:Rep E U h c v) (hc:(aj c).all aR=true):v.cells.size=(aj c).length/\(∀ (j:Nat) c0,(aj c)[j]? = some c0->ld E U h c0 (v.cells.getD j undef)):=by
 have hn:c≠.any:=by rintro rfl;simp[aj,aR]at hc
 have hs:∀ v0,c=.s v0->v0.oneCell'=true:=by rintro v0 rfl;simpa[aj,aR]using hc
 obtain⟨h1,h2⟩:=ph hr hn hs;exact⟨h1,fun j c0 hj=>⟨h2 j c0 hj,uW (h2 j c0 hj) (jy hc hj)⟩⟩
theorem kF {c:C} {v:Value} {h:Array Obj} (hr:Rep E U h c v) (hc:(aj c).all a8=true):v.cells.size=(aj c).length/\(∀ (j:Nat) c0,(aj c)[j]? = some c0->RepD U h c0 (v.cells.getD j undef)/\(v.cells.getD j undef).oneCell'=true):=by
 have hn:c≠.any:=by rintro rfl;simp[aj,a8]at hc
 have hs:∀ v0,c=.s v0->v0.oneCell'=true:=by rintro v0 rfl;simpa[aj,a8]using hc
 obtain⟨h1,h2⟩:=ph hr hn hs;exact⟨h1,fun j c0 hj=>u6 (h2 j c0 hj) (jy hc hj)⟩
theorem lj {cs:List C} (h:∀ (j:Nat) c,cs[j]? = some c->aL c=true):eK cs=noI:=by
 funext j
 simp only[eK,noI];cases hc:cs[j]? with
 | none=>rfl
 | some c=>
  have:=h j c hc;cases c <;> first | rfl | simp[aL]at this
theorem pS {c:C} {v:Value} {h:Array Obj} (hr:Rep E U h c v):aL c=true:=by
 cases c <;> first | rfl | exact absurd hr gW
theorem qY {s:Sem Next} {p:Prop} (hi:Inv E U w.heap ch) (arr:Array Value) (ty:TypeId) (cs:List C) (hs:s.run P w=.ok (.value (.pointer (some ⟨w.heap.size,0,none⟩))) (w.alloc (.cells arr ty)))
 (hl:arr.size=cs.length) (hr:∀ (j:Nat) c,cs[j]? = some c->ld E U w.heap c (arr.getD j undef)) :
 dN P E U w ch d s ⟨p,.ptr d 0,(d,.box (cs.map (ah [(d,.c .any)]))) :: ae [(d,.c .any)] (af ch d),[(d,.c .any)]⟩:=by
 let x:KE:=ke0 ⟨w.heap.size,0,0,0,0,false⟩
 have hkeep:∀ b,U b->U b/\(w.alloc (.cells arr ty)).heap[b]? = w.heap[b]?:=fun b hb=>⟨hb,RowKit.Below.heap_alloc w _ b (hi.lt b hb)⟩
 have hE:∀ k,[(d,Sb.c .any)].lookup k=none->dQ E d x k=E k:=fun k hk=>by
  rw[fV]at hk;split at hk
  . cases hk
  . rename_i h;exact d0 E x h
 have hI:∀ k,[(d,Sb.c .any)].lookup k=some .inner->(dQ E d x k).toKE0=(E k).toKE0:=fun k hk=>by rw[fV]at hk;split at hk <;> cases hk
 have hsub:∀ k c',[(d,Sb.c .any)].lookup k=some (.c c')->∀ v,Rep E U w.heap (.own k) v->Rep (dQ E d x) U (w.alloc (.cells arr ty)).heap c' v:=fun k c' hk v _=>by
  rw[fV]at hk;split at hk
  . cases hk;exact .d (.any v)
  . cases hk
 have hcell:∀ (j:Nat) c,(cs.map (ah [(d,.c .any)]))[j]? = some c->ld (dQ E d x) U (w.alloc (.cells arr ty)).heap c (arr.getD j undef):=fun j c hj=>by
  simp only[zh,za]at hj;obtain⟨c0,h0,rfl⟩:=hj;obtain⟨r1,r2⟩:=hr j c0 h0;exact⟨r1.mono hkeep hE hI hsub,r2⟩
 have hno:=lj fun j c hj=>pS (hcell j c hj).1
 refine⟨_,dQ E d x,U,_,.inl hs,?_,Ev.fresh hi d x arr ty _ rfl rfl rfl rfl (fun b hb=>hb.2.symm) ?_⟩
 . have:w.heap.size=(dQ E d x d).blk:=by simp[x]
   show Rep _ _ _ (.ptr d 0) (.pointer (some ⟨w.heap.size,0,none⟩))
   rw[this];exact .ptr d 0
 . simp only[dM];rw[hno];refine⟨⟨by simp[x],arr,ty,?_,by simpa using hl,fun j c hj=>.inl (hcell j c hj)⟩,by rw[updE_same];exact gn _,fun i n t es h=>by cases h⟩;simp only[updE_same,x];exact heap_alloc_new w _
theorem qZ {s:Sem Next} {p:Prop} {w1:World} (hi:Inv E U w.heap ch) (arr:Array Value) (ty:TypeId) (sz n cap:Nat) (es:List (List C)) (v:Value) (hs:s.run P w=.ok (.value v) w1)
 (hos:w1.os=w.os) (htp:w1.tape=w.tape) (hou:w1.output=w.output) (hh:w1.heap=w.heap.push (.cells arr ty))
 (hv:v=.slice (some ⟨w.heap.size,0,none⟩) n cap) (hn:n=es.length) (hc1:es.length<=cap) (hc2:cap<=maxLen) (hsz:cap*sz<=arr.size) (he:∀ (i:Nat) (e:List C),es[i]? = some e->e.length=sz)
 (hr:∀ (i:Nat) (e:List C) (j:Nat) (c:C),es[i]? = some e->e[j]? = some c->RepD U w.heap c (arr.getD (i*sz+j) undef)/\(arr.getD (i*sz+j) undef).oneCell'=true) :
 dN P E U w ch d s ⟨p,.own d,(d,.row sz ty es) :: ae [(d,.c .any)] (af ch d),[(d,.c .any)]⟩:=by
 let x:KE:=ke0 ⟨w.heap.size,0,cap,es.length,sz,false⟩
 subst hv hn;have hold:∀ b,b < w.heap.size->w1.heap[b]? = w.heap[b]?:=fun b hb=>by rw[hh,yE,qa (by omega)]
 have hkeep:∀ b,U b->U b/\w1.heap[b]? = w.heap[b]?:=fun b hb=>⟨hb,hold b (hi.lt b hb)⟩
 refine⟨_,dQ E d x,U,_,.inl hs,?_,Ev.fresh hi d x arr ty _ hos htp hou hh (fun b hb=>hb.2.symm) ?_⟩
 . have hx:dQ E d x d=x:=updE_same E d x;have:=Rep.own (E:=dQ E d x) (U:=U) (h:=w1.heap) d;rw[hx]at this;exact this
 . rw[dM,updE_same];refine⟨⟨rfl,rfl,he,.inr ⟨rfl,hc1,hc2,arr,?_,by simpa[x]using hsz,fun i e j c h1 h2=>?_⟩⟩,gn _⟩
   . show w1.heap[w.heap.size]? = _
     rw[hh,yE];simp
   . obtain⟨r1,r2⟩:=hr i e j c h1 h2;simp only[x,ke0,zz];exact⟨r1.mono hkeep,r2⟩
theorem gp {t:TypeId} {i:TypeInfo} {z:Value} (hi:P.info? t=some i) (hz:i.zero=some z):(zeroValue t).run P w=.ok z w:=by
 simp[zeroValue,typeInfo,hi,hz]
theorem eB {t:TypeId} {n:Nat} (hn:eq P t=some n):(sizeOf t).run P w=.ok n w:=by
 simp only[eq,za]at hn;obtain⟨i,hi,rfl⟩:=hn;simp[sizeOf,typeInfo,hi]
theorem j0 {t:TypeId} {b:Bool} (hb:je P t=some b):(isAgg t).run P w=.ok b w:=by
 unfold je at hb;unfold isAgg;cases hu:P.underlying t with
 | none=>simp[hu]at hb
 | some u=>simp only[hu]at hb;cases u <;> simp at hb <;> subst hb <;> simp[underlying,hu]
theorem kg {t:TypeId} {z:List Value} (h:gf P t=some z):∃ i v,P.info? t=some i/\i.zero=some v/\z=v.cells.toList:=by
 simp only[gf,zk,za]at h;obtain⟨i,h1,v,h2,h3⟩:=h;exact⟨i,v,h1,h2,h3.symm⟩
theorem vJ {ρ:Operand->Value} {t:TypeId} {z:List Value} {o:Oper} (hi:Inv E U w.heap ch) (ho:o.op=.alloc t) (hz:gf P t=some z) (h1:z.all (·.oneCell')=true) {p:Prop} :
 dN P E U w ch d (execOp ρ o) ⟨p,.ptr d 0,(d,.box (z.map .s)) :: ae [(d,.c .any)] (af ch d),[(d,.c .any)]⟩:=by
 obtain⟨i,v,hi1,hz1,rfl⟩:=kg hz;have hm:(v.cells.toList.map C.s).map (ah [(d,.c .any)])=v.cells.toList.map C.s:=by
  rw[zT];exact zH fun x _=>rfl
 have:=qY (P:=P) (s:=execOp ρ o) (p:=p) (d:=d) hi v.cells t (v.cells.toList.map C.s) (by simp[execOp,ho,Instr.alloc,gp hi1 hz1,newVar,newRow]) (by simp) (fun j c hj=>by
  simp only[zh,za]at hj;obtain⟨u,hu,rfl⟩:=hj;have hg:v.cells.getD j undef=u:=by
   simp only[zM]at hu;simp[zc,hu]
  rw[hg]
  exact⟨.d (.s u),zx.1 h1 u (zp hu)⟩)
 rw[hm]at this;exact this
theorem op_box {a:Act} {t:TypeId} {x:Operand} {o:Oper} {c:C} (hi:Inv E U w.heap ch) (ho:o.op=.box t x) (hr:Rep E U w.heap c (a.eval x)) (hc:(aj c).all aR=true) {p:Prop} :
 dN P E U w ch d (execOp a.eval o) ⟨p,.ptr d 0,(d,.box ((aj c).map (ah [(d,.c .any)]))) :: ae [(d,.c .any)] (af ch d),[(d,.c .any)]⟩:=by
 obtain⟨h1,h2⟩:=lm hr hc;exact qY hi (a.eval x).cells t (aj c) (by simp[execOp,ho,Instr.box,newVar,newRow]) h1 h2
theorem lN {α β:Type} {f:α->Sem β} {g:α->β}:∀ (l:List α),(∀ x∈l,(f x).run P w=.ok (g x) w)->(l.mapM f).run P w=.ok (l.map g) w
 |[],_=>by simp
 | x :: l,h=>by
  have h1:=h x zq;have h2:=lN l (fun y hy=>h y (zo _ hy));simp[List.mapM_cons,h1,h2]
theorem pT {α β:Type} {f:α->Sem β} {g:α->β} (xs:Array α) (h:∀ x∈xs,(f x).run P w=.ok (g x) w):(xs.mapM f).run P w=.ok (xs.map g) w:=by
 rw[Array.mapM_eq_mapM_toList];have e:(xs.toList.map g).toArray=xs.map g:=by apply Array.toList_inj.1;simp
 simp[lN (P:=P) (w:=w) (f:=f) (g:=g) xs.toList (fun x hx=>h x (Array.mem_toList_iff.1 hx)),e]
theorem pr (off:Nat):∀ (xs:List Value) (i:Nat) (cells:Array Value),
 ((xs.zipIdx i).foldl (fun cs p=>cs.setIfInBounds (off+p.2) p.1) cells).size=cells.size /\
 ∀ k,k < cells.size->((xs.zipIdx i).foldl (fun cs p=>cs.setIfInBounds (off+p.2) p.1) cells).getD k undef=if off+i<=k/\k < off+i+xs.length then xs.getD (k - (off+i)) undef else cells.getD k undef
 |[],i,cells=>by
  refine⟨rfl,fun k _=>?_⟩;simp only[List.zipIdx_nil,List.foldl_nil,yh,zL];rw[qa (by omega)]
 | x :: xs,i,cells=>by
  obtain⟨h1,h2⟩:=pr off xs (i+1) (cells.setIfInBounds (off+i) x);simp only[List.zipIdx_cons,List.foldl_cons];refine⟨by rw[h1];simp,fun k hk=>?_⟩;rw[h2 k (by simpa using hk)];by_cases hk1:k=off+i
  . subst hk1;rw[qa (by omega),qb ⟨by omega,by simp⟩];simp[zc,hk]
  . by_cases hk2:off+(i+1)<=k/\k < off+(i+1)+xs.length
    . rw[qb hk2,qb ⟨by omega,by simp;omega⟩];have:k - (off+i)=(k - (off+(i+1)))+1:=by omega
      rw[this,List.getD_cons_succ]
    . rw[qa hk2,qa (by simp;omega)];simp only[zc,yl];rw[qa (by omega)]
theorem pn (off:Nat) (v:Value) (cells:Array Value) :
 (v.cells.zipIdx.foldl (fun cs (x:Value×Nat)=>match x with | (c,j)=>cs.setIfInBounds (off+j) c) cells).size=cells.size /\
 ∀ k,k < cells.size->(v.cells.zipIdx.foldl (fun cs (x:Value×Nat)=>match x with | (c,j)=>cs.setIfInBounds (off+j) c) cells).getD k undef=if off<=k/\k < off+v.cells.size then v.cells.getD (k - off) undef else cells.getD k undef:=by
 have h:=pr off v.cells.toList 0 cells;have e:v.cells.zipIdx.foldl (fun cs (x:Value×Nat)=>match x with | (c,j)=>cs.setIfInBounds (off+j) c) cells=(v.cells.toList.zipIdx 0).foldl (fun cs p=>cs.setIfInBounds (off+p.2) p.1) cells:=by
  rw[<- Array.foldl_toList];simp
 rw[e];refine⟨h.1,fun k hk=>?_⟩;rw[h.2 k hk];simp
theorem jc {l:List C} {n j:Nat} {c:C} (h:(l.take n)[j]? = some c):l[j]? = some c/\j < n:=by
 rw[ya]at h;split at h
 . rename_i hj;exact⟨h,hj⟩
 . cases h
theorem kZ {cs xs:List C} {off j:Nat} {c:C} (hle:off+xs.length<=cs.length) (h:(aH cs off xs)[j]? = some c) :
 (off<=j/\j < off+xs.length/\xs[j - off]? = some c)\/((j < off\/off+xs.length<=j)/\cs[j]? = some c):=by
 unfold aH at h;rw[ye,zS]at h;have ht:(cs.take off).length=off:=by simp;omega
 rw[ht]at h;split at h
 . rename_i hj;exact .inr ⟨.inl hj,(jc h).1⟩
 . rename_i hj;rw[zS]at h;split at h
   . rename_i hj2;exact .inl ⟨by omega,by omega,h⟩
   . rename_i hj2;rw[zO]at h;refine .inr ⟨.inr (by omega),?_⟩;rw[<- h];congr 1;omega
theorem ia {cs xs:List C} {off:Nat} (hle:off+xs.length<=cs.length):(aH cs off xs).length=cs.length:=by
 unfold aH;simp;omega
def lf (E:Env) (U:Nat->Prop) (h:Array Obj) (cs:List C) (arr:Array Value):Prop:=
 arr.size=cs.length/\∀ (j:Nat) (c:C),cs[j]? = some c->ld E U h c (arr.getD j undef)
theorem ol {h:Array Obj} {a:Act} (place:Nat->Option (Nat×Nat)):∀ (ps:List (Nat×Operand)) (qs:List (Nat×Nat×Operand)) (cells:Array Value) (cs cs':List C) (ρ:Operand->C),
 (∀ x,Rep E U h (ρ x) (a.eval x))->lf E U h cs cells->qs.length=ps.length->(∀ (j:Nat) p q,ps[j]? = some p->qs[j]? = some q->place p.1=some (q.1,q.2.1)/\q.2.2=p.2) ->
 bN cs (qs.map fun (o,n,x)=>(o,n,ρ x))=some cs'->∃ cells',Instr.fill place cells (ps.map fun (i,x)=>(i,a.eval x))=some cells'/\lf E U h cs' cells'
 |[],qs,cells,cs,cs',ρ,_,hc,hl,_,hf=>by
  have:qs=[]:=by cases qs <;> simp_all
  subst this;simp[bN]at hf;subst hf;exact⟨cells,rfl,hc⟩
 | (i,x) :: ps,[],cells,cs,cs',ρ,_,hc,hl,_,hf=>by simp at hl
 | (i,x) :: ps,(off,n,y) :: qs,cells,cs,cs',ρ,hρ,hc,hl,hp,hf=>by
  obtain⟨hp1,hp2⟩:=hp 0 (i,x) (off,n,y) rfl rfl;simp only at hp1 hp2;subst hp2;simp only[zt,bN]at hf;split at hf
  . rename_i hcond;obtain⟨e1,e2,e3⟩:=hcond;obtain⟨s1,s2⟩:=lm (hρ y) e3;obtain⟨f1,f2⟩:=pn off (a.eval y) cells;have hcells:lf E U h (aH cs off (aj (ρ y))) ((a.eval y).cells.zipIdx.foldl (fun cs (x:Value×Nat)=>match x with | (c,j)=>cs.setIfInBounds (off+j) c) cells):=by
     have hle:off+(aj (ρ y)).length<=cs.length:=by omega
     refine⟨by rw[f1,ia hle];exact hc.1,fun j c hj=>?_⟩;have hjl:j < cs.length:=by
      have:=(zi.1 hj).1;rwa[ia hle]at this
     rw[f2 j (by rw[hc.1];exact hjl),s1];rcases kZ hle hj with⟨g1,g2,g3⟩ | ⟨g1,g2⟩
     . rw[qb ⟨g1,g2⟩];exact s2 _ _ g3
     . rw[qa (by omega)];exact hc.2 j c g2
    obtain⟨cells',h1,h2⟩:=ol place ps qs _ _ cs' ρ hρ hcells (by simpa using hl) (fun j p q h1 h2=>hp (j+1) p q (by simpa using h1) (by simpa using h2)) hf;refine⟨cells',?_,h2⟩;simp only[zt,Instr.fill,hp1];rw[qa (by simp only[s1,e1,hc.1];simp;omega)];exact h1
  . cases hf
theorem oa {h:Array Obj} {v:Value} (h1:v.cells.toList.all (·.oneCell')=true):lf E U h (v.cells.toList.map C.s) v.cells:=
 ⟨by simp,fun j c hj=>by
  simp only[zh,za]at hj;obtain⟨u,hu,rfl⟩:=hj;have hg:v.cells.getD j undef=u:=by
   simp only[zM]at hu;simp[zc,hu]
  rw[hg]
  exact⟨.d (.s u),zx.1 h1 u (zp hu)⟩⟩
theorem pz {α β:Type} {f:α->Option β}:∀ {l:List α} {r:List β},l.mapM f=some r->r.length=l.length/\∀ (j:Nat) x y,l[j]? = some x->r[j]? = some y->f x=some y
 |[],r,h=>by
  simp at h;subst h;simp
 | x :: l,r,h=>by
  simp only[List.mapM_cons,Option.pure_def,Option.bind_eq_bind,zk,zn]at h;obtain⟨y,hy,ys,hys,rfl⟩:=h;obtain⟨h1,h2⟩:=pz hys;refine⟨by simp[h1],fun j x' y' hx hy'=>?_⟩;cases j with
  | zero=>simp at hx hy';subst hx hy';exact hy
  | succ j=>simp at hx hy';exact h2 j x' y' hx hy'
theorem vK {a:Act} {ρ:Operand->C} {t:TypeId} {parts:Array (Nat×Operand)} {z:List Value} {qs:List (Nat×Nat×Operand)} {cs:List C} {o:Oper} (hi:Inv E U w.heap ch) (ho:o.op=.build t parts)
 (hz:gf P t=some z) (hq:mL P t parts.toList=some qs) (hρ:∀ x,Rep E U w.heap (ρ x) (a.eval x)) (hf:bN (z.map .s) (qs.map fun (o,n,x)=>(o,n,ρ x))=some cs) (h1:z.all (·.oneCell')=true) {p:Prop} :
 dN P E U w ch d (execOp a.eval o) ⟨p,.agg cs,ch,[]⟩:=by
 obtain⟨i,v,hi1,hz1,rfl⟩:=kg hz;have hmap:(parts.map fun (i,x)=>(i,a.eval x)).toList=parts.toList.map fun (i,x)=>(i,a.eval x):=by simp
 have fin:∀ cells',lf E U w.heap cs cells'->Rep E U w.heap (.agg cs) (.agg cells'):=fun cells' hr=>
  .agg cs cells' hr.1 (fun j c hj=>(hr.2 j c hj).1) (fun j hj=>by
   have:j < cs.length:=by rw[<- hr.1];exact hj
   exact (hr.2 j cs[j] (ze this)).2)
 unfold mL at hq;cases hu:P.underlying t with
 | none=>simp[hu]at hq
 | some u=>
  cases u <;> simp only[hu]at hq <;> try (cases hq;done)
  case struct fields=>
   split at hq
   . rename_i hall;obtain⟨m1,m2⟩:=pz hq;have hrun:(fields.mapM fun (f:Field)=>do pure (f.offset,<- sizeOf f.type)).run P w=.ok (fields.map fun (f:Field)=>(f.offset,(eq P f.type).getD 0)) w:=by
      refine pT fields (fun f hf=>?_);have:=zx.1 hall f (by simpa using hf);obtain⟨n,hn⟩:=Option.isSome_iff_exists.1 this;simp[eB hn,hn]
     have hplace:∀ (j:Nat) p q,parts.toList[j]? = some p->qs[j]? = some q->(fields.map fun (f:Field)=>(f.offset,(eq P f.type).getD 0))[p.1]? = some (q.1,q.2.1)/\q.2.2=p.2:=by
      intro j p q hp hq';have:=m2 j p q hp hq';obtain⟨pi,px⟩:=p;simp only[zk,za]at this;obtain⟨f,hf,n,hn,rfl⟩:=this;simp[hf,hn]
     obtain⟨cells',e1,e2⟩:=ol (E:=E) (U:=U) (h:=w.heap) (a:=a) (fun i=>(fields.map fun (f:Field)=>(f.offset,(eq P f.type).getD 0))[i]?) parts.toList qs v.cells _ cs ρ hρ (oa h1) m1 hplace hf;refine dF (v:=.agg cells') hi ?_ (fin cells' e2);have hm:=hmap;simp only at hm;simp only[execOp,ho,Instr.build,gp hi1 hz1,run_underlying hu,Sem.run_bind,Result.andThen_ok,hrun,Sem.run_pure];rw[hm,e1];rfl
   . cases hq
  case array len e=>
   simp only[za]at hq;obtain⟨n,hn,rfl⟩:=hq;obtain⟨cells',e1,e2⟩:=ol (E:=E) (U:=U) (h:=w.heap) (a:=a) (fun i=>some (i*n,n)) parts.toList (parts.toList.map fun (i,x)=>(i*n,n,x)) v.cells _ cs ρ hρ (oa h1) (by simp)
    (fun j p q hp hq=>by
     simp only[zh,hp,zU,zn]at hq
     subst hq;exact⟨rfl,rfl⟩) hf
   refine dF (v:=.agg cells') hi ?_ (fin cells' e2);have hm:=hmap;simp only at hm;simp only[execOp,ho,Instr.build,gp hi1 hz1,run_underlying hu,Sem.run_bind,Result.andThen_ok,eB hn,Sem.run_pure];rw[hm,e1];rfl
theorem mM {h:Array Obj} {U':Nat->Prop} {h':Array Obj} {y:KE0} {sz:Nat} {ty:TypeId} {es:List (List C)} (hc:fa U h y sz ty es)
 (hk:∀ b,U b->U' b/\h'[b]? = h[b]?) (hb:y.nil=false->U' y.blk/\h'[y.blk]? = h[y.blk]?):RepD U' h' (.sl sz es) (slV y):=by
 obtain⟨h1,h2,h3,h4⟩:=hc;rcases gh y with⟨hn,hv⟩ | ⟨hn,hv⟩ <;> rw[hv]
 . rcases h4 with⟨_,rfl⟩ | ⟨hn',_⟩
   . exact .sl0 _ _ _ (by simp[maxLen])
   . rw[hn]at hn';cases hn'
 . rcases h4 with⟨hn',_⟩ | ⟨_,h5,h6,arr,h7,h8,h9⟩
   . rw[hn]at hn';cases hn'
   . obtain⟨hU,hh⟩:=hb hn;rw[h1];refine .sl es _ _ _ sz arr ty (0,0) (fun i j=>arr.getD (y.off+i*sz+j) undef) hU (hh.trans h7) h5 h6 h3 (fun i e j c he hj=>?_) (fun i e j c he hj=>(h9 i e j c he hj).1.mono hk);have hi:i < es.length:=(zi.1 he).1;have hj':j < sz:=by have:=(zi.1 hj).1;rwa[h3 i e he]at this
     have hm:(i+1)*sz<=y.cap*sz:=zB sz (by omega);rw[zP,z8]at hm;have hlt:y.off+i*sz+j < arr.size:=by omega
     refine⟨?_,(h9 i e j c he hj).2⟩;simp[zc,zj hlt]
theorem mJ {h:Array Obj} {U':Nat->Prop} {h':Array Obj} {k:Nat} {c:Ch} {x:C} {v:Value} (hc:dM E U h k c) (hx:bz c=some x) (hr:Rep E U h (.own k) v)
 (hk:∀ b,U b->U' b/\h'[b]? = h[b]?) (hb:∀ b,(E k).fp b->U' b/\h'[b]? = h[b]?):RepD U' h' x v:=by
 rw[eS hr];cases c with
 | row sz ty es=>
  simp only[bz,zn]at hx;subst hx;exact mM hc.1 hk (fun hn=>hb _ ((hc.2.fp _).2 (.inl ⟨hn,rfl⟩)))
 | deep isz ity ty hole rows=>
  cases hole with
  | some i=>simp[bz]at hx
  | none=>
   simp only[bz,zn]at hx;subst hx;obtain⟨⟨h1,h2,h3⟩,hf,hin⟩:=hc;rcases gh (E k).toKE0 with⟨hn,hv⟩ | ⟨hn,hv⟩ <;> rw[hv]
   . rcases h3 with⟨_,rfl⟩ | ⟨hn',_⟩
     . exact .sl0 _ _ _ (by simp[maxLen])
     . rw[hn]at hn';cases hn'
   . rcases h3 with⟨hn',_⟩ | ⟨_,h5,h6,arr,h7,h8,h9⟩
     . rw[hn]at hn';cases hn'
     . obtain⟨hU,hh⟩:=hb _ ((hf.fp _).2 (.inl ⟨hn,rfl⟩));rw[h1];have hlen:rows.length=(rows.map fun es=>[C.sl isz es]).length:=by simp
       rw[hlen];refine .sl _ _ _ _ 1 arr ty (0,0) (fun i j=>arr.getD ((E k).off+i) undef) hU (hh.trans h7) (by simpa using h5) h6 (fun i e he=>?_) (fun i e j c he hj=>?_) (fun i e j c he hj=>?_)
       . simp only[zh,za]at he;obtain⟨es,_,rfl⟩:=he;rfl
       . simp only[zh,za]at he;obtain⟨es,g1,rfl⟩:=he;have hi:i < rows.length:=(zi.1 g1).1;have hj0:j=0:=by have:=(zi.1 hj).1;simp at this;exact this
         subst hj0;have hlt:(E k).off+i*1+0 < arr.size:=by omega
         refine⟨?_,(h9 i hi).1⟩;rw[yA,zL]at hlt ⊢;simp[zc,zj hlt]
       . simp only[zh,za]at he;obtain⟨es,g1,rfl⟩:=he;have hi:i < rows.length:=(zi.1 g1).1;have hj0:j=0:=by have:=(zi.1 hj).1;simp at this;exact this
         subst hj0;simp only[zD,zn]at hj;subst hj;rw[(h9 i hi).2 (by simp)];have hI:eh isz ity none rows i=some (isz,ity,es):=by simp[eh,g1]
         exact mM (hin i _ _ _ hI) hk (fun hn=>hb _ ((hf.fp _).2 (.inr ⟨i,_,hI,hn,rfl⟩)))
 |_=>simp[bz]at hx
def qA (ch:Chs) (m:List (Nat×Sb)):Prop:=∀ k s,m.lookup k=some s->∃ c0 x,lk ch k=some c0/\bz c0=some x/\s=.c x
end Go.Am
end
