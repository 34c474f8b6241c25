/- Part 1 of the proof of: TopMoveTold returns true for every input and never panics: a right log told in texts, and in two halves with the state told between them, gives the same state, and what is possible there is the same and not nothing; conditions: those of the given statement, that the package variables it lists hold what their initialisers lay. -/
import Derived.WideShapes
import Derived.ChangeArms
import Derived.OpenShut
import Derived.LaidLaws
import Derived.Lib.LaidTab
import Derived.Stop.LaidErr
import Derived.Maps.RangeWalk
import Derived.Test.YtcbabnbiinkafaaGreatDoorProg
import Derived.KernelRfl
import Derived.Test.YtcbabnbiinkafaaGreatDoorBu20
set_option linter.all false
set_option maxHeartbeats 8000000
set_option maxRecDepth 100000
section
namespace Go.Am
theorem dM.ownI {E:Env} {U:Nat->Prop} {h:Array Obj} {k:Nat} {c:Ch} (hc:dM E U h k c) {i:Nat} {q:Nat×TypeId×List (List C)} (hi:chI c i=some q) (hn:((E k).inn i).nil=false):(E k).fp ((E k).inn i).blk:=by
 cases c with
 | box cs=>exact (hc.2.1.fp _).2 (.inr ⟨i,q,hi,hn,rfl⟩)
 | row sz ty es=>cases hi
 | deep isz ity ty hole rows=>exact (hc.2.1.fp _).2 (.inr ⟨i,q,hi,hn,rfl⟩)
 | res R=>cases hi
end Go.Am
end
section
namespace Go.Am
variable {P : Program} [Glob P]
open Dat (cells)
theorem BN : ∀ l:List C,bL l l
 |[]=>trivial
 | a :: l=>⟨t7 a,BN l⟩
def Ent.of0 (id:FuncId) (res:C) (hk:dG [] res) (h:FC P id [] [] res []):Ent P where
 id:=id
 sp:=fun args chs=>match args,chs with
  |[],[]=>some (True,res,[],[])
  |_,_=>none
 ok:=by
  intro args chs p r chs' nk hs hp;split at hs
  . simp only[zn,zf]at hs;obtain⟨rfl,rfl,rfl,rfl⟩:=hs;exact⟨h,.plain hk⟩
  . cases hs
end Go.Am
end
section
namespace Go.Am
open Dat (cells)
variable {P : Program} [Glob P] {cx : Cx} {Q : ASt → Prop} {k : List It} {st : ASt}
theorem CP (c:C):aL (dn c)=true:=by cases c <;> rfl
theorem Dd {m:List (Nat×Sb)} (hm:iR m) {c:C} (h:aL c=true):aL (ah m c)=true:=by
 cases c with
 | own k=>
  simp only[ah];cases hl:m.lookup k with
  | none=>rfl
  | some s=>
   cases s with
   | c x=>exact hm k x hl
   | inner=>rfl
 | ptr k o=>simp only[ah];cases hl:m.lookup k with | none=>rfl | some s=>cases s <;> rfl
 | eptr k i j=>simp only[ah];cases hl:m.lookup k with | none=>rfl | some s=>cases s <;> rfl
 | inn k i=>simp only[ah];split <;> rfl
 | iptr k i n j=>simp only[ah];split <;> rfl
 | isl n t es=>cases h
 |_=>rfl
theorem dW.fzb (kk:Nat) {cs:List C} (hl:lk st.ch kk=some (.box cs)):dW P cx st (dB kk cs st):=fun E U a w hh=>by
 have hkm:=dH hl;have hi:=hh.inv;obtain⟨⟨hnil,arr,ty,b1,b2,b3⟩,hf,hin⟩:=hi.ok kk _ hkm
 let x:KE:={ E kk with fp:=fun b=>(E kk).nil=false/\(E kk).blk=b }
 let U':Nat->Prop:=fun b=>U b\/∃ i q,eK cs i=some q/\((E kk).inn i).nil=false/\((E kk).inn i).blk=b
 have hinfp:∀ b,(∃ i q,eK cs i=some q/\((E kk).inn i).nil=false/\((E kk).inn i).blk=b)->(E kk).fp b:=fun b h=>(hf.fp b).2 (.inr h)
 have hkeep:∀ b,U b->U' b/\w.heap[b]? = w.heap[b]?:=fun b hb=>⟨.inl hb,rfl⟩
 have henv:∀ k',[(kk,Sb.inner)].lookup k'=none->dQ E kk x k'=E k':=fun k' h=>by
  rw[fV]at h;split at h
  . cases h
  . exact d0 E x (by assumption)
 have henvI:∀ k',[(kk,Sb.inner)].lookup k'=some .inner->(dQ E kk x k').toKE0=(E k').toKE0:=fun k' h=>by
  rw[fV]at h;split at h
  . have e:k'=kk:=by assumption
    subst e;rw[updE_same]
  . cases h
 have hsub:∀ k' c',[(kk,Sb.inner)].lookup k'=some (.c c')->∀ v,Rep E U w.heap (.own k') v->Rep (dQ E kk x) U' w.heap c' v:=fun k' c' h=>by
  rw[fV]at h;split at h <;> cases h
 have hno:iR [(kk,Sb.inner)]:=fun k' x' h=>by rw[fV]at h;split at h <;> cases h
 have hrep:∀ c v,Rep E U w.heap c v->Rep (dQ E kk x) U' w.heap (ah [(kk,.inner)] c) v:=fun c v hr=>hr.mono hkeep henv henvI hsub
 have hd:∀ c,(kk,c)∉af st.ch kk:=fun c=>dZ hi.nd
 have hmem:∀ k' c,(k',c)∈af st.ch kk->(k',c)∈st.ch/\k'≠kk:=fun k' c h=>⟨eH h,fun e=>hd c (e ▸ h)⟩
 have hbI:eK ((cs.map dn).map (ah [(kk,.inner)]))=noI:=lj fun j c hj=>by
  simp only[zh,za]at hj;obtain⟨c1,⟨c0,_,rfl⟩,rfl⟩:=hj;exact Dd hno (CP c0)
 have hok:dM (dQ E kk x) U' w.heap kk (.box ((cs.map dn).map (ah [(kk,.inner)]))):=by
  simp only[dM,updE_same,hbI];refine⟨⟨hnil,arr,ty,b1,by simpa using b2,fun j c hj=>.inl ?_⟩,⟨fun b=>⟨fun h=>.inl h,fun h=>by rcases h with h | ⟨i,q,h,_⟩;exact h;cases h⟩,fun i q h=>(by cases h),fun i j q q' _ h=>(by cases h)⟩,fun i n t es h=>by cases h⟩;simp only[zh,za]at hj;obtain⟨c1,⟨c0,h0,rfl⟩,rfl⟩:=hj;rcases b3 j c0 h0 with⟨r1,r2⟩ | ⟨⟨n,t,es,rfl⟩,r2⟩
  . have hni:=pS r1;have:dn c0=c0:=by cases c0 <;> first | rfl | cases hni
    rw[this];exact⟨hrep _ _ r1,r2⟩
  . have hI:eK cs j=some (n,t,es):=by simp only[eK,h0,jW]
    refine⟨?_,by rw[r2];exact gu _⟩;rw[r2];exact .d (mM (hin j n t es hI) hkeep (fun hn=>⟨.inr ⟨j,_,hI,hn,rfl⟩,rfl⟩))
 have he:=Ev.gen (w1:=w) (E':=dQ E kk x) (U':=U') (news:=[(kk,.box ((cs.map dn).map (ah [(kk,.inner)])))]) (old:=af st.ch kk) (d:=0) hi rfl rfl rfl (zw _) (eu st.ch kk) hkeep henv henvI hsub (fun k' c h=>d0 E x (hmem k' c h).2)
  (fun _ _ _ _ _=>rfl) (fun _ _ _=>rfl) (by simp) (fun k' c h=>?_) (fun k' c h=>?_) (fun k' c h b hb=>?_) (fun k' c h b hb=>?_)
  (fun k1 x1 k2 x2 h1 h2 hne=>?_) (fun b hb=>?_) (fun k' c h b hb hu=>?_) (fun b hb=>?_) (fun k' cs' h=>?_)
 . exact⟨_,_,hh.ghost (by decide) he⟩
 . simp only[zg,zf]at h;obtain⟨rfl,rfl⟩:=h;exact hd
 . simp only[zg,zf]at h;obtain⟨rfl,rfl⟩:=h;exact hok
 . simp only[zg,zf]at h;obtain⟨rfl,rfl⟩:=h;rw[updE_same]at hb;exact .inr ⟨_,_,hkm,hd,(hf.fp b).2 (.inl hb)⟩
 . simp only[zg,zf]at h;obtain⟨rfl,rfl⟩:=h;rw[updE_same]at hb;exact hi.fpl _ _ hkm b ((hf.fp b).2 (.inl hb))
 . simp only[zg,zf]at h1 h2;exact absurd (h1.1.trans h2.1.symm) hne
 . rcases hb with hb | hb
   . exact .inl hb
   . exact .inr (.inr ⟨_,_,hkm,hd,hinfp b hb⟩)
 . simp only[zg,zf]at h;obtain⟨rfl,rfl⟩:=h;rw[updE_same]at hb;rcases hu with hu | ⟨i,q,h1,h2,h3⟩
   . exact hi.out _ _ hkm b ((hf.fp b).2 (.inl hb)) hu
   . exact hf.ne i q h1 h2 hb.1 (h3.trans hb.2.symm)
 . rcases hb with hb | hb
   . exact hi.lt b hb
   . exact hi.fpl _ _ hkm b (hinfp b hb)
 . simp only[zg,zf]at h;obtain⟨rfl,_⟩:=h;exact .inr ⟨⟨cs,hkm⟩,by rw[updE_same]⟩
theorem S_fzb (kk:Nat) {cs:List C} (hl:lk st.ch kk=some (.box cs)) (h:SG P cx Q k (dB kk cs st)):SG P cx Q k st:=fE (dW.fzb kk hl) h
end Go.Am
end
section
namespace Go.Am
open Dat (cells)
variable {P : Program}
theorem ReadsAs.arg {t e:TypeId} {α:Type} [DatL α] (h:ReadsAs P t (List α)) (ht:P.underlying t=some (.slice e)) {H:Type} {en:TypeId×Value->H} {W:World} {r:Reach} {base:Nat} {sp:Nat->Bool} {v:Value} {d:DataW H} {ps:List MemPlace}
 (hval:Value.okWide P W r base t v) (hd:DataW.Trod en P W 0 sp true t v d ps):∃ l:List α,∀ E,Rep E (fun b=>b < W.heap.size) W.heap (enc l) v:=by
 obtain⟨a,len,cap,rfl⟩:=WideShapes.okWide_slice ht hval;obtain⟨fuel,hf⟩:=hd;obtain⟨l,_,_,h3⟩:=h.rd en W sp fuel _ _ hf;exact⟨l,fun E=>.d (h3 0 _ rfl).1⟩
theorem ReadsP.arg {t e:TypeId} {α:Type} [DatL α] {p:List α->Prop} (h:ReadsP P t (List α) p) (ht:P.underlying t=some (.slice e)) {H:Type} {en:TypeId×Value->H} {W:World} {r:Reach} {base:Nat} {sp:Nat->Bool} {v:Value} {d:DataW H} {ps:List MemPlace}
 (hval:Value.okWide P W r base t v) (hd:DataW.Trod en P W 0 sp true t v d ps):∃ l:List α,p l/\∀ E,Rep E (fun b=>b < W.heap.size) W.heap (enc l) v:=by
 obtain⟨a,len,cap,rfl⟩:=WideShapes.okWide_slice ht hval;obtain⟨fuel,hf⟩:=hd;obtain⟨l,h0,_,_,h3⟩:=h.rd en W sp fuel _ _ hf;exact⟨l,h0,fun E=>.d (h3 0 _ rfl).1⟩
end Go.Am
end
section
namespace Go.Am
open Dat (cells)
variable {P : Program} {E : Env} {U : Nat → Prop} {w : World} {ch : Chs} {d : Nat}
theorem S_ren [Glob P] {cx:Cx} {Q:ASt->Prop} {k:List It} {st:ASt} (m:List (Nat×Nat)) (hk:ba (ag st.ch) st.ch=true) (hnd:ap ((ag st.ch).map (rn m))) (hbs:i7 m st.ch) (h:SG P cx Q k (renS m st)):SG P cx Q k st:=fE (dW.ren m hk hnd hbs) h
end Go.Am
end
section
namespace Go.Am
open Dat (cells)
variable {P : Program}
def DOf (D:DataW Unit) (m:Int->Option Int):Prop:=∀ x,Maps.has D (.int .i64 x)=(m x).isSome/\∀ c,m x=some c->∀ zd,D.atKey (.int .i64 x) zd=.lit (.int .i64 c)
def upd (m:Int->Option Int) (q c:Int):Int->Option Int:=fun x=>if x=q then some c else m x
def xR (P:Program) (k e:TypeId) (b n:Nat) (m:Int->Option Int):Res where
 φ:=fun F _ h=>(∀ x,F x↔x=b)/\∃ w:World,w.heap=h/\∃ D,w.ownsMap P k (plainElem P e) b n D/\DOf D m
 mono:=fun _ _ _ _ h' ⟨hF,w,hw,D,⟨es,clock,g1,g2,g3,g4⟩,hD⟩ _ hk=>⟨hF,{ w with heap:=h' },rfl,D,⟨es,clock,(hk b ((hF b).2 rfl)).trans (hw ▸ g1),g2,g3,g4⟩,hD⟩
def Bo (P:Program) (k e:TypeId) (b r n:Nat) (m:Int->Option Int) (left:Int->Bool) (cnt:Nat):Res where
 φ:=fun F _ h=>(∀ x,F x↔x=b\/x=r)/\∃ w:World,w.heap=h/\∃ D L,w.ranges P k (plainElem P e) b r n D L cnt/\DOf D m/\∀ x,L (.int .i64 x)=left x
 mono:=fun _ _ _ _ h' ⟨hF,w,hw,D,L,⟨es,clock,since,seen,c0,g1,g2,g3,g4,g5,g6⟩,hD⟩ _ hk=>⟨hF,{ w with heap:=h' },rfl,D,L,⟨es,clock,since,seen,c0,(hk b ((hF b).2 (.inl rfl))).trans (hw ▸ g1),g2,g3,g4,(hk r ((hF r).2 (.inr rfl))).trans (hw ▸ g5),g6⟩,hD⟩
theorem wA {own:Bool} {op o:Op} {ty ty':TypeId} (h:gS P own op ty=some (.opq o ty')):op=o/\ty=ty':=by
 unfold gS at h;split at h
 . cases h
 . cases op with
   | call c=>
    obtain⟨callee,args,argTypes⟩:=c;cases callee with
    | value f=>simp[eA]at h
    | invoke r m=>simp only[eA,zn,AOp.opq.injEq]at h;exact h
    | builtin b=>
     cases b <;> simp only[eA]at h
     case append=>
      split at h
      . split at h
        . simp only[zk]at h;obtain⟨i,_,z,_,h⟩:=h;split at h <;> cases h
        . cases h
      . cases h
     case len=>
      split at h
      . split at h <;> cases h
      . cases h
     all_goals cases h
   | buildSlice t len parts=>
    simp only[eA]at h;split at h
    . simp only[zk]at h;obtain⟨i,_,z,_,h⟩:=h;split at h <;> cases h
    . cases h
   | build t parts=>simp[eA,zk]at h
   | load t x=>simp[eA,zk]at h
   | binOp b t x y yt=>
    simp only[eA]at h;split at h <;> cases h
   | convert s t x=>
    simp only[eA]at h;split at h <;> cases h
   | makeSlice t l c=>
    simp only[eA]at h;split at h
    . simp only[zk]at h;obtain⟨i,_,z,_,h⟩:=h;split at h <;> cases h
    . cases h
   | slice t x lo hi mx=>
    simp only[eA]at h;split at h <;> simp at h;exact h
   | fieldAddr t x f=>
    simp only[eA]at h;split at h
    . simp only[zk]at h;obtain⟨i,_,z,_,h⟩:=h;split at h <;> cases h
    . cases h
   | field t x f=>
    simp only[eA]at h;split at h
    . simp[zk]at h
    . cases h
   | indexAddr t x i=>
    simp only[eA]at h;split at h
    . simp[zk]at h
    . simp at h
    . cases h
   | index t x i=>
    simp only[eA]at h;split at h <;> simp at h;exact h
   | move x=>cases own <;> simp[eA]at h
   | assign x=>cases own <;> simp[eA]at h
   | alloc t=>simp[eA]at h
   | store t a x=>simp[eA]at h
   |_=>simp only[eA,zn,AOp.opq.injEq,reduceCtorEq]at h <;> exact h
theorem DOf.start : DOf (.map []) fun _=>none:=fun x=>⟨rfl,fun c h=>by cases h⟩
theorem CK {x q:Int} (h:x≠q):(Lit.int .i64 x)≠.int .i64 q:=fun e=>h (by cases e;rfl)
theorem DOf.put {D:DataW Unit} {m:Int->Option Int} {q c:Int} (h:DOf D m) (hm:Maps.IsMap D):DOf (D.put (.int .i64 q) (.lit (.int .i64 c))) (upd m q c):=fun x=>by
 by_cases hx:x=q
 . subst hx;have hk:WideAt.IsKeyLit (.int .i64 x):=trivial;refine⟨by rw[Maps.has_put_same hm hk];simp[upd],fun c' hc zd=>?_⟩;simp only[upd,qj,zn]at hc;rw[Maps.atKey_put_same hm hk,hc]
 . refine⟨by rw[Maps.has_put_other (CK hx)];simpa[upd,hx]using (h x).1,fun c' hc zd=>?_⟩;rw[Maps.atKey_put_other (CK hx)];exact (h x).2 c' (by simpa[upd,hx]using hc) zd
end Go.Am
end
section
namespace Go.Am
open Dat (cells)
variable {P : Program}
variable [Glob P] {ro : Option Nat} {ρ : Operand → C} {ch : Chs} {d : Nat}
theorem OpM.mapNew {t k e ty:TypeId}:OpM P ro ρ ch d (.opq (.makeMap t none) ty) fun ef=>∃ b,ef=⟨True,.s (.map (some b)),(d,.res (xR P k e b 0 fun _=>none)) :: ae [(d,.c .any)] (af ch d),[(d,.c .any)]⟩:=by
 intro own o a E U w hc hi hg hρ K Q hK;obtain⟨ho,_⟩:=wA hc;refine vN (v:=.map (some w.heap.size)) (w':=w.alloc (.map #[] 0)) (fun c=>by rw[ho];simp) (by simp[execOp,ho,show (Instr.makeMap t none).run P w=.ok (.map (some w.heap.size)) (w.alloc (.map #[] 0))from rfl,Result.andThen]) ?_
 let x:KE:=⟨⟨w.heap.size,0,0,0,0,false⟩,fun _=>default,fun b=>b=w.heap.size⟩
 refine hK _ ⟨w.heap.size,rfl⟩ _ _ U _ (.d (.s _)) (Ev.one hi d x _ rfl rfl rfl (by simp) (fun b hb=>(MapKept.heap_alloc w _).2 b hb) (fun b hb=>?_) ?_)
 . have:b=w.heap.size:=hb;subst this;simp
 . simp only[dM,updE_same];exact⟨fun _=>Iff.rfl,w.alloc (.map #[] 0),rfl,_,World.ownsMap_made _ _ _ _,DOf.start⟩
theorem CZ {q:Int} (h:InR .i64 q):(Lit.int .i64 q).wf=true:=by
 have h':-9223372036854775808<=q/\q<=9223372036854775807:=h;simp[Lit.wf,IntKind.min,IntKind.max,IntKind.signed,IntKind.bits];omega
theorem OpM.mapGet {t k e ty:TypeId} {b n kr:Nat} {m:Int->Option Int} {x y:Operand} {q:Int} (T:MapTy P t k e) (hx:ρ x=.s (.map (some b))) (hy:ρ y=.s (.int .i64 q)) (hq:InR .i64 q) (hl:lk ch kr=some (.res (xR P k e b n m))) :
 OpM P ro ρ ch d (.opq (.lookup t x y true) ty) fun ef=>ef=⟨True,.tup [.s (.int .i64 ((m q).getD 0)),.s (.bool (m q).isSome)],ch,[]⟩:=by
 intro own o a E U w hc hi hg hρ K Q hK;obtain⟨ho,_⟩:=wA hc;have ex:a.eval x=.map (some b):=dK (hx ▸ hρ x (by simp[AOp.reads,Op.operands]));have ey:a.eval y=.int .i64 q:=dK (hy ▸ hρ y (by simp[AOp.reads,Op.operands]));obtain⟨hF,w0,hw0,D,hown,hD⟩:=hi.ok kr _ (dH hl);have hown':w.ownsMap P k (plainElem P e) b n D:=by
  obtain⟨es,clock,g1,g⟩:=hown;exact⟨es,clock,by rw[<- hw0];exact g1,g⟩
 obtain⟨v,ps,hrun,hR⟩:=hown'.look_ok (Maps.int_keyed T.hk) T.ht (T.hz w) (plainElem_int T.he rfl) (Maps.keyOf_int_mk T.hk (CZ hq));obtain⟨c,rfl,hc1,_⟩:=plainElem_int_inv T.he hR;refine vN (v:=.tuple #[.int .i64 c,.bool (Maps.has D (.int .i64 q))]) (w':=w) (fun c=>by rw[ho];simp) (by simp[execOp,ho,ex,ey,hrun,Result.andThen]) ?_;have hval:c=(m q).getD 0:=by
  cases hm:m q with
  | none=>
   have h0:=(hD q).1;rw[hm]at h0;have h1:D.atKey (.int .i64 q) (.lit (.int .i64 0))=.lit (.int .i64 c):=by simpa using congrArg Prod.fst hc1
   rw[Maps.atKey_of_not_has h0]at h1;cases h1;rfl
  | some c'=>
   have h1:D.atKey (.int .i64 q) (.lit (.int .i64 0))=.lit (.int .i64 c):=by simpa using congrArg Prod.fst hc1
   rw[(hD q).2 c' hm]at h1;cases h1;rfl
 refine hK _ rfl _ E U w (.tup _ _ rfl (fun j c' hj=>?_)) (Ev.refl hi d);rw[(hD q).1]
 match j,hj with
 | 0,hj=>cases hj;rw[hval];exact .d (.s _)
 | 1,hj=>cases hj;exact .d (.s _)
theorem yW {U F F':Nat->Prop} {E:Env} {w w':World} {kr:Nat} {R:Res} (hi:Inv E U w.heap ch) (hl:lk ch kr=some (.res R)) (hF:∀ x,(E kr).fp x↔F x) {j:Nat} (hj:F j) (hg:w.grownBy w' (some j))
 (hF':∀ x,F' x->F x\/(w.heap.size<=x/\x < w'.heap.size)):Moved U (E kr).fp w U F' w' where
 os:=hg.os
 tape:=hg.tape
 output:=hg.output
 size:=hg.size
 keep:=fun b hb=>⟨hb,hg.block b (hi.lt b hb) (fun e=>by cases e;exact hi.out kr _ (dH hl) _ ((hF _).2 hj) hb)⟩
 rest:=fun b hb hn=>hg.block b hb (fun e=>by cases e;exact hn ((hF _).2 hj))
 live:=fun b hb=>by
  rcases hF' b hb with h | h
  . exact .inr ((hF b).2 h)
  . exact .inl h.1
 newU:=fun b hb=>.inl hb
 out:=fun b hb hu=>by
  rcases hF' b hb with h | h
  . exact hi.out kr _ (dH hl) b ((hF b).2 h) hu
  . have:=hi.lt b hu;omega
 fpl:=fun b hb=>by
  rcases hF' b hb with h | h
  . have:=hi.fpl kr _ (dH hl) b ((hF b).2 h);have:=hg.size;omega
  . exact h.2
 lt:=fun b hb=>by have:=hi.lt b hb;have:=hg.size;omega
def xK (ch:Chs) (kr:Nat) (R:Res):Chs:=(kr,.res R) :: ae [(kr,.inner)] (af ch kr)
theorem OpM.mapPut {t k e ty:TypeId} {b n kr:Nat} {m:Int->Option Int} {x y v:Operand} {q c:Int} (T:MapTy P t k e) (hn:n < 9223372036854775807) (hx:ρ x=.s (.map (some b))) (hy:ρ y=.s (.int .i64 q)) (hv:ρ v=.s (.int .i64 c)) (hq:InR .i64 q) (hcR:InR .i64 c) (hl:lk ch kr=some (.res (xR P k e b n m))) :
 OpM P ro ρ ch d (.opq (.mapUpdate t x y v) ty) fun ef=>ef=⟨True,.s undef,xK ch kr (xR P k e b (n+1) (upd m q c)),[(kr,.inner)]⟩:=by
 intro own o a E U w hc hi hg hρ K Q hK;obtain⟨ho,_⟩:=wA hc;have ex:a.eval x=.map (some b):=dK (hx ▸ hρ x (by simp[AOp.reads,Op.operands]));have ey:a.eval y=.int .i64 q:=dK (hy ▸ hρ y (by simp[AOp.reads,Op.operands]));have ev:a.eval v=.int .i64 c:=dK (hv ▸ hρ v (by simp[AOp.reads,Op.operands]));obtain⟨hF,w0,hw0,D,hown,hD⟩:=hi.ok kr _ (dH hl);have hown':w.ownsMap P k (plainElem P e) b n D:=by
  obtain⟨es,clock,g1,g⟩:=hown;exact⟨es,clock,by rw[<- hw0];exact g1,g⟩
 obtain⟨w',hrun,h1,h2⟩:=hown'.update (Maps.int_keyed T.hk) T.ht hn (Maps.keyOf_int_mk T.hk (CZ hq)) (plainElem_int T.he (CZ hcR));refine op_skip (w':=w') (fun c=>by rw[ho];simp) (by simp[execOp,ho,ex,ey,ev,hrun,Result.andThen]) ?_;refine hK _ rfl _ _ U w' (.d (.s _)) (Ev.res (F':=fun x=>x=b) hi hl (yW hi hl hF rfl h2 (fun x hx=>.inl hx)) ?_ d);exact⟨fun _=>Iff.rfl,w',rfl,_,h1,hD.put hown'.isMap⟩
theorem OpM.mapRange {t k e ty:TypeId} {b n kr:Nat} {m:Int->Option Int} {x:Operand} (T:MapTy P t k e) (hx:ρ x=.s (.map (some b))) (hl:lk ch kr=some (.res (xR P k e b n m))) :
 OpM P ro ρ ch d (.opq (.range t x) ty) fun ef=>∃ r cnt,ef=⟨True,.s (.pointer (some ⟨r,0,none⟩)),xK ch kr (Bo P k e b r n m (fun x=>(m x).isSome) cnt),[(kr,.inner)]⟩:=by
 intro own o a E U w hc hi hg hρ K Q hK;obtain⟨ho,_⟩:=wA hc;have ex:a.eval x=.map (some b):=dK (hx ▸ hρ x (by simp[AOp.reads,Op.operands]));obtain⟨hF,w0,hw0,D,hown,hD⟩:=hi.ok kr _ (dH hl);have hown':w.ownsMap P k (plainElem P e) b n D:=by
  obtain⟨es,clock,g1,g⟩:=hown;exact⟨es,clock,by rw[<- hw0];exact g1,g⟩
 obtain⟨w',hrun,h1,h2,h3⟩:=hown'.range (Maps.int_keyed T.hk) T.ht;refine vN (v:=.pointer (some ⟨w.heap.size,0,none⟩)) (w':=w') (fun c=>by rw[ho];simp) (by simp[execOp,ho,ex,hrun,Result.andThen]) ?_;refine hK _ ⟨w.heap.size,Maps.size D,rfl⟩ _ _ U w' (.d (.s _)) (Ev.res (F':=fun x=>x=b\/x=w.heap.size) hi hl (yW hi hl hF rfl (h2.but (some b)) (fun x hx=>?_)) ?_ d)
 . rcases hx with h | h
   . exact .inl h
   . exact .inr ⟨by omega,by omega⟩
 . exact⟨fun _=>Iff.rfl,w',rfl,D,_,h1,hD,fun x=>(hD x).1⟩
end Go.Am
end
section
namespace Go.Am
open Dat (cells)
variable {P : Program} [Glob P] {ro : Option Nat} {ρ : Operand → C} {ch : Chs} {d : Nat}
inductive Lend (ch:Chs):C->C->Prop
 | same (c:C):Lend ch c c
 | any (c:C):Lend ch c .any
 | own {k:Nat} {c0:Ch} {x:C} (h:lk ch k=some c0) (hx:bz c0=some x):Lend ch (.own k) x
 | inn {k i n:Nat} {t:TypeId} {es:List (List C)} {q:Prop} (h:aN ch k i=some (q,n,t,es)) (hq:q):Lend ch (.inn k i) (.sl n es)
 | agg {cs cs':List C} (hl:cs.length=cs'.length) (h:∀ (j:Nat) (a b:C),cs[j]? = some a->cs'[j]? = some b->Lend ch a b):Lend ch (.agg cs) (.agg cs')
def wZ (ch:Chs):List C->List C->Prop
 |[],[]=>True
 | a :: l,b :: m=>Lend ch a b/\wZ ch l m
 |_,_=>False
def lntU (E:Env) (U:Nat->Prop) (ch:Chs):Nat->Prop:=fun b=>U b\/∃ k c,(k,c)∈ch/\(E k).fp b
theorem Lend.rep {E:Env} {U:Nat->Prop} {h:Array Obj} (hi:Inv E U h ch) {c c':C} (hl:Lend ch c c'):∀ {v:Value},Rep E U h c v->Rep E (lntU E U ch) h c' v:=by
 have hk:∀ b,U b->lntU E U ch b/\h[b]? = h[b]?:=fun b hb=>⟨.inl hb,rfl⟩
 induction hl with
 | same c=>exact fun hr=>hr.same hk
 | any c=>exact fun _=>.d (.any _)
 | own g hx=>exact fun hr=>.d (mJ (hi.ok _ _ (dH g)) hx hr hk (fun b hb=>⟨.inr ⟨_,_,dH g,hb⟩,rfl⟩))
 | inn g hq=>
  intro v hr;obtain⟨c0,g1,g2,_,g4⟩:=gL g hq;have hc:=hi.ok _ _ (dH g1);rw[kx hr];exact .d (mM ((hc.inns g4).2 _ _ _ _ g2) hk (fun hn=>⟨.inr ⟨_,_,dH g1,hc.ownI g2 hn⟩,rfl⟩))
 | agg hl h ih=>
  intro v hr;cases hr with
  | d hd=>cases hd
  | agg _ vs q1 q2 q3=>
   refine .agg _ vs (q1.trans hl) (fun j c hj=>?_) q3;have hlt:j < _:=(zi.1 hj).1;rw[<- hl]at hlt;exact ih j _ c (ze hlt) hj (q2 j _ (ze hlt))
theorem wZ.args {E:Env} {U:Nat->Prop} {h:Array Obj} (hi:Inv E U h ch):∀ {cs ds:List C} {vs:List Value},wZ ch cs ds->vs.length=cs.length->(∀ (j:Nat) (c:C),cs[j]? = some c->Rep E U h c (vs.getD j undef))->vs.length=ds.length/\∀ (j:Nat) (c:C),ds[j]? = some c->Rep E (lntU E U ch) h c (vs.getD j undef)
 |[],[],vs,_,hv,_=>⟨hv,fun j c hj=>by simp at hj⟩
 | a :: l,b :: m,[],_,hv,_=>by simp at hv
 | a :: l,b :: m,v :: vs,hL,hv,hr=>by
  obtain⟨h1,h2⟩:=wZ.args hi (vs:=vs) hL.2 (by simpa using hv) (fun j c hj=>hr (j+1) c hj);refine⟨by simp[h1],fun j c hj=>?_⟩;cases j with
  | zero=>cases hj;exact hL.1.rep hi (hr 0 _ rfl)
  | succ j=>exact h2 j c hj
 |[],_ :: _,_,hL,_,_=>hL.elim
 |_ :: _,[],_,hL,_,_=>hL.elim
def y6 (kow:Option Nat):C->Bool
 |.s _=>true
 |.any=>true
 |.own j=>decide (kow=some j)
 |_=>false
def Cd (kow:Option Nat):C->Bool
 |.agg cs=>cs.all (y6 kow)
 |.tup cs=>cs.all fun c=>match c with | .agg ds=>ds.all (y6 kow) | c=>y6 kow c
 | c=>y6 kow c
def renO (kow:Option Nat) (d:Nat):List (Nat×Nat):=match kow with | some k=>[(k,d)] | none=>[]
end Go.Am
end
section
namespace Go.Am
open Dat (cells)
variable {P : Program} [Glob P] {ro : Option Nat} {ρ : Operand → C} {ch : Chs} {d : Nat}
section
variable {E E' : Env} {U U' : Nat → Prop} {h h' : Array Obj} {kow : Option Nat}
theorem Ak (hk:∀ k,kow=some k->(E' d).toKE0=(E k).toKE0) {c:C} {v:Value} (hs:y6 kow c=true) (hr:Rep E U h c v):Rep E' U' h' (ak (renO kow d) c) v:=by
 cases c <;> simp only[y6,zr,qf]at hs
 . exact .d (.any _)
 . rename_i x;rw[dK hr];exact .d (.s _)
 . subst hs;rw[eS hr,<- hk _ rfl];simp only[renO,ak,rn,lk,qj,zN];exact .own d
theorem BW (hk:∀ k,kow=some k->(E' d).toKE0=(E k).toKE0) {cs:List C} {v:Value} (hs:cs.all (y6 kow)=true) (hr:Rep E U h (.agg cs) v):Rep E' U' h' (ak (renO kow d) (.agg cs)) v:=by
 cases hr with
 | d hd=>cases hd
 | agg _ vs q1 q2 q3=>
  simp only[ak,e8];refine .agg _ vs (by simpa using q1) (fun j c hj=>?_) q3;simp only[zh,za]at hj;obtain⟨c0,h0,rfl⟩:=hj;exact Ak hk (zx.1 hs c0 (zp h0)) (q2 j c0 h0)
theorem AU (hk:∀ k,kow=some k->(E' d).toKE0=(E k).toKE0) {c:C} {v:Value} (hs:Cd kow c=true) (hr:Rep E U h c v):Rep E' U' h' (ak (renO kow d) c) v:=by
 cases c with
 | agg cs=>exact BW hk hs hr
 | tup cs=>
  cases hr with
  | d hd=>cases hd
  | tup _ vs q1 q2=>
   simp only[ak,e8];refine .tup _ vs (by simpa using q1) (fun j c hj=>?_);simp only[zh,za]at hj;obtain⟨c0,h0,rfl⟩:=hj;have hs0:=zx.1 hs c0 (zp h0);have hq:=q2 j c0 h0;generalize vs.getD j undef=u at *;cases c0 with
   | agg ds=>exact BW hk hs0 hq
   |_=>exact Ak hk hs0 hq
 |_=>exact Ak hk hs hr
end
end Go.Am
end
section
namespace Go.Am
open Dat (cells)
variable {P : Program} [Glob P] {ro : Option Nat} {ρ : Operand → C} {ch : Chs} {d : Nat}
def CX (es:List (List C)):Prop:=∀ e∈es,∀ c∈e,∃ v,c=.s v
def Br : Ch->Prop
 |.row _ _ es=>CX es
 |.deep _ _ _ none rows=>∀ es∈rows,CX es
 |_=>False
theorem CV {U U':Nat->Prop} {h:Array Obj} {y:KE0} {sz:Nat} {ty:TypeId} {es:List (List C)} (hs:CX es) (hr:fa U h y sz ty es):fa U' h y sz ty es:=by
 obtain⟨h1,h2,h3,h4⟩:=hr;refine⟨h1,h2,h3,?_⟩;rcases h4 with h4 | ⟨h4,h5,h6,arr,h7,h8,h9⟩
 . exact .inl h4
 . refine .inr ⟨h4,h5,h6,arr,h7,h8,fun i e j c he hj=>⟨?_,(h9 i e j c he hj).2⟩⟩;obtain⟨v,rfl⟩:=hs e (zp he) c (zp hj);have:=(h9 i e j _ he hj).1;generalize arr.getD (y.off+i*sz+j) undef=u at *;cases this;exact .s _
theorem BX {E E':Env} {U U':Nat->Prop} {h:Array Obj} {k d:Nat} (hk:E' d=E k) {c:Ch} (hs:Br c) (hc:dM E U h k c):dM E' U' h d c:=by
 cases c with
 | row sz ty es=>
  simp only[dM,hk]at hc ⊢;exact⟨CV hs hc.1,hc.2⟩
 | deep isz ity ty hole rows=>
  cases hole with
  | some i=>exact hs.elim
  | none=>
   simp only[dM,hk]at hc ⊢;refine⟨hc.1,hc.2.1,fun i n t es hI=>CV ?_ (hc.2.2 i n t es hI)⟩;simp only[eh,reduceCtorEq,qi,za,zf]at hI;obtain⟨es',g1,rfl,rfl,rfl⟩:=hI;exact hs _ (zp g1)
 |_=>exact hs.elim
theorem lnt_inv {E:Env} {U:Nat->Prop} {h:Array Obj} (hi:Inv E U h ch):Inv E (lntU E U ch) h [] where
 nd:=by simp
 ok:=fun k c hm=>by simp at hm
 sep:=fun k c k' c' hm=>by simp at hm
 out:=fun k c hm=>by simp at hm
 fpl:=fun k c hm=>by simp at hm
 lt:=fun b hb=>by
  rcases hb with hb | ⟨k,c,h1,h2⟩
  . exact hi.lt b hb
  . exact hi.fpl k c h1 b h2
theorem DF : qA ch []:=fun k s h=>by simp at h
theorem Ag {f:FuncId} {cs ds:List C} {r:C} {chs:Chs} (hfc:FC P f ds [] r chs) (ha:wZ ch cs ds) {E:Env} {U:Nat->Prop} {w:World} {vs:Array Value} (hi:Inv E U w.heap ch) (hg:eT P U w.heap) (hargs:jo E U w.heap cs vs) :
 Calls P f vs w fun e w'=>∃ v E' U',e=.returned v/\Rep E' U' w'.heap r v/\CEv E (lntU E U ch) w [] E' U' w' chs:=by
 obtain⟨a1,a2⟩:=wZ.args hi (vs:=vs.toList) ha (by simpa using hargs.1) (fun j c hj=>by
  have:=hargs.2 j c hj
  rwa[zc,<- zM,<- zb]at this)
 refine hfc.2 E (lntU E U ch) vs w (hg.mono fun b hb=>⟨.inl hb,rfl⟩) ⟨by simpa using a1,fun j c hj=>?_⟩ (lnt_inv hi);have:=a2 j c hj;rwa[zb,zM,<- zc]at this
theorem OpM.lend0 {f:FuncId} {fo:Operand} {aS:List Operand} {ds:List C} {r:C} (hfc:FC P f ds [] r []) (hfo:ρ fo=.fn (.func f) [] []) (ha:wZ ch (aS.map ρ) ds) (hr:Cd none r=true) (hr0:ak [] r=r) :
 OpM P ro ρ ch d (.call fo aS) (fun ef=>ef=⟨True,r,ch,[]⟩):=by
 refine OpM.calls hfc.1 hfo (fun E U w vs hi hg hargs=>(Ag hfc ha hi hg hargs).mono fun e w' hh=>?_);obtain⟨v,E1,U1,he,hrep,hc⟩:=hh;have hev:=Ev.freeze (w1:=w') hi (DF (ch:=ch)) hc.os hc.tape hc.output hc.size (fun b hb=>hc.rest b hb (fun k c hm=>by simp at hm)) (fun _=>False) (fun b hb=>hb.elim) d;rw[j3]at hev;have hrep':=AU (E':=E) (U':=fun b=>U b\/False\/∃ k s,([]:List (Nat×Sb)).lookup k=some s/\(E k).fp b) (h':=w'.heap) (d:=d) (fun k hk=>by cases hk) hr hrep;exact⟨v,_,_,he,hr0 ▸ hrep',hev⟩
theorem OpM.lend1 {f:FuncId} {fo:Operand} {aS:List Operand} {ds:List C} {r:C} {k0:Nat} {c:Ch} (hfc:FC P f ds [] r [(k0,c)]) (hfo:ρ fo=.fn (.func f) [] []) (ha:wZ ch (aS.map ρ) ds) (hr:Cd (some k0) r=true) (hs:Br c) :
 OpM P ro ρ ch d (.call fo aS) (fun ef=>ef=⟨True,ak [(k0,d)] r,(d,c) :: ae [(d,.c .any)] (af ch d),[(d,.c .any)]⟩):=by
 refine OpM.calls hfc.1 hfo (fun E U w vs hi hg hargs=>(Ag hfc ha hi hg hargs).mono fun e w' hh=>?_);obtain⟨v,E1,U1,he,hrep,hc⟩:=hh;have hm:(k0,c)∈[(k0,c)]:=zg.2 rfl;have hev:=Ev.one (w1:=w') hi d (E1 k0) c hc.os hc.tape hc.output hc.size (fun b hb=>hc.rest b hb (fun k c hm=>by simp at hm))
  (fun b hb=>⟨(hc.live k0 c hm b hb).resolve_right (fun⟨k,c,h1,_⟩=>by simp at h1),hc.inv.fpl k0 c hm b hb⟩) (BX (updE_same _ _ _) hs (hc.inv.ok k0 c hm))
 have hrep':=AU (kow:=some k0) (E':=dQ E d (E1 k0)) (U':=U) (h':=w'.heap) (d:=d) (fun k hk=>by cases hk;rw[updE_same]) hr hrep;exact⟨v,_,_,he,hrep',hev⟩
theorem wZ.same : ∀ cs:List C,wZ ch cs cs
 |[]=>trivial
 |_ :: l=>⟨.same _,wZ.same l⟩
theorem FC.own {f:FuncId} {ds:List C} {r:C} {n:Nat} {t:TypeId} {es:List (List C)} {chs:Chs} (hfc:FC P f (.sl n es :: ds) [] r chs) (hk:∀ k c,(k,c)∈chs->k≠100000):FC P f (.own 100000 :: ds) [(100000,.row n t es)] r chs:=by
 refine⟨hfc.1,fun E U vs w hg hargs hi=>?_⟩;have ha:wZ [(100000,.row n t es)] (.own 100000 :: ds) (.sl n es :: ds):=⟨.own (c0:=.row n t es) rfl rfl,wZ.same ds⟩;refine (Ag hfc ha hi hg hargs).mono fun e w' hh=>?_
 obtain⟨v,E1,U1,he,hrep,hc⟩:=hh;refine⟨v,E1,U1,he,hrep,⟨hc.os,hc.tape,hc.output,hc.size,fun b hb=>hc.keep b (.inl hb),fun b hb _=>hc.rest b hb (fun k c hm=>by simp at hm),fun k c hm b hb=>.inl ((hc.live k c hm b hb).resolve_right fun⟨_,_,q,_⟩=>by simp at q),fun b hb=>?_,fun k cs hm ⟨c,q⟩=>?_,hc.inv⟩⟩
 . rcases hc.newU b hb with (q | q) | q | ⟨_,_,q,_⟩
   . exact .inl q
   . exact .inr (.inr q)
   . exact .inr (.inl q)
   . simp at q
 . simp only[zg,zf]at q;exact absurd q.1 (hk k _ hm)
theorem FC.frz {f:FuncId} {cs:List C} {r x:C} {k:Nat} {c:Ch} (hfc:FC P f cs [] r [(k,c)]) (hx:bz c=some x):FC P f cs [] (ah [(k,.c x)] r) []:=by
 refine⟨hfc.1,fun E U vs w hg hargs hi=>(hfc.2 E U vs w hg hargs hi).mono fun e w' hh=>?_⟩;obtain⟨v,E1,U1,he,hrep,hc⟩:=hh;have hfz:qA [(k,c)] [(k,.c x)]:=fun k' s hs=>by
  rw[fV]at hs;split at hs
  . rename_i e;subst e;cases hs;exact⟨c,x,by simp[lk],hx,rfl⟩
  . cases hs
 have hev:=Ev.freeze (w1:=w') hc.inv hfz rfl rfl rfl (zw _) (fun b _=>rfl) (fun _=>False) (fun b hb=>hb.elim) 0;have hnil:ae [(k,.c x)] (aB [(k,c)] [(k,Sb.c x)])=[]:=by simp[aB,af,ae]
 rw[hnil]at hev;refine⟨v,_,_,he,hev.rep hrep,⟨hc.os,hc.tape,hc.output,hc.size,fun b hb=>⟨(hev.keep b (hc.keep b hb).1).1,(hc.keep b hb).2⟩,hc.rest,fun k c hm=>by simp at hm,fun b hb=>?_,fun k cs hm=>by simp at hm,hev.inv⟩⟩;rcases hev.newU b hb with q | q | ⟨k',c',q,h2⟩
 . exact hc.newU b q
 . have:=hc.size;exact .inr (.inl (by omega))
 . exact .inr (.inl ((hc.live k' c' q b h2).resolve_right fun⟨_,_,q,_⟩=>by simp at q))
theorem FC.rekey {f:FuncId} {cs:List C} {r:C} {k:Nat} {c:Ch} (hfc:FC P f cs [] r [(k,c)]) (k':Nat) (hr:Cd (some k) r=true) (hs:Br c):FC P f cs [] (ak [(k,k')] r) [(k',c)]:=by
 refine⟨hfc.1,fun E U vs w hg hargs hi=>(hfc.2 E U vs w hg hargs hi).mono fun e w' hh=>?_⟩;obtain⟨v,E1,U1,he,hrep,hc⟩:=hh;have hm:(k,c)∈[(k,c)]:=zg.2 rfl;have h1:∀ j x,(j,x)∈[(k',c)]->j=k'/\x=c:=fun j x h=>by simpa using h
 refine⟨v,dQ E1 k' (E1 k),U1,he,AU (kow:=some k) (fun j hj=>by cases hj;rw[updE_same]) hr hrep,⟨hc.os,hc.tape,hc.output,hc.size,hc.keep,hc.rest,fun j x hj b hb=>?_,hc.newU,fun j xs hj ⟨_,q⟩=>(by simp at q),⟨by simp,fun j x hj=>?_,fun j x j' x' hj hj' hne=>?_,fun j x hj b hb=>?_,fun j x hj b hb=>?_,hc.inv.lt⟩⟩⟩
 . obtain⟨rfl,rfl⟩:=h1 j x hj;rw[updE_same]at hb;exact hc.live k x hm b hb
 . obtain⟨rfl,rfl⟩:=h1 j x hj;exact BX (updE_same _ _ _) hs (hc.inv.ok k x hm)
 . exact absurd ((h1 j x hj).1.trans (h1 j' x' hj').1.symm) hne
 . obtain⟨rfl,rfl⟩:=h1 j x hj;rw[updE_same]at hb;exact hc.inv.out k x hm b hb
 . obtain⟨rfl,rfl⟩:=h1 j x hj;rw[updE_same]at hb;exact hc.inv.fpl k x hm b hb
def CG : Operand->Bool
 |.const (.slice none 0 0)=>true
 |_=>false
def CO (d1:Nat) (ρ:Operand->C):Operand->C:=fun z=>if CG z=true then .own d1 else ah [(d1,.c .any)] (ρ z)
theorem OpM.nilled {op:AOp} {ef:Eff} (d1 n:Nat) (ty:TypeId) (hd:d1 < 100000) (h:OpR P (CO d1 ρ) ((d1,.row n ty []) :: ae [(d1,.c .any)] (af ch d1)) d op ef) :
 OpM P ro ρ ch d op (fun e=>e=⟨True,ef.v,ef.ch,a6 [(d1,.c .any)] ef.sub⟩):=by
 intro own o a E U w hc hi hg hρ K Q hK;have hev:=Ev.freshNil hi d1 (ke0 ⟨0,0,0,0,n,true⟩) (.row n ty []) (fun b hb=>by cases ((gn (y:=⟨0,0,0,0,n,true⟩)).fp b).1 hb with | inl q=>cases q.1 | inr q=>obtain⟨_,_,q,_⟩:=q;cases q) (vH (c0:=.row n ty []) rfl);refine h.sound hc hev.inv hg (fun x hx=>?_) (fun v E' U' w' hr hev2=>hK _ rfl v E' U' w' hr (hev.trans hev2 hd));unfold CO;split
 . rename_i hn;unfold CG at hn;split at hn
   . have:=Rep.own (E:=dQ E d1 (ke0 ⟨0,0,0,0,n,true⟩)) (U:=U) (h:=w.heap) d1;rw[updE_same]at this;exact this
   . cases hn
 . exact hev.rep (hρ x hx)
mutual
theorem B2 : ∀ (c:C),aD ch [] c=c
 |.agg cs=>by simp only[aD];rw[Bs cs]
 |.own k=>by simp[aD]
 |.inn k i=>by simp[aD]
 |.any=>rfl
 |.s _=>rfl
 |.sl _ _=>rfl
 |.ref _=>rfl
 |.tup _=>rfl
 |.fn _ _ _=>rfl
 |.ptr _ _=>rfl
 |.eptr _ _ _=>rfl
 |.isl _ _ _=>rfl
 |.iptr _ _ _ _=>rfl
theorem Bs : ∀ (cs:List C),aD.viewCs ch [] cs=cs
 |[]=>rfl
 | c :: cs=>by simp only[aD.viewCs];rw[B2 c,Bs cs]
end
mutual
theorem Bt : ∀ (c:C),aY ch [] c
 |.agg cs=>by simp only[aY];exact AH cs
 |.inn k i=>by simp[aY]
 |.own k=>trivial
 |.any=>trivial
 |.s _=>trivial
 |.sl _ _=>trivial
 |.ref _=>trivial
 |.tup _=>trivial
 |.fn _ _ _=>trivial
 |.ptr _ _=>trivial
 |.eptr _ _ _=>trivial
 |.isl _ _ _=>trivial
 |.iptr _ _ _ _=>trivial
theorem AH : ∀ (cs:List C),aY.viewOks ch [] cs
 |[]=>trivial
 | c :: cs=>⟨Bt c,AH cs⟩
end
theorem OpR.give {fo:Operand} {aS:List Operand} {f:FuncId} {ds:List C} {r:C} {k:Nat} {c:Ch} (hf:ρ fo=.fn (.func f) [] []) (h:FC P f ds [(k,c)] r []) (hd:aS.map ρ=ds) (hl:lk ch k=some c) (hb:∀ cs,c≠.box cs) (hr:dG [] r) :
 OpR P ρ ch d (.call fo aS) ⟨True,r,a7 ch [(k,c)] [] [],az [] [(k,c)]⟩:=by
 refine .call ⟨⟨f,[],[],[],by rw[hf];rfl,?_,fun c _=>Bt c,fun k' c' hm=>?_,.inl rfl⟩,by simp,fun k cs hm=>by simp at hm,fun k cs hm=>by simp at hm,fun k' cs hm=>?_,hr,fun k c hm=>by simp at hm⟩
 . have e:([]++aS.map ρ++[]).map (aD ch [])=ds:=by
    rw[<- hd];simp only[yb,z4,zT];exact zH fun x _=>B2 _
   rw[e];exact h
 . simp only[zg,zf]at hm;obtain⟨rfl,rfl⟩:=hm;exact⟨hl,by simp,by simp⟩
 . simp only[zg,zf]at hm;exact absurd hm.2.symm (hb cs)
end Go.Am
end
section
namespace Go.Am
open Dat (cells)
variable {P : Program} [Glob P] {ro : Option Nat} {ρ : Operand → C} {ch : Chs} {d : Nat}
section
variable {cx : Cx} {Q : ASt → Prop} {k : List It} {st : ASt}
def AX (pur:List Nat) (op:AOp) (j:Nat) (ef:Eff) (E:EL):EL:=match av pur j with | true=>E | false=>lP op j ef E
def xF (P:Program) [Glob P] (L:List (Ent P)) (cx:Cx) (Q:ASt->Prop) (k:List It) (rb:List Nat) (all:List AO) (s0:ASt) (pur:List Nat):Nat->Md->List AO->ASt->Nat->List C->EL->Prop
 |_+1,.run,[],_,_,vs,E=>mFin2 P L cx Q k rb all s0 vs E
 | n+1,.run,⟨dst,none,op,tot⟩ :: os,s,j,vs,E=>xF P L cx Q k rb all s0 pur n (.eff (ai (aq P s.t) s.ch (dst.getD 0) op)) (⟨dst,none,op,tot⟩ :: os) s j vs E
 | n+1,.eff (some ef),⟨dst,none,op,_⟩ :: os,s,j,vs,E=>xF P L cx Q k rb all s0 pur n .run os ⟨aU dst ef.sub ef.v s.t,ef.ch⟩ (j+1) (vs++[ef.v]) (AX pur op j ef E)
 | n+1,.eff none,⟨dst,none,op,tot⟩ :: os,s,j,vs,E=>xF P L cx Q k rb all s0 pur n (aE L (aq P s.t) s.ch (dst.getD 0) op) (⟨dst,none,op,tot⟩ :: os) s j vs E
 | n+1,.cal (.eff ef),⟨dst,none,op,_⟩ :: os,s,j,vs,E=>xF P L cx Q k rb all s0 pur n .run os ⟨aU dst ef.sub ef.v s.t,ef.ch⟩ (j+1) (vs++[ef.v]) (AX pur op j ef E)
 |_,_,_,_,_,_,_=>False
theorem DD {L:List (Ent P)} {rb:List Nat} {all:List AO} {s0:ASt} {pur:List Nat}:∀ (n:Nat) (m:Md) (os:List AO) (s:ASt) (j:Nat) (vs:List C) (E:EL),xF P L cx Q k rb all s0 pur n m os s j vs E->SG P cx Q (.c (.draw 999 rb all) :: k) s0:=by
 intro n
 induction n with
 | zero=>intro m os s j vs E h;simp[xF]at h
 | succ n ih=>
  intro m os s j vs E h;cases os with
  | nil=>
   cases m <;> simp only[xF]at h;obtain⟨h0,h1,h2,h3,h4⟩:=h;exact uP h0 h1 h2 h3 h4
  | cons o os=>
   unfold xF at h;split at h <;> first | exact h.elim | exact ih _ _ _ _ _ _ h | (simp at*<;> (subst_vars;exact ih _ _ _ _ _ _ h))
theorem AJ {rb:List Nat} {os:List AO} (L:List (Ent P)) (n:Nat) (pur:List Nat) (h:xF P L cx Q k rb os st pur n .run os st 0 [] []):SG P cx Q (.c (.draw 999 rb os) :: k) st:=
 DD n .run os st 0 [] [] h
end
end Go.Am
end
section
namespace Go.Am
open Dat (cells)
variable {P : Program} [Glob P] {cx : Cx} {Q : ASt → Prop} {k : List It} {st : ASt}
def readOkR (rb:List Nat) (os:List AO):Bool:=os.zipIdx.all fun (o,j)=>o.slots.all fun x=>os.zipIdx.all fun (q,i)=>q.dst != some x || rb.contains (100*i+j)
def chkR (rb:List Nat) (os:List AO):Bool:=pZ os && (readOkR rb os && decide (os.length<=100))
def wQ (t:dJ) (ch:Chs) (v:C) (ef:Eff):Prop:=ef.cond/\ef.v=v/\br ch ef.ch/\bq ef.sub t=t
def xH (t:dJ) (ch:Chs) (v:C):Md->Prop
 |.cal (.eff ef)=>wQ t ch v ef
 |_=>False
def xG (P:Program) [Glob P] (L:List (Ent P)) (t:dJ) (ch:Chs) (d:Nat) (op:AOp) (v:C):Option Eff->Prop
 | some ef=>wQ t ch v ef
 | none=>xH t ch v (aE L (aq P t) ch d op)
def stR (P:Program) [Glob P] (L:List (Ent P)) (t:dJ) (ch:Chs) (o:AO) (v:C):Option Bool->Prop
 | some false=>v=.s undef
 | some true=>xG P L t ch (o.dst.getD 0) o.op v (ai (aq P t) ch (o.dst.getD 0) o.op)
 | none=>False
def xn (P:Program) [Glob P] (L:List (Ent P)) (t:dJ) (ch:Chs):List AO->List C->Prop
 | o :: os,v :: vs=>stR P L t ch o v (fe t o.guard)/\xn P L t ch os vs
 |[],[]=>True
 |_,_=>False
theorem AG : ∀ {a ch:Chs},(∀ p∈a,lk ch p.1=some p.2)->br a ch
 |[],_,_=>trivial
 | (k,c) :: r,ch,h=>⟨h (k,c) (by simp),AG fun p hp=>h p (by simp[hp])⟩
theorem Fq {L:List (Ent P)} {t:dJ} {ch:Chs} {o:AO} {v:C} (hn:(ch.map (·.1)).Nodup) (h:stR P L t ch o v (fe t o.guard)):∃ ef,StepE P o ⟨t,ch⟩ ef/\ef.v=v/\br ch ef.ch/\bq ef.sub t=t:=by
 cases hw:fe t o.guard with
 | none=>rw[hw]at h;exact h.elim
 | some b=>
  rw[hw]at h;cases b with
  | false=>exact⟨_,.no hw,h.symm,AG fun p hp=>eR hn hp,rfl⟩
  | true=>
   simp only[stR]at h;cases hq:ai (aq P t) ch (o.dst.getD 0) o.op with
   | some ef=>
    rw[hq]at h;obtain⟨h1,h2,h3,h4⟩:=h;exact⟨ef,.yes ef hw (.f hq h1),h2,h3,h4⟩
   | none=>
    rw[hq]at h;simp only[xG]at h;unfold xH at h;split at h
    . rename_i ef hm;obtain⟨h1,h2,h3,h4⟩:=h;exact⟨⟨True,ef.v,ef.ch,ef.sub⟩,.yes _ hw (jh hm h1),h2,h3,h4⟩
    . exact h.elim
theorem Dt {L:List (Ent P)} {t:dJ} {ch:Chs} (hn:(ch.map (·.1)).Nodup):∀ {os:List AO} {vs:List C},xn P L t ch os vs->os.length=vs.length/\∀ (j:Nat) o,os[j]? = some o->∃ v,vs[j]? = some v/\∃ ef,StepE P o ⟨t,ch⟩ ef/\ef.v=v/\br ch ef.ch/\bq ef.sub t=t
 |[],[],_=>⟨rfl,fun j o h=>by simp at h⟩
 | o :: os,v :: vs,h=>by
  obtain⟨g1,g2⟩:=Dt hn h.2;refine⟨by simp[g1],fun j q hq=>?_⟩;cases j with
  | zero=>
   simp only[zD,zn]at hq;subst hq;exact⟨v,rfl,Fq hn h.1⟩
  | succ j=>
   obtain⟨v',e1,e2⟩:=g2 j q (by simpa using hq);exact⟨v',by simpa using e1,e2⟩
 |[],_ :: _,h=>h.elim
 |_ :: _,[],h=>h.elim
theorem xt (t:dJ) (S:Nat->Bool) (x:Nat):∀ (os:List AO) (vs:List C) (i:Nat),(∀ (j:Nat) o,os[j]? = some o->o.dst=some x->S (i+j)=true)->gt (ge S t i os vs) x=gt (gJ t os vs) x
 |[],_,_,_=>by simp[ge,gJ]
 |_ :: _,[],_,_=>by simp[ge,gJ]
 | o :: os,v :: vs,i,h=>by
  have ih:=xt t S x os vs (i+1) (fun j q hq hx=>by rw[show i+1+j=i+(j+1) by omega];exact h (j+1) q (by simpa using hq) hx);cases hd:o.dst with
  | none=>simp only[ge,gJ,hd];exact ih
  | some d=>
   simp only[ge,gJ,hd,eE];by_cases hx:d=x
   . have h0:=h 0 o rfl (by rw[hd,hx]);rw[zL]at h0;simp[hx,h0]
   . simp[hx,ih]
theorem S_quiet {rb:List Nat} {os:List AO} {L:List (Ent P)} {vs:List C} (hchk:chkR rb os=true) (hn0:ap (ag st.ch)) (hops:xn P L (gJ st.t os vs) st.ch os vs) (hend:SG P cx Q k ⟨gJ st.t os vs,st.ch⟩):SG P cx Q (.c (.draw 999 rb os) :: k) st:=by
 simp only[chkR,zm,qf]at hchk;obtain⟨k1,k2,k3⟩:=hchk;have k1:(os.filterMap (·.dst)).Nodup:=by simpa[pZ]using k1
 have hnd:(st.ch.map (·.1)).Nodup:=by rw[<- dT];exact dY hn0
 obtain⟨l1,l2⟩:=Dt hnd hops;have uniq:∀ (i j:Nat) (o q:AO) (x:Nat),os[i]? = some o->os[j]? = some q->o.dst=some x->q.dst=some x->i=j:=fun i j o q x h1 h2 h3 h4=>by
  rcases yr i j with h | h | h
  . exact (gF k1 i j h o q x h1 h2 h3 h4).elim
  . exact h
  . exact (gF k1 j i h q o x h2 h1 h4 h3).elim
 have hall:∀ x,gt (gJ st.t os vs) x=gt (ge (fun _=>true) st.t 0 os vs) x:=fun x=>(xt st.t (fun _=>true) x os vs 0 (fun _ _ _ _=>rfl)).symm
 have hlk:∀ p∈st.ch,lk st.ch p.1=some p.2:=fun p hp=>eR hnd hp
 refine mz (T:=fun S=>⟨ge S st.t 0 os vs,st.ch⟩) ⟨fun x=>?_,hnd,hlk⟩ (fun S j ao hj hSj hp hs=>?_) (fun S hS=>?_)
 . rcases ii st.t (fun _=>false) x os vs 0 l1 k1 with⟨_,_,_,_,_,_,h⟩ | ⟨_,h⟩
   . exact .inl (by simpa using h)
   . exact .inr h.symm
 . obtain⟨v,hv,ef,hst,hev,hch,hsub⟩:=l2 j ao hj;have hj100:j < 100:=by have:=(zi.1 hj).1;omega
   have hcon:∀ i∈ao.slots,gt (gJ st.t os vs) i=gt (ge S st.t 0 os vs) i:=fun x hx=>by
    refine (xt st.t S x os vs 0 (fun i q hq hd=>?_)).symm;have h1:=zx.1 k2 (ao,j) (by rw[zG];exact hj);have h2:=zx.1 h1 x hx;have h3:=zx.1 h2 (q,i) (by rw[zG];exact hq);simp only[hd,bne_self_eq_false,zF]at h3;have:=hp (100*i+j) (List.contains_iff_mem.1 h3) (by omega);rw[show (100*i+j) / 100=i by omega]at this;rw[zz];exact this
   refine⟨ef,hst.congr hcon rfl,.of_le ⟨fun x=>?_,hnd,fun p hp=>fT hch p hp⟩⟩;show gt (ge (fun i=>i == j || S i) st.t 0 os vs) x=.any\/gt (aU ao.dst ef.sub ef.v (ge S st.t 0 os vs)) x=gt (ge (fun i=>i == j || S i) st.t 0 os vs) x
   rw[fm];have hsx:ah ef.sub (gt (gJ st.t os vs) x)=gt (gJ st.t os vs) x:=by rw[<- ie,hsub]
   by_cases hd:ao.dst=some x
   . rw[qb hd];right;rcases ii st.t (fun i=>i == j || S i) x os vs 0 l1 k1 with⟨j',o',v',e1,e2,e3,e4⟩ | ⟨e1,_⟩
     . obtain rfl:=uniq j' j o' ao x e1 hj e3 hd;rw[hv]at e2;cases e2;rw[e4,hev];simp
     . exact absurd hd (e1 ao (zp hj))
   . rw[qa hd];rcases ii st.t (fun i=>i == j || S i) x os vs 0 l1 k1 with⟨j',o',v',e1,e2,e3,e4⟩ | ⟨e1,e2⟩
     . have hne:j'≠j:=fun e=>by
        subst e;rw[hj]at e1;cases e1;exact hd e3
       cases hs':S j' with
       | false=>left;rw[e4];simp[hne,hs']
       | true=>
        right
        have e5:gt (ge S st.t 0 os vs) x=gt (gJ st.t os vs) x:=xt st.t S x os vs 0 (fun i q hq hdq=>by
         rw[uniq i j' q o' x hq e1 hdq e3,zz];exact hs')
        have e6:gt (ge (fun i=>i == j || S i) st.t 0 os vs) x=gt (gJ st.t os vs) x:=xt st.t _ x os vs 0 (fun i q hq hdq=>by
         rw[uniq i j' q o' x hq e1 hdq e3,zz];simp[hs'])
        rw[e5,e6,hsx]
     . right;have e5:gt (ge S st.t 0 os vs) x=gt (gJ st.t os vs) x:=xt st.t S x os vs 0 (fun i q hq hdq=>absurd hdq (e1 q (zp hq)));have e6:gt (ge (fun i=>i == j || S i) st.t 0 os vs) x=gt (gJ st.t os vs) x:=xt st.t _ x os vs 0 (fun i q hq hdq=>absurd hdq (e1 q (zp hq)));rw[e5,e6,hsx]
 . have:ge S st.t 0 os vs=gJ st.t os vs:=mP st.t S os vs 0 (fun j hj=>by rw[zz];exact hS j hj);rw[this];exact hend
inductive MR where
 | run
 | g (b:Option Bool)
 | eff (e:Option Eff)
 | cal (m:Md)
def xO (P:Program) [Glob P] (L:List (Ent P)) (cx:Cx) (Q:ASt->Prop) (k:List It) (rb:List Nat) (all:List AO) (s0:ASt) (vs:List C):Prop:=
 chkR rb all=true/\ap (ag s0.ch)/\xn P L (gJ s0.t all vs) s0.ch all vs/\SG P cx Q k ⟨gJ s0.t all vs,s0.ch⟩
def drR (P:Program) [Glob P] (L:List (Ent P)) (cx:Cx) (Q:ASt->Prop) (k:List It) (rb:List Nat) (all:List AO) (s0:ASt):Nat->MR->List AO->dJ->List C->Prop
 |_+1,.run,[],_,vs=>xO P L cx Q k rb all s0 vs
 | n+1,.run,⟨dst,g,op,tot⟩ :: os,t,vs=>drR P L cx Q k rb all s0 n (.g (fe t g)) (⟨dst,g,op,tot⟩ :: os) t vs
 | n+1,.g (some false),⟨dst,_,_,_⟩ :: os,t,vs=>drR P L cx Q k rb all s0 n .run os (aU dst [] (.s undef) t) (vs++[.s undef])
 | n+1,.g (some true),⟨dst,g,op,tot⟩ :: os,t,vs=>drR P L cx Q k rb all s0 n (.eff (ai (aq P t) s0.ch (dst.getD 0) op)) (⟨dst,g,op,tot⟩ :: os) t vs
 | n+1,.eff (some ef),⟨dst,_,_,_⟩ :: os,t,vs=>drR P L cx Q k rb all s0 n .run os (aU dst [] ef.v t) (vs++[ef.v])
 | n+1,.eff none,⟨dst,g,op,tot⟩ :: os,t,vs=>drR P L cx Q k rb all s0 n (.cal (aE L (aq P t) s0.ch (dst.getD 0) op)) (⟨dst,g,op,tot⟩ :: os) t vs
 | n+1,.cal (.cal (.eff ef)),⟨dst,_,_,_⟩ :: os,t,vs=>drR P L cx Q k rb all s0 n .run os (aU dst [] ef.v t) (vs++[ef.v])
 |_,_,_,_,_=>False
theorem D9 {L:List (Ent P)} {rb:List Nat} {all:List AO} {s0:ASt}:∀ (n:Nat) (m:MR) (os:List AO) (t:dJ) (vs:List C),drR P L cx Q k rb all s0 n m os t vs->SG P cx Q (.c (.draw 999 rb all) :: k) s0:=by
 intro n
 induction n with
 | zero=>intro m os t vs h;simp[drR]at h
 | succ n ih=>
  intro m os t vs h;cases os with
  | nil=>
   cases m <;> simp only[drR]at h;obtain⟨h0,h1,h2,h3⟩:=h;exact S_quiet h0 h1 h2 h3
  | cons o os=>
   unfold drR at h;split at h <;> first | exact h.elim | exact ih _ _ _ _ h | (simp at*<;> (subst_vars;exact ih _ _ _ _ h))
theorem Dh {rb:List Nat} {os:List AO} (L:List (Ent P)) (n:Nat) (h:drR P L cx Q k rb os st n .run os st.t []):SG P cx Q (.c (.draw 999 rb os) :: k) st:=
 D9 n .run os st.t [] h
end Go.Am
end
section
namespace Go.Am
open Dat (cells)
variable {P : Program} [Glob P] {ro : Option Nat} {ρ : Operand → C} {ch : Chs} {d : Nat}
def rngAt (P:Program) (k e:TypeId) (b r n:Nat) (m:Int->Option Int) (left:Int->Bool) (cnt:Nat) (z c:Int):Res where
 φ:=fun F _ h=>(∀ x,F x↔x=b\/x=r)/\(∃ w:World,w.heap=h/\∃ D L,w.ranges P k (plainElem P e) b r n D L cnt/\DOf D m/\∀ x,L (.int .i64 x)=left x) /\
  ∀ w2:World,w2.heap[b]? = h[b]?->w2.heap[r]? = h[r]?->(Instr.entry (.pointer (some ⟨r,0,none⟩))).run P w2=.ok (.tuple #[.int .i64 z,.int .i64 c]) w2
 mono:=fun F _ h _ h' ⟨hF,⟨w,hw,D,L,⟨es,clock,since,seen,c0,g1,g2,g3,g4,g5,g6⟩,hD⟩,hE⟩ _ hk=>⟨hF,⟨{ w with heap:=h' },rfl,D,L,⟨es,clock,since,seen,c0,(hk b ((hF b).2 (.inl rfl))).trans (hw ▸ g1),g2,g3,g4,(hk r ((hF r).2 (.inr rfl))).trans (hw ▸ g5),g6⟩,hD⟩,
  fun w2 q1 q2=>hE w2 (q1.trans (hk b ((hF b).2 (.inl rfl)))) (q2.trans (hk r ((hF r).2 (.inr rfl))))⟩
theorem Eo {w:World} {r b since c0 clock:Nat} {seen:Array Nat} {es:Array MapEntry} {v:Value} (hb:w.heap[b]? = some (.map es clock)) (hr:w.heap[r]? = some (.mapIter (some b) since seen c0))
 (h:(Instr.entry (.pointer (some ⟨r,0,none⟩))).run P w=.ok v w) {w2:World} (h1:w2.heap[b]? = w.heap[b]?) (h2:w2.heap[r]? = w.heap[r]?):(Instr.entry (.pointer (some ⟨r,0,none⟩))).run P w2=.ok v w2:=by
 have hb2:=h1.trans hb;have hr2:=h2.trans hr;simp only[Instr.entry,getObj,Sem.run_bind,Sem.run,hr,hb,hr2,hb2,Result.andThen]at h ⊢;cases hs:seen.back? with
 | none=>simp only[hs,Sem.run_bind,Sem.run,Result.andThen,stuck]at h;cases h
 | some stamp=>
  simp only[hs,Sem.run_bind,Sem.run,hb,hb2,Result.andThen]at h ⊢;by_cases hc:(clock != c0)=true
  . simp only[hc,qj,unsupported,Sem.run_bind,Sem.run,Result.andThen]at h;cases h
  . simp only[hc,zr,qi,Sem.run_bind,Sem.run,Result.andThen]at h ⊢;cases hf:es.find? (·.born == stamp)with
    | none=>simp only[hf,unsupported,Sem.run]at h;cases h
    | some e=>
     simp only[hf]at h ⊢;cases h;rfl
theorem OpM.mapNextE {t k e ty:TypeId} {b r n kr cnt:Nat} {m:Int->Option Int} {left:Int->Bool} {x:Operand} (T:MapTy P t k e) (hx:ρ x=.s (.pointer (some ⟨r,0,none⟩))) (hl:lk ch kr=some (.res (Bo P k e b r n m left cnt))) :
 OpM P ro ρ ch d (.opq (.next x false) ty) fun ef=>(ef=⟨True,.tup [.s (.bool false)],ch,[]⟩/\∀ z,left z=false) \/
  ∃ z c cnt',left z=true/\m z=some c/\cnt' < cnt/\InR .i64 z/\ef=⟨True,.tup [.s (.bool true),.s (.int .i64 z),.s (.int .i64 c)],xK ch kr (rngAt P k e b r n m (fun y=>left y && decide (y≠z)) cnt' z c),[(kr,.inner)]⟩:=by
 intro own o a E U w hc hi hg hρ K Q hK;obtain⟨ho,_⟩:=wA hc;have ex:a.eval x=.pointer (some ⟨r,0,none⟩):=dK (hx ▸ hρ x (by simp[AOp.reads,Op.operands]));obtain⟨hF,w0,hw0,D,L,hrg,hD,hL⟩:=hi.ok kr _ (dH hl);have hrg':w.ranges P k (plainElem P e) b r n D L cnt:=by
  obtain⟨es,clock,since,seen,c0,g1,g2,g3,g4,g5,g⟩:=hrg;exact⟨es,clock,since,seen,c0,by rw[<- hw0];exact g1,g2,g3,g4,by rw[<- hw0];exact g5,g⟩
 rcases hrg'.next (Maps.int_keyed T.hk) o.type with⟨h0,h1,hrun⟩ | ⟨key,v,kl,y,w',cnt',hkey,hlk,hv,hat,hrun,h1,h2,h3,h4,h5e⟩
 . refine vN (v:=.tuple #[.bool false]) (w':=w) (fun c=>by rw[ho];simp) (by simp[execOp,ho,ex,hrun,Result.andThen]) ?_;refine hK _ (.inl ⟨rfl,fun z=>by rw[<- hL];exact h1 _⟩) _ E U w (.tup _ _ rfl (fun j c' hj=>?_)) (Ev.refl hi d)
   match j,hj with
   | 0,hj=>cases hj;exact .d (.s _)
 . obtain⟨z,rfl,rfl,hwz⟩:=Maps.keyOf_int_inv T.hk hkey;obtain⟨c,rfl,rfl,hwc⟩:=plainElem_int_inv T.he hv;have hmz:m z=some c:=by
    have h5:=(hD z).1;have h6:(m z).isSome=true:=by
     rw[<- h5];cases hh:Maps.has D (.int .i64 z)with
     | true=>rfl
     | false=>
      have:=hat (.agg []);rw[Maps.atKey_of_not_has hh]at this;cases this
    obtain⟨c',hc'⟩:=Option.isSome_iff_exists.1 h6;have:=(hD z).2 c' hc' (.agg []);rw[hat (.agg [])]at this;cases this;exact hc'
   have hR:InR .i64 z:=by
    simp[Lit.wf,IntKind.min,IntKind.max,IntKind.signed,IntKind.bits]at hwz;exact⟨by omega,by omega⟩
   refine vN (v:=.tuple #[.bool true,.int .i64 z,.int .i64 c]) (w':=w') (fun c=>by rw[ho];simp) (by simp[execOp,ho,ex,hrun,Result.andThen]) ?_;refine hK _ (.inr ⟨z,c,cnt',by rw[<- hL];exact hlk,hmz,h2,hR,rfl⟩) _ _ U w' (.tup _ _ rfl (fun j c' hj=>?_)) (Ev.res (F':=fun x=>x=b\/x=r) hi hl (yW hi hl hF (.inr rfl) h3 (fun x hx=>.inl hx)) ?_ d)
   . match j,hj with
     | 0,hj=>cases hj;exact .d (.s _)
     | 1,hj=>cases hj;exact .d (.s _)
     | 2,hj=>cases hj;exact .d (.s _)
   . refine⟨fun _=>Iff.rfl,⟨w',rfl,D,_,h1,hD,fun y=>?_⟩,fun w2 q1 q2=>?_⟩
     . show (L (.int .i64 y) && !(Lit.int .i64 y).sameKey (.int .i64 z))=_
       rw[hL]
       congr 1
       by_cases hyz:y=z
       . subst hyz;have hk:WideAt.IsKeyLit (.int .i64 y):=trivial;simp[WideAt.sameKey_self hk]
       . simp[hyz,Maps.sameKey_ne (CK hyz)]
     . obtain⟨es,clock,since,seen,c0,g1,g2,g3,g4,g5,g⟩:=h1;exact Eo g1 g5 h5e q1 q2
theorem OpM.mapEntry {k e ty:TypeId} {b r n kr cnt:Nat} {m:Int->Option Int} {left:Int->Bool} {z c:Int} {x:Operand} (hx:ρ x=.s (.pointer (some ⟨r,0,none⟩))) (hl:lk ch kr=some (.res (rngAt P k e b r n m left cnt z c))) :
 OpM P ro ρ ch d (.opq (.entry x) ty) fun ef=>ef=⟨True,.tup [.s (.int .i64 z),.s (.int .i64 c)],xK ch kr (Bo P k e b r n m left cnt),[(kr,.inner)]⟩:=by
 intro own o a E U w hc hi hg hρ K Q hK;obtain⟨ho,_⟩:=wA hc;have ex:a.eval x=.pointer (some ⟨r,0,none⟩):=dK (hx ▸ hρ x (by simp[AOp.reads,Op.operands]));obtain⟨hF,⟨w0,hw0,D,L,hrg,hD,hL⟩,hE⟩:=hi.ok kr _ (dH hl);have hrun:=hE w rfl rfl;refine vN (v:=.tuple #[.int .i64 z,.int .i64 c]) (w':=w) (fun c=>by rw[ho];simp) (by simp[execOp,ho,ex,hrun,Result.andThen]) ?_;have hgr:w.grownBy w (some r):=⟨rfl,rfl,rfl,zw _,fun _ _ _=>rfl⟩;refine hK _ rfl _ _ U w (.tup _ _ rfl (fun j c' hj=>?_)) (Ev.res (F':=fun x=>x=b\/x=r) hi hl (yW hi hl hF (.inr rfl) hgr (fun x hx=>.inl hx)) ?_ d)
 . match j,hj with
   | 0,hj=>cases hj;exact .d (.s _)
   | 1,hj=>cases hj;exact .d (.s _)
 . exact⟨fun _=>Iff.rfl,w0,hw0,D,L,hrg,hD,hL⟩
theorem B5 {own:Bool} {op:Op} {ty:TypeId} {neg:Bool} {x:Operand} (h:gS P own op ty=some (.ext (.isnil neg) [x])):∃ t el yt,op=.binOp (if neg then .neq else .eql) t x (.const (.slice none 0 0)) yt/\P.underlying t=some (.slice el):=by
 unfold gS at h;split at h
 . rename_i e aS hx;simp only[zn,AOp.ext.injEq]at h;obtain⟨rfl,rfl⟩:=h;cases op <;> simp only[lT,reduceCtorEq]at hx
   case binOp op t x1 y yt=>
    split at hx
    . split at hx
      . split at hx <;> simp at hx
      . cases hx
    . unfold tg at hx
      repeat' split at hx
      all_goals simp at hx
    . rename_i el hu;split at hx
      . simp only[zn,zf,Ext.isnil.injEq,List.cons.injEq,and_true]at hx;obtain⟨rfl,rfl⟩:=hx;exact⟨t,el,yt,rfl,hu⟩
      . simp only[zn,zf,Ext.isnil.injEq,List.cons.injEq,and_true]at hx;obtain⟨rfl,rfl⟩:=hx;exact⟨t,el,yt,rfl,hu⟩
      . cases hx
    all_goals simp at hx
   case convert=>
    repeat' split at hx
    all_goals simp at hx
   case call=>
    repeat' split at hx
    all_goals simp at hx
 . exfalso
   cases op <;> simp only[eA,reduceCtorEq]at h
   all_goals
    repeat' split at h
    all_goals first | (simp at h;done) | (simp[zk]at h;done) | (simp only[zk]at h;obtain⟨_,_,h⟩:=h;repeat' split at h) <;> simp[zk]at h
theorem OpM.isnilE {neg:Bool} {x:Operand} {n:Nat} (hx:ρ x=.sl n []):OpM P ro ρ ch d (.ext (.isnil neg) [x]) fun ef=>∃ b:Bool,ef=⟨True,.s (.bool b),ch,[]⟩:=by
 intro own o a E U w hc hi hg hρ K Q hK;obtain⟨t,el,yt,ho,hu⟩:=B5 hc;have hr:=ji (hx ▸ hρ x (by simp[AOp.reads]));generalize hv:a.eval x=v at hr;cases hr with
 | sl0 _ ad cap hcap=>
  have hey:a.eval (.const (.slice none 0 0))=.slice none 0 0:=rfl;have hgd:∀ op,eqGuard op t x (.const (.slice none 0 0)) (.slice ad 0 cap) (.slice none 0 0)=pure ():=fun op=>by cases op <;> rfl
  refine vN (v:=.bool (if neg then !ad.isNone else ad.isNone)) (w':=w) (fun c=>by rw[ho];simp) ?_ (hK _ ⟨_,rfl⟩ _ E U w (.d (.s _)) (Ev.refl hi d));cases neg with
  | false=>simp[execOp,ho,hv,hey,hgd,binOp,run_equal_slice_nil w t el ad 0 cap hu]
  | true=>simp[execOp,ho,hv,hey,hgd,run_neq_slice_nil w t el ad 0 cap hu]
 | sl es b off cap sz arr ty fz vf hU hb hcap hmax hsz hv2 hr=>
  refine vN (v:=.bool neg) (w':=w) (fun c=>by rw[ho];simp) ?_ (hK _ ⟨_,rfl⟩ _ E U w (.d (.s _)) (Ev.refl hi d));have hey:a.eval (.const (.slice none 0 0))=.slice none 0 0:=rfl;have hgd:∀ op c,eqGuard op t x (.const (.slice none 0 0)) (.slice (some ⟨b,off,none⟩) 0 c) (.slice none 0 0)=pure ():=fun op c=>by cases op <;> rfl
  cases neg with
  | false=>simp[execOp,ho,hv,hey,hgd,binOp,run_equal_slice_nil w t el _ _ _ hu]
  | true=>simp[execOp,ho,hv,hey,hgd,run_neq_slice_nil w t el _ _ _ hu]
theorem OpM.arrIx {t e ty:TypeId} {len sz:Nat} {k:IntKind} {n:Int} {x i:Operand} {cs:List C} (ht:P.underlying t=some (.array len e)) (hb:je P e=some true) (hn:eq P e=some sz)
 (hx:ρ x=.agg cs) (hix:ρ i=.s (.int k n)) (h0:0<=n/\n < len) (hl:n.toNat*sz+sz<=cs.length) :
 OpM P ro ρ ch d (.opq (.index t x i) ty) fun ef=>ef=⟨True,.agg ((cs.drop (n.toNat*sz)).take sz),ch,[]⟩:=by
 intro own o a E U w hc hi hg hρ K Q hK;obtain⟨ho,_⟩:=wA hc;have rxw:=hx ▸ hρ x (by simp[AOp.reads,Op.operands]);have riw:a.eval i=.int k n:=dK (hix ▸ hρ i (by simp[AOp.reads,Op.operands]));obtain⟨vs,hv,hvl,hr,h1c⟩:=il rxw;refine vN (v:=.agg (vs.extract (n.toNat*sz) (n.toNat*sz+sz))) (w':=w) (fun c=>by rw[ho];simp) ?_ ?_
 . have h0':0<=n/\n < (len:Int):=h0;simp[execOp,ho,hv,riw,Instr.index,asIntOf,run_underlying ht,h0',part,j0 hb,eB hn]
 . refine hK _ rfl _ E U w ?_ (Ev.refl hi d);have hget:∀ j,j < sz->(vs.extract (n.toNat*sz) (n.toNat*sz+sz)).getD j undef=vs.getD (n.toNat*sz+j) undef:=fun j hj=>by
    simp only[zc,Array.getElem?_extract];rw[qb (by omega)]
   refine .agg _ _ (by simp;omega) (fun j c hj=>?_) (fun j hj=>?_)
   . obtain⟨hj1,hj2⟩:=jc hj;rw[zO]at hj1;rw[hget j hj2];exact hr _ c hj1
   . have hj2:j < sz:=by simp at hj;omega
     rw[hget j hj2];exact h1c _ (by omega)
theorem OpM.arrIx1 {t e ty:TypeId} {len:Nat} {k:IntKind} {n:Int} {x i:Operand} {cs:List C} {r:C} (ht:P.underlying t=some (.array len e)) (hb:je P e=some false) (hn:eq P e=some 1)
 (hx:ρ x=.agg cs) (hix:ρ i=.s (.int k n)) (h0:0<=n/\n < len) (hr0:cs[n.toNat]? = some r) :
 OpM P ro ρ ch d (.opq (.index t x i) ty) fun ef=>ef=⟨True,r,ch,[]⟩:=by
 intro own o a E U w hc hi hg hρ K Q hK;obtain⟨ho,_⟩:=wA hc;have rxw:=hx ▸ hρ x (by simp[AOp.reads,Op.operands]);have riw:a.eval i=.int k n:=dK (hix ▸ hρ i (by simp[AOp.reads,Op.operands]));obtain⟨vs,hv,hvl,hr,h1c⟩:=il rxw;have hlt:n.toNat < vs.size:=by
  have:=(zi.1 hr0).1;omega
 obtain⟨u,hu⟩:∃ u,vs[n.toNat]? = some u:=⟨_,zj hlt⟩;refine vN (v:=u) (w':=w) (fun c=>by rw[ho];simp) ?_ ?_
 . have h0':0<=n/\n < (len:Int):=h0;simp[execOp,ho,hv,riw,Instr.index,asIntOf,run_underlying ht,h0',part,j0 hb,eB hn,hu]
 . refine hK _ rfl _ E U w ?_ (Ev.refl hi d);rw[<- ew hu];exact hr _ _ hr0
def wY (cs:List C) (sz len:Nat):List (List C):=(List.range len).map fun i=>(cs.drop (i*sz)).take sz
theorem OpM.sliceRef {t e ty:TypeId} {len sz:Nat} {x:Operand} {cs:List C} (ht:P.underlying t=some (.array len e)) (hn:eq P e=some sz)
 (hx:ρ x=.ref cs) (hl:cs.length=len*sz) (hm:len<=maxLen) :
 OpM P ro ρ ch d (.opq (.slice t x none none none) ty) fun ef=>ef=⟨True,.sl sz (wY cs sz len),ch,[]⟩:=by
 intro own o a E U w hc hi hg hρ K Q hK;obtain⟨ho,_⟩:=wA hc;obtain⟨b,off,arr,tbw,fz,vf,hv,hU,hb,hvf,hd⟩:=ow (hx ▸ hρ x (by simp[AOp.reads,Op.operands]));refine vN (v:=.slice (some ⟨b,off,none⟩) len len) (w':=w) (fun c=>by rw[ho];simp) ?_ ?_
 . simp[execOp,ho,hv,Instr.sliceAt,run_underlying ht,Instr.sureAddr,Instr.sliceBounds,eB hn,Addr.add_lit]
 . refine hK _ rfl _ E U w ?_ (Ev.refl hi d);have hlen:(wY cs sz len).length=len:=by simp[wY]
   have hget:∀ (i:Nat) (r:List C),(wY cs sz len)[i]? = some r->i < len/\r=(cs.drop (i*sz)).take sz:=fun i r h=>by
    have h1:i < len:=by have:=(zi.1 h).1;omega
    refine⟨h1,?_⟩;rw[wY,zh,yv h1]at h;exact (Option.some.inj h).symm
   have hcell:∀ (i:Nat) (r:List C) (j:Nat) (c:C),(wY cs sz len)[i]? = some r->r[j]? = some c->cs[i*sz+j]? = some c:=fun i r j c h1 h2=>by
    obtain⟨_,rfl⟩:=hget i r h1;obtain⟨h3,_⟩:=jc h2;rwa[zO]at h3
   have:=RepD.sl (U:=U) (h:=w.heap) (wY cs sz len) b off len sz arr tbw fz (fun i j=>vf (i*sz+j)) hU hb (by rw[hlen];exact zw _) hm (fun i r h=>by
    obtain⟨h1,rfl⟩:=hget i r h;rw[qp,List.length_drop,hl];have:(i+1)*sz<=len*sz:=zB _ h1;rw[zP]at this
    omega) (fun i r j c h1 h2=>by
     have:=hvf _ c (hcell i r j c h1 h2)
     rwa[<- yG]at this) (fun i r j c h1 h2=>hd _ c (hcell i r j c h1 h2))
   rw[hlen]at this;exact .d this
end Go.Am
end
section
open Go Go.Am
open Go.Am.Dat (cells)
namespace Go.Proofs.YtcbabnbiinkafaaGreatDoor
def c20l1 : AC:=oS (oX [oM 47 8,oM 48 2,o4 49 48,oB 50 .lss 3 47 (oO 49)] [1,2,3,7,8,50] (.cond (oO 50) .skip (.exit 0))) (oK [1,2,3,7,8] (oS (.block 1 (oX [oM 54 2,oM 55 8,oA 56 (.iaddr 3 o3 (oO 54) (oO 55)),o5 57 3 56,oC 58 79 [oO 57],oC 59 81 [oO 58],oM 53 59,o8 60 53 0,o8 61 53 1,oA 9 (.alloc o3),oW 3 9 60,oM 10 61] [1,2,3,7,8,9,10] (oS (oX [oM 62 10,oB 63 .neq 27 62 (oN 0)] [1,2,3,7,8,9,63] (oI 63 (oX [o9 6 false] [6] .ret))) (oK [1,2,3,7,8,9] (oR [oM 64 7,o5 65 3 9,oA 66 (.mkSl false 83 3 o3 1 [(0,oO 65)]),oA 67 (.app 48 83 3 24 o3 (oO 64) (oO 66)),oM 7 67]))))) (oK [1,2,3,7,8] (oR [oM 51 8,oB 52 .add 3 51 (oN 1),oM 8 52]))))
def c20l2 : AC:=oS (oX [oM 134 23,oM 135 2,o4 136 135,oB 137 .lss 3 134 (oO 136)] [2,3,11,21,23,137] (.cond (oO 137) .skip (.exit 2))) (oK [2,3,11,21,23] (oS (.block 3 (oS (oQ [o5 141 3 3,oC 142 37 [oO 141],o5 143 10 21,oC 144 65 [oO 143],oM 145 2,oA 146 (.mvs (oO 23)),oA 147 (.iaddr 3 o3 (oO 145) (oO 146)),o5 148 3 147,oC 149 69 [oO 142,oO 144,oO 148],oM 140 149,o8 150 140 0,o8 151 140 1,oA 24 (.alloc oZ),oW 10 24 150,oT 25 (.mv (oO 151))]) (oK [2,3,11,21,23,24,25] (oS (oX [oM 152 25,oB 153 .neq 27 152 (oN 0)] [2,3,11,21,23,24,153] (oI 153 (oX [o9 6 false] [6] .ret))) (oK [2,3,11,21,23,24] (oR [o5 154 10 24,oW 10 21 154])))))) (oK [2,3,11,21,23] (oR [oM 138 23,oB 139 .add 3 138 (oN 1),oM 23 139]))))
def c20 : AC:=oX [o7 3 0,o9 6 false] [1,2,3] (oS (oX [oC 30 87 [],oA 31 (.un .not (oO 30))] [1,2,3,31] (oI 31 (oX [o9 6 false] [6] .ret))) (oK [1,2,3] (oS (oX [o5 32 3 3,oC 33 34 [oO 32],oA 34 (.un .not (oO 33)),oM 35 34,oD 36 35 false 2,oG 37 35 false (.len false (oO 36)),oG 38 35 false (.bin .gtr 3 (oO 37) (oN 30)),oH 39 35 38,oM 40 39,oG 41 40 false (.load true 3 (oO 3)),oD 42 40 false 1,oD 43 40 false 2,oG 44 40 false (.call (.func 53) [oO 41,oO 42,oO 43]),oG 45 40 false (.bin .neq 3 (oO 44) (oN 0)),oH 46 40 45] [1,2,3,46] (oI 46 (oX [o9 6 true] [6] .ret))) (oK [1,2,3] (oX [oA 7 (.mv (.const (.slice none 0 0)))] [1,2,3,7] (.nilrow 7 3 83 (oS (oX [oV 8 0] [1,2,3,7,8] (.block 0 (.loop c20l1))) (oK [1,2,3,7] (.fz [7] (oX [o5 69 3 3,oC 70 37 [oO 69],oM 71 1,oM 72 2,oC 73 38 [oO 72],oC 74 36 [oO 70,oO 71,oO 73],oM 68 74,o8 75 68 0,o8 76 68 1,o8 77 68 2,oA 11 (.alloc oZ),oW 10 11 75,oM 12 76,oM 13 77] [1,2,3,7,11,13] (oX [o5 79 3 3,oC 80 37 [oO 79],oM 81 1,oM 82 7,oC 83 36 [oO 80,oO 81,oO 82],oM 78 83,o8 84 78 0,o8 85 78 1,o8 86 78 2,oA 14 (.alloc oZ),oW 10 14 84,oM 15 85,oM 16 86] [1,2,3,11,13,14,16] (oX [oM 87 2,o4 88 87,oB 89 .quo 3 88 (oN 2),oM 17 89] [1,2,3,11,13,14,16,17] (oS (oQ [o5 91 3 3,oC 92 37 [oO 91],oA 93 (.mvs (oO 1)),oM 94 2,oA 95 (.mvs (oO 17)),oA 96 (.ssl 3 (oO 94) none (some (oO 95)) none),oC 97 38 [oO 96],oC 98 36 [oO 92,oO 93,oO 97],oM 90 98,o8 99 90 0,o8 100 90 1,o8 101 90 2,oA 18 (.alloc oZ),oW 10 18 99,oM 19 100,oT 20 (.mv (oO 101))]) (oK [2,3,11,13,14,16,17,18,20] (oS (oX [oM 102 13,oB 103 .neq 27 102 (oN 0),oM 104 103,oD 105 104 false 16,oG 106 104 false (.bin .neq 27 (oO 105) (oN 0)),oH 107 104 106,oM 108 107,oD 109 108 false 20,oG 110 108 false (.bin .neq 27 (oO 109) (oN 0)),oH 111 108 110,oM 112 111,oG 113 112 false (.load true 10 (oO 11)),oG 114 112 false (.load true 10 (oO 14)),oG 115 112 false (.call (.func 41) [oO 113,oO 114]),oG 116 112 false (.un .not (oO 115)),oH 117 112 116] [2,3,11,17,18,117] (oI 117 (oX [o9 6 false] [6] .ret))) (oK [2,3,11,17,18] (oX [o5 119 10 18,oC 120 65 [oO 119],oC 121 80 [oO 120],oC 122 82 [oO 121],oM 118 122,o8 123 118 0,o8 124 118 1,oA 21 (.alloc oZ),oW 10 21 123,oM 22 124] [2,3,11,17,18,21,22] (oS (oX [oM 125 22,oB 126 .neq 27 125 (oN 0),oM 127 126,oG 128 127 false (.load true 10 (oO 21)),oG 129 127 false (.load true 10 (oO 18)),oG 130 127 false (.call (.func 41) [oO 128,oO 129]),oG 131 127 false (.un .not (oO 130)),oH 132 127 131] [2,3,11,17,21,132] (oI 132 (oX [o9 6 false] [6] .ret))) (oK [2,3,11,17,21] (oS (oX [oM 133 17,oM 23 133] [2,3,11,21,23] (.block 2 (.loop c20l2))) (oK [3,11,21] (oS (oQ [o5 156 3 3,oC 157 37 [oO 156],o5 158 10 21,oC 159 65 [oO 158],oF 160 0 21,oL 161 160,oT 162 (.call (.func 76) [oO 157,oO 159,oO 161]),oT 155 (.mv (oO 162)),o8 163 155 0,o8 164 155 1,oM 26 163,oT 27 (.mv (oO 164))]) (oK [3,11,21,26,27] (oS (oQ [o5 166 3 3,oC 167 37 [oO 166],o5 168 10 11,oC 169 65 [oO 168],oF 170 0 11,oL 171 170,oT 172 (.call (.func 76) [oO 167,oO 169,oO 171]),oT 165 (.mv (oO 172)),o8 173 165 0,o8 174 165 1,oM 28 173,oT 29 (.mv (oO 174))]) (oK [11,21,26,27,28,29] (oX [o5 175 10 21,o5 176 10 11,oC 177 41 [oO 175,oO 176],oM 178 177,oD 179 178 true 27,oG 180 178 true (.bin .eql 27 (oO 179) (oN 0)),oP 181 178 180,oM 182 181,oD 183 182 true 29,oG 184 182 true (.bin .eql 27 (oO 183) (oN 0)),oP 185 182 184,oM 186 185,oD 187 186 true 26,oD 188 186 true 28,oG 189 186 true (.call (.func 77) [oO 187,oO 188]),oP 190 186 189,oM 191 190,oD 192 191 true 26,oG 193 191 true (.len false (oO 192)),oG 194 191 true (.bin .gtr 3 (oO 193) (oN 0)),oP 195 191 194,oM 6 195] [6] .ret))))))))))))))))))))))))))
def c21 : AC:=oX [o9 0 false] [] (oX [oC 11 88 [],oA 12 (.mkSl false 3 1 o1 5 [(0,oN (-900)),(1,oN (-900)),(2,oN (-900)),(3,oN (-900)),(4,oN (-900))]),oA 13 (.mkSl false 3 1 o1 5 [(0,oN (-870)),(1,oN (-855)),(2,oN (-850)),(3,oN (-855)),(4,oN (-840))]),oC 14 25 [oO 11,oO 12,oO 13],oM 10 14,o8 15 10 0,o8 16 10 1,oM 1 15,oM 2 16] [1,2] (oX [oC 18 89 [],oC 19 90 [],oC 20 39 [oO 18,oN 0,oO 19],oM 17 20,o8 21 17 0,o8 22 17 1,oM 3 21,oM 4 22] [1,2,3,4] (oX [oC 24 89 [],oC 25 90 [],oA 26 (.ssl 3 (oO 25) none (some (oN 3)) none),oC 27 36 [oO 24,oN 0,oO 26],oM 23 27,o8 28 23 0,o8 29 23 1,o8 30 23 2,oA 5 (.alloc oZ),oW 10 5 28,oM 6 29,oM 7 30] [1,2,3,4,5,7] (oX [oC 32 89 [],oA 33 (.build o3 [(2,1,oN 10)]),oA 34 (.build o3 [(0,1,oN 1),(1,1,oN 10),(2,1,oN 14)]),oA 35 (.build o3 [(1,1,oN 14),(2,1,oN 30)]),oA 36 (.mkSl false 138 3 o3 3 [(0,oO 33),(1,oO 34),(2,oO 35)]),oC 37 44 [oO 32,oO 36,oN 4],oM 31 37,o8 38 31 0,o8 39 31 1,oM 8 38,oM 9 39] [1,2,3,4,5,7,8,9] (oX [oM 40 2,oB 41 .eql 27 40 (oN 0),oM 42 41,oD 43 42 true 1,oG 44 42 true (.bin .eql 3 (oO 43) (oN 3)),oP 45 42 44,oM 46 45,oD 47 46 true 4,oG 48 46 true (.bin .eql 27 (oO 47) (oN 0)),oP 49 46 48,oM 50 49,oD 51 50 true 3,oG 52 50 true (.mkSl false 3 1 o1 2 [(0,oN 0),(1,oN 1)]),oG 53 50 true (.call (.func 30) [oO 51,oO 52]),oP 54 50 53,oM 55 54,oD 56 55 true 7,oG 57 55 true (.bin .eql 27 (oO 56) (oN 0)),oP 58 55 57,oM 59 58,oG 60 59 true (.load true 10 (oO 5)),oG 61 59 true (.call (.func 80) [oO 60]),⟨some 62,some (59,true),.bin .eql 9 (oO 61) (.const (.string ⟨#[51,32,48,32,48,32,48,32,45,49,32,45,49,32,48,32,50,32,49,124,48,32,49,124,124]⟩)),false⟩,oP 63 59 62,oM 64 63,oD 65 64 true 9,oG 66 64 true (.bin .eql 27 (oO 65) (oN 0)),oP 67 64 66,oM 68 67,oD 69 68 true 8,oG 70 68 true (.bin .eql 3 (oO 69) (oN 1)),oP 71 68 70,oM 0 71] [0] .ret)))))
def c24 : AC:=oX [oA 2 (.mv (.const (.slice none 0 0)))] [0] (oX [oA 3 (.mkSl true 3 1 o1 0 []),oM 4 0,oA 5 (.app 24 3 1 8 o1 (oO 3) (oO 4)),oM 2 5] [2] .ret)
def rv24 : List RV:=[.tmp 2]
theorem is24 : FnIs Tryz.prog 24 6 c24 rv24:=⟨⟨Tryz.f24,_,Tryz.func24,by kernel_rfl,rfl,rfl,by kernel_rfl,by kernel_rfl⟩,by decide⟩
def c31 : AC:=oX [o9 6 false] [0,1,2] (oX [oM 7 1,oM 8 0,oB 9 .leq 3 7 (oO 8),oM 10 9,oD 11 10 true 0,oD 12 10 true 2,oG 13 10 true (.bin .leq 3 (oO 11) (oO 12)),oP 14 10 13,oM 6 14] [6] .ret)
def rv31 : List RV:=[.tmp 6]
theorem is31 : FnIs Tryz.prog 31 15 c31 rv31:=⟨⟨Tryz.f31,_,Tryz.func31,by kernel_rfl,rfl,rfl,by kernel_rfl,by kernel_rfl⟩,by decide⟩
def c37 : AC:=oX [o7 1 0,oA 2 (.alloc [.slice none 0 0,.slice none 0 0,.int .i64 0])] [1,2] (oS (oQ [oF 3 0 1,oL 4 3,oC 5 98 [oO 4],oA 6 (.mkSl true 40 2 o2 0 []),oF 7 1 1,oL 8 7,oA 9 (.app 45 40 2 16 o2 (oO 6) (oO 8)),oF 10 2 1,oL 11 10,oT 12 (.build [.slice none 0 0,.slice none 0 0,.int .i64 0] [(0,1,oO 5),(1,1,oO 9),(2,1,oO 11)]),⟨none,none,.store false 3 (oO 2) (oO 12),true⟩]) (oK [2] .ret))
def c38 : AC:=oX [oA 2 (.mv (.const (.slice none 0 0)))] [0] (oX [oA 3 (.mkSl true 83 3 o3 0 []),oM 4 0,oA 5 (.app 48 83 3 24 o3 (oO 3) (oO 4)),oM 2 5] [2] .ret)
def rv38 : List RV:=[.tmp 2]
theorem is38 : FnIs Tryz.prog 38 6 c38 rv38:=⟨⟨Tryz.f38,_,Tryz.func38,by kernel_rfl,rfl,rfl,by kernel_rfl,by kernel_rfl⟩,by decide⟩
def c40 : AC:=oX [o7 2 0,oV 4 0] [1,2] (oS (oX [o5 6 3 2,oC 7 46 [oO 6],oM 5 7] [1,2,5] (oX [oM 8 5,oB 9 .neq 3 8 (oN 0)] [1,2,5,9] (oI 9 (oX [oM 10 5,oM 4 10] [4] .ret)))) (oK [1,2] (oS (oX [o5 11 3 2,oM 12 1,oC 13 99 [oO 11,oO 12],oA 14 (.un .not (oO 13))] [14] (oI 14 (oX [oV 4 6] [4] .ret))) (oK [] (oX [oV 4 0] [4] .ret)))))
def rv40 : List RV:=[.tmp 4]
theorem is40 : FnIs Tryz.prog 40 15 c40 rv40:=⟨⟨Tryz.f40,_,Tryz.func40,by kernel_rfl,rfl,rfl,by kernel_rfl,by kernel_rfl⟩,by decide⟩
def c41 : AC:=oX [o7 2 0,o7 3 1,o9 4 false] [2,3] (oX [oF 5 0 2,oL 6 5,oF 7 0 3,oL 8 7,oB 9 .eql 3 6 (oO 8),oM 10 9,oE 11 10 true 1 2,oJ 12 10 true 11,oE 13 10 true 1 3,oJ 14 10 true 13,oG 15 10 true (.bin .eql 3 (oO 12) (oO 14)),oP 16 10 15,oM 17 16,oE 18 17 true 2 2,oJ 19 17 true 18,oE 20 17 true 2 3,oJ 21 17 true 20,oG 22 17 true (.bin .eql 3 (oO 19) (oO 21)),oP 23 17 22,oM 24 23,oE 25 24 true 3 2,oJ 26 24 true 25,oE 27 24 true 3 3,oJ 28 24 true 27,oG 29 24 true (.bin .eql 3 (oO 26) (oO 28)),oP 30 24 29,oM 31 30,oE 32 31 true 4 2,oJ 33 31 true 32,oE 34 31 true 4 3,oJ 35 31 true 34,oG 36 31 true (.bin .eql 3 (oO 33) (oO 35)),oP 37 31 36,oM 38 37,oE 39 38 true 5 2,oJ 40 38 true 39,oE 41 38 true 5 3,oJ 42 38 true 41,oG 43 38 true (.bin .eql 3 (oO 40) (oO 42)),oP 44 38 43,oM 45 44,oE 46 45 true 6 2,oJ 47 45 true 46,oE 48 45 true 6 3,oJ 49 45 true 48,oG 50 45 true (.bin .eql 3 (oO 47) (oO 49)),oP 51 45 50,oM 52 51,oE 53 52 true 7 2,oJ 54 52 true 53,oE 55 52 true 7 3,oJ 56 52 true 55,oG 57 52 true (.bin .eql 3 (oO 54) (oO 56)),oP 58 52 57,oM 59 58,oE 60 59 true 8 2,oJ 61 59 true 60,oE 62 59 true 8 3,oJ 63 59 true 62,oG 64 59 true (.bin .eql 3 (oO 61) (oO 63)),oP 65 59 64,oM 66 65,oE 67 66 true 9 2,oJ 68 66 true 67,oE 69 66 true 9 3,oJ 70 66 true 69,oG 71 66 true (.call (.func 100) [oO 68,oO 70]),oP 72 66 71,oM 4 72] [4] .ret)
def rv41 : List RV:=[.tmp 4]
theorem is41 : FnIs Tryz.prog 41 73 c41 rv41:=⟨⟨Tryz.f41,_,Tryz.func41,by kernel_rfl,rfl,rfl,by kernel_rfl,by kernel_rfl⟩,by decide⟩
def c42l1 : AC:=oS (oX [oM 20 10,oM 21 2,o4 22 21,oB 23 .lss 3 20 (oO 22)] [2,3,6,9,10,23] (.cond (oO 23) .skip (.exit 0))) (oK [2,3,6,9,10] (oS (.block 1 (oS (oQ [o5 27 3 3,o5 28 10 9,oM 29 2,oA 30 (.mvs (oO 10)),oA 31 (.iaddr 3 o3 (oO 29) (oO 30)),o5 32 3 31,oC 33 71 [oO 27,oO 28,oO 32],oM 26 33,o8 34 26 0,o8 35 26 1,oA 11 (.alloc oZ),oW 10 11 34,oT 12 (.mv (oO 35))]) (oK [2,3,6,9,10,11,12] (oS (oX [oM 36 12,oB 37 .neq 3 36 (oN 0)] [2,3,6,9,10,11,12,37] (oI 37 (oX [oA 38 (.build oZ []),oM 39 10,oM 40 12,oW 10 6 38,oM 7 39,oM 8 40] [6,7,8] .ret))) (oK [2,3,6,9,10,11] (oR [o5 41 10 11,oW 10 9 41])))))) (oK [2,3,6,9,10] (oR [oM 24 10,oB 25 .add 3 24 (oN 1),oM 10 25]))))
def c42 : AC:=oX [o7 3 0,oA 6 (.alloc oZ),oV 7 0,oV 8 0] [1,2,3,6] (oS (oX [oM 13 2,o4 14 13,oB 15 .gtr 3 14 (oN 200)] [1,2,3,6,15] (oI 15 (oX [oA 16 (.build oZ []),oW 10 6 16,oV 7 0,oV 8 8] [6,7,8] .ret))) (oK [1,2,3,6] (oX [o5 17 3 3,oM 18 1,oC 19 52 [oO 17,oO 18],oA 9 (.alloc oZ),oW 10 9 19] [2,3,6,9] (oS (oX [oV 10 0] [2,3,6,9,10] (.block 0 (.loop c42l1))) (oK [6,9] (oX [o5 42 10 9,oW 10 6 42,oV 7 0,oV 8 0] [6,7,8] .ret))))))
def rv42 : List RV:=[.cell 6 true 10,.tmp 7,.tmp 8]
theorem is42 : FnIs Tryz.prog 42 43 c42 rv42:=⟨⟨Tryz.f42,_,Tryz.func42,by kernel_rfl,rfl,rfl,by kernel_rfl,by kernel_rfl⟩,by decide⟩
def c46 : AC:=oX [o7 1 0,oV 2 0] [1] (oX [o5 6 3 1,oC 7 51 [oO 6],oM 5 7,o8 8 5 0,o8 9 5 1,oM 3 8,oM 4 9] [4] (oX [oM 10 4,oM 2 10] [2] .ret))
def rv46 : List RV:=[.tmp 2]
theorem is46 : FnIs Tryz.prog 46 11 c46 rv46:=⟨⟨Tryz.f46,_,Tryz.func46,by kernel_rfl,rfl,rfl,by kernel_rfl,by kernel_rfl⟩,by decide⟩
def c51l1 : AC:=oS (oX [oM 16 4,oF 17 0 1,oL 18 17,o4 19 18,oB 20 .lss 3 16 (oO 19)] [1,4,20] (.cond (oO 20) .skip (.exit 0))) (oK [1,4] (oS (.block 1 (oS (oX [oF 23 0 1,oL 24 23,oM 25 4,⟨some 26,none,.iaddr 1 [.string ⟨#[]⟩] (oO 24) (oO 25),false⟩,oL 27 26,oC 28 108 [oO 27],oA 29 (.un .not (oO 28))] [1,4,29] (oI 29 (oX [oM 30 4,oM 2 30,oV 3 4] [2,3] .ret))) (oK [1,4] (oS (oQ [oF 31 0 1,oL 32 31,oA 33 (.mvs (oO 4)),oA 34 (.ssl 1 (oO 32) none (some (oO 33)) none),oF 35 0 1,oL 36 35,oM 37 4,⟨some 38,none,.iaddr 1 [.string ⟨#[]⟩] (oO 36) (oO 37),false⟩,oL 39 38,oT 40 (.call (.func 109) [oO 34,oO 39])]) (oK [1,4,40] (oI 40 (oX [oM 41 4,oM 2 41,oV 3 5] [2,3] .ret))))))) (oK [1,4] (oR [oM 21 4,oB 22 .add 3 21 (oN 1),oM 4 22]))))
def B6 : AC:=oS (oX [oM 73 7,oM 74 5,oB 75 .lss 3 73 (oO 74)] [1,5,6,7,75] (.cond (oO 75) .skip (.exit 4))) (oK [1,5,6,7] (oS (.block 5 (oS (oQ [oF 78 1 1,oL 79 78,oA 80 (.mvs (oO 7)),oA 81 (.iaddr 2 o2 (oO 79) (oO 80)),o5 82 2 81,o5 83 2 6,oT 84 (.ext (.eqs false [0,0]) [oO 82,oO 83])]) (oK [1,5,6,7,84] (oI 84 (oX [oM 85 5,oM 2 85,oV 3 26] [2,3] .ret))))) (oK [1,5,6,7] (oR [oM 76 7,oB 77 .add 3 76 (oN 1),oM 7 77]))))
def c51l3 : AC:=oS (oX [oM 42 5,oF 43 1 1,oL 44 43,o4 45 44,oB 46 .lss 3 42 (oO 45)] [1,5,46] (.cond (oO 46) .skip (.exit 2))) (oK [1,5] (oS (.block 3 (oX [oF 49 1 1,oL 50 49,oM 51 5,oA 52 (.iaddr 2 o2 (oO 50) (oO 51)),o5 53 2 52,oA 6 (.alloc o2),oW 2 6 53] [1,5,6] (oS (oX [o5 54 3 1,oA 55 (.iarr 2 1 (oO 6) (oN 0)),oL 56 55,oC 57 99 [oO 54,oO 56],oA 58 (.un .not (oO 57)),oM 59 58,oG 60 59 false (.load true 3 (oO 1)),oG 61 59 false (.iarr 2 1 (oO 6) (oN 1)),oJ 62 59 false 61,oG 63 59 false (.call (.func 99) [oO 60,oO 62]),oG 64 59 false (.un .not (oO 63)),oH 65 59 64] [1,5,6,65] (oI 65 (oX [oM 66 5,oM 2 66,oV 3 6] [2,3] .ret))) (oK [1,5,6] (oS (oX [oA 67 (.iarr 2 1 (oO 6) (oN 0)),oL 68 67,oA 69 (.iarr 2 1 (oO 6) (oN 1)),oL 70 69,oB 71 .geq 3 68 (oO 70)] [1,5,6,71] (oI 71 (oX [oM 72 5,oM 2 72,oV 3 9] [2,3] .ret))) (oK [1,5,6] (oX [oV 7 0] [1,5,6,7] (.block 4 (.loop B6))))))))) (oK [1,5] (oR [oM 47 5,oB 48 .add 3 47 (oN 1),oM 5 48]))))
def c51 : AC:=oX [o7 1 0,oV 2 0,oV 3 0] [1] (oS (oX [oF 8 0 1,oL 9 8,o4 10 9,oB 11 .eql 3 10 (oN 0)] [1,11] (oI 11 (oX [oV 2 0,oV 3 10] [2,3] .ret))) (oK [1] (oS (oX [oF 12 0 1,oL 13 12,o4 14 13,oB 15 .gtr 3 14 (oN 6)] [1,15] (oI 15 (oX [oV 2 0,oV 3 8] [2,3] .ret))) (oK [1] (oS (oX [oV 4 0] [1,4] (.block 0 (.loop c51l1))) (oK [1] (oS (oX [oV 5 0] [1,5] (.block 2 (.loop c51l3))) (oK [1] (oS (oX [oF 86 2 1,oL 87 86,oC 88 31 [oO 87,oN 1,oN 100000],oA 89 (.un .not (oO 88))] [89] (oI 89 (oX [oV 2 0,oV 3 2] [2,3] .ret))) (oK [] (oX [oV 2 0,oV 3 0] [2,3] .ret)))))))))))
def rv51 : List RV:=[.tmp 2,.tmp 3]
theorem is51 : FnIs Tryz.prog 51 90 c51 rv51:=⟨⟨Tryz.f51,_,Tryz.func51,by kernel_rfl,rfl,rfl,by kernel_rfl,by kernel_rfl⟩,by decide⟩
def c52 : AC:=oX [o7 2 0,oA 4 (.alloc oZ)] [1,2,4] (oX [oM 5 1,oM 6 1,oF 7 0 2,oL 8 7,o4 9 8,oA 10 (.makeSl 24 1 24 o0 (oO 9) (oO 9)),oA 11 (.build oZ [(3,1,oO 5),(4,1,oN (-1)),(5,1,oN (-1)),(6,1,oO 6),(9,1,oO 10)]),oW 10 4 11] [4] .ret)
def rv52 : List RV:=[.cell 4 true 10]
theorem is52 : FnIs Tryz.prog 52 12 c52 rv52:=⟨⟨Tryz.f52,_,Tryz.func52,by kernel_rfl,rfl,rfl,by kernel_rfl,by kernel_rfl⟩,by decide⟩
def c53 : AC:=oX [o7 3 0,oV 6 0] [1,2,3] (oS (oX [o5 11 3 3,oM 12 1,oC 13 40 [oO 11,oO 12],oM 7 13] [1,2,3,7] (oX [oM 14 7,oB 15 .neq 3 14 (oN 0)] [1,2,3,7,15] (oI 15 (oX [oM 16 7,oM 6 16] [6] .ret)))) (oK [1,2,3] (oX [o5 18 3 3,oM 19 1,oM 20 2,oC 21 42 [oO 18,oO 19,oO 20],oM 17 21,o8 22 17 0,o8 23 17 1,o8 24 17 2,oA 8 (.alloc oZ),oW 10 8 22,oM 9 23,oM 10 24] [10] (oX [oM 25 10,oM 6 25] [6] .ret))))
def rv53 : List RV:=[.tmp 6]
theorem is53 : FnIs Tryz.prog 53 26 c53 rv53:=⟨⟨Tryz.f53,_,Tryz.func53,by kernel_rfl,rfl,rfl,by kernel_rfl,by kernel_rfl⟩,by decide⟩
def c64 : AC:=oX [o7 2 0,o7 3 1,oV 4 0] [2,3] (oX [o5 8 3 2,o5 9 10 3,oC 10 113 [oO 8,oO 9],oM 7 10,o8 11 7 0,o8 12 7 1,oM 5 11,oM 6 12] [6] (oX [oM 13 6,oM 4 13] [4] .ret))
def rv64 : List RV:=[.tmp 4]
theorem is64 : FnIs Tryz.prog 64 14 c64 rv64:=⟨⟨Tryz.f64,_,Tryz.func64,by kernel_rfl,rfl,rfl,by kernel_rfl,by kernel_rfl⟩,by decide⟩
def c65 : AC:=oX [o7 1 0,oA 2 (.alloc oZ)] [1,2] (oX [oF 3 9 1,oL 4 3,oC 5 60 [oO 4],oF 6 9 1,oW 1 6 5] [1,2] (oX [o5 7 10 1,oW 10 2 7] [2] .ret))
def rv65 : List RV:=[.cell 2 true 10]
theorem is65 : FnIs Tryz.prog 65 8 c65 rv65:=⟨⟨Tryz.f65,_,Tryz.func65,by kernel_rfl,rfl,rfl,by kernel_rfl,by kernel_rfl⟩,by decide⟩
def c68 : AC:=oX [o7 2 0,o7 3 1,oV 4 0] [2,3] (oS (oX [oF 5 0 3,oL 6 5,oC 7 31 [oO 6,oN 0,oN 11],oA 8 (.un .not (oO 7))] [2,3,8] (oI 8 (oX [oV 4 15] [4] .ret))) (oK [2,3] (oS (oX [oF 9 1 3,oL 10 9,oC 11 31 [oO 10,oN 0,oN 1000000000],oA 12 (.un .not (oO 11))] [2,3,12] (oI 12 (oX [oV 4 2] [4] .ret))) (oK [2,3] (oS (oX [oF 13 0 3,oL 14 13,oB 15 .eql 3 14 (oN 3),oM 16 15,oE 17 16 false 0 3,oJ 18 16 false 17,oG 19 16 false (.bin .eql 3 (oO 18) (oN 10)),oH 20 16 19] [2,3,20] (oI 20 (oS (oX [o5 21 3 2,oF 22 2 3,oL 23 22,oC 24 99 [oO 21,oO 23],oA 25 (.un .not (oO 24))] [25] (oI 25 (oX [oV 4 6] [4] .ret))) (oK [] (oX [oV 4 0] [4] .ret))))) (oK [3] (oS (oX [oF 26 2 3,oL 27 26,oB 28 .neq 3 27 (oN 0)] [28] (oI 28 (oX [oV 4 3] [4] .ret))) (oK [] (oX [oV 4 0] [4] .ret)))))))))
def rv68 : List RV:=[.tmp 4]
theorem is68 : FnIs Tryz.prog 68 29 c68 rv68:=⟨⟨Tryz.f68,_,Tryz.func68,by kernel_rfl,rfl,rfl,by kernel_rfl,by kernel_rfl⟩,by decide⟩
def c69 : AC:=oX [o7 3 0,o7 4 1,o7 5 2,oA 6 (.alloc oZ),oV 7 0] [3,4,5,6] (oX [o5 11 3 3,o5 12 10 4,oC 13 113 [oO 11,oO 12],oM 10 13,o8 14 10 0,o8 15 10 1,oM 8 14,oM 9 15] [5,6,8,9] (oS (oX [oM 16 9,oB 17 .eql 27 16 (oN 0)] [5,6,8,9,17] (oI 17 (oR [oM 18 8,o5 19 3 5,oC 20 118 [oO 18,oO 19],oM 9 20]))) (oK [6,8,9] (oS (oX [oM 21 9,oB 22 .neq 27 21 (oN 0)] [6,8,9,22] (oI 22 (oX [oA 23 (.build oZ []),oM 24 9,oW 10 6 23,oM 7 24] [6,7] .ret))) (oK [6,8] (oX [oM 25 8,o6 26 25,oF 27 0 26,o5 28 10 27,oW 10 6 28,oV 7 0] [6,7] .ret))))))
def rv69 : List RV:=[.cell 6 true 10,.tmp 7]
theorem is69 : FnIs Tryz.prog 69 29 c69 rv69:=⟨⟨Tryz.f69,_,Tryz.func69,by kernel_rfl,rfl,rfl,by kernel_rfl,by kernel_rfl⟩,by decide⟩
def c71 : AC:=oX [o7 3 0,o7 4 1,o7 5 2,oA 6 (.alloc oZ),oV 7 0] [3,4,5,6] (oS (oX [o5 9 3 3,o5 10 3 5,oC 11 68 [oO 9,oO 10],oM 8 11] [3,4,5,6,8] (oX [oM 12 8,oB 13 .neq 3 12 (oN 0)] [3,4,5,6,8,13] (oI 13 (oX [oA 14 (.build oZ []),oM 15 8,oW 10 6 14,oM 7 15] [6,7] .ret)))) (oK [3,4,5,6] (oX [o5 16 3 3,o5 17 10 4,o5 18 3 5,oC 19 119 [oO 16,oO 17,oO 18],o8 20 19 0,o8 21 19 1,oW 10 6 20,oM 7 21] [6,7] .ret)))
def rv71 : List RV:=[.cell 6 true 10,.tmp 7]
theorem is71 : FnIs Tryz.prog 71 22 c71 rv71:=⟨⟨Tryz.f71,_,Tryz.func71,by kernel_rfl,rfl,rfl,by kernel_rfl,by kernel_rfl⟩,by decide⟩
def c75l1 : AC:=oS (oX [oM 6 5,oM 7 0,o4 8 7,oB 9 .lss 3 6 (oO 8)] [0,1,5,9] (.cond (oO 9) .skip (.exit 0))) (oK [0,1,5] (oS (.block 1 (oX [oM 12 0,oM 13 5,oA 14 (.iaddr 1 o1 (oO 12) (oO 13)),oL 15 14,oM 16 1,oB 17 .eql 3 15 (oO 16)] [0,1,5,17] (oI 17 (oX [o9 4 true] [4] .ret)))) (oK [0,1,5] (oR [oM 10 5,oB 11 .add 3 10 (oN 1),oM 5 11]))))
def c75 : AC:=oX [o9 4 false] [0,1] (oS (oX [oV 5 0] [0,1,5] (.block 0 (.loop c75l1))) (oK [] (oX [o9 4 false] [4] .ret)))
def yU : AC:=oX [oB 45 .lss 3 44 (oO 43)] [2,3,4,9,10,33,34,43,44,45] (oS (.cond (oO 45) .skip (.exit 2)) (oK [2,3,4,9,10,33,34,43,44] (oS (.block 3 (oX [oM 46 44,oM 13 46] [2,3,4,9,10,13,33,34,43,44] (oX [oM 47 10,oM 48 2,oM 49 13,oA 50 (.build o3 [(0,1,oO 47),(1,1,oO 48),(2,1,oO 49)]),oA 14 (.alloc o3),oW 3 14 50] [2,3,4,9,10,14,33,34,43,44] (oX [o5 52 3 3,o5 53 10 4,o5 54 3 14,oC 55 69 [oO 52,oO 53,oO 54],oM 51 55,o8 56 51 0,o8 57 51 1,oA 15 (.alloc oZ),oW 10 15 56,oM 16 57] [2,3,4,9,10,14,16,33,34,43,44] (oX [oM 58 16,oB 59 .eql 27 58 (oN 0)] [2,3,4,9,10,14,33,34,43,44,59] (oI 59 (oR [oM 60 9,o5 61 3 14,oA 62 (.mkSl false 83 3 o3 1 [(0,oO 61)]),oA 63 (.app 48 83 3 24 o3 (oO 60) (oO 62)),oM 9 63]))))))) (oK [2,3,4,9,10,33,34,43,44] (oR [oB 64 .add 3 44 (oN 1),oM 44 64])))))
def c76l2 : AC:=oX [oB 35 .lss 3 34 (oN 12)] [2,3,4,9,33,34,35] (oS (.cond (oO 35) .skip (.exit 0)) (oK [2,3,4,9,33,34] (oS (.block 1 (oX [oM 36 34,oA 37 (.opq (.index 170 (oO 33) (oO 34)) 169),⟨some 11,none,.alloc [.string ⟨#[]⟩,.bool false,.nilFunc],false⟩,oM 10 36,oW 3 11 37] [2,3,4,9,10,11,33,34] (oX [oV 12 1] [2,3,4,9,10,11,12,33,34] (oS (oX [oF 38 1 11,oL 39 38] [2,3,4,9,10,12,33,34,39] (oI 39 (oR [oF 40 0 3,oL 41 40,o4 42 41,oM 12 42]))) (oK [2,3,4,9,10,12,33,34] (oX [oM 43 12,oV 44 0] [2,3,4,9,10,33,34,43,44] (.block 2 (.loop yU)))))))) (oK [2,3,4,9,33,34] (oR [oB 65 .add 3 34 (oN 1),oM 34 65])))))
def c76 : AC:=oX [o7 3 0,o7 4 1,oA 6 (.mv (.const (.slice none 0 0))),oV 7 0] [2,3,4] (oS (oS (oQ [o5 17 3 3,o5 18 10 4,oC 19 64 [oO 17,oO 18],oA 20 (.mvs (oO 2)),oC 21 102 [oO 20],oC 22 95 [oO 21,oN 2],oA 23 (.mvs (oO 2)),oF 24 0 4,oL 25 24,oB 26 .geq 3 23 (oO 25),oT 27 (.call (.func 95) [oO 26,oN 9]),oT 28 (.mkSl false 27 1 o1 3 [(0,oO 19),(1,oO 22),(2,oO 27)]),oT 29 (.call (.func 91) [oO 28]),oT 8 (.mv (oO 29))]) (oK [2,3,4,8] (oX [oM 30 8,oB 31 .neq 27 30 (oN 0)] [2,3,4,8,31] (oI 31 (oX [oM 32 8,oA 6 (.mv (.const (.slice none 0 0))),oM 7 32] [6,7] .ret))))) (oK [2,3,4] (oX [oA 9 (.mv (.const (.slice none 0 0)))] [2,3,4,9] (.nilrow 9 3 83 (oS (oX [oA 33 (.load true 36 (.global 0)),oV 34 0] [2,3,4,9,33,34] (.block 0 (.loop c76l2))) (oK [9] (.fz [9] (oX [oM 66 9,oM 6 66,oV 7 0] [6,7] .ret))))))))
def xU : List RV:=[.tmp 6,.tmp 7]
theorem is76 : FnIs Tryz.prog 76 67 c76 xU:=⟨⟨Tryz.f76,_,Tryz.func76,by kernel_rfl,rfl,rfl,by kernel_rfl,by kernel_rfl⟩,by decide⟩
def c77l1 : AC:=oS (oX [oM 11 5,oM 12 0,o4 13 12,oB 14 .lss 3 11 (oO 13)] [0,1,5,14] (.cond (oO 14) .skip (.exit 0))) (oK [0,1,5] (oS (.block 1 (oS (oQ [oM 17 0,oA 18 (.mvs (oO 5)),oA 19 (.iaddr 3 o3 (oO 17) (oO 18)),o5 20 3 19,oM 21 1,oM 22 5,oA 23 (.iaddr 3 o3 (oO 21) (oO 22)),o5 24 3 23,oT 25 (.ext (.eqs true [0,0,0]) [oO 20,oO 24])]) (oK [0,1,5,25] (oI 25 (oX [o9 4 false] [4] .ret))))) (oK [0,1,5] (oR [oM 15 5,oB 16 .add 3 15 (oN 1),oM 5 16]))))
def c77 : AC:=oX [o9 4 false] [0,1] (oS (oX [oM 6 0,o4 7 6,oM 8 1,o4 9 8,oB 10 .neq 3 7 (oO 9)] [0,1,10] (oI 10 (oX [o9 4 false] [4] .ret))) (oK [0,1] (oS (oX [oV 5 0] [0,1,5] (.block 0 (.loop c77l1))) (oK [] (oX [o9 4 true] [4] .ret)))))
def rv77 : List RV:=[.tmp 4]
theorem is77 : FnIs Tryz.prog 77 26 c77 rv77:=⟨⟨Tryz.f77,_,Tryz.func77,by kernel_rfl,rfl,rfl,by kernel_rfl,by kernel_rfl⟩,by decide⟩
def c80l1 : AC:=oX [oB 31 .lss 3 30 (oO 29)] [3,28,29,30,31] (oS (.cond (oO 31) .skip (.exit 0)) (oK [3,28,29,30] (oS (.block 1 (oX [oA 32 (.iaddr 1 o0 (oO 28) (oO 30)),oL 33 32,oM 5 33] [3,5,28,29,30] (oR [oM 34 3,oM 35 5,oC 36 122 [oO 35],⟨some 37,none,.mkSl false 9 1 [.string ⟨#[]⟩] 1 [(0,oO 36)],false⟩,⟨some 38,none,.app 44 9 1 16 [.string ⟨#[]⟩] (oO 34) (oO 37),false⟩,oM 3 38]))) (oK [3,28,29,30] (oR [oB 39 .add 3 30 (oN 1),oM 30 39])))))
def c80 : AC:=oX [o7 1 0,⟨some 2,none,.mv (.const (.string ⟨#[]⟩)),false⟩] [1] (oX [oF 6 0 1,oL 7 6,oF 8 1 1,oL 9 8,oF 10 2 1,oL 11 10,oF 12 3 1,oL 13 12,oF 14 4 1,oL 15 14,oF 16 5 1,oL 17 16,oF 18 6 1,oL 19 18,oF 20 7 1,oL 21 20,oF 22 8 1,oL 23 22,oA 24 (.mkSl false 3 1 o1 9 [(0,oO 7),(1,oO 9),(2,oO 11),(3,oO 13),(4,oO 15),(5,oO 17),(6,oO 19),(7,oO 21),(8,oO 23)]),oC 25 122 [oO 24],⟨some 26,none,.mkSl false 9 1 [.string ⟨#[]⟩] 1 [(0,oO 25)],false⟩,oM 3 26] [1,3] (oS (oX [oF 27 9 1,oL 28 27,o4 29 28,oV 30 0] [3,28,29,30] (.block 0 (.loop c80l1))) (oK [3] (.fz [3] (oX [oM 40 3,⟨some 41,none,.call (.func 123) [oO 40,(.const (.string ⟨#[124]⟩))],false⟩,oM 2 41] [2] .ret)))))
def c82l1 : AC:=oX [oB 49 .lss 3 48 (oN 9)] [2,4,5,7,47,48,49] (oS (.cond (oO 49) .skip (.exit 0)) (oK [2,4,5,7,47,48] (oS (.block 1 (oX [oM 50 48,oA 51 (.opq (.index 182 (oO 47) (oO 48)) 181),oM 9 50,oM 10 51] [2,4,5,7,9,10,47,48] (oR [oM 52 10,oM 53 7,oM 54 9,oA 55 (.iaddr 1 o1 (oO 53) (oO 54)),oL 56 55,o6 57 52,oW 1 57 56]))) (oK [2,4,5,7,47,48] (oR [oB 58 .add 3 48 (oN 1),oM 48 58])))))
def Be : AC:=oX [oB 63 .lss 3 62 (oO 61)] [2,5,60,61,62,63] (oS (.cond (oO 63) .skip (.exit 2)) (oK [2,5,60,61,62] (oS (.block 3 (oX [⟨some 64,none,.iaddr 1 [.string ⟨#[]⟩] (oO 60) (oO 62),false⟩,oL 65 64,oM 12 65] [2,5,12,60,61,62] (oX [oM 67 12,oC 68 127 [oO 67],oM 66 68,o8 69 66 0,o8 70 66 1,oM 13 69,oM 14 70] [2,5,13,14,60,61,62] (oS (oX [oM 71 14,oA 72 (.un .not (oO 71))] [2,5,13,60,61,62,72] (oI 72 (oX [oA 73 (.build oZ []),oW 10 2 73,oV 3 7] [2,3] .ret))) (oK [2,5,13,60,61,62] (oR [oF 74 9 5,oL 75 74,oM 76 13,oA 77 (.mkSl false 24 1 o0 1 [(0,oO 76)]),oA 78 (.app 51 24 1 24 o0 (oO 75) (oO 77)),oF 79 9 5,oY true 1 (oO 79) (oO 78)])))))) (oK [2,5,60,61,62] (oR [oB 80 .add 3 62 (oN 1),oM 62 80])))))
def c82 : AC:=oX [oA 2 (.alloc oZ),oV 3 0] [0,2] (oX [oM 15 0,⟨some 16,none,.call (.func 128) [oO 15,(.const (.string ⟨#[124]⟩))],false⟩,oM 4 16] [2,4] (oX [oA 5 (.alloc oZ)] [2,4,5] (oX [oF 17 0 5,oF 18 1 5,oF 19 2 5,oF 20 3 5,oF 21 4 5,oF 22 5 5,oF 23 6 5,oF 24 7 5,oF 25 8 5,oA 26 (.build [.pointer none,.pointer none,.pointer none,.pointer none,.pointer none,.pointer none,.pointer none,.pointer none,.pointer none] [(0,1,oO 17),(1,1,oO 18),(2,1,oO 19),(3,1,oO 20),(4,1,oO 21),(5,1,oO 22),(6,1,oO 23),(7,1,oO 24),(8,1,oO 25)]),oA 6 (.alloc [.pointer none,.pointer none,.pointer none,.pointer none,.pointer none,.pointer none,.pointer none,.pointer none,.pointer none]),oW 9 6 26] [2,4,5,6] (oX [oM 28 4,⟨some 29,none,.iaddr 1 [.string ⟨#[]⟩] (oO 28) (oN 0),false⟩,oL 30 29,oC 31 127 [oO 30],oM 27 31,o8 32 27 0,o8 33 27 1,oM 7 32,oM 8 33] [2,4,5,6,7,8] (oS (oX [oM 34 8,oA 35 (.un .not (oO 34)),oM 36 35,oD 37 36 false 7,oG 38 36 false (.len false (oO 37)),oG 39 36 false (.bin .neq 3 (oO 38) (oN 9)),oH 40 36 39,oM 41 40,oD 42 41 false 4,oG 43 41 false (.len false (oO 42)),oG 44 41 false (.bin .lss 3 (oO 43) (oN 2)),oH 45 41 44] [2,4,5,6,7,45] (oI 45 (oX [oA 46 (.build oZ []),oW 10 2 46,oV 3 7] [2,3] .ret))) (oK [2,4,5,6,7] (oS (oX [o5 47 9 6,oV 48 0] [2,4,5,7,47,48] (.block 0 (.loop c82l1))) (oK [2,4,5] (oS (oX [oM 59 4,oA 60 (.ssl 1 (oO 59) (some (oN 1)) none none),o4 61 60,oV 62 0] [2,5,60,61,62] (.block 2 (.loop Be))) (oK [2,5] (oX [o5 81 10 5,oW 10 2 81,oV 3 0] [2,3] .ret)))))))))))
def xV : List RV:=[.cell 2 true 10,.tmp 3]
theorem is82 : FnIs Tryz.prog 82 82 c82 xV:=⟨⟨Tryz.f82,_,Tryz.func82,by kernel_rfl,rfl,rfl,by kernel_rfl,by kernel_rfl⟩,by decide⟩
def c85 : AC:=oX [o7 1 0,⟨some 2,none,.mv (.const (.string ⟨#[]⟩)),false⟩] [1] (oS (oX [oF 4 0 1,oL 5 4,oC 6 31 [oO 5,oN 0,oN 11],oA 7 (.un .not (oO 6))] [1,7] (oI 7 (oX [⟨some 2,none,.mv (.const (.string ⟨#[]⟩)),false⟩] [2] .ret))) (oK [1] (oS (oQ [oC 8 130 [],oF 9 0 1,oL 10 9,⟨some 11,none,.iaddr 1 [.string ⟨#[]⟩] (oO 8) (oO 10),false⟩,oL 12 11,⟨some 13,none,.bin .add 9 (oO 12) (.const (.string ⟨#[32]⟩)),false⟩,oF 14 1 1,oL 15 14,oC 16 134 [oO 15],oT 17 (.bin .add 9 (oO 13) (oO 16)),oT 3 (.mv (oO 17))]) (oK [1,3] (oS (oX [oF 18 0 1,oL 19 18,oC 20 131 [oO 19]] [1,3,20] (oI 20 (oR [oM 21 3,⟨some 22,none,.bin .add 9 (oO 21) (.const (.string ⟨#[32]⟩)),false⟩,oF 23 2 1,oL 24 23,oC 25 134 [oO 24],oB 26 .add 9 22 (oO 25),oM 3 26]))) (oK [3] (oX [oM 27 3,oM 2 27] [2] .ret)))))))
def c87 : AC:=oX [o9 0 false] [] (oX [oC 7 89 [],oC 8 90 [],oC 9 39 [oO 7,oN 0,oO 8],oM 6 9,o8 10 6 0,o8 11 6 1,oM 1 10,oM 2 11] [1,2] (oX [oC 13 89 [],oC 14 90 [],oA 15 (.ssl 3 (oO 14) none (some (oN 3)) none),oC 16 36 [oO 13,oN 0,oO 15],oM 12 16,o8 17 12 0,o8 18 12 1,o8 19 12 2,oA 3 (.alloc oZ),oW 10 3 17,oM 4 18,oM 5 19] [1,2,3,5] (oX [oM 20 2,oB 21 .eql 27 20 (oN 0),oM 22 21,oD 23 22 true 1,oG 24 22 true (.mkSl false 3 1 o1 2 [(0,oN 0),(1,oN 1)]),oG 25 22 true (.call (.func 30) [oO 23,oO 24]),oP 26 22 25,oM 27 26,oD 28 27 true 5,oG 29 27 true (.bin .eql 27 (oO 28) (oN 0)),oP 30 27 29,oM 31 30,oG 32 31 true (.load true 10 (oO 3)),oG 33 31 true (.call (.func 80) [oO 32]),⟨some 34,some (31,true),.bin .eql 9 (oO 33) (.const (.string ⟨#[51,32,48,32,48,32,48,32,45,49,32,45,49,32,48,32,50,32,49,124,48,32,49,124,124]⟩)),false⟩,oP 35 31 34,oM 0 35] [0] .ret)))
def rv87 : List RV:=[.tmp 0]
theorem is87 : FnIs Tryz.prog 87 36 c87 rv87:=⟨⟨Tryz.f87,_,Tryz.func87,by kernel_rfl,rfl,rfl,by kernel_rfl,by kernel_rfl⟩,by decide⟩
def c89 : AC:=oX [oA 0 (.alloc [.slice none 0 0,.slice none 0 0,.int .i64 0])] [0] (oX [⟨some 1,none,.mkSl false 9 1 [.string ⟨#[]⟩] 3 [(0,(.const (.string ⟨#[97]⟩))),(1,(.const (.string ⟨#[98]⟩))),(2,(.const (.string ⟨#[99]⟩)))],false⟩,oA 2 (.build o2 [(0,1,oN 0),(1,1,oN 1)]),oA 3 (.build o2 [(0,1,oN 1),(1,1,oN 2)]),oA 4 (.mkSl false 40 2 o2 2 [(0,oO 2),(1,oO 3)]),oA 5 (.build [.slice none 0 0,.slice none 0 0,.int .i64 0] [(0,1,oO 1),(1,1,oO 4),(2,1,oN 100)]),oW 3 0 5] [0] .ret)
def rv89 : List RV:=[.cell 0 true 3]
theorem is89 : FnIs Tryz.prog 89 6 c89 rv89:=⟨⟨Tryz.f89,_,Tryz.func89,by kernel_rfl,rfl,rfl,by kernel_rfl,by kernel_rfl⟩,by decide⟩
def c90 : AC:=oX [oA 0 (.mv (.const (.slice none 0 0)))] [] (oX [oA 1 (.build o3 [(1,1,oN 1)]),oA 2 (.build o3 [(1,1,oN 2)]),oA 3 (.build o3 [(0,1,oN 1),(1,1,oN 3)]),oA 4 (.build o3 [(0,1,oN 3),(1,1,oN 4),(2,1,oN 1)]),oA 5 (.build o3 [(0,1,oN 5),(1,1,oN 5)]),oA 6 (.build o3 [(0,1,oN 7),(1,1,oN 6)]),oA 7 (.build o3 [(0,1,oN 7),(1,1,oN 7)]),oA 8 (.build o3 [(0,1,oN 6),(1,1,oN 8)]),oA 9 (.build o3 [(0,1,oN 1),(1,1,oN 9)]),oA 10 (.build o3 [(0,1,oN 2),(1,1,oN 10)]),oA 11 (.build o3 [(0,1,oN 1),(1,1,oN 11)]),oA 12 (.build o3 [(0,1,oN 2),(1,1,oN 12)]),oA 13 (.mkSl false 83 3 o3 12 [(0,oO 1),(1,oO 2),(2,oO 3),(3,oO 4),(4,oO 5),(5,oO 6),(6,oO 7),(7,oO 8),(8,oO 9),(9,oO 10),(10,oO 11),(11,oO 12)]),oM 0 13] [0] .ret)
def rv90 : List RV:=[.tmp 0]
theorem is90 : FnIs Tryz.prog 90 14 c90 rv90:=⟨⟨Tryz.f90,_,Tryz.func90,by kernel_rfl,rfl,rfl,by kernel_rfl,by kernel_rfl⟩,by decide⟩
def c99 : AC:=oX [o7 2 0,o9 4 false] [1,2] (oX [oM 5 1,oF 6 0 2,oL 7 6,o4 8 7,oB 9 .sub 3 8 (oN 1),oC 10 31 [oO 5,oN 0,oO 9],oM 4 10] [4] .ret)
def rv99 : List RV:=[.tmp 4]
theorem is99 : FnIs Tryz.prog 99 11 c99 rv99:=⟨⟨Tryz.f99,_,Tryz.func99,by kernel_rfl,rfl,rfl,by kernel_rfl,by kernel_rfl⟩,by decide⟩
def Cl : AC:=oS (oX [oM 11 5,oM 12 0,o4 13 12,oB 14 .lss 3 11 (oO 13)] [0,1,5,14] (.cond (oO 14) .skip (.exit 0))) (oK [0,1,5] (oS (.block 1 (oS (oQ [oM 17 0,oA 18 (.mvs (oO 5)),oA 19 (.iaddr 1 o0 (oO 17) (oO 18)),oL 20 19,oM 21 1,oM 22 5,oA 23 (.iaddr 1 o0 (oO 21) (oO 22)),oL 24 23,oT 25 (.call (.func 30) [oO 20,oO 24]),oT 26 (.un .not (oO 25))]) (oK [0,1,5,26] (oI 26 (oX [o9 4 false] [4] .ret))))) (oK [0,1,5] (oR [oM 15 5,oB 16 .add 3 15 (oN 1),oM 5 16]))))
def c100 : AC:=oX [o9 4 false] [0,1] (oS (oX [oM 6 0,o4 7 6,oM 8 1,o4 9 8,oB 10 .neq 3 7 (oO 9)] [0,1,10] (oI 10 (oX [o9 4 false] [4] .ret))) (oK [0,1] (oS (oX [oV 5 0] [0,1,5] (.block 0 (.loop Cl))) (oK [] (oX [o9 4 true] [4] .ret)))))
def rv100 : List RV:=[.tmp 4]
theorem is100 : FnIs Tryz.prog 100 27 c100 rv100:=⟨⟨Tryz.f100,_,Tryz.func100,by kernel_rfl,rfl,rfl,by kernel_rfl,by kernel_rfl⟩,by decide⟩
def Cm : AC:=oS (oX [oM 14 3,oM 15 0,oA 16 (.len true (oO 15)),oB 17 .lss 3 14 (oO 16)] [0,3,17] (.cond (oO 17) .skip (.exit 0))) (oK [0,3] (oS (.block 1 (oX [oM 20 0,oM 21 3,oA 22 (.istr (oO 20) (oO 21)),oM 4 22] [0,3,4] (oX [oM 23 4,oA 24 (.bin .geq 5 (oO 23) (.const (.int .u8 97))),oM 25 24,oD 26 25 true 4,oG 27 25 true (.bin .leq 5 (oO 26) (.const (.int .u8 122))),oP 28 25 27,oM 29 28,oD 30 29 false 4,oG 31 29 false (.bin .geq 5 (oO 30) (.const (.int .u8 65))),oD 32 29 false 31,oD 33 32 true 4,oG 34 32 true (.bin .leq 5 (oO 33) (.const (.int .u8 90))),oG 35 29 false (.pick (oO 32) (oO 34) (.const (.bool false))),oH 36 29 35,oM 5 36] [0,3,4,5] (oX [oM 37 5,oA 38 (.un .not (oO 37)),oM 39 38,oD 40 39 true 3,oG 41 39 true (.bin .eql 3 (oO 40) (oN 0)),oD 42 39 true 41,oD 43 42 false 4,oG 44 42 false (.bin .neq 5 (oO 43) (.const (.int .u8 45))),oD 45 42 false 44,oD 46 45 true 4,oG 47 45 true (.bin .lss 5 (oO 46) (.const (.int .u8 48))),oD 48 45 true 47,oD 49 48 false 4,oG 50 48 false (.bin .gtr 5 (oO 49) (.const (.int .u8 57))),oG 51 45 true (.pick (oO 48) (.const (.bool true)) (oO 50)),oG 52 42 false (.pick (oO 45) (oO 51) (.const (.bool false))),oG 53 39 true (.pick (oO 42) (.const (.bool true)) (oO 52)),oP 54 39 53] [0,3,54] (oI 54 (oX [o9 2 false] [2] .ret)))))) (oK [0,3] (oR [oM 18 3,oB 19 .add 3 18 (oN 1),oM 3 19]))))
def c108 : AC:=oX [o9 2 false] [0] (oS (oX [oM 6 0,oA 7 (.len true (oO 6)),oB 8 .lss 3 7 (oN 1),oM 9 8,oD 10 9 false 0,oG 11 9 false (.len true (oO 10)),oG 12 9 false (.bin .gtr 3 (oO 11) (oN 12)),oH 13 9 12] [0,13] (oI 13 (oX [o9 2 false] [2] .ret))) (oK [0] (oS (oX [oV 3 0] [0,3] (.block 0 (.loop Cm))) (oK [] (oX [o9 2 true] [2] .ret)))))
def At : List RV:=[.tmp 2]
theorem is108 : FnIs Tryz.prog 108 55 c108 At:=⟨⟨Tryz.f108,_,Tryz.func108,by kernel_rfl,rfl,rfl,by kernel_rfl,by kernel_rfl⟩,by decide⟩
end Go.Proofs.YtcbabnbiinkafaaGreatDoor
end
