/- Part 1 of the proof of: MovePossible returns true for every input and never panics: the events that are possible at a time are those of the reference, or the same error, and Apply accepts each of them; conditions: those of the given statement. -/
import Derived.Maps.RangeWalk
import Derived.Test.YtcbabnbiinkafaaGreatDoorProg
import Derived.KernelRfl
import Derived.Test.YtcbabnbiinkafaaGreatDoorBp21
set_option linter.all false
section
namespace Go.Am
theorem dN.ownI {E:Env} {U:Nat->Prop} {h:Array Obj} {k:Nat} {c:Ch} (hc:dN E U h k c) {i:Nat} {q:Nat×TypeId×List (List C)} (hi:chI c i=some q) (hn:((E k).inn i).nil=false):(E k).fp ((E k).inn i).blk:=by
 cases c with
 | box cs=>exact (hc.2.1.fp _).2 (.inr ⟨i,q,hi,hn,rfl⟩)
 | row sz ty es=>cases hi
 | deep isz ity ty hole rows=>exact (hc.2.1.fp _).2 (.inr ⟨i,q,hi,hn,rfl⟩)
 | res R=>cases hi
end Go.Am
end
section
namespace Go.Am
variable {P : Program} [Glob P]
open Dat (cells)
theorem AS : ∀ l:List C,bL l l
 |[]=>trivial
 | a :: l=>⟨uX a,AS l⟩
end Go.Am
end
section
namespace Go.Am
open Dat (cells)
variable {P : Program} {E : Env} {U : Nat → Prop} {w : World} {ch : Chs} {d : Nat}
theorem S_ren [Glob P] {cx:Cx} {Q:ASt->Prop} {k:List It} {st:ASt} (m:List (Nat×Nat)) (hk:ba (ag st.ch) st.ch=true) (hnd:an ((ag st.ch).map (rn m))) (hbs:jn m st.ch) (h:SG P cx Q k (renS m st)):SG P cx Q k st:=fE (dX.ren m hk hnd hbs) h
end Go.Am
end
section
namespace Go.Am
open Dat (cells)
variable {P : Program}
def DOf (D:DataW Unit) (m:Int->Option Int):Prop:=∀ x,Maps.has D (.int .i64 x)=(m x).isSome/\∀ c,m x=some c->∀ zd,D.atKey (.int .i64 x) zd=.lit (.int .i64 c)
def upd (m:Int->Option Int) (q c:Int):Int->Option Int:=fun x=>if x=q then some c else m x
def xZ (P:Program) (k e:TypeId) (b n:Nat) (m:Int->Option Int):Res where
 φ:=fun F _ h=>(∀ x,F x↔x=b)/\∃ w:World,w.heap=h/\∃ D,w.ownsMap P k (plainElem P e) b n D/\DOf D m
 mono:=fun _ _ _ _ h' ⟨hF,w,hw,D,⟨es,clock,g1,g2,g3,g4⟩,hD⟩ _ hk=>⟨hF,{ w with heap:=h' },rfl,D,⟨es,clock,(hk b ((hF b).2 rfl)).trans (hw ▸ g1),g2,g3,g4⟩,hD⟩
def AE (P:Program) (k e:TypeId) (b r n:Nat) (m:Int->Option Int) (left:Int->Bool) (cnt:Nat):Res where
 φ:=fun F _ h=>(∀ x,F x↔x=b\/x=r)/\∃ w:World,w.heap=h/\∃ D L,w.ranges P k (plainElem P e) b r n D L cnt/\DOf D m/\∀ x,L (.int .i64 x)=left x
 mono:=fun _ _ _ _ h' ⟨hF,w,hw,D,L,⟨es,clock,since,seen,c0,g1,g2,g3,g4,g5,g6⟩,hD⟩ _ hk=>⟨hF,{ w with heap:=h' },rfl,D,L,⟨es,clock,since,seen,c0,(hk b ((hF b).2 (.inl rfl))).trans (hw ▸ g1),g2,g3,g4,(hk r ((hF r).2 (.inr rfl))).trans (hw ▸ g5),g6⟩,hD⟩
theorem xt {own:Bool} {op o:Op} {ty ty':TypeId} (h:ic P own op ty=some (.opq o ty')):op=o/\ty=ty':=by
 unfold ic at h;split at h
 . cases h
 . cases op with
   | call c=>
    obtain⟨callee,args,argTypes⟩:=c;cases callee with
    | value f=>simp[eE]at h
    | invoke r m=>simp only[eE,zn,AOp.opq.injEq]at h;exact h
    | builtin b=>
     cases b <;> simp only[eE]at h
     case append=>
      split at h
      . split at h
        . simp only[zk]at h;obtain⟨i,_,z,_,h⟩:=h;split at h <;> cases h
        . cases h
      . cases h
     case len=>
      split at h
      . split at h <;> cases h
      . cases h
     all_goals cases h
   | buildSlice t len parts=>
    simp only[eE]at h;split at h
    . simp only[zk]at h;obtain⟨i,_,z,_,h⟩:=h;split at h <;> cases h
    . cases h
   | build t parts=>simp[eE,zk]at h
   | load t x=>simp[eE,zk]at h
   | binOp b t x y yt=>
    simp only[eE]at h;split at h <;> cases h
   | convert s t x=>
    simp only[eE]at h;split at h <;> cases h
   | makeSlice t l c=>
    simp only[eE]at h;split at h
    . simp only[zk]at h;obtain⟨i,_,z,_,h⟩:=h;split at h <;> cases h
    . cases h
   | slice t x lo hi mx=>
    simp only[eE]at h;split at h <;> simp at h;exact h
   | fieldAddr t x f=>
    simp only[eE]at h;split at h
    . simp only[zk]at h;obtain⟨i,_,z,_,h⟩:=h;split at h <;> cases h
    . cases h
   | field t x f=>
    simp only[eE]at h;split at h
    . simp[zk]at h
    . cases h
   | indexAddr t x i=>
    simp only[eE]at h;split at h
    . simp[zk]at h
    . simp at h
    . cases h
   | index t x i=>
    simp only[eE]at h;split at h <;> simp at h;exact h
   | move x=>cases own <;> simp[eE]at h
   | assign x=>cases own <;> simp[eE]at h
   | alloc t=>simp[eE]at h
   | store t a x=>simp[eE]at h
   |_=>simp only[eE,zn,AOp.opq.injEq,reduceCtorEq]at h <;> exact h
theorem DOf.start : DOf (.map []) fun _=>none:=fun x=>⟨rfl,fun c h=>by cases h⟩
theorem Bt {x q:Int} (h:x≠q):(Lit.int .i64 x)≠.int .i64 q:=fun e=>h (by cases e;rfl)
theorem DOf.put {D:DataW Unit} {m:Int->Option Int} {q c:Int} (h:DOf D m) (hm:Maps.IsMap D):DOf (D.put (.int .i64 q) (.lit (.int .i64 c))) (upd m q c):=fun x=>by
 by_cases hx:x=q
 . subst hx;have hk:WideAt.IsKeyLit (.int .i64 x):=trivial;refine⟨by rw[Maps.has_put_same hm hk];simp[upd],fun c' hc zd=>?_⟩;simp only[upd,if_true,zn]at hc;rw[Maps.atKey_put_same hm hk,hc]
 . refine⟨by rw[Maps.has_put_other (Bt hx)];simpa[upd,hx]using (h x).1,fun c' hc zd=>?_⟩;rw[Maps.atKey_put_other (Bt hx)];exact (h x).2 c' (by simpa[upd,hx]using hc) zd
end Go.Am
end
section
namespace Go.Am
open Dat (cells)
variable {P : Program}
variable [Glob P] {ro : Option Nat} {ρ : Operand → C} {ch : Chs} {d : Nat}
theorem OpM.mapNew {t k e ty:TypeId}:OpM P ro ρ ch d (.opq (.makeMap t none) ty) fun ef=>∃ b,ef=⟨True,.s (.map (some b)),(d,.res (xZ P k e b 0 fun _=>none)) :: ae [(d,.c .any)] (af ch d),[(d,.c .any)]⟩:=by
 intro own o a E U w hc hi hg hρ K Q hK;obtain⟨ho,_⟩:=xt hc;refine wK (v:=.map (some w.heap.size)) (w':=w.alloc (.map #[] 0)) (fun c=>by rw[ho];simp) (by simp[execOp,ho,show (Instr.makeMap t none).run P w=.ok (.map (some w.heap.size)) (w.alloc (.map #[] 0))from rfl,Result.andThen]) ?_
 let x:KE:=⟨⟨w.heap.size,0,0,0,0,false⟩,fun _=>default,fun b=>b=w.heap.size⟩
 refine hK _ ⟨w.heap.size,rfl⟩ _ _ U _ (.d (.s _)) (Ev.one hi d x _ rfl rfl rfl (by simp) (fun b hb=>(MapKept.heap_alloc w _).2 b hb) (fun b hb=>?_) ?_)
 . have:b=w.heap.size:=hb;subst this;simp
 . simp only[dN,updE_same];exact⟨fun _=>Iff.rfl,w.alloc (.map #[] 0),rfl,_,World.ownsMap_made _ _ _ _,DOf.start⟩
theorem BE {q:Int} (h:InR .i64 q):(Lit.int .i64 q).wf=true:=by
 have h':-9223372036854775808<=q/\q<=9223372036854775807:=h;simp[Lit.wf,IntKind.min,IntKind.max,IntKind.signed,IntKind.bits];omega
theorem OpM.mapGet {t k e ty:TypeId} {b n kr:Nat} {m:Int->Option Int} {x y:Operand} {q:Int} (T:MapTy P t k e) (hx:ρ x=.s (.map (some b))) (hy:ρ y=.s (.int .i64 q)) (hq:InR .i64 q) (hl:lk ch kr=some (.res (xZ P k e b n m))) :
 OpM P ro ρ ch d (.opq (.lookup t x y true) ty) fun ef=>ef=⟨True,.tup [.s (.int .i64 ((m q).getD 0)),.s (.bool (m q).isSome)],ch,[]⟩:=by
 intro own o a E U w hc hi hg hρ K Q hK;obtain⟨ho,_⟩:=xt hc;have ex:a.eval x=.map (some b):=dK (hx ▸ hρ x (by simp[AOp.reads,Op.operands]));have ey:a.eval y=.int .i64 q:=dK (hy ▸ hρ y (by simp[AOp.reads,Op.operands]));obtain⟨hF,w0,hw0,D,hown,hD⟩:=hi.ok kr _ (dH hl);have hown':w.ownsMap P k (plainElem P e) b n D:=by
  obtain⟨es,clock,g1,g⟩:=hown;exact⟨es,clock,by rw[<- hw0];exact g1,g⟩
 obtain⟨v,ps,hrun,hR⟩:=hown'.look_ok (Maps.int_keyed T.hk) T.ht (T.hz w) (plainElem_int T.he rfl) (Maps.keyOf_int_mk T.hk (BE hq));obtain⟨c,rfl,hc1,_⟩:=plainElem_int_inv T.he hR;refine wK (v:=.tuple #[.int .i64 c,.bool (Maps.has D (.int .i64 q))]) (w':=w) (fun c=>by rw[ho];simp) (by simp[execOp,ho,ex,ey,hrun,Result.andThen]) ?_;have hval:c=(m q).getD 0:=by
  cases hm:m q with
  | none=>
   have h0:=(hD q).1;rw[hm]at h0;have h1:D.atKey (.int .i64 q) (.lit (.int .i64 0))=.lit (.int .i64 c):=by simpa using congrArg Prod.fst hc1
   rw[Maps.atKey_of_not_has h0]at h1;cases h1;rfl
  | some c'=>
   have h1:D.atKey (.int .i64 q) (.lit (.int .i64 0))=.lit (.int .i64 c):=by simpa using congrArg Prod.fst hc1
   rw[(hD q).2 c' hm]at h1;cases h1;rfl
 refine hK _ rfl _ E U w (.tup _ _ rfl (fun j c' hj=>?_)) (Ev.refl hi d);rw[(hD q).1]
 match j,hj with
 | 0,hj=>cases hj;rw[hval];exact .d (.s _)
 | 1,hj=>cases hj;exact .d (.s _)
theorem yZ {U F F':Nat->Prop} {E:Env} {w w':World} {kr:Nat} {R:Res} (hi:Inv E U w.heap ch) (hl:lk ch kr=some (.res R)) (hF:∀ x,(E kr).fp x↔F x) {j:Nat} (hj:F j) (hg:w.grownBy w' (some j))
 (hF':∀ x,F' x->F x\/(w.heap.size<=x/\x < w'.heap.size)):Moved U (E kr).fp w U F' w' where
 os:=hg.os
 tape:=hg.tape
 output:=hg.output
 size:=hg.size
 keep:=fun b hb=>⟨hb,hg.block b (hi.lt b hb) (fun e=>by cases e;exact hi.out kr _ (dH hl) _ ((hF _).2 hj) hb)⟩
 rest:=fun b hb hn=>hg.block b hb (fun e=>by cases e;exact hn ((hF _).2 hj))
 live:=fun b hb=>by
  rcases hF' b hb with h | h
  . exact .inr ((hF b).2 h)
  . exact .inl h.1
 newU:=fun b hb=>.inl hb
 out:=fun b hb hu=>by
  rcases hF' b hb with h | h
  . exact hi.out kr _ (dH hl) b ((hF b).2 h) hu
  . have:=hi.lt b hu;omega
 fpl:=fun b hb=>by
  rcases hF' b hb with h | h
  . have:=hi.fpl kr _ (dH hl) b ((hF b).2 h);have:=hg.size;omega
  . exact h.2
 lt:=fun b hb=>by have:=hi.lt b hb;have:=hg.size;omega
def xU (ch:Chs) (kr:Nat) (R:Res):Chs:=(kr,.res R) :: ae [(kr,.inner)] (af ch kr)
theorem OpM.mapPut {t k e ty:TypeId} {b n kr:Nat} {m:Int->Option Int} {x y v:Operand} {q c:Int} (T:MapTy P t k e) (hn:n < 9223372036854775807) (hx:ρ x=.s (.map (some b))) (hy:ρ y=.s (.int .i64 q)) (hv:ρ v=.s (.int .i64 c)) (hq:InR .i64 q) (hcR:InR .i64 c) (hl:lk ch kr=some (.res (xZ P k e b n m))) :
 OpM P ro ρ ch d (.opq (.mapUpdate t x y v) ty) fun ef=>ef=⟨True,.s undef,xU ch kr (xZ P k e b (n+1) (upd m q c)),[(kr,.inner)]⟩:=by
 intro own o a E U w hc hi hg hρ K Q hK;obtain⟨ho,_⟩:=xt hc;have ex:a.eval x=.map (some b):=dK (hx ▸ hρ x (by simp[AOp.reads,Op.operands]));have ey:a.eval y=.int .i64 q:=dK (hy ▸ hρ y (by simp[AOp.reads,Op.operands]));have ev:a.eval v=.int .i64 c:=dK (hv ▸ hρ v (by simp[AOp.reads,Op.operands]));obtain⟨hF,w0,hw0,D,hown,hD⟩:=hi.ok kr _ (dH hl);have hown':w.ownsMap P k (plainElem P e) b n D:=by
  obtain⟨es,clock,g1,g⟩:=hown;exact⟨es,clock,by rw[<- hw0];exact g1,g⟩
 obtain⟨w',hrun,h1,h2⟩:=hown'.update (Maps.int_keyed T.hk) T.ht hn (Maps.keyOf_int_mk T.hk (BE hq)) (plainElem_int T.he (BE hcR));refine op_skip (w':=w') (fun c=>by rw[ho];simp) (by simp[execOp,ho,ex,ey,ev,hrun,Result.andThen]) ?_;refine hK _ rfl _ _ U w' (.d (.s _)) (Ev.res (F':=fun x=>x=b) hi hl (yZ hi hl hF rfl h2 (fun x hx=>.inl hx)) ?_ d);exact⟨fun _=>Iff.rfl,w',rfl,_,h1,hD.put hown'.isMap⟩
theorem OpM.mapRange {t k e ty:TypeId} {b n kr:Nat} {m:Int->Option Int} {x:Operand} (T:MapTy P t k e) (hx:ρ x=.s (.map (some b))) (hl:lk ch kr=some (.res (xZ P k e b n m))) :
 OpM P ro ρ ch d (.opq (.range t x) ty) fun ef=>∃ r cnt,ef=⟨True,.s (.pointer (some ⟨r,0,none⟩)),xU ch kr (AE P k e b r n m (fun x=>(m x).isSome) cnt),[(kr,.inner)]⟩:=by
 intro own o a E U w hc hi hg hρ K Q hK;obtain⟨ho,_⟩:=xt hc;have ex:a.eval x=.map (some b):=dK (hx ▸ hρ x (by simp[AOp.reads,Op.operands]));obtain⟨hF,w0,hw0,D,hown,hD⟩:=hi.ok kr _ (dH hl);have hown':w.ownsMap P k (plainElem P e) b n D:=by
  obtain⟨es,clock,g1,g⟩:=hown;exact⟨es,clock,by rw[<- hw0];exact g1,g⟩
 obtain⟨w',hrun,h1,h2,h3⟩:=hown'.range (Maps.int_keyed T.hk) T.ht;refine wK (v:=.pointer (some ⟨w.heap.size,0,none⟩)) (w':=w') (fun c=>by rw[ho];simp) (by simp[execOp,ho,ex,hrun,Result.andThen]) ?_;refine hK _ ⟨w.heap.size,Maps.size D,rfl⟩ _ _ U w' (.d (.s _)) (Ev.res (F':=fun x=>x=b\/x=w.heap.size) hi hl (yZ hi hl hF rfl (h2.but (some b)) (fun x hx=>?_)) ?_ d)
 . rcases hx with h | h
   . exact .inl h
   . exact .inr ⟨by omega,by omega⟩
 . exact⟨fun _=>Iff.rfl,w',rfl,D,_,h1,hD,fun x=>(hD x).1⟩
end Go.Am
end
section
namespace Go.Am
open Dat (cells)
variable {P : Program} [Glob P] {ro : Option Nat} {ρ : Operand → C} {ch : Chs} {d : Nat}
inductive Lend (ch:Chs):C->C->Prop
 | same (c:C):Lend ch c c
 | any (c:C):Lend ch c .any
 | own {k:Nat} {c0:Ch} {x:C} (h:lk ch k=some c0) (hx:bz c0=some x):Lend ch (.own k) x
 | inn {k i n:Nat} {t:TypeId} {es:List (List C)} {q:Prop} (h:aN ch k i=some (q,n,t,es)) (hq:q):Lend ch (.inn k i) (.sl n es)
 | agg {cs cs':List C} (hl:cs.length=cs'.length) (h:∀ (j:Nat) (a b:C),cs[j]? = some a->cs'[j]? = some b->Lend ch a b):Lend ch (.agg cs) (.agg cs')
def xz (ch:Chs):List C->List C->Prop
 |[],[]=>True
 | a :: l,b :: m=>Lend ch a b/\xz ch l m
 |_,_=>False
def lntU (E:Env) (U:Nat->Prop) (ch:Chs):Nat->Prop:=fun b=>U b\/∃ k c,(k,c)∈ch/\(E k).fp b
theorem Lend.rep {E:Env} {U:Nat->Prop} {h:Array Obj} (hi:Inv E U h ch) {c c':C} (hl:Lend ch c c'):∀ {v:Value},Rep E U h c v->Rep E (lntU E U ch) h c' v:=by
 have hk:∀ b,U b->lntU E U ch b/\h[b]? = h[b]?:=fun b hb=>⟨.inl hb,rfl⟩
 induction hl with
 | same c=>exact fun hr=>hr.same hk
 | any c=>exact fun _=>.d (.any _)
 | own g hx=>exact fun hr=>.d (nq (hi.ok _ _ (dH g)) hx hr hk (fun b hb=>⟨.inr ⟨_,_,dH g,hb⟩,rfl⟩))
 | inn g hq=>
  intro v hr;obtain⟨c0,g1,g2,_,g4⟩:=gY g hq;have hc:=hi.ok _ _ (dH g1);rw[kU hr];exact .d (lD ((hc.inns g4).2 _ _ _ _ g2) hk (fun hn=>⟨.inr ⟨_,_,dH g1,hc.ownI g2 hn⟩,rfl⟩))
 | agg hl h ih=>
  intro v hr;cases hr with
  | d hd=>cases hd
  | agg _ vs q1 q2 q3=>
   refine .agg _ vs (q1.trans hl) (fun j c hj=>?_) q3;have hlt:j < _:=(zi.1 hj).1;rw[<- hl]at hlt;exact ih j _ c (ze hlt) hj (q2 j _ (ze hlt))
theorem xz.args {E:Env} {U:Nat->Prop} {h:Array Obj} (hi:Inv E U h ch):∀ {cs ds:List C} {vs:List Value},xz ch cs ds->vs.length=cs.length->(∀ (j:Nat) (c:C),cs[j]? = some c->Rep E U h c (vs.getD j undef))->vs.length=ds.length/\∀ (j:Nat) (c:C),ds[j]? = some c->Rep E (lntU E U ch) h c (vs.getD j undef)
 |[],[],vs,_,hv,_=>⟨hv,fun j c hj=>by simp at hj⟩
 | a :: l,b :: m,[],_,hv,_=>by simp at hv
 | a :: l,b :: m,v :: vs,hL,hv,hr=>by
  obtain⟨h1,h2⟩:=xz.args hi (vs:=vs) hL.2 (by simpa using hv) (fun j c hj=>hr (j+1) c hj);refine⟨by simp[h1],fun j c hj=>?_⟩;cases j with
  | zero=>cases hj;exact hL.1.rep hi (hr 0 _ rfl)
  | succ j=>exact h2 j c hj
 |[],_ :: _,_,hL,_,_=>hL.elim
 |_ :: _,[],_,hL,_,_=>hL.elim
def y5 (kow:Option Nat):C->Bool
 |.s _=>true
 |.any=>true
 |.own j=>decide (kow=some j)
 |_=>false
def Bg (kow:Option Nat):C->Bool
 |.agg cs=>cs.all (y5 kow)
 |.tup cs=>cs.all fun c=>match c with | .agg ds=>ds.all (y5 kow) | c=>y5 kow c
 | c=>y5 kow c
def renO (kow:Option Nat) (d:Nat):List (Nat×Nat):=match kow with | some k=>[(k,d)] | none=>[]
end Go.Am
end
section
namespace Go.Am
open Dat (cells)
variable {P : Program} [Glob P] {ro : Option Nat} {ρ : Operand → C} {ch : Chs} {d : Nat}
section
variable {E E' : Env} {U U' : Nat → Prop} {h h' : Array Obj} {kow : Option Nat}
theorem Ae (hk:∀ k,kow=some k->(E' d).toKE0=(E k).toKE0) {c:C} {v:Value} (hs:y5 kow c=true) (hr:Rep E U h c v):Rep E' U' h' (ak (renO kow d) c) v:=by
 cases c <;> simp only[y5,zr,decide_eq_true_eq]at hs
 . exact .d (.any _)
 . rename_i x;rw[dK hr];exact .d (.s _)
 . subst hs;rw[eV hr,<- hk _ rfl];simp only[renO,ak,rn,lk,if_true,zN];exact .own d
theorem AV (hk:∀ k,kow=some k->(E' d).toKE0=(E k).toKE0) {cs:List C} {v:Value} (hs:cs.all (y5 kow)=true) (hr:Rep E U h (.agg cs) v):Rep E' U' h' (ak (renO kow d) (.agg cs)) v:=by
 cases hr with
 | d hd=>cases hd
 | agg _ vs q1 q2 q3=>
  simp only[ak,fe];refine .agg _ vs (by simpa using q1) (fun j c hj=>?_) q3;simp only[zh,za]at hj;obtain⟨c0,h0,rfl⟩:=hj;exact Ae hk (zx.1 hs c0 (zp h0)) (q2 j c0 h0)
theorem Ay (hk:∀ k,kow=some k->(E' d).toKE0=(E k).toKE0) {c:C} {v:Value} (hs:Bg kow c=true) (hr:Rep E U h c v):Rep E' U' h' (ak (renO kow d) c) v:=by
 cases c with
 | agg cs=>exact AV hk hs hr
 | tup cs=>
  cases hr with
  | d hd=>cases hd
  | tup _ vs q1 q2=>
   simp only[ak,fe];refine .tup _ vs (by simpa using q1) (fun j c hj=>?_);simp only[zh,za]at hj;obtain⟨c0,h0,rfl⟩:=hj;have hs0:=zx.1 hs c0 (zp h0);have hq:=q2 j c0 h0;generalize vs.getD j undef=u at *;cases c0 with
   | agg ds=>exact AV hk hs0 hq
   |_=>exact Ae hk hs0 hq
 |_=>exact Ae hk hs hr
end
end Go.Am
end
section
namespace Go.Am
open Dat (cells)
variable {P : Program} [Glob P] {ro : Option Nat} {ρ : Operand → C} {ch : Chs} {d : Nat}
def BD (es:List (List C)):Prop:=∀ e∈es,∀ c∈e,∃ v,c=.s v
def AG : Ch->Prop
 |.row _ _ es=>BD es
 |.deep _ _ _ none rows=>∀ es∈rows,BD es
 |_=>False
theorem BC {U U':Nat->Prop} {h:Array Obj} {y:KE0} {sz:Nat} {ty:TypeId} {es:List (List C)} (hs:BD es) (hr:fg U h y sz ty es):fg U' h y sz ty es:=by
 obtain⟨h1,h2,h3,h4⟩:=hr;refine⟨h1,h2,h3,?_⟩;rcases h4 with h4 | ⟨h4,h5,h6,arr,h7,h8,h9⟩
 . exact .inl h4
 . refine .inr ⟨h4,h5,h6,arr,h7,h8,fun i e j c he hj=>⟨?_,(h9 i e j c he hj).2⟩⟩;obtain⟨v,rfl⟩:=hs e (zp he) c (zp hj);have:=(h9 i e j _ he hj).1;generalize arr.getD (y.off+i*sz+j) undef=u at *;cases this;exact .s _
theorem AW {E E':Env} {U U':Nat->Prop} {h:Array Obj} {k d:Nat} (hk:E' d=E k) {c:Ch} (hs:AG c) (hc:dN E U h k c):dN E' U' h d c:=by
 cases c with
 | row sz ty es=>
  simp only[dN,hk]at hc ⊢;exact⟨BC hs hc.1,hc.2⟩
 | deep isz ity ty hole rows=>
  cases hole with
  | some i=>exact hs.elim
  | none=>
   simp only[dN,hk]at hc ⊢;refine⟨hc.1,hc.2.1,fun i n t es hI=>BC ?_ (hc.2.2 i n t es hI)⟩;simp only[eo,reduceCtorEq,if_false,za,zf]at hI;obtain⟨es',g1,rfl,rfl,rfl⟩:=hI;exact hs _ (zp g1)
 |_=>exact hs.elim
theorem lnt_inv {E:Env} {U:Nat->Prop} {h:Array Obj} (hi:Inv E U h ch):Inv E (lntU E U ch) h [] where
 nd:=by simp
 ok:=fun k c hm=>by simp at hm
 sep:=fun k c k' c' hm=>by simp at hm
 out:=fun k c hm=>by simp at hm
 fpl:=fun k c hm=>by simp at hm
 lt:=fun b hb=>by
  rcases hb with hb | ⟨k,c,h1,h2⟩
  . exact hi.lt b hb
  . exact hi.fpl k c h1 b h2
theorem B0 : qX ch []:=fun k s h=>by simp at h
theorem Ac {f:FuncId} {cs ds:List C} {r:C} {chs:Chs} (hfc:FC P f ds [] r chs) (ha:xz ch cs ds) {E:Env} {U:Nat->Prop} {w:World} {vs:Array Value} (hi:Inv E U w.heap ch) (hg:eX P U w.heap) (hargs:jD E U w.heap cs vs) :
 Calls P f vs w fun e w'=>∃ v E' U',e=.returned v/\Rep E' U' w'.heap r v/\CEv E (lntU E U ch) w [] E' U' w' chs:=by
 obtain⟨a1,a2⟩:=xz.args hi (vs:=vs.toList) ha (by simpa using hargs.1) (fun j c hj=>by
  have:=hargs.2 j c hj
  rwa[zc,<- zM,<- zb]at this)
 refine hfc.2 E (lntU E U ch) vs w (hg.mono fun b hb=>⟨.inl hb,rfl⟩) ⟨by simpa using a1,fun j c hj=>?_⟩ (lnt_inv hi);have:=a2 j c hj;rwa[zb,zM,<- zc]at this
theorem OpM.lend0 {f:FuncId} {fo:Operand} {aS:List Operand} {ds:List C} {r:C} (hfc:FC P f ds [] r []) (hfo:ρ fo=.fn (.func f) [] []) (ha:xz ch (aS.map ρ) ds) (hr:Bg none r=true) (hr0:ak [] r=r) :
 OpM P ro ρ ch d (.call fo aS) (fun ef=>ef=⟨True,r,ch,[]⟩):=by
 refine OpM.calls hfc.1 hfo (fun E U w vs hi hg hargs=>(Ac hfc ha hi hg hargs).mono fun e w' hh=>?_);obtain⟨v,E1,U1,he,hrep,hc⟩:=hh;have hev:=Ev.freeze (w1:=w') hi (B0 (ch:=ch)) hc.os hc.tape hc.output hc.size (fun b hb=>hc.rest b hb (fun k c hm=>by simp at hm)) (fun _=>False) (fun b hb=>hb.elim) d;rw[ku]at hev;have hrep':=Ay (E':=E) (U':=fun b=>U b\/False\/∃ k s,([]:List (Nat×Sb)).lookup k=some s/\(E k).fp b) (h':=w'.heap) (d:=d) (fun k hk=>by cases hk) hr hrep;exact⟨v,_,_,he,hr0 ▸ hrep',hev⟩
theorem OpM.lend1 {f:FuncId} {fo:Operand} {aS:List Operand} {ds:List C} {r:C} {k0:Nat} {c:Ch} (hfc:FC P f ds [] r [(k0,c)]) (hfo:ρ fo=.fn (.func f) [] []) (ha:xz ch (aS.map ρ) ds) (hr:Bg (some k0) r=true) (hs:AG c) :
 OpM P ro ρ ch d (.call fo aS) (fun ef=>ef=⟨True,ak [(k0,d)] r,(d,c) :: ae [(d,.c .any)] (af ch d),[(d,.c .any)]⟩):=by
 refine OpM.calls hfc.1 hfo (fun E U w vs hi hg hargs=>(Ac hfc ha hi hg hargs).mono fun e w' hh=>?_);obtain⟨v,E1,U1,he,hrep,hc⟩:=hh;have hm:(k0,c)∈[(k0,c)]:=zg.2 rfl;have hev:=Ev.one (w1:=w') hi d (E1 k0) c hc.os hc.tape hc.output hc.size (fun b hb=>hc.rest b hb (fun k c hm=>by simp at hm))
  (fun b hb=>⟨(hc.live k0 c hm b hb).resolve_right (fun⟨k,c,h1,_⟩=>by simp at h1),hc.inv.fpl k0 c hm b hb⟩) (AW (updE_same _ _ _) hs (hc.inv.ok k0 c hm))
 have hrep':=Ay (kow:=some k0) (E':=dO E d (E1 k0)) (U':=U) (h':=w'.heap) (d:=d) (fun k hk=>by cases hk;rw[updE_same]) hr hrep;exact⟨v,_,_,he,hrep',hev⟩
theorem xz.same : ∀ cs:List C,xz ch cs cs
 |[]=>trivial
 |_ :: l=>⟨.same _,xz.same l⟩
theorem FC.own {f:FuncId} {ds:List C} {r:C} {n:Nat} {t:TypeId} {es:List (List C)} {chs:Chs} (hfc:FC P f (.sl n es :: ds) [] r chs) (hk:∀ k c,(k,c)∈chs->k≠100000):FC P f (.own 100000 :: ds) [(100000,.row n t es)] r chs:=by
 refine⟨hfc.1,fun E U vs w hg hargs hi=>?_⟩;have ha:xz [(100000,.row n t es)] (.own 100000 :: ds) (.sl n es :: ds):=⟨.own (c0:=.row n t es) rfl rfl,xz.same ds⟩;refine (Ac hfc ha hi hg hargs).mono fun e w' hh=>?_
 obtain⟨v,E1,U1,he,hrep,hc⟩:=hh;refine⟨v,E1,U1,he,hrep,⟨hc.os,hc.tape,hc.output,hc.size,fun b hb=>hc.keep b (.inl hb),fun b hb _=>hc.rest b hb (fun k c hm=>by simp at hm),fun k c hm b hb=>.inl ((hc.live k c hm b hb).resolve_right fun⟨_,_,q,_⟩=>by simp at q),fun b hb=>?_,fun k cs hm ⟨c,q⟩=>?_,hc.inv⟩⟩
 . rcases hc.newU b hb with (q | q) | q | ⟨_,_,q,_⟩
   . exact .inl q
   . exact .inr (.inr q)
   . exact .inr (.inl q)
   . simp at q
 . simp only[zg,zf]at q;exact absurd q.1 (hk k _ hm)
theorem FC.frz {f:FuncId} {cs:List C} {r x:C} {k:Nat} {c:Ch} (hfc:FC P f cs [] r [(k,c)]) (hx:bz c=some x):FC P f cs [] (ah [(k,.c x)] r) []:=by
 refine⟨hfc.1,fun E U vs w hg hargs hi=>(hfc.2 E U vs w hg hargs hi).mono fun e w' hh=>?_⟩;obtain⟨v,E1,U1,he,hrep,hc⟩:=hh;have hfz:qX [(k,c)] [(k,.c x)]:=fun k' s hs=>by
  rw[fl]at hs;split at hs
  . rename_i e;subst e;cases hs;exact⟨c,x,by simp[lk],hx,rfl⟩
  . cases hs
 have hev:=Ev.freeze (w1:=w') hc.inv hfz rfl rfl rfl (zw _) (fun b _=>rfl) (fun _=>False) (fun b hb=>hb.elim) 0;have hnil:ae [(k,.c x)] (aC [(k,c)] [(k,Sb.c x)])=[]:=by simp[aC,af,ae]
 rw[hnil]at hev;refine⟨v,_,_,he,hev.rep hrep,⟨hc.os,hc.tape,hc.output,hc.size,fun b hb=>⟨(hev.keep b (hc.keep b hb).1).1,(hc.keep b hb).2⟩,hc.rest,fun k c hm=>by simp at hm,fun b hb=>?_,fun k cs hm=>by simp at hm,hev.inv⟩⟩;rcases hev.newU b hb with q | q | ⟨k',c',q,h2⟩
 . exact hc.newU b q
 . have:=hc.size;exact .inr (.inl (by omega))
 . exact .inr (.inl ((hc.live k' c' q b h2).resolve_right fun⟨_,_,q,_⟩=>by simp at q))
theorem FC.rekey {f:FuncId} {cs:List C} {r:C} {k:Nat} {c:Ch} (hfc:FC P f cs [] r [(k,c)]) (k':Nat) (hr:Bg (some k) r=true) (hs:AG c):FC P f cs [] (ak [(k,k')] r) [(k',c)]:=by
 refine⟨hfc.1,fun E U vs w hg hargs hi=>(hfc.2 E U vs w hg hargs hi).mono fun e w' hh=>?_⟩;obtain⟨v,E1,U1,he,hrep,hc⟩:=hh;have hm:(k,c)∈[(k,c)]:=zg.2 rfl;have h1:∀ j x,(j,x)∈[(k',c)]->j=k'/\x=c:=fun j x h=>by simpa using h
 refine⟨v,dO E1 k' (E1 k),U1,he,Ay (kow:=some k) (fun j hj=>by cases hj;rw[updE_same]) hr hrep,⟨hc.os,hc.tape,hc.output,hc.size,hc.keep,hc.rest,fun j x hj b hb=>?_,hc.newU,fun j xs hj ⟨_,q⟩=>(by simp at q),⟨by simp,fun j x hj=>?_,fun j x j' x' hj hj' hne=>?_,fun j x hj b hb=>?_,fun j x hj b hb=>?_,hc.inv.lt⟩⟩⟩
 . obtain⟨rfl,rfl⟩:=h1 j x hj;rw[updE_same]at hb;exact hc.live k x hm b hb
 . obtain⟨rfl,rfl⟩:=h1 j x hj;exact AW (updE_same _ _ _) hs (hc.inv.ok k x hm)
 . exact absurd ((h1 j x hj).1.trans (h1 j' x' hj').1.symm) hne
 . obtain⟨rfl,rfl⟩:=h1 j x hj;rw[updE_same]at hb;exact hc.inv.out k x hm b hb
 . obtain⟨rfl,rfl⟩:=h1 j x hj;rw[updE_same]at hb;exact hc.inv.fpl k x hm b hb
def Br : Operand->Bool
 |.const (.slice none 0 0)=>true
 |_=>false
def Bv (d1:Nat) (ρ:Operand->C):Operand->C:=fun z=>if Br z=true then .own d1 else ah [(d1,.c .any)] (ρ z)
theorem OpM.nilled {op:AOp} {ef:Eff} (d1 n:Nat) (ty:TypeId) (hd:d1 < 100000) (h:OpR P (Bv d1 ρ) ((d1,.row n ty []) :: ae [(d1,.c .any)] (af ch d1)) d op ef) :
 OpM P ro ρ ch d op (fun e=>e=⟨True,ef.v,ef.ch,a6 [(d1,.c .any)] ef.sub⟩):=by
 intro own o a E U w hc hi hg hρ K Q hK;have hev:=Ev.freshNil hi d1 (ke0 ⟨0,0,0,0,n,true⟩) (.row n ty []) (fun b hb=>by cases ((gB (y:=⟨0,0,0,0,n,true⟩)).fp b).1 hb with | inl q=>cases q.1 | inr q=>obtain⟨_,_,q,_⟩:=q;cases q) (wF (c0:=.row n ty []) rfl);refine h.sound hc hev.inv hg (fun x hx=>?_) (fun v E' U' w' hr hev2=>hK _ rfl v E' U' w' hr (hev.trans hev2 hd));unfold Bv;split
 . rename_i hn;unfold Br at hn;split at hn
   . have:=Rep.own (E:=dO E d1 (ke0 ⟨0,0,0,0,n,true⟩)) (U:=U) (h:=w.heap) d1;rw[updE_same]at this;exact this
   . cases hn
 . exact hev.rep (hρ x hx)
mutual
theorem AY : ∀ (c:C),aD ch [] c=c
 |.agg cs=>by simp only[aD];rw[AH cs]
 |.own k=>by simp[aD]
 |.inn k i=>by simp[aD]
 |.any=>rfl
 |.s _=>rfl
 |.sl _ _=>rfl
 |.ref _=>rfl
 |.tup _=>rfl
 |.fn _ _ _=>rfl
 |.ptr _ _=>rfl
 |.eptr _ _ _=>rfl
 |.isl _ _ _=>rfl
 |.iptr _ _ _ _=>rfl
theorem AH : ∀ (cs:List C),aD.viewCs ch [] cs=cs
 |[]=>rfl
 | c :: cs=>by simp only[aD.viewCs];rw[AY c,AH cs]
end
mutual
theorem AI : ∀ (c:C),aY ch [] c
 |.agg cs=>by simp only[aY];exact Ar cs
 |.inn k i=>by simp[aY]
 |.own k=>trivial
 |.any=>trivial
 |.s _=>trivial
 |.sl _ _=>trivial
 |.ref _=>trivial
 |.tup _=>trivial
 |.fn _ _ _=>trivial
 |.ptr _ _=>trivial
 |.eptr _ _ _=>trivial
 |.isl _ _ _=>trivial
 |.iptr _ _ _ _=>trivial
theorem Ar : ∀ (cs:List C),aY.viewOks ch [] cs
 |[]=>trivial
 | c :: cs=>⟨AI c,Ar cs⟩
end
theorem OpR.give {fo:Operand} {aS:List Operand} {f:FuncId} {ds:List C} {r:C} {k:Nat} {c:Ch} (hf:ρ fo=.fn (.func f) [] []) (h:FC P f ds [(k,c)] r []) (hd:aS.map ρ=ds) (hl:lk ch k=some c) (hb:∀ cs,c≠.box cs) (hr:dF [] r) :
 OpR P ρ ch d (.call fo aS) ⟨True,r,a7 ch [(k,c)] [] [],az [] [(k,c)]⟩:=by
 refine .call ⟨⟨f,[],[],[],by rw[hf];rfl,?_,fun c _=>AI c,fun k' c' hm=>?_,.inl rfl⟩,by simp,fun k cs hm=>by simp at hm,fun k cs hm=>by simp at hm,fun k' cs hm=>?_,hr,fun k c hm=>by simp at hm⟩
 . have e:([]++aS.map ρ++[]).map (aD ch [])=ds:=by
    rw[<- hd];simp only[yb,z4,zT];exact zH fun x _=>AY _
   rw[e];exact h
 . simp only[zg,zf]at hm;obtain⟨rfl,rfl⟩:=hm;exact⟨hl,by simp,by simp⟩
 . simp only[zg,zf]at hm;exact absurd hm.2.symm (hb cs)
end Go.Am
end
section
namespace Go.Am
open Dat (cells)
variable {P : Program} [Glob P] {ro : Option Nat} {ρ : Operand → C} {ch : Chs} {d : Nat}
section
variable {cx : Cx} {Q : ASt → Prop} {k : List It} {st : ASt}
def addE3 (pur:List Nat) (op:AOp) (j:Nat) (ef:Eff) (E:EL):EL:=match av pur j with | true=>E | false=>ml op j ef E
def yO (P:Program) [Glob P] (L:List (Ent P)) (cx:Cx) (Q:ASt->Prop) (k:List It) (rb:List Nat) (all:List AO) (s0:ASt) (pur:List Nat):Nat->Md->List AO->ASt->Nat->List C->EL->Prop
 |_+1,.run,[],_,_,vs,E=>mFin2 P L cx Q k rb all s0 vs E
 | n+1,.run,⟨dst,none,op,tot⟩ :: os,s,j,vs,E=>yO P L cx Q k rb all s0 pur n (.eff (ai (aq P s.t) s.ch (dst.getD 0) op)) (⟨dst,none,op,tot⟩ :: os) s j vs E
 | n+1,.eff (some ef),⟨dst,none,op,_⟩ :: os,s,j,vs,E=>yO P L cx Q k rb all s0 pur n .run os ⟨aU dst ef.sub ef.v s.t,ef.ch⟩ (j+1) (vs++[ef.v]) (addE3 pur op j ef E)
 | n+1,.eff none,⟨dst,none,op,tot⟩ :: os,s,j,vs,E=>yO P L cx Q k rb all s0 pur n (aF L (aq P s.t) s.ch (dst.getD 0) op) (⟨dst,none,op,tot⟩ :: os) s j vs E
 | n+1,.cal (.eff ef),⟨dst,none,op,_⟩ :: os,s,j,vs,E=>yO P L cx Q k rb all s0 pur n .run os ⟨aU dst ef.sub ef.v s.t,ef.ch⟩ (j+1) (vs++[ef.v]) (addE3 pur op j ef E)
 |_,_,_,_,_,_,_=>False
theorem BZ {L:List (Ent P)} {rb:List Nat} {all:List AO} {s0:ASt} {pur:List Nat}:∀ (n:Nat) (m:Md) (os:List AO) (s:ASt) (j:Nat) (vs:List C) (E:EL),yO P L cx Q k rb all s0 pur n m os s j vs E->SG P cx Q (.c (.draw 999 rb all) :: k) s0:=by
 intro n
 induction n with
 | zero=>intro m os s j vs E h;simp[yO]at h
 | succ n ih=>
  intro m os s j vs E h;cases os with
  | nil=>
   cases m <;> simp only[yO]at h;obtain⟨h0,h1,h2,h3,h4⟩:=h;exact vM h0 h1 h2 h3 h4
  | cons o os=>
   unfold yO at h;split at h <;> first | exact h.elim | exact ih _ _ _ _ _ _ h | (simp at*<;> (subst_vars;exact ih _ _ _ _ _ _ h))
theorem Cs {rb:List Nat} {os:List AO} (L:List (Ent P)) (n:Nat) (pur:List Nat) (h:yO P L cx Q k rb os st pur n .run os st 0 [] []):SG P cx Q (.c (.draw 999 rb os) :: k) st:=
 BZ n .run os st 0 [] [] h
end
end Go.Am
end
section
namespace Go.Am
open Dat (cells)
variable {P : Program} [Glob P] {cx : Cx} {Q : ASt → Prop} {k : List It} {st : ASt}
def readOkR (rb:List Nat) (os:List AO):Bool:=os.zipIdx.all fun (o,j)=>o.slots.all fun x=>os.zipIdx.all fun (q,i)=>q.dst != some x || rb.contains (100*i+j)
def chkR (rb:List Nat) (os:List AO):Bool:=qI os && (readOkR rb os && decide (os.length<=100))
def xw (t:dJ) (ch:Chs) (v:C) (ef:Eff):Prop:=ef.cond/\ef.v=v/\br ch ef.ch/\bq ef.sub t=t
def xS (t:dJ) (ch:Chs) (v:C):Md->Prop
 |.cal (.eff ef)=>xw t ch v ef
 |_=>False
def xR (P:Program) [Glob P] (L:List (Ent P)) (t:dJ) (ch:Chs) (d:Nat) (op:AOp) (v:C):Option Eff->Prop
 | some ef=>xw t ch v ef
 | none=>xS t ch v (aF L (aq P t) ch d op)
def stR (P:Program) [Glob P] (L:List (Ent P)) (t:dJ) (ch:Chs) (o:AO) (v:C):Option Bool->Prop
 | some false=>v=.s undef
 | some true=>xR P L t ch (o.dst.getD 0) o.op v (ai (aq P t) ch (o.dst.getD 0) o.op)
 | none=>False
def xH (P:Program) [Glob P] (L:List (Ent P)) (t:dJ) (ch:Chs):List AO->List C->Prop
 | o :: os,v :: vs=>stR P L t ch o v (fm t o.guard)/\xH P L t ch os vs
 |[],[]=>True
 |_,_=>False
theorem Ap : ∀ {a ch:Chs},(∀ p∈a,lk ch p.1=some p.2)->br a ch
 |[],_,_=>trivial
 | (k,c) :: r,ch,h=>⟨h (k,c) (by simp),Ap fun p hp=>h p (by simp[hp])⟩
theorem CD {L:List (Ent P)} {t:dJ} {ch:Chs} {o:AO} {v:C} (hn:(ch.map (·.1)).Nodup) (h:stR P L t ch o v (fm t o.guard)):∃ ef,StepE P o ⟨t,ch⟩ ef/\ef.v=v/\br ch ef.ch/\bq ef.sub t=t:=by
 cases hw:fm t o.guard with
 | none=>rw[hw]at h;exact h.elim
 | some b=>
  rw[hw]at h;cases b with
  | false=>exact⟨_,.no hw,h.symm,Ap fun p hp=>eU hn hp,rfl⟩
  | true=>
   simp only[stR]at h;cases hq:ai (aq P t) ch (o.dst.getD 0) o.op with
   | some ef=>
    rw[hq]at h;obtain⟨h1,h2,h3,h4⟩:=h;exact⟨ef,.yes ef hw (.f hq h1),h2,h3,h4⟩
   | none=>
    rw[hq]at h;simp only[xR]at h;unfold xS at h;split at h
    . rename_i ef hm;obtain⟨h1,h2,h3,h4⟩:=h;exact⟨⟨True,ef.v,ef.ch,ef.sub⟩,.yes _ hw (ju hm h1),h2,h3,h4⟩
    . exact h.elim
theorem BR {L:List (Ent P)} {t:dJ} {ch:Chs} (hn:(ch.map (·.1)).Nodup):∀ {os:List AO} {vs:List C},xH P L t ch os vs->os.length=vs.length/\∀ (j:Nat) o,os[j]? = some o->∃ v,vs[j]? = some v/\∃ ef,StepE P o ⟨t,ch⟩ ef/\ef.v=v/\br ch ef.ch/\bq ef.sub t=t
 |[],[],_=>⟨rfl,fun j o h=>by simp at h⟩
 | o :: os,v :: vs,h=>by
  obtain⟨g1,g2⟩:=BR hn h.2;refine⟨by simp[g1],fun j q hq=>?_⟩;cases j with
  | zero=>
   simp only[zD,zn]at hq;subst hq;exact⟨v,rfl,CD hn h.1⟩
  | succ j=>
   obtain⟨v',e1,e2⟩:=g2 j q (by simpa using hq);exact⟨v',by simpa using e1,e2⟩
 |[],_ :: _,h=>h.elim
 |_ :: _,[],h=>h.elim
theorem xJ (t:dJ) (S:Nat->Bool) (x:Nat):∀ (os:List AO) (vs:List C) (i:Nat),(∀ (j:Nat) o,os[j]? = some o->o.dst=some x->S (i+j)=true)->gt (gp S t i os vs) x=gt (gV t os vs) x
 |[],_,_,_=>by simp[gp,gV]
 |_ :: _,[],_,_=>by simp[gp,gV]
 | o :: os,v :: vs,i,h=>by
  have ih:=xJ t S x os vs (i+1) (fun j q hq hx=>by rw[show i+1+j=i+(j+1) by omega];exact h (j+1) q (by simpa using hq) hx);cases hd:o.dst with
  | none=>simp only[gp,gV,hd];exact ih
  | some d=>
   simp only[gp,gV,hd,eI];by_cases hx:d=x
   . have h0:=h 0 o rfl (by rw[hd,hx]);rw[zL]at h0;simp[hx,h0]
   . simp[hx,ih]
theorem S_quiet {rb:List Nat} {os:List AO} {L:List (Ent P)} {vs:List C} (hchk:chkR rb os=true) (hn0:an (ag st.ch)) (hops:xH P L (gV st.t os vs) st.ch os vs) (hend:SG P cx Q k ⟨gV st.t os vs,st.ch⟩):SG P cx Q (.c (.draw 999 rb os) :: k) st:=by
 simp only[chkR,zm,decide_eq_true_eq]at hchk;obtain⟨k1,k2,k3⟩:=hchk;have k1:(os.filterMap (·.dst)).Nodup:=by simpa[qI]using k1
 have hnd:(st.ch.map (·.1)).Nodup:=by rw[<- dV];exact d9 hn0
 obtain⟨l1,l2⟩:=BR hnd hops;have uniq:∀ (i j:Nat) (o q:AO) (x:Nat),os[i]? = some o->os[j]? = some q->o.dst=some x->q.dst=some x->i=j:=fun i j o q x h1 h2 h3 h4=>by
  rcases yr i j with h | h | h
  . exact (gR k1 i j h o q x h1 h2 h3 h4).elim
  . exact h
  . exact (gR k1 j i h q o x h2 h1 h4 h3).elim
 have hall:∀ x,gt (gV st.t os vs) x=gt (gp (fun _=>true) st.t 0 os vs) x:=fun x=>(xJ st.t (fun _=>true) x os vs 0 (fun _ _ _ _=>rfl)).symm
 have hlk:∀ p∈st.ch,lk st.ch p.1=some p.2:=fun p hp=>eU hnd hp
 refine m8 (T:=fun S=>⟨gp S st.t 0 os vs,st.ch⟩) ⟨fun x=>?_,hnd,hlk⟩ (fun S j ao hj hSj hp hs=>?_) (fun S hS=>?_)
 . rcases iB st.t (fun _=>false) x os vs 0 l1 k1 with⟨_,_,_,_,_,_,h⟩ | ⟨_,h⟩
   . exact .inl (by simpa using h)
   . exact .inr h.symm
 . obtain⟨v,hv,ef,hst,hev,hch,hsub⟩:=l2 j ao hj;have hj100:j < 100:=by have:=(zi.1 hj).1;omega
   have hcon:∀ i∈ao.slots,gt (gV st.t os vs) i=gt (gp S st.t 0 os vs) i:=fun x hx=>by
    refine (xJ st.t S x os vs 0 (fun i q hq hd=>?_)).symm;have h1:=zx.1 k2 (ao,j) (by rw[zG];exact hj);have h2:=zx.1 h1 x hx;have h3:=zx.1 h2 (q,i) (by rw[zG];exact hq);simp only[hd,bne_self_eq_false,zF]at h3;have:=hp (100*i+j) (List.contains_iff_mem.1 h3) (by omega);rw[show (100*i+j) / 100=i by omega]at this;rw[zz];exact this
   refine⟨ef,hst.congr hcon rfl,.of_le ⟨fun x=>?_,hnd,fun p hp=>ge hch p hp⟩⟩;show gt (gp (fun i=>i == j || S i) st.t 0 os vs) x=.any\/gt (aU ao.dst ef.sub ef.v (gp S st.t 0 os vs)) x=gt (gp (fun i=>i == j || S i) st.t 0 os vs) x
   rw[fF];have hsx:ah ef.sub (gt (gV st.t os vs) x)=gt (gV st.t os vs) x:=by rw[<- iz,hsub]
   by_cases hd:ao.dst=some x
   . rw[if_pos hd];right;rcases iB st.t (fun i=>i == j || S i) x os vs 0 l1 k1 with⟨j',o',v',e1,e2,e3,e4⟩ | ⟨e1,_⟩
     . obtain rfl:=uniq j' j o' ao x e1 hj e3 hd;rw[hv]at e2;cases e2;rw[e4,hev];simp
     . exact absurd hd (e1 ao (zp hj))
   . rw[if_neg hd];rcases iB st.t (fun i=>i == j || S i) x os vs 0 l1 k1 with⟨j',o',v',e1,e2,e3,e4⟩ | ⟨e1,e2⟩
     . have hne:j'≠j:=fun e=>by
        subst e;rw[hj]at e1;cases e1;exact hd e3
       cases hs':S j' with
       | false=>left;rw[e4];simp[hne,hs']
       | true=>
        right
        have e5:gt (gp S st.t 0 os vs) x=gt (gV st.t os vs) x:=xJ st.t S x os vs 0 (fun i q hq hdq=>by
         rw[uniq i j' q o' x hq e1 hdq e3,zz];exact hs')
        have e6:gt (gp (fun i=>i == j || S i) st.t 0 os vs) x=gt (gV st.t os vs) x:=xJ st.t _ x os vs 0 (fun i q hq hdq=>by
         rw[uniq i j' q o' x hq e1 hdq e3,zz];simp[hs'])
        rw[e5,e6,hsx]
     . right;have e5:gt (gp S st.t 0 os vs) x=gt (gV st.t os vs) x:=xJ st.t S x os vs 0 (fun i q hq hdq=>absurd hdq (e1 q (zp hq)));have e6:gt (gp (fun i=>i == j || S i) st.t 0 os vs) x=gt (gV st.t os vs) x:=xJ st.t _ x os vs 0 (fun i q hq hdq=>absurd hdq (e1 q (zp hq)));rw[e5,e6,hsx]
 . have:gp S st.t 0 os vs=gV st.t os vs:=nw st.t S os vs 0 (fun j hj=>by rw[zz];exact hS j hj);rw[this];exact hend
inductive MR where
 | run
 | g (b:Option Bool)
 | eff (e:Option Eff)
 | cal (m:Md)
def xY (P:Program) [Glob P] (L:List (Ent P)) (cx:Cx) (Q:ASt->Prop) (k:List It) (rb:List Nat) (all:List AO) (s0:ASt) (vs:List C):Prop:=
 chkR rb all=true/\an (ag s0.ch)/\xH P L (gV s0.t all vs) s0.ch all vs/\SG P cx Q k ⟨gV s0.t all vs,s0.ch⟩
def drR (P:Program) [Glob P] (L:List (Ent P)) (cx:Cx) (Q:ASt->Prop) (k:List It) (rb:List Nat) (all:List AO) (s0:ASt):Nat->MR->List AO->dJ->List C->Prop
 |_+1,.run,[],_,vs=>xY P L cx Q k rb all s0 vs
 | n+1,.run,⟨dst,g,op,tot⟩ :: os,t,vs=>drR P L cx Q k rb all s0 n (.g (fm t g)) (⟨dst,g,op,tot⟩ :: os) t vs
 | n+1,.g (some false),⟨dst,_,_,_⟩ :: os,t,vs=>drR P L cx Q k rb all s0 n .run os (aU dst [] (.s undef) t) (vs++[.s undef])
 | n+1,.g (some true),⟨dst,g,op,tot⟩ :: os,t,vs=>drR P L cx Q k rb all s0 n (.eff (ai (aq P t) s0.ch (dst.getD 0) op)) (⟨dst,g,op,tot⟩ :: os) t vs
 | n+1,.eff (some ef),⟨dst,_,_,_⟩ :: os,t,vs=>drR P L cx Q k rb all s0 n .run os (aU dst [] ef.v t) (vs++[ef.v])
 | n+1,.eff none,⟨dst,g,op,tot⟩ :: os,t,vs=>drR P L cx Q k rb all s0 n (.cal (aF L (aq P t) s0.ch (dst.getD 0) op)) (⟨dst,g,op,tot⟩ :: os) t vs
 | n+1,.cal (.cal (.eff ef)),⟨dst,_,_,_⟩ :: os,t,vs=>drR P L cx Q k rb all s0 n .run os (aU dst [] ef.v t) (vs++[ef.v])
 |_,_,_,_,_=>False
theorem Cd {L:List (Ent P)} {rb:List Nat} {all:List AO} {s0:ASt}:∀ (n:Nat) (m:MR) (os:List AO) (t:dJ) (vs:List C),drR P L cx Q k rb all s0 n m os t vs->SG P cx Q (.c (.draw 999 rb all) :: k) s0:=by
 intro n
 induction n with
 | zero=>intro m os t vs h;simp[drR]at h
 | succ n ih=>
  intro m os t vs h;cases os with
  | nil=>
   cases m <;> simp only[drR]at h;obtain⟨h0,h1,h2,h3⟩:=h;exact S_quiet h0 h1 h2 h3
  | cons o os=>
   unfold drR at h;split at h <;> first | exact h.elim | exact ih _ _ _ _ h | (simp at*<;> (subst_vars;exact ih _ _ _ _ h))
theorem BJ {rb:List Nat} {os:List AO} (L:List (Ent P)) (n:Nat) (h:drR P L cx Q k rb os st n .run os st.t []):SG P cx Q (.c (.draw 999 rb os) :: k) st:=
 Cd n .run os st.t [] h
end Go.Am
end
section
namespace Go.Am
open Dat (cells)
variable {P : Program} [Glob P] {ro : Option Nat} {ρ : Operand → C} {ch : Chs} {d : Nat}
def rngAt (P:Program) (k e:TypeId) (b r n:Nat) (m:Int->Option Int) (left:Int->Bool) (cnt:Nat) (z c:Int):Res where
 φ:=fun F _ h=>(∀ x,F x↔x=b\/x=r)/\(∃ w:World,w.heap=h/\∃ D L,w.ranges P k (plainElem P e) b r n D L cnt/\DOf D m/\∀ x,L (.int .i64 x)=left x) /\
  ∀ w2:World,w2.heap[b]? = h[b]?->w2.heap[r]? = h[r]?->(Instr.entry (.pointer (some ⟨r,0,none⟩))).run P w2=.ok (.tuple #[.int .i64 z,.int .i64 c]) w2
 mono:=fun F _ h _ h' ⟨hF,⟨w,hw,D,L,⟨es,clock,since,seen,c0,g1,g2,g3,g4,g5,g6⟩,hD⟩,hE⟩ _ hk=>⟨hF,⟨{ w with heap:=h' },rfl,D,L,⟨es,clock,since,seen,c0,(hk b ((hF b).2 (.inl rfl))).trans (hw ▸ g1),g2,g3,g4,(hk r ((hF r).2 (.inr rfl))).trans (hw ▸ g5),g6⟩,hD⟩,
  fun w2 q1 q2=>hE w2 (q1.trans (hk b ((hF b).2 (.inl rfl)))) (q2.trans (hk r ((hF r).2 (.inr rfl))))⟩
theorem Cg {w:World} {r b since c0 clock:Nat} {seen:Array Nat} {es:Array MapEntry} {v:Value} (hb:w.heap[b]? = some (.map es clock)) (hr:w.heap[r]? = some (.mapIter (some b) since seen c0))
 (h:(Instr.entry (.pointer (some ⟨r,0,none⟩))).run P w=.ok v w) {w2:World} (h1:w2.heap[b]? = w.heap[b]?) (h2:w2.heap[r]? = w.heap[r]?):(Instr.entry (.pointer (some ⟨r,0,none⟩))).run P w2=.ok v w2:=by
 have hb2:=h1.trans hb;have hr2:=h2.trans hr;simp only[Instr.entry,getObj,Sem.run_bind,Sem.run,hr,hb,hr2,hb2,Result.andThen]at h ⊢;cases hs:seen.back? with
 | none=>simp only[hs,Sem.run_bind,Sem.run,Result.andThen,stuck]at h;cases h
 | some stamp=>
  simp only[hs,Sem.run_bind,Sem.run,hb,hb2,Result.andThen]at h ⊢;by_cases hc:(clock != c0)=true
  . simp only[hc,if_true,unsupported,Sem.run_bind,Sem.run,Result.andThen]at h;cases h
  . simp only[hc,zr,if_false,Sem.run_bind,Sem.run,Result.andThen]at h ⊢;cases hf:es.find? (·.born == stamp)with
    | none=>simp only[hf,unsupported,Sem.run]at h;cases h
    | some e=>
     simp only[hf]at h ⊢;cases h;rfl
theorem OpM.mapNextE {t k e ty:TypeId} {b r n kr cnt:Nat} {m:Int->Option Int} {left:Int->Bool} {x:Operand} (T:MapTy P t k e) (hx:ρ x=.s (.pointer (some ⟨r,0,none⟩))) (hl:lk ch kr=some (.res (AE P k e b r n m left cnt))) :
 OpM P ro ρ ch d (.opq (.next x false) ty) fun ef=>(ef=⟨True,.tup [.s (.bool false)],ch,[]⟩/\∀ z,left z=false) \/
  ∃ z c cnt',left z=true/\m z=some c/\cnt' < cnt/\InR .i64 z/\ef=⟨True,.tup [.s (.bool true),.s (.int .i64 z),.s (.int .i64 c)],xU ch kr (rngAt P k e b r n m (fun y=>left y && decide (y≠z)) cnt' z c),[(kr,.inner)]⟩:=by
 intro own o a E U w hc hi hg hρ K Q hK;obtain⟨ho,_⟩:=xt hc;have ex:a.eval x=.pointer (some ⟨r,0,none⟩):=dK (hx ▸ hρ x (by simp[AOp.reads,Op.operands]));obtain⟨hF,w0,hw0,D,L,hrg,hD,hL⟩:=hi.ok kr _ (dH hl);have hrg':w.ranges P k (plainElem P e) b r n D L cnt:=by
  obtain⟨es,clock,since,seen,c0,g1,g2,g3,g4,g5,g⟩:=hrg;exact⟨es,clock,since,seen,c0,by rw[<- hw0];exact g1,g2,g3,g4,by rw[<- hw0];exact g5,g⟩
 rcases hrg'.next (Maps.int_keyed T.hk) o.type with⟨h0,h1,hrun⟩ | ⟨key,v,kl,y,w',cnt',hkey,hlk,hv,hat,hrun,h1,h2,h3,h4,h5e⟩
 . refine wK (v:=.tuple #[.bool false]) (w':=w) (fun c=>by rw[ho];simp) (by simp[execOp,ho,ex,hrun,Result.andThen]) ?_;refine hK _ (.inl ⟨rfl,fun z=>by rw[<- hL];exact h1 _⟩) _ E U w (.tup _ _ rfl (fun j c' hj=>?_)) (Ev.refl hi d)
   match j,hj with
   | 0,hj=>cases hj;exact .d (.s _)
 . obtain⟨z,rfl,rfl,hwz⟩:=Maps.keyOf_int_inv T.hk hkey;obtain⟨c,rfl,rfl,hwc⟩:=plainElem_int_inv T.he hv;have hmz:m z=some c:=by
    have h5:=(hD z).1;have h6:(m z).isSome=true:=by
     rw[<- h5];cases hh:Maps.has D (.int .i64 z)with
     | true=>rfl
     | false=>
      have:=hat (.agg []);rw[Maps.atKey_of_not_has hh]at this;cases this
    obtain⟨c',hc'⟩:=Option.isSome_iff_exists.1 h6;have:=(hD z).2 c' hc' (.agg []);rw[hat (.agg [])]at this;cases this;exact hc'
   have hR:InR .i64 z:=by
    simp[Lit.wf,IntKind.min,IntKind.max,IntKind.signed,IntKind.bits]at hwz;exact⟨by omega,by omega⟩
   refine wK (v:=.tuple #[.bool true,.int .i64 z,.int .i64 c]) (w':=w') (fun c=>by rw[ho];simp) (by simp[execOp,ho,ex,hrun,Result.andThen]) ?_;refine hK _ (.inr ⟨z,c,cnt',by rw[<- hL];exact hlk,hmz,h2,hR,rfl⟩) _ _ U w' (.tup _ _ rfl (fun j c' hj=>?_)) (Ev.res (F':=fun x=>x=b\/x=r) hi hl (yZ hi hl hF (.inr rfl) h3 (fun x hx=>.inl hx)) ?_ d)
   . match j,hj with
     | 0,hj=>cases hj;exact .d (.s _)
     | 1,hj=>cases hj;exact .d (.s _)
     | 2,hj=>cases hj;exact .d (.s _)
   . refine⟨fun _=>Iff.rfl,⟨w',rfl,D,_,h1,hD,fun y=>?_⟩,fun w2 q1 q2=>?_⟩
     . show (L (.int .i64 y) && !(Lit.int .i64 y).sameKey (.int .i64 z))=_
       rw[hL]
       congr 1
       by_cases hyz:y=z
       . subst hyz;have hk:WideAt.IsKeyLit (.int .i64 y):=trivial;simp[WideAt.sameKey_self hk]
       . simp[hyz,Maps.sameKey_ne (Bt hyz)]
     . obtain⟨es,clock,since,seen,c0,g1,g2,g3,g4,g5,g⟩:=h1;exact Cg g1 g5 h5e q1 q2
theorem OpM.mapEntry {k e ty:TypeId} {b r n kr cnt:Nat} {m:Int->Option Int} {left:Int->Bool} {z c:Int} {x:Operand} (hx:ρ x=.s (.pointer (some ⟨r,0,none⟩))) (hl:lk ch kr=some (.res (rngAt P k e b r n m left cnt z c))) :
 OpM P ro ρ ch d (.opq (.entry x) ty) fun ef=>ef=⟨True,.tup [.s (.int .i64 z),.s (.int .i64 c)],xU ch kr (AE P k e b r n m left cnt),[(kr,.inner)]⟩:=by
 intro own o a E U w hc hi hg hρ K Q hK;obtain⟨ho,_⟩:=xt hc;have ex:a.eval x=.pointer (some ⟨r,0,none⟩):=dK (hx ▸ hρ x (by simp[AOp.reads,Op.operands]));obtain⟨hF,⟨w0,hw0,D,L,hrg,hD,hL⟩,hE⟩:=hi.ok kr _ (dH hl);have hrun:=hE w rfl rfl;refine wK (v:=.tuple #[.int .i64 z,.int .i64 c]) (w':=w) (fun c=>by rw[ho];simp) (by simp[execOp,ho,ex,hrun,Result.andThen]) ?_;have hgr:w.grownBy w (some r):=⟨rfl,rfl,rfl,zw _,fun _ _ _=>rfl⟩;refine hK _ rfl _ _ U w (.tup _ _ rfl (fun j c' hj=>?_)) (Ev.res (F':=fun x=>x=b\/x=r) hi hl (yZ hi hl hF (.inr rfl) hgr (fun x hx=>.inl hx)) ?_ d)
 . match j,hj with
   | 0,hj=>cases hj;exact .d (.s _)
   | 1,hj=>cases hj;exact .d (.s _)
 . exact⟨fun _=>Iff.rfl,w0,hw0,D,L,hrg,hD,hL⟩
theorem AZ {own:Bool} {op:Op} {ty:TypeId} {neg:Bool} {x:Operand} (h:ic P own op ty=some (.ext (.isnil neg) [x])):∃ t el yt,op=.binOp (if neg then .neq else .eql) t x (.const (.slice none 0 0)) yt/\P.underlying t=some (.slice el):=by
 unfold ic at h;split at h
 . rename_i e aS hx;simp only[zn,AOp.ext.injEq]at h;obtain⟨rfl,rfl⟩:=h;cases op <;> simp only[mq,reduceCtorEq]at hx
   case binOp op t x1 y yt=>
    split at hx
    . split at hx
      . split at hx <;> simp at hx
      . cases hx
    . unfold ue at hx
      repeat' split at hx
      all_goals simp at hx
    . rename_i el hu;split at hx
      . simp only[zn,zf,Ext.isnil.injEq,List.cons.injEq,and_true]at hx;obtain⟨rfl,rfl⟩:=hx;exact⟨t,el,yt,rfl,hu⟩
      . simp only[zn,zf,Ext.isnil.injEq,List.cons.injEq,and_true]at hx;obtain⟨rfl,rfl⟩:=hx;exact⟨t,el,yt,rfl,hu⟩
      . cases hx
    all_goals simp at hx
   case convert=>
    repeat' split at hx
    all_goals simp at hx
   case call=>
    repeat' split at hx
    all_goals simp at hx
 . exfalso
   cases op <;> simp only[eE,reduceCtorEq]at h
   all_goals
    repeat' split at h
    all_goals first | (simp at h;done) | (simp[zk]at h;done) | (simp only[zk]at h;obtain⟨_,_,h⟩:=h;repeat' split at h) <;> simp[zk]at h
theorem OpM.isnilE {neg:Bool} {x:Operand} {n:Nat} (hx:ρ x=.sl n []):OpM P ro ρ ch d (.ext (.isnil neg) [x]) fun ef=>∃ b:Bool,ef=⟨True,.s (.bool b),ch,[]⟩:=by
 intro own o a E U w hc hi hg hρ K Q hK;obtain⟨t,el,yt,ho,hu⟩:=AZ hc;have hr:=jv (hx ▸ hρ x (by simp[AOp.reads]));generalize hv:a.eval x=v at hr;cases hr with
 | sl0 _ ad cap hcap=>
  have hey:a.eval (.const (.slice none 0 0))=.slice none 0 0:=rfl;have hgd:∀ op,eqGuard op t x (.const (.slice none 0 0)) (.slice ad 0 cap) (.slice none 0 0)=pure ():=fun op=>by cases op <;> rfl
  refine wK (v:=.bool (if neg then !ad.isNone else ad.isNone)) (w':=w) (fun c=>by rw[ho];simp) ?_ (hK _ ⟨_,rfl⟩ _ E U w (.d (.s _)) (Ev.refl hi d));cases neg with
  | false=>simp[execOp,ho,hv,hey,hgd,binOp,run_equal_slice_nil w t el ad 0 cap hu]
  | true=>simp[execOp,ho,hv,hey,hgd,run_neq_slice_nil w t el ad 0 cap hu]
 | sl es b off cap sz arr ty fz vf hU hb hcap hmax hsz hv2 hr=>
  refine wK (v:=.bool neg) (w':=w) (fun c=>by rw[ho];simp) ?_ (hK _ ⟨_,rfl⟩ _ E U w (.d (.s _)) (Ev.refl hi d));have hey:a.eval (.const (.slice none 0 0))=.slice none 0 0:=rfl;have hgd:∀ op c,eqGuard op t x (.const (.slice none 0 0)) (.slice (some ⟨b,off,none⟩) 0 c) (.slice none 0 0)=pure ():=fun op c=>by cases op <;> rfl
  cases neg with
  | false=>simp[execOp,ho,hv,hey,hgd,binOp,run_equal_slice_nil w t el _ _ _ hu]
  | true=>simp[execOp,ho,hv,hey,hgd,run_neq_slice_nil w t el _ _ _ hu]
theorem OpM.arrIx {t e ty:TypeId} {len sz:Nat} {k:IntKind} {n:Int} {x i:Operand} {cs:List C} (ht:P.underlying t=some (.array len e)) (hb:js P e=some true) (hn:ez P e=some sz)
 (hx:ρ x=.agg cs) (hix:ρ i=.s (.int k n)) (h0:0<=n/\n < len) (hl:n.toNat*sz+sz<=cs.length) :
 OpM P ro ρ ch d (.opq (.index t x i) ty) fun ef=>ef=⟨True,.agg ((cs.drop (n.toNat*sz)).take sz),ch,[]⟩:=by
 intro own o a E U w hc hi hg hρ K Q hK;obtain⟨ho,_⟩:=xt hc;have rxw:=hx ▸ hρ x (by simp[AOp.reads,Op.operands]);have riw:a.eval i=.int k n:=dK (hix ▸ hρ i (by simp[AOp.reads,Op.operands]));obtain⟨vs,hv,hvl,hr,h1c⟩:=iE rxw;refine wK (v:=.agg (vs.extract (n.toNat*sz) (n.toNat*sz+sz))) (w':=w) (fun c=>by rw[ho];simp) ?_ ?_
 . have h0':0<=n/\n < (len:Int):=h0;simp[execOp,ho,hv,riw,Instr.index,asIntOf,run_underlying ht,h0',part,kn hb,eF hn]
 . refine hK _ rfl _ E U w ?_ (Ev.refl hi d);have hget:∀ j,j < sz->(vs.extract (n.toNat*sz) (n.toNat*sz+sz)).getD j undef=vs.getD (n.toNat*sz+j) undef:=fun j hj=>by
    simp only[zc,Array.getElem?_extract];rw[if_pos (by omega)]
   refine .agg _ _ (by simp;omega) (fun j c hj=>?_) (fun j hj=>?_)
   . obtain⟨hj1,hj2⟩:=jr hj;rw[zO]at hj1;rw[hget j hj2];exact hr _ c hj1
   . have hj2:j < sz:=by simp at hj;omega
     rw[hget j hj2];exact h1c _ (by omega)
end Go.Am
end
section
open Go Go.Am
open Go.Am.Dat (cells)
namespace Go.Proofs.YtcbabnbiinkafaaGreatDoor
set_option maxRecDepth 100000
def c24 : AC:=oX [oA 2 (.mv (.const (.slice none 0 0)))] [0] (oX [oA 3 (.mkSl true 3 1 o1 0 []),oM 4 0,oA 5 (.app 24 3 1 8 o1 (oO 3) (oO 4)),oM 2 5] [2] .ret)
def rv24 : List RV:=[.tmp 2]
theorem is24 : FnIs Tryz.prog 24 6 c24 rv24:=⟨⟨Tryz.f24,_,Tryz.func24,by kernel_rfl,rfl,rfl,by kernel_rfl,by kernel_rfl⟩,by decide⟩
def Ba : AC:=oS (oX [oM 8 3,oF 9 9 1,oL 10 9,o4 11 10,oB 12 .lss 3 8 (oO 11)] [1,3,12] (.cond (oO 12) .skip (.exit 0))) (oK [1,3] (oS (.block 1 (oX [oF 15 9 1,oL 16 15,oM 17 3,oA 18 (.iaddr 1 o0 (oO 16) (oO 17)),oL 19 18,o4 20 19,oB 21 .gtr 3 20 (oN 64)] [1,3,21] (oI 21 (oX [o9 2 false] [2] .ret)))) (oK [1,3] (oR [oM 13 3,oB 14 .add 3 13 (oN 1),oM 3 14]))))
def c63 : AC:=oX [o7 1 0,o9 2 false] [1] (oS (oX [oF 4 9 1,oL 5 4,o4 6 5,oB 7 .gtr 3 6 (oN 8)] [1,7] (oI 7 (oX [o9 2 false] [2] .ret))) (oK [1] (oS (oX [oV 3 0] [1,3] (.block 0 (.loop Ba))) (oK [] (oX [o9 2 true] [2] .ret)))))
def rv63 : List RV:=[.tmp 2]
theorem is63 : FnIs Tryz.prog 63 22 c63 rv63:=⟨⟨Tryz.f63,_,Tryz.func63,by kernel_rfl,rfl,rfl,by kernel_rfl,by kernel_rfl⟩,by decide⟩
def c64 : AC:=oX [o7 2 0,o7 3 1,oV 4 0] [2,3] (oX [o5 8 3 2,o5 9 10 3,oC 10 113 [oO 8,oO 9],oM 7 10,o8 11 7 0,o8 12 7 1,oM 5 11,oM 6 12] [6] (oX [oM 13 6,oM 4 13] [4] .ret))
def rv64 : List RV:=[.tmp 4]
theorem is64 : FnIs Tryz.prog 64 14 c64 rv64:=⟨⟨Tryz.f64,_,Tryz.func64,by kernel_rfl,rfl,rfl,by kernel_rfl,by kernel_rfl⟩,by decide⟩
def c65 : AC:=oX [o7 1 0,oA 2 (.alloc oZ)] [1,2] (oX [oF 3 9 1,oL 4 3,oC 5 60 [oO 4],oF 6 9 1,oW 1 6 5] [1,2] (oX [o5 7 10 1,oW 10 2 7] [2] .ret))
def rv65 : List RV:=[.cell 2 true 10]
theorem is65 : FnIs Tryz.prog 65 8 c65 rv65:=⟨⟨Tryz.f65,_,Tryz.func65,by kernel_rfl,rfl,rfl,by kernel_rfl,by kernel_rfl⟩,by decide⟩
def c68 : AC:=oX [o7 2 0,o7 3 1,oV 4 0] [2,3] (oS (oX [oF 5 0 3,oL 6 5,oC 7 31 [oO 6,oN 0,oN 11],oA 8 (.un .not (oO 7))] [2,3,8] (oI 8 (oX [oV 4 15] [4] .ret))) (oK [2,3] (oS (oX [oF 9 1 3,oL 10 9,oC 11 31 [oO 10,oN 0,oN 1000000000],oA 12 (.un .not (oO 11))] [2,3,12] (oI 12 (oX [oV 4 2] [4] .ret))) (oK [2,3] (oS (oX [oF 13 0 3,oL 14 13,oB 15 .eql 3 14 (oN 3),oM 16 15,oE 17 16 false 0 3,oJ 18 16 false 17,oG 19 16 false (.bin .eql 3 (oO 18) (oN 10)),oH 20 16 19] [2,3,20] (oI 20 (oS (oX [o5 21 3 2,oF 22 2 3,oL 23 22,oC 24 99 [oO 21,oO 23],oA 25 (.un .not (oO 24))] [25] (oI 25 (oX [oV 4 6] [4] .ret))) (oK [] (oX [oV 4 0] [4] .ret))))) (oK [3] (oS (oX [oF 26 2 3,oL 27 26,oB 28 .neq 3 27 (oN 0)] [28] (oI 28 (oX [oV 4 3] [4] .ret))) (oK [] (oX [oV 4 0] [4] .ret)))))))))
def rv68 : List RV:=[.tmp 4]
theorem is68 : FnIs Tryz.prog 68 29 c68 rv68:=⟨⟨Tryz.f68,_,Tryz.func68,by kernel_rfl,rfl,rfl,by kernel_rfl,by kernel_rfl⟩,by decide⟩
def c69 : AC:=oX [o7 3 0,o7 4 1,o7 5 2,oA 6 (.alloc oZ),oV 7 0] [3,4,5,6] (oX [o5 11 3 3,o5 12 10 4,oC 13 113 [oO 11,oO 12],oM 10 13,o8 14 10 0,o8 15 10 1,oM 8 14,oM 9 15] [5,6,8,9] (oS (oX [oM 16 9,oB 17 .eql 27 16 (oN 0)] [5,6,8,9,17] (oI 17 (oR [oM 18 8,o5 19 3 5,oC 20 118 [oO 18,oO 19],oM 9 20]))) (oK [6,8,9] (oS (oX [oM 21 9,oB 22 .neq 27 21 (oN 0)] [6,8,9,22] (oI 22 (oX [oA 23 (.build oZ []),oM 24 9,oW 10 6 23,oM 7 24] [6,7] .ret))) (oK [6,8] (oX [oM 25 8,o6 26 25,oF 27 0 26,o5 28 10 27,oW 10 6 28,oV 7 0] [6,7] .ret))))))
def rv69 : List RV:=[.cell 6 true 10,.tmp 7]
theorem is69 : FnIs Tryz.prog 69 29 c69 rv69:=⟨⟨Tryz.f69,_,Tryz.func69,by kernel_rfl,rfl,rfl,by kernel_rfl,by kernel_rfl⟩,by decide⟩
def c70 : AC:=oX [o7 2 0,o7 3 1,oV 4 0] [2,3] (oS (oX [o5 6 3 2,oC 7 46 [oO 6],oM 5 7] [2,3,5] (oX [oM 8 5,oB 9 .neq 3 8 (oN 0)] [2,3,5,9] (oI 9 (oX [oM 10 5,oM 4 10] [4] .ret)))) (oK [2,3] (oX [o5 11 3 2,o5 12 10 3,oC 13 67 [oO 11,oO 12],oM 4 13] [4] .ret)))
def rv70 : List RV:=[.tmp 4]
theorem is70 : FnIs Tryz.prog 70 14 c70 rv70:=⟨⟨Tryz.f70,_,Tryz.func70,by kernel_rfl,rfl,rfl,by kernel_rfl,by kernel_rfl⟩,by decide⟩
def c71 : AC:=oX [o7 3 0,o7 4 1,o7 5 2,oA 6 (.alloc oZ),oV 7 0] [3,4,5,6] (oS (oX [o5 9 3 3,o5 10 3 5,oC 11 68 [oO 9,oO 10],oM 8 11] [3,4,5,6,8] (oX [oM 12 8,oB 13 .neq 3 12 (oN 0)] [3,4,5,6,8,13] (oI 13 (oX [oA 14 (.build oZ []),oM 15 8,oW 10 6 14,oM 7 15] [6,7] .ret)))) (oK [3,4,5,6] (oX [o5 16 3 3,o5 17 10 4,o5 18 3 5,oC 19 119 [oO 16,oO 17,oO 18],o8 20 19 0,o8 21 19 1,oW 10 6 20,oM 7 21] [6,7] .ret)))
def rv71 : List RV:=[.cell 6 true 10,.tmp 7]
theorem is71 : FnIs Tryz.prog 71 22 c71 rv71:=⟨⟨Tryz.f71,_,Tryz.func71,by kernel_rfl,rfl,rfl,by kernel_rfl,by kernel_rfl⟩,by decide⟩
def c75l1 : AC:=oS (oX [oM 6 5,oM 7 0,o4 8 7,oB 9 .lss 3 6 (oO 8)] [0,1,5,9] (.cond (oO 9) .skip (.exit 0))) (oK [0,1,5] (oS (.block 1 (oX [oM 12 0,oM 13 5,oA 14 (.iaddr 1 o1 (oO 12) (oO 13)),oL 15 14,oM 16 1,oB 17 .eql 3 15 (oO 16)] [0,1,5,17] (oI 17 (oX [o9 4 true] [4] .ret)))) (oK [0,1,5] (oR [oM 10 5,oB 11 .add 3 10 (oN 1),oM 5 11]))))
def c75 : AC:=oX [o9 4 false] [0,1] (oS (oX [oV 5 0] [0,1,5] (.block 0 (.loop c75l1))) (oK [] (oX [o9 4 false] [4] .ret)))
def rv75 : List RV:=[.tmp 4]
theorem is75 : FnIs Tryz.prog 75 18 c75 rv75:=⟨⟨Tryz.f75,_,Tryz.func75,by kernel_rfl,rfl,rfl,by kernel_rfl,by kernel_rfl⟩,by decide⟩
def yX : AC:=oX [oB 45 .lss 3 44 (oO 43)] [2,3,4,9,10,33,34,43,44,45] (oS (.cond (oO 45) .skip (.exit 2)) (oK [2,3,4,9,10,33,34,43,44] (oS (.block 3 (oX [oM 46 44,oM 13 46] [2,3,4,9,10,13,33,34,43,44] (oX [oM 47 10,oM 48 2,oM 49 13,oA 50 (.build o3 [(0,1,oO 47),(1,1,oO 48),(2,1,oO 49)]),oA 14 (.alloc o3),oW 3 14 50] [2,3,4,9,10,14,33,34,43,44] (oX [o5 52 3 3,o5 53 10 4,o5 54 3 14,oC 55 69 [oO 52,oO 53,oO 54],oM 51 55,o8 56 51 0,o8 57 51 1,oA 15 (.alloc oZ),oW 10 15 56,oM 16 57] [2,3,4,9,10,14,16,33,34,43,44] (oX [oM 58 16,oB 59 .eql 27 58 (oN 0)] [2,3,4,9,10,14,33,34,43,44,59] (oI 59 (oR [oM 60 9,o5 61 3 14,oA 62 (.mkSl false 83 3 o3 1 [(0,oO 61)]),oA 63 (.app 48 83 3 24 o3 (oO 60) (oO 62)),oM 9 63]))))))) (oK [2,3,4,9,10,33,34,43,44] (oR [oB 64 .add 3 44 (oN 1),oM 44 64])))))
def c76l2 : AC:=oX [oB 35 .lss 3 34 (oN 12)] [2,3,4,9,33,34,35] (oS (.cond (oO 35) .skip (.exit 0)) (oK [2,3,4,9,33,34] (oS (.block 1 (oX [oM 36 34,oA 37 (.opq (.index 170 (oO 33) (oO 34)) 169),⟨some 11,none,.alloc [.string ⟨#[]⟩,.bool false,.nilFunc],false⟩,oM 10 36,oW 3 11 37] [2,3,4,9,10,11,33,34] (oX [oV 12 1] [2,3,4,9,10,11,12,33,34] (oS (oX [oF 38 1 11,oL 39 38] [2,3,4,9,10,12,33,34,39] (oI 39 (oR [oF 40 0 3,oL 41 40,o4 42 41,oM 12 42]))) (oK [2,3,4,9,10,12,33,34] (oX [oM 43 12,oV 44 0] [2,3,4,9,10,33,34,43,44] (.block 2 (.loop yX)))))))) (oK [2,3,4,9,33,34] (oR [oB 65 .add 3 34 (oN 1),oM 34 65])))))
def c76 : AC:=oX [o7 3 0,o7 4 1,oA 6 (.mv (.const (.slice none 0 0))),oV 7 0] [2,3,4] (oS (oS (oQ [o5 17 3 3,o5 18 10 4,oC 19 64 [oO 17,oO 18],oA 20 (.mvs (oO 2)),oC 21 102 [oO 20],oC 22 95 [oO 21,oN 2],oA 23 (.mvs (oO 2)),oF 24 0 4,oL 25 24,oB 26 .geq 3 23 (oO 25),oT 27 (.call (.func 95) [oO 26,oN 9]),oT 28 (.mkSl false 27 1 o1 3 [(0,oO 19),(1,oO 22),(2,oO 27)]),oT 29 (.call (.func 91) [oO 28]),oT 8 (.mv (oO 29))]) (oK [2,3,4,8] (oX [oM 30 8,oB 31 .neq 27 30 (oN 0)] [2,3,4,8,31] (oI 31 (oX [oM 32 8,oA 6 (.mv (.const (.slice none 0 0))),oM 7 32] [6,7] .ret))))) (oK [2,3,4] (oX [oA 9 (.mv (.const (.slice none 0 0)))] [2,3,4,9] (.nilrow 9 3 83 (oS (oX [oA 33 (.load true 36 (.global 0)),oV 34 0] [2,3,4,9,33,34] (.block 0 (.loop c76l2))) (oK [9] (.fz [9] (oX [oM 66 9,oM 6 66,oV 7 0] [6,7] .ret))))))))
def x6 : List RV:=[.tmp 6,.tmp 7]
theorem is76 : FnIs Tryz.prog 76 67 c76 x6:=⟨⟨Tryz.f76,_,Tryz.func76,by kernel_rfl,rfl,rfl,by kernel_rfl,by kernel_rfl⟩,by decide⟩
def c77l1 : AC:=oS (oX [oM 11 5,oM 12 0,o4 13 12,oB 14 .lss 3 11 (oO 13)] [0,1,5,14] (.cond (oO 14) .skip (.exit 0))) (oK [0,1,5] (oS (.block 1 (oS (oQ [oM 17 0,oA 18 (.mvs (oO 5)),oA 19 (.iaddr 3 o3 (oO 17) (oO 18)),o5 20 3 19,oM 21 1,oM 22 5,oA 23 (.iaddr 3 o3 (oO 21) (oO 22)),o5 24 3 23,oT 25 (.ext (.eqs true [0,0,0]) [oO 20,oO 24])]) (oK [0,1,5,25] (oI 25 (oX [o9 4 false] [4] .ret))))) (oK [0,1,5] (oR [oM 15 5,oB 16 .add 3 15 (oN 1),oM 5 16]))))
def c77 : AC:=oX [o9 4 false] [0,1] (oS (oX [oM 6 0,o4 7 6,oM 8 1,o4 9 8,oB 10 .neq 3 7 (oO 9)] [0,1,10] (oI 10 (oX [o9 4 false] [4] .ret))) (oK [0,1] (oS (oX [oV 5 0] [0,1,5] (.block 0 (.loop c77l1))) (oK [] (oX [o9 4 true] [4] .ret)))))
def rv77 : List RV:=[.tmp 4]
theorem is77 : FnIs Tryz.prog 77 26 c77 rv77:=⟨⟨Tryz.f77,_,Tryz.func77,by kernel_rfl,rfl,rfl,by kernel_rfl,by kernel_rfl⟩,by decide⟩
def Bb : AC:=oS (oX [oM 17 9,oF 18 0 3,oL 19 18,o4 20 19,oB 21 .lss 3 17 (oO 20)] [2,3,4,7,8,9,21] (.cond (oO 21) .skip (.exit 2))) (oK [2,3,4,7,8,9] (oS (.block 3 (oX [oM 24 8,oM 25 2,oM 26 9,oA 27 (.build o3 [(0,1,oO 24),(1,1,oO 25),(2,1,oO 26)]),oA 10 (.alloc o3),oW 3 10 27] [2,3,4,7,8,9,10] (oX [o5 29 3 3,o5 30 10 4,o5 31 3 10,oC 32 71 [oO 29,oO 30,oO 31],oM 28 32,o8 33 28 0,o8 34 28 1,oA 11 (.alloc oZ),oW 10 11 33,oM 12 34] [2,3,4,7,8,9,10,12] (oX [oM 35 12,oB 36 .eql 3 35 (oN 0)] [2,3,4,7,8,9,10,36] (oI 36 (oR [oM 37 7,o5 38 3 10,oA 39 (.mkSl false 83 3 o3 1 [(0,oO 38)]),oA 40 (.app 48 83 3 24 o3 (oO 37) (oO 39)),oM 7 40])))))) (oK [2,3,4,7,8,9] (oR [oM 22 9,oB 23 .add 3 22 (oN 1),oM 9 23]))))
def c78l2 : AC:=oS (oX [oM 13 8,oB 14 .lss 3 13 (oN 12)] [2,3,4,7,8,14] (.cond (oO 14) .skip (.exit 0))) (oK [2,3,4,7,8] (oS (.block 1 (oX [oV 9 0] [2,3,4,7,8,9] (.block 2 (.loop Bb)))) (oK [2,3,4,7,8] (oR [oM 15 8,oB 16 .add 3 15 (oN 1),oM 8 16]))))
def c78 : AC:=oX [o7 3 0,o7 4 1,oA 6 (.mv (.const (.slice none 0 0)))] [2,3,4] (oX [oA 7 (.mv (.const (.slice none 0 0)))] [2,3,4,7] (.nilrow 7 3 83 (oS (oX [oV 8 0] [2,3,4,7,8] (.block 0 (.loop c78l2))) (oK [7] (.fz [7] (oX [oM 41 7,oM 6 41] [6] .ret))))))
def rv78 : List RV:=[.tmp 6]
theorem is78 : FnIs Tryz.prog 78 42 c78 rv78:=⟨⟨Tryz.f78,_,Tryz.func78,by kernel_rfl,rfl,rfl,by kernel_rfl,by kernel_rfl⟩,by decide⟩
def c112 : AC:=oX [o7 1 0,o9 2 false] [1] (oX [oF 3 1 1,oL 4 3,oB 5 .eql 3 4 (oN 2),oM 6 5,oE 7 6 false 1 1,oJ 8 6 false 7,oG 9 6 false (.bin .eql 3 (oO 8) (oN 3)),oH 10 6 9,oM 2 10] [2] .ret)
def rv112 : List RV:=[.tmp 2]
theorem is112 : FnIs Tryz.prog 112 11 c112 rv112:=⟨⟨Tryz.f112,_,Tryz.func112,by kernel_rfl,rfl,rfl,by kernel_rfl,by kernel_rfl⟩,by decide⟩
def Bj : AC:=oS (oX [oM 8 7,oF 9 1 3,oL 10 9,o4 11 10,oB 12 .lss 3 8 (oO 11)] [1,2,3,7,12] (.cond (oO 12) .skip (.exit 0))) (oK [1,2,3,7] (oS (.block 1 (oX [oF 15 1 3,oL 16 15,oM 17 7,oA 18 (.iaddr 2 o2 (oO 16) (oO 17)),o5 19 2 18,oM 20 1,oM 21 2,oA 22 (.ext (.mx false) [oO 20,oO 21]),oM 23 1,oM 24 2,oA 25 (.ext (.mx true) [oO 23,oO 24]),oA 26 (.build o2 [(0,1,oO 22),(1,1,oO 25)]),oA 27 (.ext (.eqs false [0,0]) [oO 19,oO 26])] [1,2,3,7,27] (oI 27 (oX [o9 6 true] [6] .ret)))) (oK [1,2,3,7] (oR [oM 13 7,oB 14 .add 3 13 (oN 1),oM 7 14]))))
def c115 : AC:=oX [o7 3 0,o9 6 false] [1,2,3] (oS (oX [oV 7 0] [1,2,3,7] (.block 0 (.loop Bj))) (oK [] (oX [o9 6 false] [6] .ret)))
def Bd : List RV:=[.tmp 6]
theorem is115 : FnIs Tryz.prog 115 28 c115 Bd:=⟨⟨Tryz.f115,_,Tryz.func115,by kernel_rfl,rfl,rfl,by kernel_rfl,by kernel_rfl⟩,by decide⟩
def Bk : AC:=oS (oX [oM 5 4,oF 6 9 1,oL 7 6,o4 8 7,oB 9 .lss 3 5 (oO 8)] [1,3,4,9] (.cond (oO 9) .skip (.exit 0))) (oK [1,3,4] (oS (.block 1 (oR [oM 12 3,oF 13 9 1,oL 14 13,oM 15 4,oA 16 (.iaddr 1 o0 (oO 14) (oO 15)),oL 17 16,o4 18 17,oB 19 .add 3 12 (oO 18),oM 3 19])) (oK [1,3,4] (oR [oM 10 4,oB 11 .add 3 10 (oN 1),oM 4 11]))))
def c116 : AC:=oX [o7 1 0,oV 2 0] [1] (oX [oV 3 0] [1,3] (oS (oX [oV 4 0] [1,3,4] (.block 0 (.loop Bk))) (oK [3] (oX [oM 20 3,oM 2 20] [2] .ret))))
def Be : List RV:=[.tmp 2]
theorem is116 : FnIs Tryz.prog 116 21 c116 Be:=⟨⟨Tryz.f116,_,Tryz.func116,by kernel_rfl,rfl,rfl,by kernel_rfl,by kernel_rfl⟩,by decide⟩
def Bl : AC:=oS (oX [oM 8 7,oM 9 1,oB 10 .lss 3 8 (oO 9)] [1,2,3,7,10] (.cond (oO 10) .skip (.exit 0))) (oK [1,2,3,7] (oS (.block 1 (oX [oF 13 9 3,oL 14 13,oM 15 7,oA 16 (.iaddr 1 o0 (oO 14) (oO 15)),oL 17 16,oM 18 2,oC 19 75 [oO 17,oO 18]] [1,2,3,7,19] (oI 19 (oX [oM 20 7,oM 6 20] [6] .ret)))) (oK [1,2,3,7] (oR [oM 11 7,oB 12 .add 3 11 (oN 1),oM 7 12]))))
def c117 : AC:=oX [o7 3 0,oV 6 0] [1,2,3] (oS (oX [oV 7 0] [1,2,3,7] (.block 0 (.loop Bl))) (oK [] (oX [oV 6 (-1)] [6] .ret)))
def Bf : List RV:=[.tmp 6]
theorem is117 : FnIs Tryz.prog 117 21 c117 Bf:=⟨⟨Tryz.f117,_,Tryz.func117,by kernel_rfl,rfl,rfl,by kernel_rfl,by kernel_rfl⟩,by decide⟩
def c119 : AC:=oX [o7 3 0,o7 4 1,o7 5 2,oA 6 (.alloc oZ),oV 7 0] [3,4,5,6] (oS (oX [oF 11 1 5,oL 12 11,oF 13 0 4,oL 14 13,oB 15 .lss 3 12 (oO 14)] [3,4,5,6,15] (oI 15 (oX [oA 16 (.build oZ []),oW 10 6 16,oV 7 9] [6,7] .ret))) (oK [3,4,5,6] (oX [o5 18 3 3,o5 19 10 4,oF 20 1 5,oL 21 20,oC 22 110 [oO 18,oO 19,oO 21],oM 17 22,o8 23 17 0,o8 24 17 1,oA 8 (.alloc oZ),oW 10 8 23,oM 9 24] [3,5,6,8] (oS (oX [o5 25 3 3,o5 26 10 8,o5 27 3 5,oC 28 152 [oO 25,oO 26,oO 27],oM 10 28] [5,6,8,10] (oX [oM 29 10,oB 30 .neq 3 29 (oN 0)] [5,6,8,10,30] (oI 30 (oX [oA 31 (.build oZ []),oM 32 10,oW 10 6 31,oM 7 32] [6,7] .ret)))) (oK [5,6,8] (oX [o5 33 10 8,o5 34 3 5,oC 35 153 [oO 33,oO 34],oW 10 8 35] [5,6,8] (oX [oF 36 1 5,oL 37 36,oF 38 0 8,oW 1 38 37] [6,8] (oX [o5 39 10 8,oW 10 6 39,oV 7 0] [6,7] .ret))))))))
def Ai : List RV:=[.cell 6 true 10,.tmp 7]
theorem is119 : FnIs Tryz.prog 119 40 c119 Ai:=⟨⟨Tryz.f119,_,Tryz.func119,by kernel_rfl,rfl,rfl,by kernel_rfl,by kernel_rfl⟩,by decide⟩
def c144 : AC:=oX [o9 3 false] [0,1] (oX [oM 4 0,oB 5 .eql 3 4 (oN (-1)),oM 6 5,oJ 7 6 false 1,oD 8 6 false 0,oG 9 6 false (.call (.func 145) [oO 7,oO 8]),oH 10 6 9,oM 3 10] [3] .ret)
def rv144 : List RV:=[.tmp 3]
theorem is144 : FnIs Tryz.prog 144 11 c144 rv144:=⟨⟨Tryz.f144,_,Tryz.func144,by kernel_rfl,rfl,rfl,by kernel_rfl,by kernel_rfl⟩,by decide⟩
def c145 : AC:=oX [o9 4 false] [0,1] (oX [oM 5 1,oM 6 0,o6 7 6,oF 8 10 7,oF 9 0 8,oL 10 9,o4 11 10,oB 12 .sub 3 11 (oN 1),oC 13 96 [oO 5,oN 0,oO 12],oM 4 13] [4] .ret)
def rv145 : List RV:=[.tmp 4]
theorem is145 : FnIs Tryz.prog 145 14 c145 rv145:=⟨⟨Tryz.f145,_,Tryz.func145,by kernel_rfl,rfl,rfl,by kernel_rfl,by kernel_rfl⟩,by decide⟩
def c146 : AC:=oX [o9 2 false] [0] (oS (oQ [oM 6 0,o6 7 6,oF 8 0 7,oF 9 4 8,oL 10 9,oB 11 .neq 3 10 (oN (-1)),oM 12 0,o6 13 12,oF 14 0 13,oF 15 5 14,oL 16 15,oB 17 .neq 3 16 (oN (-1)),oM 3 11,oT 4 (.mv (oO 17))]) (oK [0,3,4] (oX [oM 18 0,o6 19 18,oF 20 0 19,oF 21 1 20,oL 22 21,oB 23 .eql 3 22 (oN 1),oM 24 23,oD 25 24 false 0,oG 26 24 false (.nilc (oO 25)),oE 27 24 false 0 26,oE 28 24 false 1 27,oJ 29 24 false 28,oG 30 24 false (.bin .eql 3 (oO 29) (oN 2)),oH 31 24 30,oM 5 31] [0,3,4,5] (oS (.block 0 (oS (oX [oM 33 3,oM 34 33,oD 35 34 true 0,oG 36 34 true (.nilc (oO 35)),oE 37 34 true 0 36,oE 38 34 true 1 37,oJ 39 34 true 38,oG 40 34 true (.bin .eql 3 (oO 39) (oN 0)),oP 41 34 40,oM 32 41] [0,3,4,5,32] (.cond (oO 32) .skip (oR [oM 42 3,oA 43 (.un .not (oO 42)),oM 44 43,oD 45 44 true 5,oP 46 44 45,oM 32 46]))) (oK [0,3,4,5,32] (.cond (oO 32) (oX [o9 2 false] [2] .ret) (oX [oM 48 4,oM 49 48,oD 50 49 true 5,oD 51 49 true 50,oD 52 51 false 3,oG 53 49 true (.pick (oO 51) (.const (.bool true)) (oO 52)),oP 54 49 53,oM 47 54] [0,47] (oI 47 (oX [o9 2 false] [2] .ret))))))) (oK [0] (oS (oQ [oM 55 0,o6 56 55,oF 57 0 56,oF 58 6 57,oL 59 58,oM 60 0,o6 61 60,oF 62 0 61,oF 63 3 62,oL 64 63,oT 65 (.bin .eql 3 (oO 59) (oO 64)),oT 66 (.mv (oO 65)),oD 67 66 false 0,oG 68 66 false (.nilc (oO 67)),oE 69 66 false 0 68,oE 70 66 false 6 69,oJ 71 66 false 70,oD 72 66 false 0,oG 73 66 false (.nilc (oO 72)),oE 74 66 false 0 73,oE 75 66 false 5 74,oJ 76 66 false 75,⟨some 77,some (66,false),.bin .eql 3 (oO 71) (oO 76),true⟩,oT 78 (.pick (oO 66) (.const (.bool true)) (oO 77)),oT 2 (.mv (oO 78))]) (oK [2] .ret)))))))
def rv146 : List RV:=[.tmp 2]
theorem is146 : FnIs Tryz.prog 146 79 c146 rv146:=⟨⟨Tryz.f146,_,Tryz.func146,by kernel_rfl,rfl,rfl,by kernel_rfl,by kernel_rfl⟩,by decide⟩
def c147 : AC:=oX [o9 3 false] [0,1] (oX [oM 4 0,oB 5 .eql 3 4 (oN (-1)),oM 6 5,oJ 7 6 false 1,oD 8 6 false 0,oG 9 6 false (.call (.func 148) [oO 7,oO 8]),oH 10 6 9,oM 3 10] [3] .ret)
def rv147 : List RV:=[.tmp 3]
theorem is147 : FnIs Tryz.prog 147 11 c147 rv147:=⟨⟨Tryz.f147,_,Tryz.func147,by kernel_rfl,rfl,rfl,by kernel_rfl,by kernel_rfl⟩,by decide⟩
def Bm : AC:=oX [oB 32 .lss 3 31 (oO 30)] [0,3,4,5,22,23,24,29,30,31,32] (oS (.cond (oO 32) .skip (.exit 2)) (oK [0,3,4,5,22,23,24,29,30,31] (oS (.block 3 (oX [oM 33 31,oA 34 (.iaddr 1 o1 (oO 29) (oO 31)),oL 35 34,oM 6 33,oM 7 35] [0,3,4,5,6,7,22,23,24,29,30,31] (oX [oM 37 3,oM 38 7,oA 39 (.opq (.lookup 214 (oO 37) (oO 38) true) 185),oM 36 39,o8 40 36 0,o8 41 36 1,oM 8 40,oM 9 41] [0,3,4,5,6,7,9,22,23,24,29,30,31] (oX [oM 42 7,oM 43 0,o6 44 43,oF 45 0 44,oF 46 7 45,oL 47 46,oB 48 .sub 3 47 (oN 1),oC 49 96 [oO 42,oN 0,oO 48],oC 50 95 [oO 49,oN 2],oM 51 6,oB 52 .eql 3 51 (oN 0),oM 53 52,oD 54 53 false 7,oD 55 53 false 5,oD 56 53 false 6,oG 57 53 false (.bin .sub 3 (oO 56) (oN 1)),oG 58 53 false (.ext (.mx true) [oN 0,oO 57]),oG 59 53 false (.iaddr 1 o1 (oO 55) (oO 58)),oJ 60 53 false 59,oG 61 53 false (.bin .gtr 3 (oO 54) (oO 60)),oH 62 53 61,oC 63 95 [oO 62,oN 9],oM 64 9,oA 65 (.un .not (oO 64)),oC 66 95 [oO 65,oN 26],oA 67 (.mkSl false 27 1 o1 3 [(0,oO 50),(1,oO 63),(2,oO 66)]),oC 68 91 [oO 67],oM 10 68] [0,3,4,5,7,10,22,23,24,29,30,31] (oS (oX [oM 69 10,oB 70 .neq 27 69 (oN 0)] [0,3,4,5,7,10,22,23,24,29,30,31,70] (oI 70 (oX [oM 71 10,oM 2 71] [2] .ret))) (oK [0,3,4,5,7,22,23,24,29,30,31] (oR [oM 72 3,oM 73 7,oM 74 4,⟨none,none,.opq (.mapUpdate 214 (oO 72) (oO 73) (oO 74)) 0,false⟩]))))))) (oK [0,3,4,5,22,23,24,29,30,31] (oR [oB 75 .add 3 31 (oN 1),oM 31 75])))))
def Bn : AC:=oX [oB 25 .lss 3 24 (oO 23)] [0,3,22,23,24,25] (oS (.cond (oO 25) .skip (.exit 0)) (oK [0,3,22,23,24] (oS (.block 1 (oX [oM 26 24,oA 27 (.iaddr 1 o0 (oO 22) (oO 24)),oL 28 27,oM 4 26,oM 5 28] [0,3,4,5,22,23,24] (oX [oM 29 5,o4 30 29,oV 31 0] [0,3,4,5,22,23,24,29,30,31] (.block 2 (.loop Bm))))) (oK [0,3,22,23,24] (oR [oB 76 .add 3 24 (oN 1),oM 24 76])))))
def B9 : AC:=oX [oA 79 (.opq (.next (oO 78) false) 0),o8 80 79 0] [0,11,78,80] (oS (.cond (oO 80) .skip (.exit 4)) (oK [0,11,78] (.block 5 (oX [oA 81 (.opq (.entry (oO 78)) 0),o8 82 81 0,o8 83 81 1,oM 12 82,oM 13 83] [0,11,12,13,78] (oS (oX [oM 84 13,oM 85 0,o6 86 85,oF 87 0 86,oF 88 3 87,oL 89 88,oB 90 .neq 3 84 (oO 89),oM 91 90,oD 92 91 true 13,oD 93 91 true 0,oG 94 91 true (.nilc (oO 93)),oE 95 91 true 0 94,oE 96 91 true 5 95,oJ 97 91 true 96,oG 98 91 true (.bin .neq 3 (oO 92) (oO 97)),oP 99 91 98,oM 100 99,oD 101 100 true 13,oD 102 100 true 0,oG 103 100 true (.nilc (oO 102)),oE 104 100 true 0 103,oE 105 100 true 4 104,oJ 106 100 true 105,oG 107 100 true (.bin .neq 3 (oO 101) (oO 106)),oD 108 100 true 107,oD 109 108 false 0,oG 110 108 false (.call (.func 120) [oO 109]),oG 111 108 false (.un .not (oO 110)),oG 112 100 true (.pick (oO 108) (.const (.bool true)) (oO 111)),oP 113 100 112] [0,11,12,78,113] (oI 113 (oX [oV 2 23] [2] .ret))) (oK [0,11,12,78] (oX [oM 114 12,oM 115 0,o6 116 115,oF 117 0 116,oF 118 8 117,oL 119 118,oB 120 .geq 3 114 (oO 119)] [0,11,78,120] (oI 120 (oR [oM 121 11,oB 122 .add 3 121 (oN 1),oM 11 122])))))))))
def c150 : AC:=oX [oV 2 0] [0] (oS (oX [oM 14 0,oC 15 165 [oO 14],oB 16 .gtr 3 15 (oN 60)] [0,16] (oI 16 (oX [oV 2 8] [2] .ret))) (oK [0] (oX [oA 17 (.opq (.makeMap 214 none) 214),oM 3 17] [0,3] (oS (oX [oM 18 0,o6 19 18,oF 20 0 19,oF 21 9 20,oL 22 21,o4 23 22,oV 24 0] [0,3,22,23,24] (.block 0 (.loop Bn))) (oK [0,3] (oX [oV 11 0] [0,3,11] (oS (oX [oM 77 3,oA 78 (.opq (.range 214 (oO 77)) 0)] [0,11,78] (.block 4 (.loop B9))) (oK [0,11] (oS (oQ [oA 123 (.mvs (oO 11)),oM 124 0,o6 125 124,oF 126 0 125,oF 127 7 126,oL 128 127,oM 129 0,o6 130 129,oF 131 0 130,oF 132 8 131,oL 133 132,oT 134 (.bin .sub 3 (oO 128) (oO 133)),oT 135 (.bin .eql 3 (oO 123) (oO 134)),oT 136 (.call (.func 95) [oO 135,oN 14]),oT 2 (.mv (oO 136))]) (oK [2] .ret))))))))))
def xm : List RV:=[.tmp 2]
theorem is150 : FnIs Tryz.prog 150 137 c150 xm:=⟨⟨Tryz.f150,_,Tryz.func150,by kernel_rfl,rfl,rfl,by kernel_rfl,by kernel_rfl⟩,by decide⟩
def rv167 : List RV:=[.tmp 2,.tmp 3]
theorem is167 : FnIs Tryz.prog 167 15 c167 rv167:=⟨⟨Tryz.f167,_,Tryz.func167,by kernel_rfl,rfl,rfl,by kernel_rfl,by kernel_rfl⟩,by decide⟩
def c168 : AC:=oX [o7 1 0,oA 2 (.alloc oZ)] [1,2] (oS (oX [oF 3 5 1,oL 4 3,oB 5 .neq 3 4 (oN (-1)),oM 6 5,oE 7 6 true 6 1,oJ 8 6 true 7,oE 9 6 true 3 1,oJ 10 6 true 9,oG 11 6 true (.bin .eql 3 (oO 8) (oO 10)),oP 12 6 11,oM 13 12,oE 14 13 true 9 1,oJ 15 13 true 14,oE 16 13 true 5 1,oJ 17 13 true 16,oG 18 13 true (.iaddr 1 o0 (oO 15) (oO 17)),oJ 19 13 true 18,oG 20 13 true (.len false (oO 19)),oG 21 13 true (.bin .eql 3 (oO 20) (oN 0)),oP 22 13 21] [1,2,22] (oI 22 (oR [oF 23 5 1,oY false 1 (oO 23) (oN (-1))]))) (oK [1,2] (oX [o5 24 10 1,oW 10 2 24] [2] .ret)))
def AF : List RV:=[.cell 2 true 10]
theorem is168 : FnIs Tryz.prog 168 25 c168 AF:=⟨⟨Tryz.f168,_,Tryz.func168,by kernel_rfl,rfl,rfl,by kernel_rfl,by kernel_rfl⟩,by decide⟩
end Go.Proofs.YtcbabnbiinkafaaGreatDoor
end
section
open Go Go.Am
open Go.Am.Dat (cells)
namespace Go.Proofs.YtcbabnbiinkafaaGreatDoor.D7
set_option maxRecDepth 100000
def c60l1 : AC:=oS (oX [oM 5 4,oM 6 0,o4 7 6,oB 8 .lss 3 5 (oO 7)] [0,3,4,8] (.cond (oO 8) .skip (.exit 0))) (oK [0,3,4] (oS (.block 1 (oR [oM 11 3,oM 12 0,oM 13 4,oA 14 (.iaddr 1 o0 (oO 12) (oO 13)),oL 15 14,oC 16 24 [oO 15],oA 17 (.mkSl true 24 1 o0 1 [(0,oO 16)]),oA 18 (.app 51 24 1 24 o0 (oO 11) (oO 17)),oM 3 18])) (oK [0,3,4] (oR [oM 9 4,oB 10 .add 3 9 (oN 1),oM 4 10]))))
def c60 : AC:=oX [oA 2 (.mv (.const (.slice none 0 0)))] [0] (oX [oA 3 (.mv (.const (.slice none 0 0)))] [0,3] (.nilrow 3 1 24 (.deepen 3 1 3 (oS (oX [oV 4 0] [0,3,4] (.block 0 (.loop c60l1))) (oK [3] (oX [oM 19 3,oM 2 19] [2] .ret))))))
def rv60 : List RV:=[.tmp 2]
theorem is60 : FnIs Tryz.prog 60 20 c60 rv60:=⟨⟨Tryz.f60,_,Tryz.func60,by kernel_rfl,rfl,rfl,by kernel_rfl,by kernel_rfl⟩,by decide⟩
def c65 : AC:=oX [o7 1 0,oA 2 (.alloc oZ)] [1,2] (oX [oF 3 9 1,oL 4 3,oC 5 60 [oO 4],oF 6 9 1,oW 1 6 5] [1,2] (oX [o5 7 10 1,oW 10 2 7] [2] .ret))
def rv65 : List RV:=[.cell 2 true 10]
theorem is65 : FnIs Tryz.prog 65 8 c65 rv65:=⟨⟨Tryz.f65,_,Tryz.func65,by kernel_rfl,rfl,rfl,by kernel_rfl,by kernel_rfl⟩,by decide⟩
def c110 : AC:=oX [o7 3 0,o7 4 1,oA 6 (.alloc oZ),oV 7 0] [2,3,4,6] (oS (oX [o5 8 10 4,oC 9 112 [oO 8],oM 10 9,oE 11 10 true 2 4,oJ 12 10 true 11,oE 13 10 true 2 3,oJ 14 10 true 13,oG 15 10 true (.bin .add 3 (oO 12) (oO 14)),oD 16 10 true 2,oG 17 10 true (.bin .leq 3 (oO 15) (oO 16)),oP 18 10 17] [3,4,6,18] (oI 18 (oS (.draw 999 [6,12,13,102,105,106,112,113,205,206,212,213,304,305,306,312,313,405,406,412,413,506,512,513,612,613,708,711,713,811,813,910,911,913,1011,1013,1113,1213] [o5 19 10 4,oF 20 2 4,oL 21 20,oF 22 2 3,oL 23 22,oB 24 .add 3 21 (oO 23),oC 25 142 [oO 19,oN 0,oO 24],oF 26 2 4,oL 27 26,oF 28 2 3,oL 29 28,oB 30 .add 3 27 (oO 29),oW 10 6 25,oT 7 (.mv (oO 30))]) (oK [6,7] .ret)))) (oK [4,6] (oX [o5 31 10 4,oC 32 65 [oO 31],oW 10 6 32,oV 7 (-1)] [6,7] .ret)))
def rv110 : List RV:=[.cell 6 true 10,.tmp 7]
theorem is110 : FnIs Tryz.prog 110 33 c110 rv110:=⟨⟨Tryz.f110,_,Tryz.func110,by kernel_rfl,rfl,rfl,by kernel_rfl,by kernel_rfl⟩,by decide⟩
def c142l1 : AC:=oS (oX [oM 20 10,oF 21 9 3,oL 22 21,oM 23 9,oA 24 (.iaddr 1 o0 (oO 22) (oO 23)),oL 25 24,o4 26 25,oB 27 .lss 3 20 (oO 26)] [1,2,3,6,7,8,9,10,27] (.cond (oO 27) .skip (.exit 2))) (oK [1,2,3,6,7,8,9,10] (oS (.block 3 (oR [oM 30 8,oF 31 9 3,oL 32 31,oM 33 9,oA 34 (.iaddr 1 o0 (oO 32) (oO 33)),oL 35 34,oM 36 10,oA 37 (.iaddr 1 o1 (oO 35) (oO 36)),oL 38 37,oC 39 163 [oO 30,oO 38],oM 8 39])) (oK [1,2,3,6,7,8,9,10] (oR [oM 28 10,oB 29 .add 3 28 (oN 1),oM 10 29]))))
def c142l2 : AC:=oS (oX [oM 13 9,oF 14 9 3,oL 15 14,o4 16 15,oB 17 .lss 3 13 (oO 16)] [1,2,3,6,7,8,9,17] (.cond (oO 17) .skip (.exit 0))) (oK [1,2,3,6,7,8,9] (oS (.block 1 (oS (oX [oV 10 0] [1,2,3,6,7,8,9,10] (.block 2 (.loop c142l1))) (oK [1,2,3,6,7,8,9] (oR [oF 40 9 7,oL 41 40,oM 42 9,oA 43 (.iaddr 1 o0 (oO 41) (oO 42)),oY false 1 (oO 43) (.const (.slice none 0 0))])))) (oK [1,2,3,6,7,8,9] (oR [oM 18 9,oB 19 .add 3 18 (oN 1),oM 9 19]))))
def c142 : AC:=oX [o7 3 0,oA 6 (.alloc oZ)] [1,2,3,6] (oX [o5 11 10 3,oC 12 65 [oO 11],oA 7 (.alloc oZ),oW 10 7 12] [1,2,3,6,7] (oX [oA 8 (.mv (.const (.slice none 0 0)))] [1,2,3,6,7,8] (oS (oX [oV 9 0] [1,2,3,6,7,8,9] (.block 0 (.loop c142l2))) (oK [1,2,3,6,7,8] (oS (.draw 6 [0,1,2] [oF 44 9 7,oL 45 44,oA 46 (.mvs (oO 1)),oM 47 8,oF 48 8 3,oL 49 48,oT 50 (.call (.func 164) [oO 47,oO 49]),oT 51 (.iaddr 1 o0 (oO 45) (oO 46)),⟨none,none,.store false 1 (oO 51) (oO 50),true⟩]) (oK [1,2,6,7] (oX [oM 52 2,oM 53 1,oM 54 1,oF 55 1 7,oY false 1 (oO 55) (oN 0),oF 56 2 7,oW 1 56 52,oF 57 3 7,oW 1 57 53,oF 58 6 7,oW 1 58 54] [6,7] (oX [oF 59 4 7,oY false 1 (oO 59) (oN (-1)),oF 60 5 7,oY false 1 (oO 60) (oN (-1))] [6,7] (oX [o5 61 10 7,oW 10 6 61] [6] .ret)))))))))
def rv142 : List RV:=[.cell 6 true 10]
theorem is142 : FnIs Tryz.prog 142 62 c142 rv142:=⟨⟨Tryz.f142,_,Tryz.func142,by kernel_rfl,rfl,rfl,by kernel_rfl,by kernel_rfl⟩,by decide⟩
def c163l1 : AC:=oS (oX [oM 7 6,oM 8 0,o4 9 8,oB 10 .lss 3 7 (oO 9),oM 11 10,oD 12 11 true 0,oD 13 11 true 6,oG 14 11 true (.iaddr 1 o1 (oO 12) (oO 13)),oJ 15 11 true 14,oD 16 11 true 1,oG 17 11 true (.bin .lss 3 (oO 15) (oO 16)),oP 18 11 17] [0,1,5,6,18] (.cond (oO 18) .skip (.exit 0))) (oK [0,1,5,6] (.block 1 (oX [oM 19 5,oM 20 0,oM 21 6,oA 22 (.iaddr 1 o1 (oO 20) (oO 21)),oL 23 22,oA 24 (.mkSl false 3 1 o1 1 [(0,oO 23)]),oA 25 (.app 24 3 1 8 o1 (oO 19) (oO 24)),oM 5 25] [0,1,5,6] (oR [oM 26 6,oB 27 .add 3 26 (oN 1),oM 6 27]))))
def c163 : AC:=oX [oA 4 (.mv (.const (.slice none 0 0)))] [0,1] (oX [oA 5 (.mv (.const (.slice none 0 0)))] [0,1,5] (.nilrow 5 1 3 (oX [oV 6 0] [0,1,5,6] (oS (.block 0 (.loop c163l1)) (oK [0,1,5,6] (oS (.draw 3 [4,5,6] [oM 28 5,oA 29 (.mvs (oO 1)),oA 30 (.mkSl false 3 1 o1 1 [(0,oO 29)]),oT 31 (.app 24 3 1 8 o1 (oO 28) (oO 30)),oM 32 0,oM 33 6,oA 34 (.ssl 1 (oO 32) (some (oO 33)) none none),oT 35 (.app 24 3 1 8 o1 (oO 31) (oO 34)),oT 4 (.mv (oO 35))]) (oK [4] .ret)))))))
def rv163 : List RV:=[.tmp 4]
theorem is163 : FnIs Tryz.prog 163 36 c163 rv163:=⟨⟨Tryz.f163,_,Tryz.func163,by kernel_rfl,rfl,rfl,by kernel_rfl,by kernel_rfl⟩,by decide⟩
def c164l1 : AC:=oS (oX [oM 7 6,oM 8 0,o4 9 8,oB 10 .lss 3 7 (oO 9)] [0,1,5,6,10] (.cond (oO 10) .skip (.exit 0))) (oK [0,1,5,6] (oS (.block 1 (oX [oM 13 0,oM 14 6,oA 15 (.iaddr 1 o1 (oO 13) (oO 14)),oL 16 15,oM 17 1,oB 18 .geq 3 16 (oO 17)] [0,1,5,6,18] (oI 18 (oR [oM 19 5,oM 20 0,oM 21 6,oA 22 (.iaddr 1 o1 (oO 20) (oO 21)),oL 23 22,oA 24 (.mkSl false 3 1 o1 1 [(0,oO 23)]),oA 25 (.app 24 3 1 8 o1 (oO 19) (oO 24)),oM 5 25])))) (oK [0,1,5,6] (oR [oM 11 6,oB 12 .add 3 11 (oN 1),oM 6 12]))))
def c164 : AC:=oX [oA 4 (.mv (.const (.slice none 0 0)))] [0,1] (oX [oA 5 (.mv (.const (.slice none 0 0)))] [0,1,5] (.nilrow 5 1 3 (oS (oX [oV 6 0] [0,1,5,6] (.block 0 (.loop c164l1))) (oK [5] ((oX [oM 26 5,oM 4 26] [4] .ret))))))
def rv164 : List RV:=[.tmp 4]
theorem is164 : FnIs Tryz.prog 164 27 c164 rv164:=⟨⟨Tryz.f164,_,Tryz.func164,by kernel_rfl,rfl,rfl,by kernel_rfl,by kernel_rfl⟩,by decide⟩
def c152k1 : AC:=oX [o5 18 10 4,oC 19 116 [oO 18],oB 20 .geq 3 19 (oN 60),oM 21 20,oE 22 21 false 7 4,oJ 23 21 false 22,oG 24 21 false (.bin .geq 3 (oO 23) (oN 1000000)),oH 25 21 24] [25] (oI 25 (oX [oV 6 16] [6] .ret))
def c152k2 : AC:=oS (oX [o5 28 10 4,oC 29 112 [oO 28]] [4,7,29] (oI 29 (oX [oM 30 7,oM 6 30] [6] .ret))) (oK [4] (oS (oX [oF 31 9 4,oL 32 31,oF 33 3 4,oL 34 33,oA 35 (.iaddr 1 o0 (oO 32) (oO 34)),oL 36 35,o4 37 36,oB 38 .eql 3 37 (oN 0)] [4,38] (oI 38 (oX [oV 6 12] [6] .ret))) (oK [4] (oS (oQ [oF 39 9 4,oL 40 39,oF 41 3 4,oL 42 41,oA 43 (.iaddr 1 o0 (oO 40) (oO 42)),oL 44 43,oA 45 (.iaddr 1 o1 (oO 44) (oN 0)),oL 46 45,oF 47 8 4,oL 48 47,oT 49 (.bin .gtr 3 (oO 46) (oO 48))]) (oK [49] (oI 49 (oX [oV 6 14] [6] .ret)))))))
def c152k3 : AC:=oX [o5 52 10 4,oC 53 112 [oO 52]] [7,53] (oI 53 (oX [oM 54 7,oM 6 54] [6] .ret))
def c152k4 : AC:=oS (oX [oF 57 1 4,oL 58 57,oB 59 .neq 3 58 (oN 0)] [3,4,5,7,8,59] (oI 59 (oX [oM 60 7,oM 6 60] [6] .ret))) (oK [3,4,5,8] (oS (oX [oM 61 8] [3,4,5,61] (oI 61 (oX [oV 6 17] [6] .ret))) (oK [3,4,5] (oX [o5 62 3 3,oF 63 2 5,oL 64 63,oF 65 3 4,oL 66 65,oC 67 115 [oO 62,oO 64,oO 66],oA 68 (.un .not (oO 67))] [68] (oI 68 (oX [oV 6 6] [6] .ret))))))
def c152k5 : AC:=oX [oF 72 1 4,oL 73 72,oB 74 .neq 3 73 (oN 1)] [7,74] (oI 74 (oX [oM 75 7,oM 6 75] [6] .ret))
def c152k6 : AC:=oX [oF 78 1 4,oL 79 78,oB 80 .neq 3 79 (oN 2)] [7,80] (oI 80 (oX [oM 81 7,oM 6 81] [6] .ret))
def c152k7 : AC:=oS (oX [oF 84 1 4,oL 85 84,oB 86 .neq 3 85 (oN 2),oM 87 86,oE 88 87 true 1 4,oJ 89 87 true 88,oG 90 87 true (.bin .neq 3 (oO 89) (oN 0)),oD 91 87 true 90,oD 92 91 false 8,oG 93 91 false (.un .not (oO 92)),oG 94 87 true (.pick (oO 91) (.const (.bool true)) (oO 93)),oP 95 87 94] [4,7,95] (oI 95 (oX [oM 96 7,oM 6 96] [6] .ret))) (oK [4] (oX [o5 98 10 4,oC 99 167 [oO 98],oM 97 99,o8 100 97 0,o8 101 97 1,oM 9 100,oM 10 101] [4,9] (oX [oF 102 9 4,oL 103 102,oM 104 9,oA 105 (.iaddr 1 o0 (oO 103) (oO 104)),oL 106 105,o4 107 106,oB 108 .eql 3 107 (oN 0)] [108] (oI 108 (oX [oV 6 12] [6] .ret)))))
def c152k8 : AC:=oS (oX [oM 111 8,oA 112 (.un .not (oO 111))] [4,7,112] (oI 112 (oX [oV 6 12] [6] .ret))) (oK [4,7] (oS (oX [oF 113 1 4,oL 114 113,oB 115 .eql 3 114 (oN 3)] [4,7,115] (oI 115 (oX [oM 116 7,oM 6 116] [6] .ret))) (oK [4] (oX [oF 117 6 4,oL 118 117,oF 119 3 4,oL 120 119,oB 121 .eql 3 118 (oO 120)] [121] (oI 121 (oX [oV 6 26] [6] .ret))))))
def c152k9 : AC:=oX [oF 124 1 4,oL 125 124,oB 126 .eql 3 125 (oN 3)] [7,126] (oI 126 (oX [oM 127 7,oM 6 127] [6] .ret))
def c152k10 : AC:=oS (oX [oF 130 1 4,oL 131 130,oB 132 .neq 3 131 (oN 3)] [4,5,7,8,132] (oI 132 (oX [oM 133 7,oM 6 133] [6] .ret))) (oK [4,5,8] (oX [oF 134 2 5,oL 135 134,oF 136 3 4,oL 137 136,oB 138 .neq 3 135 (oO 137),oM 139 138,oE 140 139 true 4 4,oJ 141 139 true 140,oG 142 139 true (.bin .eql 3 (oO 141) (oN (-1))),oD 143 139 true 142,oE 144 143 false 2 5,oJ 145 143 false 144,oE 146 143 false 4 4,oJ 147 143 false 146,oG 148 143 false (.bin .neq 3 (oO 145) (oO 147)),oG 149 139 true (.pick (oO 143) (.const (.bool true)) (oO 148)),oP 150 139 149,oM 151 150,oD 152 151 true 8,oG 153 151 true (.un .not (oO 152)),oD 154 151 true 153,oE 155 154 false 2 5,oJ 156 154 false 155,oE 157 154 false 5 4,oJ 158 154 false 157,oG 159 154 false (.bin .neq 3 (oO 156) (oO 158)),oG 160 151 true (.pick (oO 154) (.const (.bool true)) (oO 159)),oP 161 151 160] [161] (oI 161 (oX [oV 6 6] [6] .ret))))
def c152 : AC:=oX [o7 3 0,o7 4 1,o7 5 2,oV 6 0] [3,4,5] (oX [oV 7 22] [3,4,5,7] (oX [oF 11 5 4,oL 12 11,oB 13 .neq 3 12 (oN (-1)),oM 8 13] [3,4,5,7,8] (oS (oX [oF 14 0 5,oL 15 14] [3,4,5,7,8,15] (.block 0 (oX [oB 17 .eql 3 15 (oN 0),oM 16 17] [3,4,5,7,8,15,16] (.cond (oO 16) (.cut c152k1) (oX [oB 27 .eql 3 15 (oN 1),oM 26 27] [3,4,5,7,8,15,26] (.cond (oO 26) (.cut c152k2) (oX [oB 51 .eql 3 15 (oN 2),oM 50 51] [3,4,5,7,8,15,50] (.cond (oO 50) (.cut c152k3) (oX [oB 56 .eql 3 15 (oN 3),oM 55 56] [3,4,5,7,8,15,55] (.cond (oO 55) (.cut c152k4) (oS (oX [oB 70 .eql 3 15 (oN 4),oM 69 70] [4,5,7,8,15,69] (.cond (oO 69) .skip (oR [oB 71 .eql 3 15 (oN 5),oM 69 71]))) (oK [4,5,7,8,15,69] (.cond (oO 69) (.cut c152k5) (oX [oB 77 .eql 3 15 (oN 6),oM 76 77] [4,5,7,8,15,76] (.cond (oO 76) (.cut c152k6) (oX [oB 83 .eql 3 15 (oN 7),oM 82 83] [4,5,7,8,15,82] (.cond (oO 82) (.cut c152k7) (oX [oB 110 .eql 3 15 (oN 8),oM 109 110] [4,5,7,8,15,109] (.cond (oO 109) (.cut c152k8) (oX [oB 123 .eql 3 15 (oN 9),oM 122 123] [4,5,7,8,15,122] (.cond (oO 122) (.cut c152k9) (oX [oB 129 .eql 3 15 (oN 10),oM 128 129] [4,5,7,8,128] (oI 128 (.cut c152k10)))))))))))))))))))))))) (oK [] (oX [oV 6 0] [6] .ret)))))
def rv152 : List RV:=[.tmp 6]
theorem is152 : FnIs Tryz.prog 152 162 c152 rv152:=⟨⟨Tryz.f152,_,Tryz.func152,by kernel_rfl,rfl,rfl,by kernel_rfl,by kernel_rfl⟩,by decide⟩
def c153k1 : AC:=oS (oQ [oF 32 9 2,oL 33 32,oF 34 3 2,oL 35 34,oA 36 (.iaddr 1 o0 (oO 33) (oO 35)),oL 37 36,oA 38 (.iaddr 1 o1 (oO 37) (oN 0)),oL 39 38,oF 40 8 2,oL 41 40,oT 42 (.bin .eql 3 (oO 39) (oO 41))]) (oK [2,4,42] (oI 42 (oR [oF 43 8 2,oL 44 43,oB 45 .add 3 44 (oN 1),oF 46 8 2,oW 1 46 45])))
def c153k2 : AC:=oX [o5 101 10 2,oC 102 167 [oO 101],oM 100 102,o8 103 100 0,o8 104 100 1,oM 5 103,oM 6 104] [2,4,5,6] (oS (.draw 999 [1,16,17,116,117,216,217,304,306,307,315,316,317,406,407,415,416,417,506,507,515,516,517,607,615,616,617,715,716,717,809,811,812,813,814,815,816,817,911,912,913,914,915,916,917,1011,1012,1013,1014,1015,1016,1017,1112,1113,1114,1115,1116,1117,1213,1214,1215,1216,1217,1314,1315,1316,1317,1415,1416,1417,1516,1517,1617] [oF 105 9 2,oL 106 105,oA 107 (.mvs (oO 6)),oF 108 9 2,oL 109 108,oA 110 (.mvs (oO 6)),oA 111 (.iaddr 1 o0 (oO 109) (oO 110)),oL 112 111,oF 113 9 2,oL 114 113,oM 115 5,oA 116 (.iaddr 1 o0 (oO 114) (oO 115)),oL 117 116,oA 118 (.iaddr 1 o1 (oO 117) (oN 0)),oL 119 118,oC 120 163 [oO 112,oO 119],oT 121 (.iaddr 1 o0 (oO 106) (oO 107)),⟨none,none,.store false 1 (oO 121) (oO 120),true⟩]) (oK [2,4,5] (.draw 999 [1,10,11,110,111,210,211,304,306,307,308,309,310,311,406,407,408,409,410,411,506,507,508,509,510,511,607,608,609,610,611,708,709,710,711,809,810,811,910,911,1011] [oF 122 9 2,oL 123 122,oA 124 (.mvs (oO 5)),oF 125 9 2,oL 126 125,oM 127 5,oA 128 (.iaddr 1 o0 (oO 126) (oO 127)),oL 129 128,oA 130 (.ssl 1 (oO 129) (some (oN 1)) none none),oC 131 24 [oO 130],oT 132 (.iaddr 1 o0 (oO 123) (oO 124)),⟨none,none,.store false 1 (oO 132) (oO 131),true⟩])))
def c153k3 : AC:=oS (oX [oF 140 1 2,oL 141 140,oB 142 .neq 3 141 (oN 2)] [2,3,4,142] (oI 142 (oR [oF 143 1 3,oL 144 143,oF 145 2 2,oW 1 145 144]))) (oK [2,4] (oR [oF 146 1 2,oY false 1 (oO 146) (oN 3)]))
def c153k4 : AC:=oX [o5 149 10 2,oF 150 2 3,oL 151 150,oF 152 1 3,oL 153 152,oC 154 142 [oO 149,oO 151,oO 153],oW 10 4 154] [4] .ret
def c153k5 : AC:=oX [o5 155 10 2,oC 156 168 [oO 155],oW 10 4 156] [4] .ret
def c153 : AC:=oX [o7 2 0,o7 3 1,oA 4 (.alloc oZ)] [2,3,4] (oS (oX [oF 7 0 3,oL 8 7] [2,3,4,8] (.block 0 (oX [oB 10 .eql 3 8 (oN 0),oM 9 10] [2,3,4,8,9] (.cond (oO 9) (oS (.draw 13 [0,1,2,3] [oF 11 9 2,oL 12 11,oF 13 6 2,oL 14 13,oF 15 9 2,oL 16 15,oF 17 6 2,oL 18 17,oA 19 (.iaddr 1 o0 (oO 16) (oO 18)),oL 20 19,oF 21 7 2,oL 22 21,oA 23 (.mkSl false 3 1 o1 1 [(0,oO 22)]),oT 24 (.app 24 3 1 8 o1 (oO 20) (oO 23)),oT 25 (.iaddr 1 o0 (oO 12) (oO 14)),⟨none,none,.store true 1 (oO 25) (oO 24),true⟩]) (oK [2,4] (oR [oF 26 7 2,oL 27 26,oB 28 .add 3 27 (oN 1),oF 29 7 2,oW 1 29 28]))) (oX [oB 31 .eql 3 8 (oN 1),oM 30 31] [2,3,4,8,30] (.cond (oO 30) (.cut c153k1) (oX [oB 48 .eql 3 8 (oN 2),oM 47 48] [2,3,4,8,47] (.cond (oO 47) (.draw 999 [1,13,14,113,114,203,213,214,313,314,405,408,409,412,413,414,508,509,512,513,514,607,608,609,612,613,614,708,709,712,713,714,809,812,813,814,912,913,914,1011,1012,1013,1014,1112,1113,1114,1213,1214,1314] [oF 49 9 2,oL 50 49,oF 51 3 2,oL 52 51,oF 53 9 2,oL 54 53,oF 55 3 2,oL 56 55,oA 57 (.iaddr 1 o0 (oO 54) (oO 56)),oL 58 57,oF 59 8 2,oL 60 59,oC 61 164 [oO 58,oO 60],oT 62 (.iaddr 1 o0 (oO 50) (oO 52)),⟨none,none,.store false 1 (oO 62) (oO 61),true⟩]) (oX [oB 64 .eql 3 8 (oN 3),oM 63 64] [2,3,4,8,63] (.cond (oO 63) (.draw 999 [1,6,7,8,9,106,107,108,109,203,208,209,308,309,405,406,407,408,409,506,507,508,509,607,608,609,708,709,809] [oF 65 1 3,oL 66 65,oF 67 2 3,oL 68 67,oF 69 1 2,oY false 1 (oO 69) (oN 1),oF 70 2 2,oW 1 70 66,oT 71 (.faddr 4 (oO 2)),⟨none,none,.store false 1 (oO 71) (oO 68),true⟩]) (oX [oB 73 .eql 3 8 (oN 4),oM 72 73] [2,3,4,8,72] (.cond (oO 72) (.draw 999 [1,4,5,6,7,104,105,106,107,203,204,205,206,207,304,305,306,307,405,406,407,506,507,607] [oF 74 1 3,oL 75 74,oF 76 1 2,oY false 1 (oO 76) (oN 0),oT 77 (.faddr 2 (oO 2)),⟨none,none,.store false 1 (oO 77) (oO 75),true⟩,oT 78 (.faddr 4 (oO 2)),⟨none,none,.store false 1 (oO 78) (oN (-1)),true⟩]) (oX [oB 80 .eql 3 8 (oN 5),oM 79 80] [2,3,4,8,79] (.cond (oO 79) (.draw 999 [1,4,5,104,105,203,204,205,304,305,405] [oF 81 1 3,oL 82 81,oF 83 1 2,oY false 1 (oO 83) (oN 2),oT 84 (.faddr 2 (oO 2)),⟨none,none,.store false 1 (oO 84) (oO 82),true⟩]) (oX [oB 86 .eql 3 8 (oN 6),oM 85 86] [2,3,4,8,85] (.cond (oO 85) (oS (.draw 999 [1,4,5,104,105,203,204,205,304,305,405] [oF 87 1 3,oL 88 87,oF 89 1 2,oY false 1 (oO 89) (oN 0),oT 90 (.faddr 2 (oO 2)),⟨none,none,.store false 1 (oO 90) (oO 88),true⟩]) (oK [2,4] (oR [oF 91 3 2,oL 92 91,oF 93 4 2,oL 94 93,oF 95 5 2,oW 1 95 92,oF 96 3 2,oW 1 96 94,oF 97 4 2,oY false 1 (oO 97) (oN (-1))]))) (oX [oB 99 .eql 3 8 (oN 7),oM 98 99] [2,3,4,8,98] (.cond (oO 98) (.cut c153k2) (oX [oB 134 .eql 3 8 (oN 8),oM 133 134] [2,3,4,8,133] (.cond (oO 133) (oR [oF 135 3 2,oL 136 135,oF 137 6 2,oW 1 137 136]) (oX [oB 139 .eql 3 8 (oN 9),oM 138 139] [2,3,4,8,138] (.cond (oO 138) (.cut c153k3) (oX [oB 148 .eql 3 8 (oN 10),oM 147 148] [2,3,4,147] (oI 147 (.cut c153k4))))))))))))))))))))))))) (oK [2,4] (.cut c153k5)))
def rv153 : List RV:=[.cell 4 true 10]
theorem is153 : FnIs Tryz.prog 153 157 c153 rv153:=⟨⟨Tryz.f153,_,Tryz.func153,by kernel_rfl,rfl,rfl,by kernel_rfl,by kernel_rfl⟩,by decide⟩
end Go.Proofs.YtcbabnbiinkafaaGreatDoor.D7
end
section
open Go Go.Am
open Go.Am.Dat (cells)
namespace Go.Proofs.YtcbabnbiinkafaaGreatDoor.E2
set_option maxRecDepth 100000
def c113l1 : AC:=oX [oB 43 .lss 3 42 (oO 41)] [3,7,40,41,42,43] (oS (.cond (oO 43) .skip (.exit 0)) (oK [3,7,40,41,42] (oS (.block 1 (oX [oA 44 (.iaddr 1 o0 (oO 40) (oO 42)),oL 45 44,oM 9 45] [3,7,9,40,41,42] (.draw 999 [10,11,12,13,102,103,104,105,109,110,111,112,113,203,204,205,209,210,211,212,213,304,305,309,310,311,312,313,405,409,410,411,412,413,509,510,511,512,513,607,608,609,610,611,612,613,708,709,710,711,712,713,809,810,811,812,813,910,911,912,913,1011,1012,1013,1112,1113,1213] [oL 46 7,oL 47 7,o6 48 47,oF 49 0 48,oF 50 9 49,oL 51 50,oM 52 9,oC 53 143 [oO 52],oA 54 (.mkSl true 24 1 o0 1 [(0,oO 53)]),oA 55 (.app 51 24 1 24 o0 (oO 51) (oO 54)),oT 56 (.nilc (oO 46)),oT 57 (.faddr 0 (oO 56)),oT 58 (.faddr 9 (oO 57)),⟨none,none,.store true 1 (oO 58) (oO 55),true⟩]))) (oK [3,7,40,41,42] (oR [oB 59 .add 3 42 (oN 1),oM 42 59])))))
def c113k2 : AC:=oS (.draw 999 [3,4,5,6,7,8,9,10,12,13,14,15,16,17,18,19,20,21,22,23,24,25,26,28,29,30,31,102,103,104,105,106,107,108,109,110,112,113,114,115,116,117,118,119,120,121,122,123,124,125,126,128,129,130,131,203,204,205,206,207,208,209,210,212,213,214,215,216,217,218,219,220,221,222,223,224,225,226,228,229,230,231,304,305,306,307,308,309,310,312,313,314,315,316,317,318,319,320,321,322,323,324,325,326,328,329,330,331,405,406,407,408,409,410,412,413,414,415,416,417,418,419,420,421,422,423,424,425,426,428,429,430,431,508,509,510,512,513,514,515,516,517,518,519,520,521,522,523,524,525,526,528,529,530,531,607,608,609,610,612,613,614,615,616,617,618,619,620,621,622,623,624,625,626,628,629,630,631,708,709,710,712,713,714,715,716,717,718,719,720,721,722,723,724,725,726,728,729,730,731,809,810,812,813,814,815,816,817,818,819,820,821,822,823,824,825,826,828,829,830,831,910,912,913,914,915,916,917,918,919,920,921,922,923,924,925,926,928,929,930,931,1012,1013,1014,1015,1016,1017,1018,1019,1020,1021,1022,1023,1024,1025,1026,1028,1029,1030,1031,1112,1113,1114,1115,1116,1117,1118,1119,1120,1121,1122,1123,1124,1125,1126,1128,1129,1130,1131,1213,1214,1215,1216,1217,1218,1219,1220,1221,1222,1223,1224,1225,1226,1228,1229,1230,1231,1314,1315,1316,1317,1318,1319,1320,1321,1322,1323,1324,1325,1326,1328,1329,1330,1331,1415,1418,1419,1420,1421,1422,1423,1424,1425,1426,1428,1429,1430,1431,1518,1519,1520,1521,1522,1523,1524,1525,1526,1528,1529,1530,1531,1617,1618,1619,1620,1621,1622,1623,1624,1625,1626,1628,1629,1630,1631,1718,1719,1720,1721,1722,1723,1724,1725,1726,1728,1729,1730,1731,1819,1820,1821,1822,1823,1824,1825,1826,1828,1829,1830,1831,1920,1921,1922,1923,1924,1925,1926,1928,1929,1930,1931,2021,2022,2023,2024,2025,2026,2028,2029,2030,2031,2122,2123,2124,2125,2126,2128,2129,2130,2131,2223,2224,2225,2226,2228,2229,2230,2231,2324,2325,2326,2328,2329,2330,2331,2425,2426,2428,2429,2430,2431,2526,2528,2529,2530,2531,2628,2629,2630,2631,2728,2729,2730,2731,2829,2830,2831,2930,2931,3031] [oM 121 13,oF 122 4 3,oL 123 122,oA 124 (.call (oO 121) [oO 123]),oA 125 (.mvs (oO 124)),oD 126 125 true 13,oE 127 125 true 5 3,oJ 128 125 true 127,oG 129 125 true (.call (oO 126) [oO 128]),oP 130 125 129,oC 131 95 [oO 130,oN 13],oL 132 7,oC 133 120 [oO 132],oA 134 (.mvs (oO 133)),oJ 135 134 true 7,oG 136 134 true (.call (.func 121) [oO 135]),oE 137 134 true 0 3,oJ 138 134 true 137,oG 139 134 true (.bin .leq 3 (oO 136) (oO 138)),oP 140 134 139,oA 141 (.un .not (oO 140)),oA 142 (.mvs (oO 141)),oJ 143 142 true 7,oG 144 142 true (.call (.func 149) [oO 143]),oG 145 142 true (.un .not (oO 144)),oP 146 142 145,oC 147 95 [oO 146,oN 22],oL 148 7,oT 149 (.call (.func 150) [oO 148]),oT 150 (.mkSl false 27 1 o1 3 [(0,oO 131),(1,oO 147),(2,oO 149)]),oT 151 (.call (.func 91) [oO 150]),oT 12 (.mv (oO 151))]) (oK [7,12] (oS (oX [oM 152 12,oB 153 .neq 27 152 (oN 0)] [7,12,153] (oI 153 (oX [oM 154 12,oA 4 (.mv (.const (.pointer none))),oM 5 154] [4,5] .ret))) (oK [7] (oX [oL 155 7,oM 4 155,oV 5 0] [4,5] .ret))))
end Go.Proofs.YtcbabnbiinkafaaGreatDoor.E2
end
