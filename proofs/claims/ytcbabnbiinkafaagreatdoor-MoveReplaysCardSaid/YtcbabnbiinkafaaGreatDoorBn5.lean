/- Part 5 of the proof of: the statements about chapter 8 -/
import Derived.Test.YtcbabnbiinkafaaGreatDoorBn4
set_option linter.all false
section
namespace Go.Am
variable {P : Program} [Glob P] {E : Env} {U : Nat → Prop} {w : World}
def gI (D:Nat):Deferred:={ target:=.collected D,args:=#[] }
def bo (m:List (Nat×Sb)) (t:dI):dI:=
 match m with
 | []=>t
 | m=>t.map fun p=>(p.1,ah m p.2)
def aT (dst:Option Nat) (m:List (Nat×Sb)) (v:C) (t:dI):dI:=
 match dst with
 | some d=>am (bo m t) d v
 | none=>bo m t
theorem iy (m:List (Nat×Sb)) (t:dI) (i:Nat):gt (bo m t) i=ah m (gt t i):=by
 cases m with
 | nil=>simp only [bo,eF]
 | cons x m=>
  simp only [bo]
  induction t with
  | nil=>rfl
  | cons p t ih=>
   obtain ⟨j,c⟩:=p
   simp only [List.map_cons,gt,lk] at ih ⊢
   split
   · rfl
   · exact ih
theorem fQ (t:dI) (i:Nat) (c:C) (j:Nat):gt (am t i c) j=if i=j then c else gt t j:=by
 simp only [gt,mA]
 split <;> rfl
structure Holds (P:Program) [Glob P] (cx:Cx) (E:Env) (U:Nat→Prop) (a:Act) (w:World) (st:ASt):Prop where
 sz:a.tmps.size=cx.n
 df:∃ Ds:List Nat,a.defers=Ds.map gI∧Ds.Nodup∧∀ D∈Ds,cx.w0.heap.size≤D∧gG E U w.heap st.ch D (.deferred (some []))
 tok:∀ i,Rep E U w.heap (gt st.t i) (a.tmps.getD i undef)
 inv:Inv E U w.heap st.ch
 os:w.os=cx.w0.os
 tape:w.tape=cx.w0.tape
 output:w.output=cx.w0.output
 size:cx.w0.heap.size≤w.heap.size
 fr:∀ b,b < cx.w0.heap.size→¬ cx.X b→w.heap[b]? = cx.w0.heap[b]?
 keepA:∀ b,cx.A0 b→U b∧w.heap[b]? = cx.w0.heap[b]?
 live:∀ k c,(k,c)∈st.ch→∀ b,(E k).fp b→cx.w0.heap.size≤b∨cx.X b
 base:∀ b,U b→cx.A0 b∨cx.w0.heap.size≤b∨cx.X b
 fix:∀ k cs,cx.fx k→(k,.box cs)∈st.ch→(E k).toKE0=(cx.E0 k).toKE0
 hid:∀ p∈cx.hid,gG E U w.heap st.ch p.1 p.2
 gok:eW P U w.heap
def aw (dst:Option Nat) (ef:Eff) (st:ASt):ASt:=⟨aT dst ef.sub ef.v st.t,ef.ch⟩
theorem Holds.ev {cx:Cx} {a:Act} {st:ASt} (hh:Holds P cx E U a w st) (x:Operand):Rep E U w.heap (aq P st.t x) (a.eval x):=by
 cases x with
 | tmp i=>exact hh.tok i
 | const v=>exact .d (.s v)
 | global g=>exact vV hh.gok st.t g
 | func f=>exact .fn _ _ _ _ _ rfl (fun j c h=>by simp at h) rfl (fun j c h=>by simp at h)
theorem Holds.onDf {cx:Cx} {a:Act} {st:ASt} (hh:Holds P cx E U a w st) {m:List (Nat×Sb)} {d:Nat} {E':Env} {U':Nat→Prop} {w':World} {ch':Chs} (he:Ev E U w st.ch m d E' U' w' ch') :
 ∃ Ds:List Nat,a.defers=Ds.map gI∧Ds.Nodup∧∀ D∈Ds,cx.w0.heap.size≤D∧gG E' U' w'.heap ch' D (.deferred (some [])):=by
 obtain ⟨Ds,h1,h2,h3⟩:=hh.df
 exact ⟨Ds,h1,h2,fun D hD=>⟨(h3 D hD).1,(h3 D hD).2.ev he⟩⟩
theorem Holds.step {cx:Cx} {a:Act} {st:ASt} {dst:Option Nat} {ef:Eff} {vc:Value} {E':Env} {U':Nat→Prop} {w':World} (hh:Holds P cx E U a w st) (hd:∀ d,dst=some d→d < cx.n)
 (hr:Rep E' U' w'.heap ef.v vc) (he:Ev E U w st.ch ef.sub (dst.getD 0) E' U' w' ef.ch):Holds P cx E' U' (a.put dst vc) w' (aw dst ef st) where
 sz:=by cases dst <;> simp [Act.put,hh.sz]
 df:=by
  have:=hh.onDf he
  cases dst <;> exact this
 tok:=fun i=>by
  cases dst with
  | none=>simp only [aw,aT,Act.put,iy]; exact he.rep (hh.tok i)
  | some d=>
   simp only [aw,aT,Act.put,fQ,iy]
   have hdn:=hd d rfl
   by_cases hi:d=i
   · subst hi
     rw [if_pos rfl,eA (v:=vc) (by rw [Array.getElem?_setIfInBounds]; simp [hh.sz,hdn])]
     exact hr
   · rw [if_neg hi]
     have:(a.tmps.setIfInBounds d vc).getD i undef=a.tmps.getD i undef:=by simp [Array.getD_eq_getD_getElem?,Array.getElem?_setIfInBounds_ne hi]
     rw [this]; exact he.rep (hh.tok i)
 inv:=he.inv
 os:=he.os.trans hh.os
 tape:=he.tape.trans hh.tape
 output:=he.output.trans hh.output
 size:=Nat.le_trans hh.size he.size
 fr:=fun b hb hx=>(he.rest b (Nat.lt_of_lt_of_le hb hh.size) (fun k c hm e=>by
  rcases hh.live k c hm b e with h | h
  · omega
  · exact hx h)).trans (hh.fr b hb hx)
 keepA:=fun b hb=>⟨(he.keep b (hh.keepA b hb).1).1,(he.keep b (hh.keepA b hb).1).2.trans (hh.keepA b hb).2⟩
 live:=fun k c hm b hn=>by
  rcases he.live k c hm b hn with h | ⟨k0,c0,h1,h2⟩
  · exact .inl (Nat.le_trans hh.size h)
  · exact hh.live k0 c0 h1 b h2
 base:=fun b hb=>by
  rcases he.newU b hb with h | h | ⟨k0,c0,h1,h2⟩
  · exact hh.base b h
  · exact .inr (.inl (Nat.le_trans hh.size h))
  · rcases hh.live k0 c0 h1 b h2 with h | h
    · exact .inr (.inl h)
    · exact .inr (.inr h)
 fix:=fun k cs hk hm=>by
  rcases he.boxes k cs hm with h | ⟨⟨cs0,h1⟩,h2⟩
  · have:dst.getD 0 < 100000:=by
     cases dst with
     | none=>simp
     | some d=>have:=hd d rfl; have:=cx.hn; simp; omega
    have:=Cx.fx_ge hk
    omega
  · exact h2.trans (hh.fix k cs0 hk h1)
 hid:=fun p hp=>(hh.hid p hp).ev he
 gok:=hh.gok.mono he.keep
def fl (t:dI):Option (Nat×Bool)→Option Bool
 | none=>some true
 | some (s,want)=>
  match gt t s with
  | .s (.bool b)=>some (b == want)
  | .s _=>some false
  | _=>none
inductive StepE (P:Program) [Glob P] (o:AO) (st:ASt):Eff→Prop
 | yes (ef:Eff) (h:fl st.t o.guard=some true) (hr:OpR P (aq P st.t) st.ch (o.dst.getD 0) o.op ef):StepE P o st ef
 | no (h:fl st.t o.guard=some false):StepE P o st ⟨True,.s undef,st.ch,[]⟩
def iJ (P:Program) [Glob P] (dr:Bool):List AO→ASt→ASt→Prop
 | [],s,s'=>s'=s
 | o :: os,s,s'=>∃ ef,StepE P o s ef∧(dr=true→o.tot=true∨(ef.ch=s.ch∧ef.sub=[]))∧iJ P dr os (aw o.dst ef s) s'
theorem ku {ops:Array Oper} {o:Oper} {ao:AO} {own tot:Bool} {t:dI} {tmps:Array Value} {h:Array Obj} {n:Nat} {b:Bool} (hc:mq P own tot ops o=some ao) (hsz:tmps.size=n) (hg:∀ d want,ao.guard=some (d,want)→d < n)
 (htok:∀ d want,ao.guard=some (d,want)→Rep E U h (gt t d) (tmps.getD d undef)) (hw:fl t ao.guard=some b):Region.wanted o (yielded ops tmps)=b:=by
 simp only [mq,Option.bind_eq_some_iff] at hc
 obtain ⟨aop,h1,h2⟩:=hc
 cases hgd:o.guard with
 | none=>
  simp only [hgd,Option.some.injEq] at h2
  subst h2
  simp only [fl,Option.some.injEq] at hw
  simp [Region.wanted,hgd,← hw]
 | some jw=>
  obtain ⟨j,want⟩:=jw
  simp only [hgd,Option.map_eq_some_iff] at h2
  obtain ⟨d,hd,rfl⟩:=h2
  have hdn:=hg d want rfl
  have hr:=htok d want rfl
  simp only [Region.wanted,hgd,yielded,hd,Option.bind_some]
  have ht:tmps[d]? = some (tmps.getD d undef):=by
   have hlt:d < tmps.size:=by omega
   simp [Array.getD_eq_getD_getElem?,Array.getElem?_eq_getElem hlt]
  rw [ht]
  simp only [fl] at hw
  split at hw
  · rename_i b' hb
    cases hw
    rw [hb] at hr
    rw [dJ hr]
    cases b' <;> cases want <;> rfl
  · rename_i v hnb hv
    cases hw
    rw [hv] at hr
    rw [dJ hr]
    cases v <;> first | rfl | exact (hnb _ rfl).elim
  · cases hw
def gf (P:Program) (n:Nat) (ops:Array Oper) (o:Oper) (ao:AO):Prop:=
 (∃ own,mq P own ao.tot ops o=some ao)∧(∀ d,ao.dst=some d→d < n)∧(∀ d want,ao.guard=some (d,want)→d < n)
theorem lO {own tot:Bool} {ops:Array Oper} {o:Oper} {ao:AO} (hc:mq P own tot ops o=some ao):ao.dst=o.dst∧ib P own o.op o.type=some ao.op:=by
 simp only [mq,Option.bind_eq_some_iff] at hc
 obtain ⟨aop,h1,h2⟩:=hc
 cases hgd:o.guard with
 | none=>simp only [hgd,Option.some.injEq] at h2; subst h2; exact ⟨rfl,h1⟩
 | some jw=>
  simp only [hgd,Option.map_eq_some_iff] at h2
  obtain ⟨d,hd,rfl⟩:=h2
  exact ⟨rfl,h1⟩
theorem pq {cx:Cx} {a:Act} {st:ASt} {ops:Array Oper} {o:Oper} {ao:AO} {ef:Eff} (hm:gf P cx.n ops o ao) (hs:StepE P ao st ef) (hh:Holds P cx E U a w st) {K:Act→World→Prop} {Q:Exit→Act→World→Prop}
 (hK:∀ E' U' a' w',Holds P cx E' U' a' w' (aw ao.dst ef st)→K a' w') :
 (Region.wanted o (yielded ops a.tmps)=true∧o.wpIn (FW cx.ro) 0 P a w K Q)∨(Region.wanted o (yielded ops a.tmps)=false∧K (a.put o.dst undef) w):=by
 obtain ⟨⟨own,hc⟩,hd,hg⟩:=hm
 obtain ⟨f1,f2⟩:=lO hc
 cases hs with
 | yes _ h hr=>
  left
  refine ⟨ku hc hh.sz hg (fun d want _=>hh.tok d) h,hr.sound f2 hh.inv hh.gok (fun x _=>hh.ev x) (fun v E' U' w' h1 h2=>?_)⟩
  rw [← f1]
  exact hK E' U' _ w' (hh.step hd h1 h2)
 | no h=>
  right
  refine ⟨ku hc hh.sz hg (fun d want _=>hh.tok d) h,?_⟩
  rw [← f1]
  exact hK E U _ w (hh.step (ef:=⟨True,.s undef,st.ch,[]⟩) hd (.d (.s undef)) (Ev.refl hh.inv _))
def dW (P:Program) [Glob P] (cx:Cx) (s s':ASt):Prop:=∀ E U a w,Holds P cx E U a w s→∃ E' U',Holds P cx E' U' a w s'
def jz (P:Program) [Glob P] (cx:Cx) (G:ASt→Prop):List AO→ASt→Prop
 | [],s=>G s
 | o :: os,s=>(fl s.t o.guard=some false∧jz P cx G os (aw o.dst ⟨True,.s undef,s.ch,[]⟩ s)) ∨
  (fl s.t o.guard=some true∧∃ s1,dW P cx s s1∧((∃ ef,OpR P (aq P s1.t) s1.ch (o.dst.getD 0) o.op ef∧jz P cx G os (aw o.dst ef s1)) ∨
   (∃ outs:Eff→Prop,OpM P cx.ro (aq P s1.t) s1.ch (o.dst.getD 0) o.op outs∧∀ ef,outs ef→jz P cx G os (aw o.dst ef s1))))
theorem pS {cx:Cx} {ops:Array Oper} {Q:Exit→Act→World→Prop} {G:ASt→Prop} (hQ:∀ st',G st'→∀ E' U' a' w',Holds P cx E' U' a' w' st'→Q .normal a' w'):∀ (l:List Oper) (aos:List AO) (st:ASt) (E:Env) (U:Nat→Prop) (a:Act) (w:World),
 l.length=aos.length→(∀ (j:Nat) o ao,l[j]? = some o→aos[j]? = some ao→gf P cx.n ops o ao)→jz P cx G aos st→Holds P cx E U a w st→wpListIn (FW cx.ro) 0 P ops Q l a w
 | [],aos,st,E,U,a,w,hl,_,hc,hh=>by
  have:aos=[]:=by cases aos <;> simp_all
  subst this
  simp only [jz] at hc
  exact hQ st hc E U a w hh
 | o :: l,[],st,E,U,a,w,hl,_,hc,hh=>by simp at hl
 | o :: l,ao :: aos,st,E,U,a,w,hl,hm,hc,hh=>by
  have rec_:∀ s1 ef,jz P cx G aos (aw ao.dst ef s1)→∀ E' U' a' w',Holds P cx E' U' a' w' (aw ao.dst ef s1)→wpListIn (FW cx.ro) 0 P ops Q l a' w':=fun s1 ef h2 E' U' a' w' hh'=>
   pS hQ l aos _ E' U' a' w' (by simpa using hl) (fun j o ao h1 h2=>hm (j+1) o ao (by simpa using h1) (by simpa using h2)) h2 hh'
  obtain ⟨⟨own,hc'⟩,hd,hg⟩:=hm 0 o ao rfl rfl
  obtain ⟨f1,f2⟩:=lO hc'
  unfold wpListIn
  rcases hc with ⟨h1,h2⟩ | ⟨h1,s1,hgh,h2⟩
  · rw [if_neg (by rw [ku hc' hh.sz hg (fun d want _=>hh.tok d) h1]; simp)]
    refine ⟨fun _ _=>trivial,?_⟩
    rw [← f1]
    exact rec_ st ⟨True,.s undef,st.ch,[]⟩ h2 E U _ w (hh.step (ef:=⟨True,.s undef,st.ch,[]⟩) hd (.d (.s undef)) (Ev.refl hh.inv _))
  · rw [if_pos (ku hc' hh.sz hg (fun d want _=>hh.tok d) h1)]
    obtain ⟨E1,U1,hh1⟩:=hgh E U a w hh
    rcases h2 with ⟨ef,g1,g2⟩ | ⟨outs,g1,g2⟩
    · refine g1.sound f2 hh1.inv hh1.gok (fun x _=>hh1.ev x) (fun v E' U' w' r1 r2=>?_)
      rw [← f1]
      exact rec_ s1 ef g2 E' U' _ w' (hh1.step hd r1 r2)
    · refine g1 own o a E1 U1 w f2 hh1.inv hh1.gok (fun x _=>hh1.ev x) _ _ (fun ef hef v E' U' w' r1 r2=>?_)
      rw [← f1]
      exact rec_ s1 ef (g2 ef hef) E' U' _ w' (hh1.step hd r1 r2)
end Go.Am
end
section
namespace Go.Am
variable {P : Program} {E : Env} {U : Nat → Prop} {w : World}
section folds
variable {α : Type}
def dT : List (α→α)→(Nat→Bool)→Nat→α→α
 | [],_,_,a=>a
 | f :: r,S,i,a=>dT r S (i+1) (if S i then f a else a)
theorem ed : ∀ (fs:List (α→α)) (S S':Nat→Bool) (i:Nat) (a:α),(∀ k f,fs[k]? = some f→S (i+k)=S' (i+k)∨∀ a,f a=a)→dT fs S i a=dT fs S' i a
 | [],_,_,_,_,_=>rfl
 | f :: r,S,S',i,a,h=>by
  simp only [dT]
  have h0:=h 0 f rfl
  have e:(if S i then f a else a)=if S' i then f a else a:=by
   rcases h0 with h0 | h0
   · rw [Nat.add_zero] at h0; rw [h0]
   · rw [h0 a]; split <;> split <;> rfl
  rw [e]
  exact ed r S S' (i+1) _ (fun k g hk=>by have:=h (k+1) g (by simpa using hk); rwa [show i+(k+1)=i+1+k from by omega] at this)
theorem gM (fs:List (α→α)) (S:Nat→Bool) (i:Nat) (a:α) (h:∀ k f,fs[k]? = some f→S (i+k)=true→∀ a,f a=a):dT fs S i a=a:=by
 have:dT fs S i a=dT fs (fun _=>false) i a:=ed fs S _ i a (fun k f hk=>by
  cases hs:S (i+k) with
  | false=>exact .inl rfl
  | true=>exact .inr (h k f hk hs))
 rw [this]
 clear this h
 induction fs generalizing i with
 | nil=>rfl
 | cons f r ih=>simp only [dT,Bool.false_eq_true,if_false]; exact ih (i+1)
theorem lY : ∀ (fs:List (α→α)) (S:Nat→Bool) (i:Nat) (a:α) (k:Nat) (f:α→α),fs[k]? = some f→S (i+k)=false→(∀ k' g,k < k'→fs[k']? = some g→S (i+k')=true→∀ a,g a=a) →
 dT fs (fun n=>n == i+k || S n) i a=f (dT fs S i a)
 | [],_,_,_,k,f,h,_,_=>by simp at h
 | g :: r,S,i,a,0,f,h,hs,hl=>by
  simp at h
  subst h
  rw [Nat.add_zero] at hs
  simp only [dT,Nat.add_zero,beq_self_eq_true,Bool.true_or,if_true,hs,Bool.false_eq_true,if_false]
  have l1:∀ a,dT r (fun n=>n == i || S n) (i+1) a=a:=fun a=>gM r _ (i+1) a (fun k f hk hs'=>by
   refine hl (k+1) f (by omega) (by simpa using hk) ?_
   have hne:(i+1+k == i)=false:=by simp; omega
   simp only [hne,Bool.false_or] at hs'
   rwa [show i+(k+1)=i+1+k from by omega])
  have l2:∀ a,dT r S (i+1) a=a:=fun a=>gM r _ (i+1) a (fun k f hk hs'=>hl (k+1) f (by omega) (by simpa using hk) (by rwa [show i+(k+1)=i+1+k from by omega]))
  rw [l1,l2]
 | g :: r,S,i,a,k+1,f,h,hs,hl=>by
  have hne:(i == i+(k+1))=false:=by simp
  simp only [dT,hne,Bool.false_or]
  have:=lY r S (i+1) (if S i then g a else a) k f (by simpa using h) (by rwa [show i+1+k=i+(k+1) from by omega]) (fun k' g' hk hg hs'=>hl (k'+1) g' (by omega) (by simpa using hg) (by rwa [show i+(k'+1)=i+1+k' from by omega]))
  rwa [show i+1+k=i+(k+1) from by omega] at this
theorem lZ {β:Type} (π:α→β):∀ (fs:List (α→α)) (gs:List (β→β)) (S:Nat→Bool) (i:Nat) (a:α),fs.length=gs.length→(∀ (k:Nat) f g,fs[k]? = some f→gs[k]? = some g→∀ a,π (f a)=g (π a))→π (dT fs S i a)=dT gs S i (π a)
 | [],gs,_,_,_,hl,_=>by
  have:gs=[]:=by cases gs <;> simp_all
  subst this; rfl
 | f :: fs,[],_,_,_,hl,_=>by simp at hl
 | f :: fs,g :: gs,S,i,a,hl,h=>by
  simp only [dT]
  rw [lZ π fs gs S (i+1) _ (by simpa using hl) (fun k f' g' h1 h2=>h (k+1) f' g' (by simpa using h1) (by simpa using h2))]
  have:=h 0 f g rfl rfl a
  cases hs:S i <;> simp [this]
theorem og : ∀ (fs:List (α→α)) (S:Nat→Bool) (i:Nat) (c:α),(∀ k f,fs[k]? = some f→S (i+k)=true→f c=c)→dT fs S i c=c
 | [],_,_,_,_=>rfl
 | f :: r,S,i,c,h=>by
  simp only [dT]
  have e:(if S i then f c else c)=c:=by
   cases hs:S i with
   | false=>rfl
   | true=>exact h 0 f rfl (by simpa using hs)
  rw [e]
  exact og r S (i+1) c (fun k g hk hs=>h (k+1) g (by simpa using hk) (by rwa [show i+(k+1)=i+1+k from by omega]))
theorem jG : ∀ (fs:List (α→α)) (S:Nat→Bool) (i:Nat) (a c:α) (j:Nat),(∀ k f,fs[k]? = some f→i+k < j→S (i+k)=true∨∀ a,f a=a)→(∀ k f,fs[k]? = some f→j≤i+k→S (i+k)=true→f c=c) →
 dT fs (fun n=>decide (n < j)) i a=c→dT fs S i a=c
 | [],_,_,_,_,_,_,_,h=>h
 | f :: r,S,i,a,c,j,h1,h2,h3=>by
  have n1:∀ k g,r[k]? = some g→i+1+k < j→S (i+1+k)=true∨∀ a,g a=a:=fun k g hk hj=>by
   have:=h1 (k+1) g (by simpa using hk) (by omega)
   rwa [show i+(k+1)=i+1+k from by omega] at this
  have n2:∀ k g,r[k]? = some g→j≤i+1+k→S (i+1+k)=true→g c=c:=fun k g hk hj hs=>h2 (k+1) g (by simpa using hk) (by omega) (by rwa [show i+(k+1)=i+1+k from by omega])
  simp only [dT] at h3 ⊢
  by_cases hij:i < j
  · simp only [hij,decide_true,if_true] at h3
    have e:(if S i then f a else a)=f a:=by
     rcases h1 0 f rfl (by omega) with h | h
     · rw [Nat.add_zero] at h; rw [h]; rfl
     · rw [h a]; split <;> rfl
    rw [e]
    exact jG r S (i+1) (f a) c j n1 n2 h3
  · simp only [hij,decide_false,Bool.false_eq_true,if_false] at h3
    have hk:dT r (fun n=>decide (n < j)) (i+1) a=a:=gM r _ (i+1) a (fun k g _ hs=>by simp at hs; omega)
    have hac:a=c:=hk.symm.trans h3
    subst hac
    have e:(if S i then f a else a)=a:=by
     cases hs:S i with
     | false=>rfl
     | true=>exact h2 0 f rfl (by omega) (by simpa using hs)
    rw [e]
    exact jG r S (i+1) a a j n1 n2 hk
theorem kd : ∀ (fs:List (α→α)) (S:Nat→Bool) (i:Nat) (a c:α) (k:Nat) (f:α→α),fs[k]? = some f→S (i+k)=true→(∀ a,f a=c)→(∀ k' g,k < k'→fs[k']? = some g→S (i+k')=true→g c=c)→dT fs S i a=c
 | [],_,_,_,_,k,f,h,_,_,_=>by simp at h
 | g :: r,S,i,a,c,0,f,h,hs,hc,hl=>by
  simp at h
  subst h
  rw [Nat.add_zero] at hs
  simp only [dT,hs,if_true,hc]
  exact og r S (i+1) c (fun k f' hk hs'=>hl (k+1) f' (by omega) (by simpa using hk) (by rwa [show i+(k+1)=i+1+k from by omega]))
 | g :: r,S,i,a,c,k+1,f,h,hs,hc,hl=>by
  simp only [dT]
  exact kd r S (i+1) _ c k f (by simpa using h) (by rwa [show i+1+k=i+(k+1) from by omega]) hc (fun k' g' hk hg hs'=>hl (k'+1) g' (by omega) (by simpa using hg) (by rwa [show i+(k'+1)=i+1+k' from by omega]))
end folds
end Go.Am
end
section
namespace Go.Am
variable {P : Program} {E : Env} {U : Nat → Prop} {w : World}
def dK (o:Oper):List Nat:=(o.after.toList.filter (Region.binds .any)).map (·.on)
def ji : List (List Nat)→List Nat→List Nat
 | [],acc=>acc
 | p :: r,acc=>ji r (acc++[p.foldl (fun m i=>m ||| 2 ^ i ||| acc.getD i 0) 0])
theorem pG (acc:List Nat) (i:Nat):∀ (p:List Nat) (m:Nat),(p.foldl (fun m i=>m ||| 2 ^ i ||| acc.getD i 0) m).testBit i=true→m.testBit i=true∨∃ q∈p,q=i∨(acc.getD q 0).testBit i=true
 | [],m,h=>.inl h
 | q :: p,m,h=>by
  simp only [List.foldl_cons] at h
  rcases pG acc i p _ h with h | ⟨q',h1,h2⟩
  · simp only [Nat.testBit_or,Bool.or_eq_true,Nat.testBit_two_pow,decide_eq_true_eq] at h
    rcases h with (h | h) | h
    · exact .inl h
    · exact .inr ⟨q,List.mem_cons_self,.inl h⟩
    · exact .inr ⟨q,List.mem_cons_self,.inr h⟩
  · exact .inr ⟨q',List.mem_cons_of_mem _ h1,h2⟩
theorem gP {all:List (List Nat)} {S:Nat→Bool} (hS:∀ (j:Nat) l,all[j]? = some l→S j=true→∀ p∈l,S p=true) (hlt:∀ (j:Nat) l,all[j]? = some l→∀ p∈l,p < j) :
 ∀ (ps:List (List Nat)) (acc:List Nat),ps=all.drop acc.length→(∀ j i,j < acc.length→(acc.getD j 0).testBit i=true→∀ l,all[j]? = some l→(∀ p∈l,S p=true)→S i=true) →
  ∀ j i,((ji ps acc).getD j 0).testBit i=true→∀ l,all[j]? = some l→(∀ p∈l,S p=true)→S i=true
 | [],acc,hp,ha,j,i,h,l,hl,hall=>by
  simp only [ji] at h
  by_cases hj:j < acc.length
  · exact ha j i hj h l hl hall
  · have:acc.getD j 0=0:=by simp [List.getD_eq_getElem?_getD,List.getElem?_eq_none (Nat.le_of_not_lt hj)]
    rw [this] at h; simp at h
 | p :: r,acc,hp,ha,j,i,h,l,hl,hall=>by
  have hp0:all[acc.length]? = some p:=by
   have:(all.drop acc.length)[0]? = some p:=by rw [← hp]; rfl
   simpa using this
  have hr:r=all.drop (acc++[p.foldl (fun m i=>m ||| 2 ^ i ||| acc.getD i 0) 0]).length:=by
   have:(all.drop acc.length).drop 1=r:=by rw [← hp]; rfl
   rw [← this]; simp
  refine gP hS hlt r _ hr (fun j i hj hb l hl hall=>?_) j i (by simpa only [ji] using h) l hl hall
  simp only [List.length_append,List.length_cons,List.length_nil,Nat.zero_add] at hj
  by_cases hj2:j < acc.length
  · rw [List.getD_eq_getElem?_getD,List.getElem?_append_left hj2,← List.getD_eq_getElem?_getD] at hb
    exact ha j i hj2 hb l hl hall
  · have hje:j=acc.length:=by omega
    subst hje
    rw [List.getD_eq_getElem?_getD,List.getElem?_append_right (Nat.le_refl _)] at hb
    simp only [Nat.sub_self,List.getElem?_cons_zero,Option.getD_some] at hb
    rw [hp0] at hl; cases hl
    rcases pG acc i p 0 hb with h0 | ⟨q,hq,rfl | hq2⟩
    · simp at h0
    · exact hall _ hq
    · have hql:q < acc.length:=hlt _ _ hp0 q hq
      cases hlq:all[q]? with
      | none=>
       have:=List.getElem?_eq_none_iff.1 hlq
       have:=(List.getElem?_eq_some_iff.1 hp0).1
       omega
      | some lq=>exact ha q i hql hq2 lq hlq (hS q lq hlq (hall q hq))
def AO.slots (o:AO):List Nat:=
 (o.op.reads.filterMap fun x=>match x with | .tmp t=>some t | _=>none)++(match o.guard with | some (g,_)=>[g] | none=>[])
def AO.apart (x y:AO):Bool:=
 (match x.dst with
  | some d=>!(y.slots.contains d) && y.dst != some d
  | none=>true) &&
 (match y.dst with
  | some d=>!(x.slots.contains d)
  | none=>true)
def AO.mvs (x:AO):Bool:=
 match x.op,x.guard with
 | .mvs _,none=>!x.tot
 | _,_=>false
def nT (ops:Array Oper) (aos:List AO):Bool:=
 let ps:=ops.toList.map dK
 let ms:=ji ps []
 (ps.zipIdx.all fun p=>p.1.all (· < p.2)) &&
 (aos.zipIdx.all fun y=>aos.zipIdx.all fun x=>!(decide (x.2 < y.2)) || (ms.getD y.2 0).testBit x.2 || (x.1.apart y.1 && !x.1.tot && (!y.1.tot || x.1.mvs)))
def mt (e:Nat) (rb:List Nat) (ops:Array Oper) (aos:List AO):Bool:=
 if e=999 then
  ((ops.toList.map dK).zipIdx.all fun p=>p.1.all (· < p.2)) && rb.all fun c=>decide (c % 100 < ops.size) && ((ji (ops.toList.map dK) []).getD (c % 100) 0).testBit (c / 100)
 else
 let ps:=ops.toList.map dK
 let ms:=ji ps []
 (ps.zipIdx.all fun p=>p.1.all (· < p.2)) && ((aos[e]?).any fun x=>x.tot) && !(rb.contains e) &&
 (aos.zipIdx.all fun y=>aos.zipIdx.all fun x=>!(decide (x.2 < y.2)) || (ms.getD y.2 0).testBit x.2 ||
  (x.1.apart y.1 && ((!x.1.tot && !y.1.tot) || (y.2 == e && !x.1.tot && rb.contains x.2) || (x.2 == e && !y.1.tot && rb.contains y.2))))
theorem fu {x y:AO} (h:x.apart y=true):(∀ d,x.dst=some d→d∉y.slots∧y.dst≠some d)∧(∀ d,y.dst=some d→d∉x.slots):=by
 simp only [AO.apart,Bool.and_eq_true] at h
 refine ⟨fun d hd=>?_,fun d hd=>?_⟩
 · rw [hd] at h
   simp at h
   exact ⟨h.1.1,h.1.2⟩
 · rw [hd] at h
   simp at h
   exact h.2
end Go.Am
end
section
namespace Go.Am
variable {P : Program} {E : Env} {U : Nat → Prop} {w : World}
variable [Glob P]
theorem ut {t t':dI} {o:AO} (h:∀ i∈o.slots,gt t i=gt t' i):∀ x∈o.op.reads,aq P t x=aq P t' x:=fun x hx=>by
 cases x with
 | tmp i=>exact h i (List.mem_append.2 (.inl (List.mem_filterMap.2 ⟨.tmp i,hx,rfl⟩)))
 | _=>rfl
theorem OpR.congr {ρ ρ':Operand→C} {ch:Chs} {d:Nat} {op:AOp} {ef:Eff} (h:OpR P ρ ch d op ef) (he:∀ x∈op.reads,ρ x=ρ' x):OpR P ρ' ch d op ef:=by
 cases h with
 | f h hc=>exact .f (by rw [← h]; exact (pQ he).symm) hc
 | call h=>
  rename_i fo aS r chs chs' od
  have e1:ρ fo=ρ' fo:=he fo (by simp [AOp.reads])
  have e2:aS.map ρ=aS.map ρ':=List.map_congr_left fun x hx=>he x (by simp only [AOp.reads]; exact List.mem_cons_of_mem _ hx)
  have hx:=h.ex
  rw [e1,e2] at hx
  exact .call ⟨hx,h.nd,h.hnk,h.new,h.old,h.kr,h.kc⟩
 | callK h hp hr=>
  rename_i fo aS r chs
  have e1:ρ fo=ρ' fo:=he fo (by simp [AOp.reads])
  have e2:aS.map ρ=aS.map ρ':=List.map_congr_left fun x hx=>he x (by simp only [AOp.reads]; exact List.mem_cons_of_mem _ hx)
  have hx:=h.ex
  rw [e1,e2] at hx
  exact .callK ⟨hx,h.nd,h.hnk,h.new,h.old,h.kr,h.kc⟩ hp hr
 | take hmv hs hr hl hq hh hks hsm h1 h2 h=>exact .take hmv (by rw [← he _ hr]; exact hs) hr hl hq hh hks hsm h1 (fun x hx hn=>by rw [← he x hx]; exact h2 x hx hn) h
theorem StepE.congr {o:AO} {st st':ASt} {ef:Eff} (h:StepE P o st ef) (hs:∀ i∈o.slots,gt st.t i=gt st'.t i) (hc:st.ch=st'.ch):StepE P o st' ef:=by
 have hw:fl st.t o.guard=fl st'.t o.guard:=by
  cases hg:o.guard with
  | none=>rfl
  | some g=>
   obtain ⟨g,want⟩:=g
   simp only [fl,hs g (List.mem_append.2 (.inr (by simp [hg])))]
 cases h with
 | yes _ h hr=>exact .yes ef (hw ▸ h) (hc ▸ hr.congr (ut hs))
 | no h=>rw [hc]; exact .no (hw ▸ h)
theorem Holds.ext {cx:Cx} {a:Act} {st st':ASt} (h:Holds P cx E U a w st) (ht:∀ i,gt st.t i=gt st'.t i) (hc:st.ch=st'.ch):Holds P cx E U a w st':=
 ⟨h.sz,hc ▸ h.df,fun i=>ht i ▸ h.tok i,hc ▸ h.inv,h.os,h.tape,h.output,h.size,h.fr,h.keepA,hc ▸ h.live,h.base,hc ▸ h.fix,hc ▸ h.hid,h.gok⟩
end Go.Am
end
section
namespace Go.Am
variable {P : Program} [Glob P]
def eq (x:Nat) (p:AO×Eff) (c:C):C:=if p.1.dst=some x then p.2.v else ah p.2.sub c
def chF (p:AO×Eff) (h:Chs):Chs:=if p.1.tot then p.2.ch else h
def stF (p:AO×Eff) (s:ASt):ASt:=⟨aT p.1.dst p.2.sub p.2.v s.t,chF p s.ch⟩
theorem fE (dst:Option Nat) (m:List (Nat×Sb)) (v:C) (t:dI) (x:Nat):gt (aT dst m v t) x=if dst=some x then v else ah m (gt t x):=by
 cases dst with
 | none=>simp [aT,iy]
 | some d=>simp [aT,fQ,iy]
def stS (ps:List (AO×Eff)) (S:Nat→Bool) (s:ASt):ASt:=dT (ps.map stF) S 0 s
theorem eS (ps:List (AO×Eff)) (S:Nat→Bool) (s:ASt) (x:Nat):gt (stS ps S s).t x=dT (ps.map (eq x)) S 0 (gt s.t x):=
 lZ (fun s:ASt=>gt s.t x) (ps.map stF) (ps.map (eq x)) S 0 s (by simp) (fun k f g h1 h2 a=>by
  simp only [List.getElem?_map,Option.map_eq_some_iff] at h1 h2
  obtain ⟨p,hp,rfl⟩:=h1
  obtain ⟨q,hq,rfl⟩:=h2
  rw [hp] at hq; cases hq
  simp only [stF,eq,fE])
theorem ft (ps:List (AO×Eff)) (S:Nat→Bool) (s:ASt):(stS ps S s).ch=dT (ps.map chF) S 0 s.ch:=
 lZ (fun s:ASt=>s.ch) (ps.map stF) (ps.map chF) S 0 s (by simp) (fun k f g h1 h2 a=>by
  simp only [List.getElem?_map,Option.map_eq_some_iff] at h1 h2
  obtain ⟨p,hp,rfl⟩:=h1
  obtain ⟨q,hq,rfl⟩:=h2
  rw [hp] at hq; cases hq
  rfl)
theorem nP : ∀ (aos:List AO) (s s':ASt),iJ P true aos s s'→∃ efs:List Eff,efs.length=aos.length ∧
 (∀ (j:Nat) ao ef,aos[j]? = some ao→efs[j]? = some ef→StepE P ao (stS (aos.zip efs) (fun i=>decide (i < j)) s) ef∧(ao.tot=true∨(ef.ch=(stS (aos.zip efs) (fun i=>decide (i < j)) s).ch∧ef.sub=[]))) ∧
 s'=stS (aos.zip efs) (fun i=>decide (i < aos.length)) s
 | [],s,s',h=>by
  simp only [iJ] at h
  subst h
  exact ⟨[],rfl,fun j ao ef h=>by simp at h,rfl⟩
 | o :: os,s,s',h=>by
  obtain ⟨ef,h1,h2,h3⟩:=h
  have hp:aw o.dst ef s=stF (o,ef) s:=by
   simp only [aw,stF,chF]
   rcases h2 rfl with h | ⟨h,_⟩
   · rw [if_pos h]
   · by_cases ht:o.tot=true
     · rw [if_pos ht]
     · rw [if_neg ht,h]
  rw [hp] at h3
  obtain ⟨efs,l1,l2,l3⟩:=nP os _ s' h3
  have shift:∀ j,stS (os.zip efs) (fun i=>decide (i < j)) (stF (o,ef) s)=stS ((o :: os).zip (ef :: efs)) (fun i=>decide (i < j+1)) s:=fun j=>by
   simp only [stS,List.zip_cons_cons,List.map_cons,dT,Nat.zero_lt_succ,decide_true,if_true]
   have:∀ (fs:List (ASt→ASt)) (k:Nat) (a:ASt),dT fs (fun i=>decide (i < j)) k a=dT fs (fun i=>decide (i < j+1)) (k+1) a:=by
    intro fs
    induction fs with
    | nil=>intro k a; rfl
    | cons f r ih=>
     intro k a
     simp only [dT]
     rw [ih]
     by_cases hk:k < j
     · simp [hk]
     · simp [hk]
   exact this _ 0 _
  refine ⟨ef :: efs,by simp [l1],fun j ao e hj he=>?_,?_⟩
  · cases j with
    | zero=>
     simp at hj he
     subst hj he
     have e0:stS ((o :: os).zip (ef :: efs)) (fun i=>decide (i < 0)) s=s:=gM _ _ 0 s (fun k f _ hs=>by simp at hs)
     rw [e0]
     exact ⟨h1,h2 rfl⟩
    | succ j=>
     simp at hj he
     rw [← shift j]
     exact l2 j ao e hj he
  · rw [l3,shift]; rfl
theorem fW (l:Array Bool) (j i:Nat) (hj:j < l.size):(l.setIfInBounds j true).getD i false=(i == j || l.getD i false):=by
 simp only [Array.getD_eq_getD_getElem?,Array.getElem?_setIfInBounds]
 by_cases h:j=i
 · subst h; simp [hj]
 · rw [if_neg h]
   have:(i == j)=false:=by simp; exact fun e=>h e.symm
   simp [this]
theorem jV {m:Nat} {f:Nat→Bool} (h:∃ i,i < m∧f i=false):∃ i,i < m∧f i=false∧∀ k,k < i→f k=true:=by
 induction m with
 | zero=>obtain ⟨i,hi,_⟩:=h; omega
 | succ m ih=>
  by_cases h2:∃ i,i < m∧f i=false
  · obtain ⟨i,h3,h4,h5⟩:=ih h2
    exact ⟨i,by omega,h4,h5⟩
  · obtain ⟨i,h3,h4⟩:=h
    have hi:i=m:=by
     by_cases hlt:i < m
     · exact absurd ⟨i,hlt,h4⟩ h2
     · omega
    subst hi
    refine ⟨i,h3,h4,fun k hk=>?_⟩
    cases hf:f k with
    | true=>rfl
    | false=>exact absurd ⟨k,hk,hf⟩ h2
end Go.Am
end
section
namespace Go.Am
variable {P : Program} [Glob P]
section draw
variable {cx : Cx} {ops : Array Oper} {aos : List AO} {st st' : ASt} {efs : List Eff} {Q : Exit → Act → World → Prop}
theorem lP {m:Nat} {S:Nat→Bool} {j:Nat} (hj:j < m) (hs:S j=false):((List.range m).countP fun i=>!(i == j || S i))+1=(List.range m).countP fun i=>!(S i):=by
 induction m with
 | zero=>omega
 | succ m ih=>
  simp only [List.range_succ,List.countP_append,List.countP_cons,List.countP_nil,Nat.zero_add]
  by_cases h:j=m
  · subst h
    have e:((List.range j).countP fun i=>!(i == j || S i))=(List.range j).countP fun i=>!(S i):=by
     apply List.countP_congr
     intro i hi
     have:i≠j:=by have:=List.mem_range.1 hi; omega
     simp [this]
    rw [e]; simp [hs]
  · have:=ih (by omega)
    have hb:(m == j)=false:=by simp; omega
    rw [hb]
    simp only [Bool.false_or]
    omega
theorem vM (hops:ops.size=aos.length) (hef:efs.length=aos.length) (hm:∀ (j:Nat) o ao,ops[j]? = some o→aos[j]? = some ao→gf P cx.n ops o ao) (hok:nT ops aos=true)
 (hch:∀ (j:Nat) ao ef,aos[j]? = some ao→efs[j]? = some ef→StepE P ao (stS (aos.zip efs) (fun i=>decide (i < j)) st) ef∧(ao.tot=true∨(ef.ch=(stS (aos.zip efs) (fun i=>decide (i < j)) st).ch∧ef.sub=[])))
 (hfin:st'=stS (aos.zip efs) (fun i=>decide (i < aos.length)) st) (hQ:∀ E' U' a' w',Holds P cx E' U' a' w' st'→Q .normal a' w') :
 ∀ (fuel:Nat) (listed:Array Bool) (E:Env) (U:Nat→Prop) (a:Act) (w:World),listed.size=ops.size→((List.range ops.size).countP fun i=>!(listed.getD i false))=fuel →
  (∀ (j:Nat) o,ops[j]? = some o→listed.getD j false=true→∀ p∈dK o,listed.getD p false=true) →
  Holds P cx E U a w (stS (aos.zip efs) (fun i=>listed.getD i false) st)→wpAnyIn (FW cx.ro) 0 P .any ops Q fuel listed a w:=by
 simp only [nT,Bool.and_eq_true] at hok
 obtain ⟨hok1,hok2⟩:=hok
 have hlt:∀ (j:Nat) l,(ops.toList.map dK)[j]? = some l→∀ p∈l,p < j:=fun j l hj p hp=>by
  have hz:(l,j)∈(ops.toList.map dK).zipIdx:=by
   rw [List.mk_mem_zipIdx_iff_getElem?]; exact hj
  have:=List.all_eq_true.1 hok1 (l,j) hz
  simpa using List.all_eq_true.1 this p hp
 have hpair:∀ (i j:Nat) x y,aos[i]? = some x→aos[j]? = some y→i < j→((ji (ops.toList.map dK) []).getD j 0).testBit i=true∨(x.apart y=true∧x.tot=false∧(y.tot=false∨x.mvs=true)):=fun i j x y hx hy hij=>by
  have h1:=List.all_eq_true.1 hok2 (y,j) (by rw [List.mk_mem_zipIdx_iff_getElem?]; exact hy)
  have h2:=List.all_eq_true.1 h1 (x,i) (by rw [List.mk_mem_zipIdx_iff_getElem?]; exact hx)
  simp only [hij,decide_true,Bool.not_true,Bool.false_or,Bool.or_eq_true,Bool.and_eq_true] at h2
  rcases h2 with h2 | ⟨⟨h3,h4⟩,h5⟩
  · exact .inl h2
  · exact .inr ⟨h3,by simpa using h4,by simpa using h5⟩
 have hmv:∀ (j:Nat) ao ef,aos[j]? = some ao→efs[j]? = some ef→ao.mvs=true→ao.tot=false∧(∀ x∈ao.slots,∃ v,gt (stS (aos.zip efs) (fun i=>decide (i < j)) st).t x=.s v)∧(∃ v,ef.v=.s v) ∧
  ∀ s:ASt,(∀ x∈ao.slots,gt s.t x=gt (stS (aos.zip efs) (fun i=>decide (i < j)) st).t x)→StepE P ao s ⟨ef.cond,ef.v,s.ch,[]⟩:=fun j ao ef hao hefj hm=>by
  obtain ⟨hs,_⟩:=hch j ao ef hao hefj
  obtain ⟨dst,guard,op,tot⟩:=ao
  unfold AO.mvs at hm
  split at hm
  · rename_i x0 hop hgd
    simp only at hop hgd
    subst hop hgd
    have ht:tot=false:=by simpa using hm
    subst ht
    cases hs with
    | no h=>simp [fl] at h
    | yes _ h hr=>
     cases hr with
     | f hf hc=>
      simp only [ai] at hf
      split at hf
      · rename_i v hv
        cases hf
        refine ⟨rfl,fun x hx=>?_,⟨v,rfl⟩,fun s hsl=>.yes _ rfl (.f ?_ trivial)⟩
        · simp only [AO.slots,AOp.reads,List.append_nil,List.mem_filterMap,List.mem_singleton] at hx
          obtain ⟨y,rfl,hy⟩:=hx
          cases y with
          | tmp t=>simp only [Option.some.injEq] at hy; subst hy; exact ⟨v,hv⟩
          | _=>cases hy
        · have e:aq P s.t x0=.s v:=by
           cases x0 with
           | tmp t=>
            have:=hsl t (by simp [AO.slots,AOp.reads])
            exact this.trans hv
           | _=>exact hv
          simp only [ai,e]
      · cases hf
     | take hmv=>exact absurd rfl (hmv _)
  · cases hm
 have hz:∀ (j:Nat) ao ef,aos[j]? = some ao→efs[j]? = some ef→(aos.zip efs)[j]? = some (ao,ef):=fun j ao ef h1 h2=>by
  rw [List.getElem?_zip_eq_some]; exact ⟨h1,h2⟩
 have hz':∀ (j:Nat) p,(aos.zip efs)[j]? = some p→aos[j]? = some p.1∧efs[j]? = some p.2:=fun j p h=>by
  obtain ⟨x,y⟩:=p
  rw [List.getElem?_zip_eq_some] at h; exact h
 have hpure:∀ (j:Nat) p,(aos.zip efs)[j]? = some p→p.1.tot=false→p.2.sub=[]:=fun j p h ht=>by
  obtain ⟨h1,h2⟩:=hz' j p h
  rcases (hch j p.1 p.2 h1 h2).2 with h | h
  · rw [ht] at h; cases h
  · exact h.2
 have atEnd:∀ (listed:Array Bool) (E:Env) (U:Nat→Prop) (a:Act) (w:World),(∀ i,i < ops.size→listed.getD i false=true)→Holds P cx E U a w (stS (aos.zip efs) (fun i=>listed.getD i false) st)→Q .normal a w:=fun listed E U a w hall hh=>by
  have hag:∀ {α:Type} (g:AO×Eff→α→α) (c:α),dT ((aos.zip efs).map g) (fun i=>listed.getD i false) 0 c=dT ((aos.zip efs).map g) (fun i=>decide (i < aos.length)) 0 c:=fun g c=>
   ed _ _ _ 0 c (fun k f hk=>by
    have hk':=(List.getElem?_eq_some_iff.1 hk).1
    simp only [List.length_map,List.length_zip,hef,Nat.min_self] at hk'
    left
    simp only [Nat.zero_add,hall k (by omega),hk',decide_true])
  refine hQ E U a w (hh.ext (fun i=>?_) ?_)
  · rw [hfin,eS,eS]; exact hag _ _
  · rw [hfin,ft,ft]; exact hag _ _
 intro fuel
 induction fuel with
 | zero=>
  intro listed E U a w hls hcnt hcl hh
  have hall:∀ i,i < ops.size→listed.getD i false=true:=fun i hi=>by
   have:=List.countP_eq_zero.1 hcnt i (List.mem_range.2 hi)
   simpa using this
  refine ⟨?_,atEnd listed E U a w hall hh⟩
  apply List.filter_eq_nil_iff.2
  intro i hi hf
  simp only [Bool.and_eq_true] at hf
  have hi':=List.mem_range.1 hi
  have h1:=hall i hi'
  have h2:listed.getD i true=listed.getD i false:=by
   have hlt:i < listed.size:=by omega
   simp [Array.getD_eq_getD_getElem?,Array.getElem?_eq_getElem hlt]
  rw [h2,h1] at hf
  simp at hf
 | succ fuel ih=>
  intro listed E U a w hls hcnt hcl hh
  have hsome:∃ i,i < ops.size∧listed.getD i false=false:=by
   rcases Classical.em (∃ i,i < ops.size∧listed.getD i false=false) with h | h
   · exact h
   · exfalso
     have:((List.range ops.size).countP fun i=>!(listed.getD i false))=0:=List.countP_eq_zero.2 (fun i hi=>by
      cases hf:listed.getD i false with
      | true=>simp
      | false=>exact absurd ⟨i,List.mem_range.1 hi,hf⟩ h)
     omega
  have hgd:∀ i,i < ops.size→listed.getD i true=listed.getD i false:=fun i hi=>by
   have hlt:i < listed.size:=by omega
   simp [Array.getD_eq_getD_getElem?,Array.getElem?_eq_getElem hlt]
  refine ⟨fun hnil=>?_,fun j hj=>?_⟩
  · exfalso
    obtain ⟨i,h1,h2,h3⟩:=jV hsome
    have hnot:=List.filter_eq_nil_iff.1 hnil i (List.mem_range.2 h1)
    apply hnot
    obtain ⟨o,ho⟩:∃ o,ops[i]? = some o:=⟨_,Array.getElem?_eq_getElem h1⟩
    simp only [Bool.and_eq_true]
    refine ⟨by rw [hgd i h1,h2]; rfl,?_⟩
    simp only [ho,Option.map_some,Option.getD_some]
    rw [Array.all_eq_true']
    intro e he
    simp only [Bool.or_eq_true]
    by_cases hb:Region.binds .any e=true
    · right
      have hp:e.on∈dK o:=List.mem_map.2 ⟨e,List.mem_filter.2 ⟨by simpa using he,hb⟩,rfl⟩
      exact h3 _ (hlt i (dK o) (by simp [ho]) _ hp)
    · left; simpa using hb
  · have hj2:=List.mem_filter.1 hj
    have hjm:=List.mem_range.1 hj2.1
    have hjr:=hj2.2
    simp only [Bool.and_eq_true] at hjr
    obtain ⟨o,ho⟩:∃ o,ops[j]? = some o:=⟨_,Array.getElem?_eq_getElem hjm⟩
    obtain ⟨ao,hao⟩:∃ ao,aos[j]? = some ao:=⟨_,List.getElem?_eq_getElem (by omega)⟩
    obtain ⟨ef,hefj⟩:∃ ef,efs[j]? = some ef:=⟨_,List.getElem?_eq_getElem (by omega)⟩
    have hSj:listed.getD j false=false:=by
     have:=hjr.1
     rw [hgd j hjm] at this
     simpa using this
    have hpreds:∀ p∈dK o,listed.getD p false=true:=fun p hp=>by
     obtain ⟨e,he,rfl⟩:=List.mem_map.1 hp
     obtain ⟨he1,he2⟩:=List.mem_filter.1 he
     have:=hjr.2
     simp only [ho,Option.map_some,Option.getD_some] at this
     rw [Array.all_eq_true'] at this
     have:=this e (by simpa using he1)
     simpa [he2] using this
    have hclS:∀ (i:Nat) l,(ops.toList.map dK)[i]? = some l→listed.getD i false=true→∀ p∈l,listed.getD p false=true:=fun i l hi hs p hp=>by
     simp only [List.getElem?_map,Option.map_eq_some_iff,Array.getElem?_toList] at hi
     obtain ⟨o',ho',rfl⟩:=hi
     exact hcl i o' ho' hs p hp
    have hbef:∀ i x,aos[i]? = some x→i < j→listed.getD i false=true∨(x.apart ao=true∧x.tot=false∧(ao.tot=false∨x.mvs=true)):=fun i x hx hij=>by
     rcases hpair i j x ao hx hao hij with h | h
     · left
       exact gP hclS hlt (ops.toList.map dK) [] (by simp) (fun j i h=>by simp at h) j i h (dK o) (by simp [ho]) hpreds
     · exact .inr h
    have haft:∀ i x,aos[i]? = some x→j < i→listed.getD i false=true→(ao.apart x=true∧ao.tot=false∧(x.tot=false∨ao.mvs=true)):=fun i x hx hij hs=>by
     rcases hpair j i ao x hao hx hij with h | h
     · exfalso
       obtain ⟨o',ho'⟩:∃ o',ops[i]? = some o':=⟨_,Array.getElem?_eq_getElem (by have:=(List.getElem?_eq_some_iff.1 hx).1; omega)⟩
       have:=gP hclS hlt (ops.toList.map dK) [] (by simp) (fun j i h=>by simp at h) i j h (dK o') (by simp [ho']) (hcl i o' ho' hs)
       rw [hSj] at this; cases this
     · exact h
    obtain ⟨hst,hpu⟩:=hch j ao ef hao hefj
    have hgo:∃ ef2,StepE P ao (stS (aos.zip efs) (fun i=>listed.getD i false) st) ef2∧(∀ E' U' a' w',Holds P cx E' U' a' w' (aw ao.dst ef2 (stS (aos.zip efs) (fun i=>listed.getD i false) st))→Holds P cx E' U' a' w' (stS (aos.zip efs) (fun i=>(listed.setIfInBounds j true).getD i false) st)):=by
     cases hmvs:ao.mvs with
     | true=>
      obtain ⟨m1,m2,⟨v0,m3⟩,m4⟩:=hmv j ao ef hao hefj hmvs
      have hpj:ef.sub=[]:=hpure j (ao,ef) (hz j ao ef hao hefj) m1
      have hlate:∀ (x:Nat) (v:Value) (k:Nat) (p:AO×Eff),(aos.zip efs)[k]? = some p→j < k→listed.getD k false=true→p.1.dst≠some x→eq x p (.s v)=.s v:=fun x v k p hp hk hs hne=>by
       simp only [eq]
       rw [if_neg hne]
       cases hm:p.2.sub <;> simp [ah]
      have hslots:∀ x∈ao.slots,gt (stS (aos.zip efs) (fun i=>listed.getD i false) st).t x=gt (stS (aos.zip efs) (fun i=>decide (i < j)) st).t x:=fun x hx=>by
       obtain ⟨v,hv⟩:=m2 x hx
       rw [hv]
       rw [eS] at hv ⊢
       refine jG _ _ 0 _ _ j (fun k f hk hkj=>?_) (fun k f hk hkj hs=>?_) hv
       · simp only [List.getElem?_map,Option.map_eq_some_iff] at hk
         obtain ⟨p,hp,rfl⟩:=hk
         obtain ⟨g1,g2⟩:=hz' k p hp
         simp only [Nat.zero_add] at hkj ⊢
         rcases hbef k p.1 g1 hkj with h1 | ⟨h1,h2,h3⟩
         · exact .inl h1
         · right
           intro c
           have:=(fu h1).1
           simp only [eq,hpure k p hp h2,eF]
           rw [if_neg (fun e=>(this x e).1 hx)]
       · simp only [List.getElem?_map,Option.map_eq_some_iff] at hk
         obtain ⟨p,hp,rfl⟩:=hk
         obtain ⟨g1,g2⟩:=hz' k p hp
         simp only [Nat.zero_add] at hkj hs
         have hne:k≠j:=fun e=>by rw [e,hSj] at hs; cases hs
         obtain ⟨h1,h2,h3⟩:=haft k p.1 g1 (by omega) hs
         exact hlate x v k p hp (by omega) hs (fun e=>(fu h1).2 x e hx)
      refine ⟨_,m4 _ hslots,fun E' U' a' w' h=>?_⟩
      have hS':(fun i=>(listed.setIfInBounds j true).getD i false)=fun i=>i == 0+j || listed.getD i false:=by
       funext i
       rw [fW _ _ _ (by omega),Nat.zero_add]
      rw [hS']
      have hother:∀ k,k≠j→(0+k == 0+j)=false:=fun k hk=>by simp; exact hk
      refine h.ext (fun x=>?_) ?_
      · have hkj:((aos.zip efs).map (eq x))[j]? = some (eq x (ao,ef)):=by simp [hz j ao ef hao hefj]
        rw [eS]
        by_cases hx:ao.dst=some x
        · have e1:gt (aw ao.dst ⟨ef.cond,ef.v,(stS (aos.zip efs) (fun i=>listed.getD i false) st).ch,[]⟩ (stS (aos.zip efs) (fun i=>listed.getD i false) st)).t x=.s v0:=by
           simp only [aw,fE,hx,if_true,m3]
          rw [e1]
          refine (kd _ _ 0 _ _ j _ hkj (by simp) (fun a=>by simp only [eq,hx,if_true,m3]) (fun k g hk hg hs=>?_)).symm
          simp only [List.getElem?_map,Option.map_eq_some_iff] at hg
          obtain ⟨p,hp,rfl⟩:=hg
          obtain ⟨g1,g2⟩:=hz' k p hp
          rw [hother k (by omega),Bool.false_or,Nat.zero_add] at hs
          obtain ⟨h1,h2,h3⟩:=haft k p.1 g1 hk hs
          exact hlate x v0 k p hp hk hs ((fu h1).1 x hx).2
        · have e1:gt (aw ao.dst ⟨ef.cond,ef.v,(stS (aos.zip efs) (fun i=>listed.getD i false) st).ch,[]⟩ (stS (aos.zip efs) (fun i=>listed.getD i false) st)).t x=gt (stS (aos.zip efs) (fun i=>listed.getD i false) st).t x:=by
           simp only [aw,fE,hx,if_false,eF]
          rw [e1,eS]
          refine ed _ _ _ 0 _ (fun k f hk=>?_)
          by_cases hkj2:k=j
          · subst hkj2
            rw [hkj] at hk; cases hk
            right; intro c
            simp only [eq,hpj,eF,if_neg hx]
          · left
            rw [hother k hkj2,Bool.false_or]
      · show (stS (aos.zip efs) (fun i=>listed.getD i false) st).ch=_
        rw [ft,ft]
        have hkj:((aos.zip efs).map chF)[j]? = some (chF (ao,ef)):=by simp [hz j ao ef hao hefj]
        refine ed _ _ _ 0 _ (fun k f hk=>?_)
        by_cases hkj2:k=j
        · subst hkj2
          rw [hkj] at hk; cases hk
          right; intro c; simp [chF,m1]
        · left
          rw [hother k hkj2,Bool.false_or]
     | false=>
      have haft0:=haft
      have haft:∀ i x,aos[i]? = some x→j < i→listed.getD i false=true→(ao.apart x=true∧ao.tot=false∧x.tot=false):=fun i x hx hij hs=>by
       obtain ⟨h1,h2,h3⟩:=haft0 i x hx hij hs
       exact ⟨h1,h2,h3.resolve_right (by rw [hmvs]; simp)⟩
      have hslots:∀ x∈ao.slots,gt (stS (aos.zip efs) (fun i=>decide (i < j)) st).t x=gt (stS (aos.zip efs) (fun i=>listed.getD i false) st).t x:=fun x hx=>by
       rw [eS,eS]
       refine ed _ _ _ 0 _ (fun k f hk=>?_)
       simp only [List.getElem?_map,Option.map_eq_some_iff] at hk
       obtain ⟨p,hp,rfl⟩:=hk
       obtain ⟨g1,g2⟩:=hz' k p hp
       simp only [Nat.zero_add]
       rcases Nat.lt_trichotomy k j with h | h | h
       · rcases hbef k p.1 g1 h with h1 | ⟨h1,h2,h3⟩
         · left; simp [h,h1]
         · right
           intro c
           have:=(fu h1).1
           simp only [eq,hpure k p hp h2,eF]
           rw [if_neg (fun e=>(this x e).1 hx)]
       · subst h; left; simp [hSj]
       · cases hs:listed.getD k false with
         | false=>left; simp; omega
         | true=>
          right
          obtain ⟨h1,h2,h3⟩:=haft k p.1 g1 h hs
          intro c
          have:=(fu h1).2
          simp only [eq,hpure k p hp h3,eF]
          rw [if_neg (fun e=>this x e hx)]
      have hchs:(stS (aos.zip efs) (fun i=>decide (i < j)) st).ch=(stS (aos.zip efs) (fun i=>listed.getD i false) st).ch:=by
       rw [ft,ft]
       refine ed _ _ _ 0 _ (fun k f hk=>?_)
       simp only [List.getElem?_map,Option.map_eq_some_iff] at hk
       obtain ⟨p,hp,rfl⟩:=hk
       obtain ⟨g1,g2⟩:=hz' k p hp
       simp only [Nat.zero_add]
       rcases Nat.lt_trichotomy k j with h | h | h
       · rcases hbef k p.1 g1 h with h1 | ⟨h1,h2,h3⟩
         · left; simp [h,h1]
         · right; intro c; simp [chF,h2]
       · subst h; left; simp [hSj]
       · cases hs:listed.getD k false with
         | false=>left; simp; omega
         | true=>
          right
          obtain ⟨h1,h2,h3⟩:=haft k p.1 g1 h hs
          intro c; simp [chF,h3]
      have hst2:=hst.congr hslots hchs
      have hnext:∀ E' U' a' w',Holds P cx E' U' a' w' (aw ao.dst ef (stS (aos.zip efs) (fun i=>listed.getD i false) st))→Holds P cx E' U' a' w' (stS (aos.zip efs) (fun i=>(listed.setIfInBounds j true).getD i false) st):=fun E' U' a' w' h=>by
       have hS':(fun i=>(listed.setIfInBounds j true).getD i false)=fun i=>i == 0+j || listed.getD i false:=by
        funext i
        rw [fW _ _ _ (by omega),Nat.zero_add]
       rw [hS']
       refine h.ext (fun x=>?_) ?_
       · have e1:gt (aw ao.dst ef (stS (aos.zip efs) (fun i=>listed.getD i false) st)).t x=eq x (ao,ef) (gt (stS (aos.zip efs) (fun i=>listed.getD i false) st).t x):=by
          simp only [aw,fE,eq]
         rw [e1,eS,eS]
         have hkj:((aos.zip efs).map (eq x))[j]? = some (eq x (ao,ef)):=by simp [hz j ao ef hao hefj]
         by_cases hx:ao.dst=some x∨ao.tot=true
         · refine (lY _ (fun i=>listed.getD i false) 0 _ j _ hkj (by simpa using hSj) (fun k g hk hg hs=>?_)).symm
           simp only [List.getElem?_map,Option.map_eq_some_iff] at hg
           obtain ⟨p,hp,rfl⟩:=hg
           obtain ⟨g1,g2⟩:=hz' k p hp
           obtain ⟨h1,h2,h3⟩:=haft k p.1 g1 hk (by simpa using hs)
           rcases hx with hx | hx
           · intro c
             have:=((fu h1).1 x hx).2
             simp only [eq,hpure k p hp h3,eF,if_neg this]
           · rw [hx] at h2; cases h2
         · have hx1:ao.dst≠some x:=fun e=>hx (.inl e)
           have hx2:ao.tot=false:=by cases ht:ao.tot with | false=>rfl | true=>exact absurd (.inr ht) hx
           have hid:∀ c,eq x (ao,ef) c=c:=fun c=>by
            have:=hpure j (ao,ef) (hz j ao ef hao hefj) hx2
            simp only at this
            simp only [eq,this,eF,if_neg hx1]
           rw [hid]
           refine ed _ _ _ 0 _ (fun k f hk=>?_)
           by_cases hkj2:k=j
           · subst hkj2
             rw [hkj] at hk; cases hk
             exact .inr hid
           · left
             have:(0+k == 0+j)=false:=by simp; exact hkj2
             simp only [this,Bool.false_or]
       · rw [ft]
         simp only [aw]
         have hkj:((aos.zip efs).map chF)[j]? = some (chF (ao,ef)):=by simp [hz j ao ef hao hefj]
         cases ht:ao.tot with
         | true=>
          have:=lY ((aos.zip efs).map chF) (fun i=>listed.getD i false) 0 st.ch j _ hkj (by simpa using hSj) (fun k g hk hg hs=>by
           simp only [List.getElem?_map,Option.map_eq_some_iff] at hg
           obtain ⟨p,hp,rfl⟩:=hg
           obtain ⟨g1,g2⟩:=hz' k p hp
           obtain ⟨h1,h2,h3⟩:=haft k p.1 g1 hk (by simpa using hs)
           rw [ht] at h2; cases h2)
          rw [this]
          simp [chF,ht]
         | false=>
          have hp:ef.ch=(stS (aos.zip efs) (fun i=>decide (i < j)) st).ch:=by
           rcases hpu with h | h
           · rw [ht] at h; cases h
           · exact h.1
          rw [hp,hchs,ft]
          refine ed _ _ _ 0 _ (fun k f hk=>?_)
          by_cases hkj2:k=j
          · subst hkj2
            rw [hkj] at hk; cases hk
            right; intro c; simp [chF,ht]
          · left
            have:(0+k == 0+j)=false:=by simp; exact hkj2
            simp only [this,Bool.false_or]
      exact ⟨ef,hst2,hnext⟩
    obtain ⟨ef2,hst2,hnext⟩:=hgo
    have hstep:=pq (Q:=Q) (K:=wpAnyIn (FW cx.ro) 0 P .any ops Q fuel (listed.setIfInBounds j true)) (hm j o ao ho hao) hst2 hh (fun E' U' a' w' h=>
     ih (listed.setIfInBounds j true) E' U' a' w' (by simpa using hls)
      (by
       have e:(fun i=>!((listed.setIfInBounds j true).getD i false))=fun i=>!(i == j || listed.getD i false):=by
        funext i; rw [fW _ _ _ (by omega)]
       rw [e]
       have:=lP (S:=fun i=>listed.getD i false) hjm hSj
       omega)
      (fun i o' ho' hs p hp=>by
       rw [fW _ _ _ (by omega)] at hs ⊢
       simp only [Bool.or_eq_true,beq_iff_eq] at hs ⊢
       right
       rcases hs with rfl | hs
       · rw [ho] at ho'; cases ho'; exact hpreds p hp
       · exact hcl i o' ho' hs p hp)
      (hnext E' U' a' w' h))
    unfold wpOpIn
    rw [ho]
    rcases hstep with ⟨e,h⟩ | ⟨e,h⟩
    · simp only [e,if_true]; exact h
    · simp only [e,Bool.false_eq_true,if_false]; exact ⟨fun _ _=>trivial,h⟩
end draw
end Go.Am
end
section
namespace Go.Am
variable {P : Program} [Glob P]
theorem rZ {cx:Cx} {ops:Array Oper} {aos:List AO} {st st':ASt} {id:Nat} {E:Env} {U:Nat→Prop} {a:Act} {w:World} {Q:Exit→Act→World→Prop} (hmix:P.follows .mixedOrders=true) (hops:ops.size=aos.length)
 (hm:∀ (j:Nat) o ao,ops[j]? = some o→aos[j]? = some ao→gf P cx.n ops o ao) (hok:nT ops aos=true) (hc:iJ P true aos st st') (hh:Holds P cx E U a w st) (hQ:∀ E' U' a' w',Holds P cx E' U' a' w' st'→Q .normal a' w') :
 (Code.region id ops true).wpIn (FW cx.ro) 0 P Q a w:=by
 obtain ⟨efs,l1,l2,l3⟩:=nP aos st st' hc
 refine wpIn_region_any hmix (vM hops l1 hm hok l2 l3 hQ ops.size _ E U a _ (by simp) ?_ (fun j o ho hs=>?_) ?_)
 · have:((List.range ops.size).countP fun i=>!((Array.replicate ops.size false).getD i false))=(List.range ops.size).length:=List.countP_eq_length.2 (fun i hi=>by
    have:=List.mem_range.1 hi
    simp [Array.getD_eq_getD_getElem?,this])
   simpa using this
 · exfalso
   by_cases h:j < ops.size <;> simp [Array.getD_eq_getD_getElem?,h] at hs
 · have e:stS (aos.zip efs) (fun i=>(Array.replicate ops.size false).getD i false) st=st:=gM _ _ 0 st (fun k f _ hs=>by
    exfalso
    by_cases h:k < ops.size <;> simp [Array.getD_eq_getD_getElem?,h] at hs)
   rw [e]
   exact ⟨hh.sz,hh.df,hh.tok,hh.inv,hh.os,hh.tape,hh.output,hh.size,hh.fr,hh.keepA,hh.live,hh.base,hh.fix,hh.hid,hh.gok⟩
end Go.Am
end
section
namespace Go.Am
variable {P : Program} [Glob P]
section folds
variable {α : Type}
theorem pF : ∀ (fs:List (α→α)) (S:Nat→Bool) (i:Nat) (a b:α) (k:Nat) (f:α→α),fs[k]? = some f→S (i+k)=false→dT fs (fun n=>decide (n < i+k) && S n) i a=b→f b=b →
 dT fs (fun n=>n == i+k || S n) i a=dT fs S i a
 | [],_,_,_,_,k,f,h,_,_,_=>by simp at h
 | g :: r,S,i,a,b,0,f,h,hs,hb,hf=>by
  simp at h
  subst h
  rw [Nat.add_zero] at hs
  have hab:a=b:=by
   rw [← hb]
   refine (gM _ _ _ _ (fun k f _ hs'=>?_)).symm
   exfalso
   simp at hs'
   omega
  subst hab
  simp only [dT,Nat.add_zero,beq_self_eq_true,Bool.true_or,if_true,hs,Bool.false_eq_true,if_false,hf]
  refine ed _ _ _ _ _ (fun k f hk=>.inl ?_)
  have hne:(i+1+k == i)=false:=by simp; omega
  simp [hne]
 | g :: r,S,i,a,b,k+1,f,h,hs,hb,hf=>by
  have hne:(i == i+(k+1))=false:=by simp
  simp only [dT,hne,Bool.false_or]
  simp only [dT] at hb
  have hlt:(decide (i < i+(k+1)) && S i)=S i:=by simp
  simp only [hlt] at hb
  have e1:i+1+k=i+(k+1):=by omega
  have:=pF r S (i+1) (if S i then g a else a) b k f (by simpa using h) (by rw [e1]; exact hs) (by rw [e1]; exact hb) hf
  rwa [e1] at this
theorem of : ∀ (fs:List (α→α)) (S:Nat→Bool) (i:Nat) (a:α) (k:Nat) (f:α→α),fs[k]? = some f→S (i+k)=false→(∀ k' g,k < k'→fs[k']? = some g→S (i+k')=true→∀ a,f (g a)=g (f a)) →
 dT fs (fun n=>n == i+k || S n) i a=f (dT fs S i a)
 | [],_,_,_,k,f,h,_,_=>by simp at h
 | g :: r,S,i,a,0,f,h,hs,hl=>by
  simp at h
  subst h
  rw [Nat.add_zero] at hs
  simp only [dT,Nat.add_zero,beq_self_eq_true,Bool.true_or,if_true,hs,Bool.false_eq_true,if_false]
  have e:dT r (fun n=>n == i || S n) (i+1) (g a)=dT r S (i+1) (g a):=ed _ _ _ _ _ (fun k f hk=>.inl (by
   have hne:(i+1+k == i)=false:=by simp; omega
   simp [hne]))
  rw [e]
  have com:∀ (r':List (α→α)) (j:Nat) (b:α),(∀ k' f',r'[k']? = some f'→S (j+k')=true→∀ a,g (f' a)=f' (g a))→dT r' S j (g b)=g (dT r' S j b):=by
   intro r'
   induction r' with
   | nil=>intro j b _; rfl
   | cons f' r' ih=>
    intro j b h
    simp only [dT]
    have h0:(if S j then f' (g b) else g b)=g (if S j then f' b else b):=by
     cases hs:S j with
     | false=>rfl
     | true=>simp only [if_true]; exact (h 0 f' rfl (by simpa using hs) b).symm
    rw [h0]
    exact ih (j+1) _ (fun k' f'' hk hs'=>h (k'+1) f'' (by simpa using hk) (by rwa [show j+(k'+1)=j+1+k' from by omega]))
  exact com r (i+1) a (fun k' f' hk hs'=>hl (k'+1) f' (by omega) (by simpa using hk) (by rwa [show i+(k'+1)=i+1+k' from by omega]))
 | g :: r,S,i,a,k+1,f,h,hs,hl=>by
  have hne:(i == i+(k+1))=false:=by simp
  simp only [dT,hne,Bool.false_or]
  have e1:i+1+k=i+(k+1):=by omega
  have:=of r S (i+1) (if S i then g a else a) k f (by simpa using h) (by rw [e1]; exact hs) (fun k' g' hk hg hs'=>hl (k'+1) g' (by omega) (by simpa using hg) (by rwa [show i+(k'+1)=i+1+k' from by omega]))
  rwa [e1] at this
end folds
end Go.Am
end
section
namespace Go.Am
variable {P : Program} [Glob P]
section core
variable {cx : Cx} {ops : Array Oper} {aos : List AO} {st st' : ASt} {efs : List Eff} {Q : Exit → Act → World → Prop}
theorem t7 (hops:ops.size=aos.length) (hef:efs.length=aos.length) (hm:∀ (j:Nat) o ao,ops[j]? = some o→aos[j]? = some ao→gf P cx.n ops o ao)
 (hlt:∀ (j:Nat) l,(ops.toList.map dK)[j]? = some l→∀ p∈l,p < j)
 (hgo:∀ (S:Nat→Bool) (j:Nat) o ao,ops[j]? = some o→aos[j]? = some ao→S j=false→(∀ p∈dK o,S p=true)→(∀ (i:Nat) l,(ops.toList.map dK)[i]? = some l→S i=true→∀ p∈l,S p=true) →
  ∃ ef2,StepE P ao (stS (aos.zip efs) S st) ef2∧(∀ E' U' a' w',Holds P cx E' U' a' w' (aw ao.dst ef2 (stS (aos.zip efs) S st))→Holds P cx E' U' a' w' (stS (aos.zip efs) (fun i=>i == 0+j || S i) st)))
 (hfin:st'=stS (aos.zip efs) (fun i=>decide (i < aos.length)) st) (hQ:∀ E' U' a' w',Holds P cx E' U' a' w' st'→Q .normal a' w') :
 ∀ (fuel:Nat) (listed:Array Bool) (E:Env) (U:Nat→Prop) (a:Act) (w:World),listed.size=ops.size→((List.range ops.size).countP fun i=>!(listed.getD i false))=fuel →
  (∀ (j:Nat) o,ops[j]? = some o→listed.getD j false=true→∀ p∈dK o,listed.getD p false=true) →
  Holds P cx E U a w (stS (aos.zip efs) (fun i=>listed.getD i false) st)→wpAnyIn (FW cx.ro) 0 P .any ops Q fuel listed a w:=by
 have atEnd:∀ (listed:Array Bool) (E:Env) (U:Nat→Prop) (a:Act) (w:World),(∀ i,i < ops.size→listed.getD i false=true)→Holds P cx E U a w (stS (aos.zip efs) (fun i=>listed.getD i false) st)→Q .normal a w:=fun listed E U a w hall hh=>by
  have hag:∀ {α:Type} (g:AO×Eff→α→α) (c:α),dT ((aos.zip efs).map g) (fun i=>listed.getD i false) 0 c=dT ((aos.zip efs).map g) (fun i=>decide (i < aos.length)) 0 c:=fun g c=>
   ed _ _ _ 0 c (fun k f hk=>by
    have hk':=(List.getElem?_eq_some_iff.1 hk).1
    simp only [List.length_map,List.length_zip,hef,Nat.min_self] at hk'
    left
    simp only [Nat.zero_add,hall k (by omega),hk',decide_true])
  refine hQ E U a w (hh.ext (fun i=>?_) ?_)
  · rw [hfin,eS,eS]; exact hag _ _
  · rw [hfin,ft,ft]; exact hag _ _
 intro fuel
 induction fuel with
 | zero=>
  intro listed E U a w hls hcnt hcl hh
  have hall:∀ i,i < ops.size→listed.getD i false=true:=fun i hi=>by
   have:=List.countP_eq_zero.1 hcnt i (List.mem_range.2 hi)
   simpa using this
  refine ⟨?_,atEnd listed E U a w hall hh⟩
  apply List.filter_eq_nil_iff.2
  intro i hi hf
  simp only [Bool.and_eq_true] at hf
  have hi':=List.mem_range.1 hi
  have h1:=hall i hi'
  have h2:listed.getD i true=listed.getD i false:=by
   have hlt:i < listed.size:=by omega
   simp [Array.getD_eq_getD_getElem?,Array.getElem?_eq_getElem hlt]
  rw [h2,h1] at hf
  simp at hf
 | succ fuel ih=>
  intro listed E U a w hls hcnt hcl hh
  have hsome:∃ i,i < ops.size∧listed.getD i false=false:=by
   rcases Classical.em (∃ i,i < ops.size∧listed.getD i false=false) with h | h
   · exact h
   · exfalso
     have:((List.range ops.size).countP fun i=>!(listed.getD i false))=0:=List.countP_eq_zero.2 (fun i hi=>by
      cases hf:listed.getD i false with
      | true=>simp
      | false=>exact absurd ⟨i,List.mem_range.1 hi,hf⟩ h)
     omega
  have hgd:∀ i,i < ops.size→listed.getD i true=listed.getD i false:=fun i hi=>by
   have hlt:i < listed.size:=by omega
   simp [Array.getD_eq_getD_getElem?,Array.getElem?_eq_getElem hlt]
  refine ⟨fun hnil=>?_,fun j hj=>?_⟩
  · exfalso
    obtain ⟨i,h1,h2,h3⟩:=jV hsome
    have hnot:=List.filter_eq_nil_iff.1 hnil i (List.mem_range.2 h1)
    apply hnot
    obtain ⟨o,ho⟩:∃ o,ops[i]? = some o:=⟨_,Array.getElem?_eq_getElem h1⟩
    simp only [Bool.and_eq_true]
    refine ⟨by rw [hgd i h1,h2]; rfl,?_⟩
    simp only [ho,Option.map_some,Option.getD_some]
    rw [Array.all_eq_true']
    intro e he
    simp only [Bool.or_eq_true]
    by_cases hb:Region.binds .any e=true
    · right
      have hp:e.on∈dK o:=List.mem_map.2 ⟨e,List.mem_filter.2 ⟨by simpa using he,hb⟩,rfl⟩
      exact h3 _ (hlt i (dK o) (by simp [ho]) _ hp)
    · left; simpa using hb
  · have hj2:=List.mem_filter.1 hj
    have hjm:=List.mem_range.1 hj2.1
    have hjr:=hj2.2
    simp only [Bool.and_eq_true] at hjr
    obtain ⟨o,ho⟩:∃ o,ops[j]? = some o:=⟨_,Array.getElem?_eq_getElem hjm⟩
    obtain ⟨ao,hao⟩:∃ ao,aos[j]? = some ao:=⟨_,List.getElem?_eq_getElem (by omega)⟩
    have hSj:listed.getD j false=false:=by
     have:=hjr.1
     rw [hgd j hjm] at this
     simpa using this
    have hpreds:∀ p∈dK o,listed.getD p false=true:=fun p hp=>by
     obtain ⟨e,he,rfl⟩:=List.mem_map.1 hp
     obtain ⟨he1,he2⟩:=List.mem_filter.1 he
     have:=hjr.2
     simp only [ho,Option.map_some,Option.getD_some] at this
     rw [Array.all_eq_true'] at this
     have:=this e (by simpa using he1)
     simpa [he2] using this
    have hclS:∀ (i:Nat) l,(ops.toList.map dK)[i]? = some l→listed.getD i false=true→∀ p∈l,listed.getD p false=true:=fun i l hi hs p hp=>by
     simp only [List.getElem?_map,Option.map_eq_some_iff,Array.getElem?_toList] at hi
     obtain ⟨o',ho',rfl⟩:=hi
     exact hcl i o' ho' hs p hp
    obtain ⟨ef2,hst2,hnext⟩:=hgo (fun i=>listed.getD i false) j o ao ho hao hSj hpreds hclS
    have hS':(fun i=>(listed.setIfInBounds j true).getD i false)=fun i=>i == 0+j || listed.getD i false:=by
     funext i
     rw [fW _ _ _ (by omega),Nat.zero_add]
    have hstep:=pq (Q:=Q) (K:=wpAnyIn (FW cx.ro) 0 P .any ops Q fuel (listed.setIfInBounds j true)) (hm j o ao ho hao) hst2 hh (fun E' U' a' w' h=>
     ih (listed.setIfInBounds j true) E' U' a' w' (by simpa using hls)
      (by
       have e:(fun i=>!((listed.setIfInBounds j true).getD i false))=fun i=>!(i == j || listed.getD i false):=by
        funext i; rw [fW _ _ _ (by omega)]
       rw [e]
       have:=lP (S:=fun i=>listed.getD i false) hjm hSj
       omega)
      (fun i o' ho' hs p hp=>by
       rw [fW _ _ _ (by omega)] at hs ⊢
       simp only [Bool.or_eq_true,beq_iff_eq] at hs ⊢
       right
       rcases hs with rfl | hs
       · rw [ho] at ho'; cases ho'; exact hpreds p hp
       · exact hcl i o' ho' hs p hp)
      (by rw [hS']; exact hnext E' U' a' w' h))
    unfold wpOpIn
    rw [ho]
    rcases hstep with ⟨e,h⟩ | ⟨e,h⟩
    · simp only [e,if_true]; exact h
    · simp only [e,Bool.false_eq_true,if_false]; exact ⟨fun _ _=>trivial,h⟩
end core
end Go.Am
end
section
namespace Go.Am
variable {P : Program} [Glob P] {cx : Cx} {ops : Array Oper} {aos : List AO} {st st' : ASt} {efs : List Eff} {Q : Exit → Act → World → Prop}
def RobAt (P:Program) [Glob P] (aos:List AO) (efs:List Eff) (st:ASt) (e j:Nat):Prop:=
 ∀ ao ef aoe efe,aos[j]? = some ao→efs[j]? = some ef→aos[e]? = some aoe→efs[e]? = some efe →
  ah efe.sub ef.v=ef.v∧(∀ x∈ao.slots,ah efe.sub (gt (stS (aos.zip efs) (fun i=>decide (i < min j e)) st).t x)=gt (stS (aos.zip efs) (fun i=>decide (i < min j e)) st).t x) ∧
  ∃ ef2,StepE P ao ⟨(stS (aos.zip efs) (fun i=>decide (i < j)) st).t,if j < e then efe.ch else (stS (aos.zip efs) (fun i=>decide (i < e)) st).ch⟩ ef2∧ef2.v=ef.v ∧
   ef2.ch=(if j < e then efe.ch else (stS (aos.zip efs) (fun i=>decide (i < e)) st).ch)∧ef2.sub=[]
theorem vN {e:Nat} {rb:List Nat} (hops:ops.size=aos.length) (hef:efs.length=aos.length) (hm:∀ (j:Nat) o ao,ops[j]? = some o→aos[j]? = some ao→gf P cx.n ops o ao) (he9:e≠999) (hok:mt e rb ops aos=true)
 (hch:∀ (j:Nat) ao ef,aos[j]? = some ao→efs[j]? = some ef→StepE P ao (stS (aos.zip efs) (fun i=>decide (i < j)) st) ef∧(ao.tot=true∨(ef.ch=(stS (aos.zip efs) (fun i=>decide (i < j)) st).ch∧ef.sub=[])))
 (hrob:∀ j∈rb,RobAt P aos efs st e j)
 (hfin:st'=stS (aos.zip efs) (fun i=>decide (i < aos.length)) st) (hQ:∀ E' U' a' w',Holds P cx E' U' a' w' st'→Q .normal a' w') :
 ∀ (fuel:Nat) (listed:Array Bool) (E:Env) (U:Nat→Prop) (a:Act) (w:World),listed.size=ops.size→((List.range ops.size).countP fun i=>!(listed.getD i false))=fuel →
  (∀ (j:Nat) o,ops[j]? = some o→listed.getD j false=true→∀ p∈dK o,listed.getD p false=true) →
  Holds P cx E U a w (stS (aos.zip efs) (fun i=>listed.getD i false) st)→wpAnyIn (FW cx.ro) 0 P .any ops Q fuel listed a w:=by
 simp only [mt,if_neg he9,Bool.and_eq_true] at hok
 obtain ⟨⟨⟨ok1,ok2⟩,ok3⟩,ok4⟩:=hok
 have hlt:∀ (j:Nat) l,(ops.toList.map dK)[j]? = some l→∀ p∈l,p < j:=fun j l hj p hp=>by
  have hz:(l,j)∈(ops.toList.map dK).zipIdx:=by
   rw [List.mk_mem_zipIdx_iff_getElem?]; exact hj
  have:=List.all_eq_true.1 ok1 (l,j) hz
  simpa using List.all_eq_true.1 this p hp
 obtain ⟨aoe,haoe,hte⟩:∃ aoe,aos[e]? = some aoe∧aoe.tot=true:=by
  cases h:aos[e]? with
  | none=>rw [h] at ok2; cases ok2
  | some x=>rw [h] at ok2; exact ⟨x,rfl,by simpa using ok2⟩
 have hner:e∉rb:=fun h=>by simp [h] at ok3
 have hpair:∀ (i k:Nat) x y,aos[i]? = some x→aos[k]? = some y→i < k→((ji (ops.toList.map dK) []).getD k 0).testBit i=true∨(x.apart y=true∧((x.tot=false∧y.tot=false)∨(k=e∧x.tot=false∧i∈rb)∨(i=e∧y.tot=false∧k∈rb))):=fun i k x y hx hy hik=>by
  have h1:=List.all_eq_true.1 ok4 (y,k) (by rw [List.mk_mem_zipIdx_iff_getElem?]; exact hy)
  have h2:=List.all_eq_true.1 h1 (x,i) (by rw [List.mk_mem_zipIdx_iff_getElem?]; exact hx)
  simp only [hik,decide_true,Bool.not_true,Bool.false_or,Bool.or_eq_true,Bool.and_eq_true,Bool.not_eq_true',beq_iff_eq,List.contains_iff_mem] at h2
  rcases h2 with h2 | ⟨h3,h4⟩
  · exact .inl h2
  · refine .inr ⟨h3,?_⟩
    rcases h4 with (h4 | ⟨⟨h4,h5⟩,h6⟩) | ⟨⟨h4,h5⟩,h6⟩
    · exact .inl h4
    · exact .inr (.inl ⟨h4,h5,h6⟩)
    · exact .inr (.inr ⟨h4,h5,h6⟩)
 have hz:∀ (j:Nat) ao ef,aos[j]? = some ao→efs[j]? = some ef→(aos.zip efs)[j]? = some (ao,ef):=fun j ao ef h1 h2=>by
  rw [List.getElem?_zip_eq_some]; exact ⟨h1,h2⟩
 have hz':∀ (j:Nat) p,(aos.zip efs)[j]? = some p→aos[j]? = some p.1∧efs[j]? = some p.2:=fun j p h=>by
  obtain ⟨x,y⟩:=p
  rw [List.getElem?_zip_eq_some] at h; exact h
 have hpure:∀ (j:Nat) p,(aos.zip efs)[j]? = some p→p.1.tot=false→p.2.sub=[]:=fun j p h ht=>by
  obtain ⟨h1,h2⟩:=hz' j p h
  rcases (hch j p.1 p.2 h1 h2).2 with h | h
  · rw [ht] at h; cases h
  · exact h.2
 obtain ⟨efe,hefe⟩:∃ efe,efs[e]? = some efe:=⟨_,List.getElem?_eq_getElem (by have:=(List.getElem?_eq_some_iff.1 haoe).1; omega)⟩
 refine t7 hops hef hm hlt (fun S j o ao ho hao hSj hpreds hcl=>?_) hfin hQ
 obtain ⟨ef,hefj⟩:∃ ef,efs[j]? = some ef:=⟨_,List.getElem?_eq_getElem (by have:=(List.getElem?_eq_some_iff.1 hao).1; omega)⟩
 obtain ⟨hst,hpu⟩:=hch j ao ef hao hefj
 have hsw:∀ k x,aos[k]? = some x→(k < j∧S k=false∨j < k∧S k=true)→(∀ d,x.dst=some d→d∉ao.slots∧ao.dst≠some d)∧(k≠e→x.tot=false)∧(k=e→j∈rb∧ao.tot=false)∧(ao.tot=true→j=e∧k∈rb):=fun k x hx hs=>by
  have hje:j=e→ao.tot=true:=fun h=>by subst h; rw [hao] at haoe; cases haoe; exact hte
  have hke:k=e→x.tot=true:=fun h=>by subst h; rw [hx] at haoe; cases haoe; exact hte
  rcases hs with ⟨hkj,hs⟩ | ⟨hjk,hs⟩
  · rcases hpair k j x ao hx hao hkj with h | ⟨h,hC⟩
    · exfalso
      have:=gP hcl hlt (ops.toList.map dK) [] (by simp) (fun j i h=>by simp at h) j k h (dK o) (by simp [ho]) hpreds
      rw [hs] at this; cases this
    · refine ⟨(fu h).1,fun hne=>?_,fun he=>?_,fun ht=>?_⟩
      · rcases hC with ⟨h1,_⟩ | ⟨_,h1,_⟩ | ⟨h1,_⟩
        · exact h1
        · exact h1
        · exact absurd h1 hne
      · have hxt:=hke he
        rcases hC with ⟨h1,_⟩ | ⟨_,h1,_⟩ | ⟨_,h1,h2⟩
        · rw [hxt] at h1; cases h1
        · rw [hxt] at h1; cases h1
        · exact ⟨h2,h1⟩
      · rcases hC with ⟨_,h1⟩ | ⟨h1,_,h2⟩ | ⟨_,h1,_⟩
        · rw [ht] at h1; cases h1
        · exact ⟨h1,h2⟩
        · rw [ht] at h1; cases h1
  · rcases hpair j k ao x hao hx hjk with h | ⟨h,hC⟩
    · exfalso
      obtain ⟨o',ho'⟩:∃ o',ops[k]? = some o':=⟨_,Array.getElem?_eq_getElem (by have:=(List.getElem?_eq_some_iff.1 hx).1; omega)⟩
      have:=gP hcl hlt (ops.toList.map dK) [] (by simp) (fun j i h=>by simp at h) k j h (dK o') (by simp [ho']) (hcl k (dK o') (by simp [ho']) hs)
      rw [hSj] at this; cases this
    · refine ⟨fun d hd=>⟨(fu h).2 d hd,fun h2=>((fu h).1 d h2).2 hd⟩,fun hne=>?_,fun he=>?_,fun ht=>?_⟩
      · rcases hC with ⟨_,h1⟩ | ⟨h1,_⟩ | ⟨_,h1,_⟩
        · exact h1
        · exact absurd h1 hne
        · exact h1
      · have hxt:=hke he
        rcases hC with ⟨_,h1⟩ | ⟨_,h1,h2⟩ | ⟨_,h1,_⟩
        · rw [hxt] at h1; cases h1
        · exact ⟨h2,h1⟩
        · rw [hxt] at h1; cases h1
      · rcases hC with ⟨h1,_⟩ | ⟨_,h1,_⟩ | ⟨h1,_,h2⟩
        · rw [ht] at h1; cases h1
        · rw [ht] at h1; cases h1
        · exact ⟨h1,h2⟩
 have hidS:∀ k x p,aos[k]? = some p.1→(aos.zip efs)[k]? = some p→(k < j∧S k=false∨j < k∧S k=true)→k≠e→x∈ao.slots→∀ c,eq x p c=c:=fun k x p hk hp hs hne hx c=>by
  obtain ⟨h1,h2,_,_⟩:=hsw k p.1 hk hs
  simp only [eq,hpure k p hp (h2 hne),eF]
  rw [if_neg (fun e=>(h1 x e).1 hx)]
 have hidC:∀ k p,aos[k]? = some p.1→(k < j∧S k=false∨j < k∧S k=true)→k≠e→∀ c,chF p c=c:=fun k p hk hs hne c=>by
  obtain ⟨_,h2,_,_⟩:=hsw k p.1 hk hs
  simp [chF,h2 hne]
 have hmapS:∀ x k f,((aos.zip efs).map (eq x))[k]? = some f→∃ p,(aos.zip efs)[k]? = some p∧eq x p=f:=fun x k f h=>by
  rw [List.getElem?_map,Option.map_eq_some_iff] at h; exact h
 have hmapC:∀ k f,((aos.zip efs).map chF)[k]? = some f→∃ p,(aos.zip efs)[k]? = some p∧chF p=f:=fun k f h=>by
  rw [List.getElem?_map,Option.map_eq_some_iff] at h; exact h
 have hmain:∃ ef2,StepE P ao (stS (aos.zip efs) S st) ef2∧ef2.v=ef.v∧ef2.sub=ef.sub∧((ao.tot=true∧ef2.ch=ef.ch)∨(ao.tot=false∧ef2.ch=(stS (aos.zip efs) S st).ch)):=by
  by_cases hA:j≠e∧(e < j∧S e=false∨j < e∧S e=true)
  · obtain ⟨hje,hse⟩:=hA
    obtain ⟨s1,_,s3,_⟩:=hsw e aoe haoe hse
    obtain ⟨hjr,htj⟩:=s3 rfl
    obtain ⟨r1,r2,ef2,r3,r4,r5,r6⟩:=hrob j hjr ao ef aoe efe hao hefj haoe hefe
    have hslots:∀ x∈ao.slots,gt (stS (aos.zip efs) (fun i=>decide (i < j)) st).t x=gt (stS (aos.zip efs) S st).t x:=fun x hx=>by
     have hFe:((aos.zip efs).map (eq x))[e]? = some (eq x (aoe,efe)):=by simp [hz e aoe efe haoe hefe]
     have hdx:¬ aoe.dst=some x:=fun h=>(s1 x h).1 hx
     rcases hse with ⟨hej,hs⟩ | ⟨hje2,hs⟩
     · rw [Nat.min_eq_right (Nat.le_of_lt hej)] at r2
       have hc:=r2 x hx
       rw [eS,eS]
       have e1:dT ((aos.zip efs).map (eq x)) (fun n=>n == 0+e || S n) 0 (gt st.t x)=dT ((aos.zip efs).map (eq x)) (fun i=>decide (i < j)) 0 (gt st.t x):=ed _ _ _ 0 _ (fun k f hk=>by
        obtain ⟨p,hp,rfl⟩:=hmapS x k f hk
        obtain ⟨g1,g2⟩:=hz' k p hp
        simp only [Nat.zero_add]
        by_cases hke:k=e
        · left; subst hke; simp [hej]
        · have hb:(k == e)=false:=by simpa using hke
          rcases Nat.lt_trichotomy k j with h | h | h
          · cases hsk:S k with
            | true=>left; simp [h]
            | false=>right; exact hidS k x p g1 hp (.inl ⟨h,hsk⟩) hke hx
          · left; subst h; simp [hSj,hb]
          · cases hsk:S k with
            | false=>left; simp [hb]; omega
            | true=>right; exact hidS k x p g1 hp (.inr ⟨h,hsk⟩) hke hx)
       rw [← e1]
       refine pF _ S 0 _ (gt (stS (aos.zip efs) (fun i=>decide (i < e)) st).t x) e _ hFe (by simpa using hs) ?_ (by simp only [eq,if_neg hdx]; exact hc)
       rw [eS]
       refine ed _ _ _ 0 _ (fun k f hk=>?_)
       obtain ⟨p,hp,rfl⟩:=hmapS x k f hk
       obtain ⟨g1,g2⟩:=hz' k p hp
       simp only [Nat.zero_add]
       by_cases hke:k < e
       · cases hsk:S k with
         | true=>left; simp [hke]
         | false=>right; exact hidS k x p g1 hp (.inl ⟨by omega,hsk⟩) (by omega) hx
       · left; simp [hke]
     · rw [Nat.min_eq_left (Nat.le_of_lt hje2)] at r2
       have hc:=r2 x hx
       rw [eS] at hc ⊢
       rw [eS]
       refine (jG _ S 0 _ _ j (fun k f hk hkj=>?_) (fun k f hk hkj hs'=>?_) rfl).symm
       · obtain ⟨p,hp,rfl⟩:=hmapS x k f hk
         obtain ⟨g1,g2⟩:=hz' k p hp
         simp only [Nat.zero_add] at hkj ⊢
         cases hsk:S k with
         | true=>exact .inl rfl
         | false=>exact .inr (hidS k x p g1 hp (.inl ⟨hkj,hsk⟩) (by omega) hx)
       · obtain ⟨p,hp,rfl⟩:=hmapS x k f hk
         obtain ⟨g1,g2⟩:=hz' k p hp
         simp only [Nat.zero_add] at hkj hs'
         have hkj2:j < k:=by
          rcases Nat.lt_or_ge j k with h | h
          · exact h
          · have:k=j:=by omega
            subst this; rw [hSj] at hs'; cases hs'
         by_cases hke:k=e
         · subst hke
           rw [haoe] at g1; cases g1
           rw [hefe] at g2; cases g2
           simp only [eq,if_neg hdx]
           exact hc
         · exact hidS k x p g1 hp (.inr ⟨hkj2,hs'⟩) hke hx _
    have hchs:(if j < e then efe.ch else (stS (aos.zip efs) (fun i=>decide (i < e)) st).ch)=(stS (aos.zip efs) S st).ch:=by
     rw [ft (aos.zip efs) S st]
     rcases hse with ⟨hej,hs⟩ | ⟨hje2,hs⟩
     · rw [if_neg (by omega),ft]
       refine ed _ _ _ 0 _ (fun k f hk=>?_)
       obtain ⟨p,hp,rfl⟩:=hmapC k f hk
       obtain ⟨g1,g2⟩:=hz' k p hp
       simp only [Nat.zero_add]
       rcases Nat.lt_trichotomy k e with h | h | h
       · cases hsk:S k with
         | true=>left; simp [h]
         | false=>right; exact hidC k p g1 (.inl ⟨by omega,hsk⟩) (by omega)
       · left; subst h; simp [hs]
       · cases hsk:S k with
         | false=>left; simp; omega
         | true=>
          right
          have htk:p.1.tot=false:=by
           rcases hpair e k aoe p.1 haoe g1 h with h2 | ⟨_,hC⟩
           · exfalso
             obtain ⟨o',ho'⟩:∃ o',ops[k]? = some o':=⟨_,Array.getElem?_eq_getElem (by have:=(List.getElem?_eq_some_iff.1 g1).1; omega)⟩
             have:=gP hcl hlt (ops.toList.map dK) [] (by simp) (fun j i h=>by simp at h) k e h2 (dK o') (by simp [ho']) (hcl k (dK o') (by simp [ho']) hsk)
             rw [hs] at this; cases this
           · rcases hC with ⟨_,h1⟩ | ⟨h1,_⟩ | ⟨_,h1,_⟩
             · exact h1
             · omega
             · exact h1
          intro c; simp [chF,htk]
     · rw [if_pos hje2]
       have hFe:((aos.zip efs).map chF)[e]? = some (chF (aoe,efe)):=by simp [hz e aoe efe haoe hefe]
       refine (kd _ S 0 _ _ e _ hFe (by simpa using hs) (fun a=>by simp [chF,hte]) (fun k g hk hg hs'=>?_)).symm
       obtain ⟨p,hp,rfl⟩:=hmapC k g hg
       obtain ⟨g1,g2⟩:=hz' k p hp
       simp only [Nat.zero_add] at hs'
       exact hidC k p g1 (.inr ⟨by omega,hs'⟩) (by omega) _
    refine ⟨ef2,r3.congr hslots hchs,r4,?_,.inr ⟨htj,?_⟩⟩
    · rw [r6]; exact (hpure j (ao,ef) (hz j ao ef hao hefj) htj).symm
    · rw [r5]; exact hchs
  · have hne:∀ k,(k < j∧S k=false∨j < k∧S k=true)→k≠e:=fun k hk hke=>by
     subst hke
     exact hA ⟨by omega,hk⟩
    have hslots:∀ x∈ao.slots,gt (stS (aos.zip efs) (fun i=>decide (i < j)) st).t x=gt (stS (aos.zip efs) S st).t x:=fun x hx=>by
     rw [eS,eS]
     refine ed _ _ _ 0 _ (fun k f hk=>?_)
     obtain ⟨p,hp,rfl⟩:=hmapS x k f hk
     obtain ⟨g1,g2⟩:=hz' k p hp
     simp only [Nat.zero_add]
     rcases Nat.lt_trichotomy k j with h | h | h
     · cases hsk:S k with
       | true=>left; simp [h]
       | false=>right; exact hidS k x p g1 hp (.inl ⟨h,hsk⟩) (hne k (.inl ⟨h,hsk⟩)) hx
     · left; subst h; simp [hSj]
     · cases hsk:S k with
       | false=>left; simp; omega
       | true=>right; exact hidS k x p g1 hp (.inr ⟨h,hsk⟩) (hne k (.inr ⟨h,hsk⟩)) hx
    have hchs:(stS (aos.zip efs) (fun i=>decide (i < j)) st).ch=(stS (aos.zip efs) S st).ch:=by
     rw [ft,ft]
     refine ed _ _ _ 0 _ (fun k f hk=>?_)
     obtain ⟨p,hp,rfl⟩:=hmapC k f hk
     obtain ⟨g1,g2⟩:=hz' k p hp
     simp only [Nat.zero_add]
     rcases Nat.lt_trichotomy k j with h | h | h
     · cases hsk:S k with
       | true=>left; simp [h]
       | false=>right; exact hidC k p g1 (.inl ⟨h,hsk⟩) (hne k (.inl ⟨h,hsk⟩))
     · left; subst h; simp [hSj]
     · cases hsk:S k with
       | false=>left; simp; omega
       | true=>right; exact hidC k p g1 (.inr ⟨h,hsk⟩) (hne k (.inr ⟨h,hsk⟩))
    refine ⟨ef,hst.congr hslots hchs,rfl,rfl,?_⟩
    cases ht:ao.tot with
    | true=>exact .inl ⟨rfl,rfl⟩
    | false=>
     refine .inr ⟨rfl,?_⟩
     rcases hpu with h | h
     · rw [ht] at h; cases h
     · rw [h.1]; exact hchs
 obtain ⟨ef2,m1,m2,m3,m4⟩:=hmain
 refine ⟨ef2,m1,fun E' U' a' w' h=>h.ext (fun x=>?_) ?_⟩
 · have e1:gt (aw ao.dst ef2 (stS (aos.zip efs) S st)).t x=eq x (ao,ef) (gt (stS (aos.zip efs) S st).t x):=by
    simp only [aw,fE,eq,m2,m3]
   rw [e1,eS,eS]
   have hkj:((aos.zip efs).map (eq x))[j]? = some (eq x (ao,ef)):=by simp [hz j ao ef hao hefj]
   refine (of _ S 0 _ j _ hkj (by simpa using hSj) (fun k g hk hg hs c=>?_)).symm
   obtain ⟨p,hp,rfl⟩:=hmapS x k g hg
   obtain ⟨g1,g2⟩:=hz' k p hp
   simp only [Nat.zero_add] at hs
   obtain ⟨w1,w2,w3,w4⟩:=hsw k p.1 g1 (.inr ⟨hk,hs⟩)
   by_cases hke:k=e
   · obtain ⟨hjr,htj⟩:=w3 hke
     subst hke
     have hsub:ef.sub=[]:=hpure j (ao,ef) (hz j ao ef hao hefj) htj
     obtain ⟨r1,_⟩:=hrob j hjr ao ef p.1 p.2 hao hefj g1 g2
     simp only [eq,hsub,eF]
     by_cases h1:p.1.dst=some x
     · rw [if_pos h1,if_neg (w1 x h1).2,if_pos h1]
     · rw [if_neg h1]
       by_cases h2:ao.dst=some x
       · rw [if_pos h2,if_neg h1,if_pos h2]; exact r1.symm
       · rw [if_neg h2,if_neg h1,if_neg h2]
   · have hsk:p.2.sub=[]:=hpure k p hp (w2 hke)
     simp only [eq,hsk,eF]
     by_cases h1:p.1.dst=some x
     · rw [if_pos h1,if_pos h1,if_neg (w1 x h1).2]
       cases ht:ao.tot with
       | false=>rw [hpure j (ao,ef) (hz j ao ef hao hefj) ht,eF]
       | true=>
        obtain ⟨hje,hkr⟩:=w4 ht
        subst hje
        exact (hrob k hkr p.1 p.2 ao ef g1 g2 hao hefj).1
     · rw [if_neg h1,if_neg h1]
 · rw [ft]
   simp only [aw]
   have hkj:((aos.zip efs).map chF)[j]? = some (chF (ao,ef)):=by simp [hz j ao ef hao hefj]
   rcases m4 with ⟨ht,hc⟩ | ⟨ht,hc⟩
   · rw [hc]
     refine (kd _ _ 0 _ _ j _ hkj (by simp) (fun a=>by simp [chF,ht]) (fun k g hk hg hs=>?_)).symm
     obtain ⟨p,hp,rfl⟩:=hmapC k g hg
     obtain ⟨g1,g2⟩:=hz' k p hp
     have hkb:(k == j)=false:=by simp; omega
     simp only [Nat.zero_add,hkb,Bool.false_or] at hs
     obtain ⟨_,_,w3,w4⟩:=hsw k p.1 g1 (.inr ⟨hk,hs⟩)
     have hje:=(w4 ht).1
     exact hidC k p g1 (.inr ⟨hk,hs⟩) (by omega) _
   · rw [hc,ft]
     refine ed _ _ _ 0 _ (fun k f hk=>?_)
     by_cases hkj2:k=j
     · subst hkj2
       rw [hkj] at hk; cases hk
       right; intro c; simp [chF,ht]
     · left
       have:(0+k == 0+j)=false:=by simp; exact hkj2
       simp only [this,Bool.false_or]
end Go.Am
end
section
namespace Go.Am
variable {P : Program} [Glob P]
def ownFlag (h:AO):Bool:=match h.op with | .mkSl own _ _ _ _ _=>own | .store own _ _ _=>own | .mvs _=>true | _=>false
def inB (n:Nat) (ao:AO):Bool:=
 (match ao.dst with | some d=>decide (d < n) | none=>true) && (match ao.guard with | some (g,_)=>decide (g < n) | none=>true)
def jo (P:Program) (n:Nat) (ops:Array Oper):List AO→List Oper→Option (List AO)
 | [],[]=>some []
 | h :: hs,o :: os=>(mq P (ownFlag h) h.tot ops o).bind fun ao=>if inB n ao && (ao.tot == h.tot) then (jo P n ops hs os).map (ao :: ·) else none
 | _,_=>none
def d9 (P:Program) (n:Nat):AC→Code→Option AC
 | .keep l x,c=>(d9 P n x c).map (.keep l)
 | .cut x,c=>(d9 P n x c).map .cut
 | .nilrow i sz ty x,c=>(d9 P n x c).map (.nilrow i sz ty)
 | .fz l x,c=>(d9 P n x c).map (.fz l)
 | .deepen i isz ity x,c=>(d9 P n x c).map (.deepen i isz ity)
 | .rangeFunc _ _ a b,.rangeFunc g ps x y=>if ps.all (fun p=>decide (p < n)) then (d9 P n a x).bind fun a'=>(d9 P n b y).map fun b'=>.rangeFunc g ps.toList a' b' else none
 | .skip,.skip=>some .skip
 | .ret,.ret=>some .ret
 | .seq a b,.seq c d=>(d9 P n a c).bind fun a'=>(d9 P n b d).map fun b'=>.seq a' b'
 | .region dr hs,.region _ ops draw=>
  if draw=dr then (jo P n ops hs ops.toList).bind fun r=>if !dr || (nT ops r && P.follows .mixedOrders) then some (.region dr r) else none else none
 | .draw e rb hs,.region _ ops true=>
  (jo P n ops hs ops.toList).bind fun r=>if mt e rb ops r && P.follows .mixedOrders then some (.draw e rb r) else none
 | .cond _ a b,.cond c x y=>(d9 P n a x).bind fun a'=>(d9 P n b y).map fun b'=>.cond c a' b'
 | .block _ a,.block id x=>(d9 P n a x).map (.block id)
 | .loop a,.loop x=>(d9 P n a x).map .loop
 | .exit _,.exit id=>some (.exit id)
 | _,_=>none
inductive It where
 | c (x:AC)
 | blk (id:Nat)
 | post (Q:ASt→Prop)
 | rnd (N:ASt→Prop) (R:Code→ASt→Prop)
 | lp (x:AC)
def RnH (P:Program) [Glob P] (cx:Cx) (Q:ASt→Prop) (a:Act) (w:World):Prop:=∃ E U st,Holds P cx E U a w st∧Q st
def tK (P:Program) (ro:Option Nat) (Q:Exit→Act→World→Prop) (c:Code) (a:Act) (w:World):Prop:=
 ∀ (b:Frame) (kk:List Item) (cs:List Frame),b.roundOf=(FW ro).round→(FW ro).fn b.fn→(FW ro).room (cs.length+1+0) →
  ∃ e a' w',Q e a' w'∧ArrivesIn (Machine.fenced P (FW ro)) P (lone (b.atR a (.code c :: .inLoop c :: kk)) cs w) b kk cs e a' w'
def WE (P:Program) [Glob P] (cx:Cx) (Q:ASt→Prop):List It→Exit→Act→World→Prop
 | [],.normal,a,w=>RnH P cx Q a w
 | [],.ret,a,w=>RnH P cx Q a w
 | [],_,_,_=>False
 | .c x :: k,.normal,a,w=>∀ code,d9 P cx.n x code=some x→code.wpIn (FW cx.ro) 0 P (WE P cx Q k) a w
 | .c _ :: k,e,a,w=>WE P cx Q k e a w
 | .blk _ :: k,.normal,a,w=>WE P cx Q k .normal a w
 | .blk id :: k,.exit j,a,w=>if j=id then WE P cx Q k .normal a w else WE P cx Q k (.exit j) a w
 | .blk _ :: k,e,a,w=>WE P cx Q k e a w
 | .post R :: _,.normal,a,w=>RnH P cx R a w
 | .post _ :: k,e,a,w=>WE P cx Q k e a w
 | .lp x :: k,.normal,a,w=>∀ code,d9 P cx.n x code=some x→tK P cx.ro (WE P cx Q k) code a w
 | .lp _ :: k,e,a,w=>WE P cx Q k e a w
 | .rnd N _ :: _,.normal,a,w=>RnH P cx N a w
 | .rnd _ R :: _,.ret,a,w=>RnH P cx (R .ret) a w
 | .rnd _ R :: _,.exit j,a,w=>RnH P cx (R (.exit j)) a w
 | .rnd _ _ :: _,_,_,_=>False
def SG (P:Program) [Glob P] (cx:Cx) (Q:ASt→Prop) (k:List It) (st:ASt):Prop:=
 ∀ E U a w,Holds P cx E U a w st→WE P cx Q k .normal a w
def DG (P:Program) [Glob P] (cx:Cx) (Q:ASt→Prop) (dr:Bool) (k:List It) (os:List AO) (st:ASt):Prop:=
 match dr with
 | true=>∃ st',iJ P true os st st'∧SG P cx Q k st'
 | false=>jz P cx (SG P cx Q k) os st
end Go.Am
end
section
namespace Go.Am
variable {P : Program} [Glob P]
variable {cx : Cx} {Q : ASt → Prop} {k : List It} {st : ASt}
def bv (Q:ASt→Prop):List It→ASt→Prop
 | [],st=>Q st
 | .rnd _ R :: _,st=>R .ret st
 | .c _ :: k,st=>bv Q k st
 | .blk _ :: k,st=>bv Q k st
 | .post _ :: k,st=>bv Q k st
 | .lp _ :: k,st=>bv Q k st
theorem kJ : ∀ (k:List It) (a:Act) (w:World),RnH P cx (bv Q k) a w→WE P cx Q k .ret a w
 | [],_,_,h=>h
 | .c _ :: k,a,w,h=>kJ k a w h
 | .blk _ :: k,a,w,h=>kJ k a w h
 | .post _ :: k,a,w,h=>kJ k a w h
 | .lp _ :: k,a,w,h=>kJ k a w h
 | .rnd _ _ :: _,_,_,h=>h
inductive ER where
 | cont (k:List It)
 | out (p:ASt→Prop)
 | none
def aJ (id:Nat):List It→ER
 | []=>.none
 | .blk j :: k=>if j=id then .cont k else aJ id k
 | .rnd _ R :: _=>.out (R (.exit id))
 | .c _ :: k=>aJ id k
 | .post _ :: k=>aJ id k
 | .lp _ :: k=>aJ id k
theorem jL {id:Nat}:∀ (k k':List It) (a:Act) (w:World),aJ id k=.cont k'→WE P cx Q k' .normal a w→WE P cx Q k (.exit id) a w
 | [],k',a,w,h,_=>by simp [aJ] at h
 | .c _ :: k,k',a,w,h,h2=>jL k k' a w (by simpa only [aJ] using h) h2
 | .post _ :: k,k',a,w,h,h2=>jL k k' a w (by simpa only [aJ] using h) h2
 | .lp _ :: k,k',a,w,h,h2=>jL k k' a w (by simpa only [aJ] using h) h2
 | .rnd _ _ :: k,k',a,w,h,h2=>by simp [aJ] at h
 | .blk j :: k,k',a,w,h,h2=>by
  simp only [aJ] at h
  simp only [WE]
  by_cases hj:j=id
  · subst hj; simp at h; subst h; simpa using h2
  · rw [if_neg hj] at h
    rw [if_neg (fun e=>hj e.symm)]
    exact jL k k' a w h h2
theorem kI {id:Nat}:∀ (k:List It) (p:ASt→Prop) (a:Act) (w:World),aJ id k=.out p→RnH P cx p a w→WE P cx Q k (.exit id) a w
 | [],p,a,w,h,_=>by simp [aJ] at h
 | .c _ :: k,p,a,w,h,h2=>kI k p a w (by simpa only [aJ] using h) h2
 | .post _ :: k,p,a,w,h,h2=>kI k p a w (by simpa only [aJ] using h) h2
 | .lp _ :: k,p,a,w,h,h2=>kI k p a w (by simpa only [aJ] using h) h2
 | .rnd _ R :: k,p,a,w,h,h2=>by simp only [aJ,ER.out.injEq] at h; subst h; exact h2
 | .blk j :: k,p,a,w,h,h2=>by
  simp only [aJ] at h
  simp only [WE]
  by_cases hj:j=id
  · subst hj; simp at h
  · rw [if_neg hj] at h
    rw [if_neg (fun e=>hj e.symm)]
    exact kI k p a w h h2
theorem S_nil (h:Q st):SG P cx Q [] st:=fun E U a w hh=>⟨E,U,st,hh,h⟩
theorem S_post {R:ASt→Prop} (h:R st):SG P cx Q (.post R :: k) st:=fun E U a w hh=>⟨E,U,st,hh,h⟩
theorem S_blk {id:Nat} (h:SG P cx Q k st):SG P cx Q (.blk id :: k) st:=fun E U a w hh=>h E U a w hh
theorem e8 {x:AC} (h:∀ code,d9 P cx.n x code=some x→∀ E U a w,Holds P cx E U a w st→code.wpIn (FW cx.ro) 0 P (WE P cx Q k) a w):SG P cx Q (.c x :: k) st:=
 fun E U a w hh code hc=>h code hc E U a w hh
theorem pN {x:AC} {c:Code} {E:Env} {U:Nat→Prop} {a:Act} {w:World} (h:SG P cx Q (.c x :: .lp x :: k) st) (hh:Holds P cx E U a w st) (hc:d9 P cx.n x c=some x):tK P cx.ro (WE P cx Q k) c a w:=by
 intro b kk cs hro hF hroom
 obtain ⟨e,a1,w1,hq,harr⟩:=h E U a w hh c hc b (.inLoop c :: kk) cs hro hF hroom
 cases e with
 | normal=>
  obtain ⟨e2,a2,w2,hq2,harr2⟩:=hq c hc b kk cs hro hF hroom
  exact ⟨e2,a2,w2,hq2,.of_steps (StepsIn.trans harr (.one (fenced_calm hF hroom rfl) stepR_inLoop)) harr2⟩
 | exit id=>exact ⟨_,a1,w1,hq,.pass (x:=.inLoop c) rfl (fun _ _=>.inl (by simp)) harr⟩
 | goto l=>exact ⟨_,a1,w1,hq,.pass (x:=.inLoop c) rfl (fun _ _=>.inl (by simp)) harr⟩
 | ret=>exact ⟨_,a1,w1,hq,.pass (x:=.inLoop c) rfl (fun _ _=>.inl (by simp)) harr⟩
 | panic ch=>exact ⟨_,a1,w1,hq,.pass (x:=.inLoop c) rfl (fun _ _=>.inl (by simp)) harr⟩
 | outgrown=>exact ⟨_,a1,w1,hq,.pass (x:=.inLoop c) rfl (fun _ _=>.inl (by simp)) harr⟩
theorem S_lp {x:AC} (h:SG P cx Q (.c x :: .lp x :: k) st):SG P cx Q (.lp x :: k) st:=fun _ _ _ _ hh _ hc=>pN h hh hc
theorem S_lp0 {x:AC} (h:SG P cx Q (.c x :: .lp x :: k) st):SG P cx Q (.c (.loop x) :: k) st:=e8 fun code hc E U a w hh=>by
 cases code <;> simp [d9] at hc
 rename_i c
 intro b kk cs hro hF hroom
 obtain ⟨e,a',w',hq,harr⟩:=pN h hh hc b kk cs hro hF hroom
 exact ⟨e,a',w',hq,.of_steps (.one (fenced_calm hF hroom rfl) stepR_loop) harr⟩
theorem S_skip (h:SG P cx Q k st):SG P cx Q (.c .skip :: k) st:=e8 fun code hc E U a w hh=>by
 cases code <;> simp [d9] at hc
 exact wpIn_skip (h E U a w hh)
theorem S_ret (h:bv Q k st):SG P cx Q (.c .ret :: k) st:=e8 fun code hc E U a w hh=>by
 cases code <;> simp [d9] at hc
 exact wpIn_ret (kJ k a w ⟨E,U,st,hh,h⟩)
theorem S_out {id:Nat} {p:ASt→Prop} (hk:aJ id k=.out p) (h:p st):SG P cx Q (.c (.exit id) :: k) st:=e8 fun code hc E U a w hh=>by
 cases code <;> simp [d9] at hc
 subst hc
 exact wpIn_exit (kI k p a w hk ⟨E,U,st,hh,h⟩)
theorem S_exit {id:Nat} {k':List It} (hk:aJ id k=.cont k') (h:SG P cx Q k' st):SG P cx Q (.c (.exit id) :: k) st:=e8 fun code hc E U a w hh=>by
 cases code <;> simp [d9] at hc
 subst hc
 exact wpIn_exit (jL k k' a w hk (h E U a w hh))
theorem S_seq {x y:AC} (h:SG P cx Q (.c x :: .c y :: k) st):SG P cx Q (.c (.seq x y) :: k) st:=e8 fun code hc E U a w hh=>by
 cases code <;> simp only [d9,Option.bind_eq_some_iff,Option.map_eq_some_iff,reduceCtorEq] at hc
 rename_i c d
 obtain ⟨a',h1,b',h2,h3⟩:=hc
 cases h3
 refine wpIn_seq (wpIn_mono (h E U a w hh c h1) (fun e a w he=>?_))
 cases e <;> first | exact he | exact he d h2
theorem S_keep {l:List Nat} {x:AC} (h:SG P cx Q (.c x :: k) st):SG P cx Q (.c (.keep l x) :: k) st:=e8 fun code hc E U a w hh=>by
 simp only [d9,Option.map_eq_some_iff] at hc
 obtain ⟨x',h1,h2⟩:=hc
 cases h2
 exact h E U a w hh code h1
theorem tN {i sz:Nat} {ty:TypeId} {x:AC} (h:SG P cx Q (.c x :: k) st):SG P cx Q (.c (.nilrow i sz ty x) :: k) st:=e8 fun code hc E U a w hh=>by
 simp only [d9,Option.map_eq_some_iff] at hc
 obtain ⟨x',h1,h2⟩:=hc
 cases h2
 exact h E U a w hh code h1
theorem S_fz0 {l:List Nat} {x:AC} (h:SG P cx Q (.c x :: k) st):SG P cx Q (.c (.fz l x) :: k) st:=e8 fun code hc E U a w hh=>by
 simp only [d9,Option.map_eq_some_iff] at hc
 obtain ⟨x',h1,h2⟩:=hc
 cases h2
 exact h E U a w hh code h1
theorem tL {i isz:Nat} {ity:TypeId} {x:AC} (h:SG P cx Q (.c x :: k) st):SG P cx Q (.c (.deepen i isz ity x) :: k) st:=e8 fun code hc E U a w hh=>by
 simp only [d9,Option.map_eq_some_iff] at hc
 obtain ⟨x',h1,h2⟩:=hc
 cases h2
 exact h E U a w hh code h1
theorem S_block {id:Nat} {x:AC} (h:SG P cx Q (.c x :: .blk id :: k) st):SG P cx Q (.c (.block id x) :: k) st:=e8 fun code hc E U a w hh=>by
 cases code <;> simp [d9] at hc
 rename_i id' c
 obtain ⟨h1,rfl⟩:=hc
 refine wpIn_block (wpIn_mono (h E U a w hh c h1) (fun e a w he=>?_))
 cases e <;> exact he
theorem S_cond {c:Operand} {x y:AC} {b:Bool} (hb:aq P st.t c=.s (.bool b)) (h1:b=true→SG P cx Q (.c x :: k) st) (h2:b=false→SG P cx Q (.c y :: k) st):SG P cx Q (.c (.cond c x y) :: k) st:=e8 fun code hc E U a w hh=>by
 cases code <;> simp only [d9,Option.bind_eq_some_iff,Option.map_eq_some_iff,reduceCtorEq] at hc
 rename_i c' p q
 obtain ⟨a',g1,b',g2,g3⟩:=hc
 cases g3
 have he:=dJ (hb ▸ hh.ev c)
 exact wpIn_cond_split he (fun e=>h1 e E U a w hh p g1) (fun e=>h2 e E U a w hh q g2)
theorem iN {n:Nat} {ops:Array Oper}:∀ {hs:List AO} {os:List Oper} {r:List AO},jo P n ops hs os=some r→r.length=os.length∧∀ (j:Nat) o ao,os[j]? = some o→r[j]? = some ao→gf P n ops o ao
 | [],[],r,h=>by simp [jo] at h; subst h; exact ⟨rfl,fun j o ao h=>by simp at h⟩
 | [],o :: os,r,h=>by simp [jo] at h
 | x :: hs,[],r,h=>by simp [jo] at h
 | x :: hs,o :: os,r,h=>by
  simp only [jo,Option.bind_eq_some_iff] at h
  obtain ⟨ao,h1,h2⟩:=h
  split at h2
  · rename_i hb
    simp only [Option.map_eq_some_iff] at h2
    obtain ⟨r',h3,rfl⟩:=h2
    obtain ⟨g1,g2⟩:=iN h3
    refine ⟨by simp [g1],fun j o' ao' ho ha=>?_⟩
    cases j with
    | zero=>
     simp at ho ha
     subst ho ha
     simp only [Bool.and_eq_true,inB,beq_iff_eq] at hb
     obtain ⟨⟨b1,b2⟩,b3⟩:=hb
     refine ⟨⟨_,by rw [b3]; exact h1⟩,fun d hd=>?_,fun d want hd=>?_⟩
     · rw [hd] at b1; simpa using b1
     · rw [hd] at b2; simpa using b2
    | succ j=>simp at ho ha; exact g2 j o' ao' ho ha
  · cases h2
theorem vt {dr:Bool} {os:List AO} (h:DG P cx Q dr k os st):SG P cx Q (.c (.region dr os) :: k) st:=e8 fun code hc E U a w hh=>by
 cases code <;> simp only [d9,reduceCtorEq] at hc
 rename_i id ops draw
 split at hc
 · rename_i hd
   subst hd
   simp only [Option.bind_eq_some_iff] at hc
   obtain ⟨r,h3,h4⟩:=hc
   split at h4
   · rename_i hok
     simp only [Option.some.injEq,AC.region.injEq,true_and] at h4
     subst h4
     obtain ⟨g1,g2⟩:=iN h3
     have g2':∀ (j:Nat) o ao,ops[j]? = some o→r[j]? = some ao→gf P cx.n ops o ao:=fun j o ao ho ha=>g2 j o ao (by simpa using ho) ha
     cases draw with
     | false=>
      exact wpIn_region_list (pS (cx:=cx) (Q:=WE P cx Q k) (G:=SG P cx Q k) (fun st' h2 E' U' a' w' h=>h2 E' U' a' w' h) ops.toList r st E U a w g1.symm g2 h hh)
     | true=>
      obtain ⟨st',h1,h2⟩:=h
      simp only [Bool.not_true,Bool.false_or,Bool.and_eq_true] at hok
      exact rZ hok.2 (by simpa using g1.symm) g2' hok.1 h1 hh (fun E' U' a' w' h=>h2 E' U' a' w' h)
   · cases h4
 · cases hc
def LeS (s s':ASt):Prop:=(∀ i,gt s'.t i=.any∨gt s.t i=gt s'.t i)∧((s'.ch.map (·.1)).Nodup∧∀ p∈s'.ch,lk s.ch p.1=some p.2)
theorem gG.less {E:Env} {U:Nat→Prop} {h:Array Obj} {ch ch':Chs} {b:Nat} {o:Obj} (hh:gG E U h ch b o) (hs:∀ k c,(k,c)∈ch'→(k,c)∈ch):gG E U h ch' b o:=⟨hh.1,hh.2.1,fun k c hm=>hh.2.2 k c (hs k c hm)⟩
theorem Holds.le {cx:Cx} {E:Env} {U:Nat→Prop} {a:Act} {w:World} {s s':ASt} (hh:Holds P cx E U a w s) (h:LeS s s'):Holds P cx E U a w s':=by
 have hs:∀ k c,(k,c)∈s'.ch→(k,c)∈s.ch:=fun k c hm=>dG (h.2.2 (k,c) hm)
 refine ⟨hh.sz,?_,fun i=>?_,hh.inv.sub hs h.2.1,hh.os,hh.tape,hh.output,hh.size,hh.fr,hh.keepA,fun k c hm=>hh.live k c (hs k c hm),hh.base,fun k cs hk hm=>hh.fix k cs hk (hs k _ hm),fun p hp=>(hh.hid p hp).less hs,hh.gok⟩
 · obtain ⟨Ds,h1,h2,h3⟩:=hh.df
   exact ⟨Ds,h1,h2,fun D hD=>⟨(h3 D hD).1,(h3 D hD).2.less hs⟩⟩
 · rcases h.1 i with e | e
   · rw [e]; exact .d (.any _)
   · rw [← e]; exact hh.tok i
end Go.Am
end
section
namespace Go.Am
variable {P : Program} [Glob P] {cx : Cx} {Q : ASt → Prop} {k : List It} {st : ASt}
def av : List Nat→Nat→Bool
 | [],_=>false
 | j :: l,i=>if j=i then true else av l i
def bu (l:List Nat):dI→dI
 | []=>[]
 | (i,c) :: t=>if av l i=true then (i,c) :: bu l t else bu l t
theorem vW (l:List Nat) (t:dI) (i:Nat):gt (bu l t) i=.any∨gt t i=gt (bu l t) i:=by
 induction t with
 | nil=>exact .inl rfl
 | cons p t ih=>
  obtain ⟨j,c⟩:=p
  simp only [bu]
  by_cases hj:j=i
  · subst hj
    by_cases hl:av l j=true
    · rw [if_pos hl]; exact .inr (by simp [gt,lk])
    · rw [if_neg hl]
      left
      have:∀ t:dI,gt (bu l t) j=.any:=by
       intro t
       induction t with
       | nil=>rfl
       | cons q t ih2=>
        obtain ⟨m,c'⟩:=q
        simp only [bu]
        by_cases hm:av l m=true
        · rw [if_pos hm]
          have hne:m≠j:=fun e=>hl (e ▸ hm)
          simp only [gt,lk,if_neg hne] at ih2 ⊢
          exact ih2
        · rw [if_neg hm]; exact ih2
      exact this t
  · by_cases hl:av l j=true
    · rw [if_pos hl]
      simp only [gt,lk,if_neg hj] at ih ⊢
      exact ih
    · rw [if_neg hl]
      simp only [gt,lk,if_neg hj] at ih ⊢
      exact ih
theorem Holds.slots {E:Env} {U:Nat→Prop} {a:Act} {w:World} {t:dI} (hh:Holds P cx E U a w st) (ht:∀ i,Rep E U w.heap (gt t i) (a.tmps.getD i undef)):Holds P cx E U a w ⟨t,st.ch⟩:=
 ⟨hh.sz,hh.df,ht,hh.inv,hh.os,hh.tape,hh.output,hh.size,hh.fr,hh.keepA,hh.live,hh.base,hh.fix,hh.hid,hh.gok⟩
end Go.Am
end
