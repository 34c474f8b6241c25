/- Part 5 of the proof of: the statements about chapter 8 -/
import Derived.Test.YtcbabnbiinkafaaGreatDoorBu4
set_option linter.all false
set_option maxHeartbeats 8000000
set_option maxRecDepth 100000
section
namespace Go.Am
variable {P : Program} [Glob P] {E : Env} {U : Nat → Prop} {w : World}
def fW (P:Program) (n:Nat) (ops:Array Oper) (o:Oper) (ao:AO):Prop:=
 (∃ own,lU P own ao.tot ops o=some ao)/\(∀ d,ao.dst=some d->d < n)/\(∀ d want,ao.guard=some (d,want)->d < n)
theorem ln {own tot:Bool} {ops:Array Oper} {o:Oper} {ao:AO} (hc:lU P own tot ops o=some ao):ao.dst=o.dst/\gS P own o.op o.type=some ao.op:=by
 simp only[lU,zk]at hc;obtain⟨aop,h1,h2⟩:=hc;cases hgd:o.guard with
 | none=>simp only[hgd,zn]at h2;subst h2;exact⟨rfl,h1⟩
 | some jw=>
  simp only[hgd,za]at h2;obtain⟨d,hd,rfl⟩:=h2;exact⟨rfl,h1⟩
theorem oy {cx:Cx} {a:Act} {st:ASt} {ops:Array Oper} {o:Oper} {ao:AO} {ef:Eff} (hm:fW P cx.n ops o ao) (hs:StepE P ao st ef) (hh:Holds P cx E U a w st) {K:Act->World->Prop} {Q:Exit->Act->World->Prop}
 (hK:∀ E' U' a' w',Holds P cx E' U' a' w' (aw ao.dst ef st)->K a' w') :
 (Region.wanted o (yielded ops a.tmps)=true/\o.wpIn (FW cx.ro) 0 P a w K Q)\/(Region.wanted o (yielded ops a.tmps)=false/\K (a.put o.dst undef) w):=by
 obtain⟨⟨own,hc⟩,hd,hg⟩:=hm;obtain⟨f1,f2⟩:=ln hc;cases hs with
 | yes _ h hr=>
  left;refine⟨j4 hc hh.sz hg (fun d want _=>hh.tok d) h,hr.sound f2 hh.inv hh.gok (fun x _=>hh.ev x) (fun v E' U' w' h1 h2=>?_)⟩;rw[<- f1];exact hK E' U' _ w' (hh.step hd h1 h2)
 | no h=>
  right;refine⟨j4 hc hh.sz hg (fun d want _=>hh.tok d) h,?_⟩;rw[<- f1];exact hK E U _ w (hh.step (ef:=⟨True,.s undef,st.ch,[]⟩) hd (.d (.s undef)) (Ev.refl hh.inv _))
def dW (P:Program) [Glob P] (cx:Cx) (s s':ASt):Prop:=∀ E U a w,Holds P cx E U a w s->∃ E' U',Holds P cx E' U' a w s'
def jl (P:Program) [Glob P] (cx:Cx) (G:ASt->Prop):List AO->ASt->Prop
 |[],s=>G s
 | o :: os,s=>(fe s.t o.guard=some false/\jl P cx G os (aw o.dst ⟨True,.s undef,s.ch,[]⟩ s)) \/
  (fe s.t o.guard=some true/\∃ s1,dW P cx s s1/\((∃ ef,OpR P (aq P s1.t) s1.ch (o.dst.getD 0) o.op ef/\jl P cx G os (aw o.dst ef s1)) \/
   (∃ outs:Eff->Prop,OpM P cx.ro (aq P s1.t) s1.ch (o.dst.getD 0) o.op outs/\∀ ef,outs ef->jl P cx G os (aw o.dst ef s1))))
theorem pD {cx:Cx} {ops:Array Oper} {Q:Exit->Act->World->Prop} {G:ASt->Prop} (hQ:∀ st',G st'->∀ E' U' a' w',Holds P cx E' U' a' w' st'->Q .normal a' w'):∀ (l:List Oper) (aos:List AO) (st:ASt) (E:Env) (U:Nat->Prop) (a:Act) (w:World),
 l.length=aos.length->(∀ (j:Nat) o ao,l[j]? = some o->aos[j]? = some ao->fW P cx.n ops o ao)->jl P cx G aos st->Holds P cx E U a w st->wpListIn (FW cx.ro) 0 P ops Q l a w
 |[],aos,st,E,U,a,w,hl,_,hc,hh=>by
  have:aos=[]:=by cases aos <;> simp_all
  subst this;simp only[jl]at hc;exact hQ st hc E U a w hh
 | o :: l,[],st,E,U,a,w,hl,_,hc,hh=>by simp at hl
 | o :: l,ao :: aos,st,E,U,a,w,hl,hm,hc,hh=>by
  have rec_:∀ s1 ef,jl P cx G aos (aw ao.dst ef s1)->∀ E' U' a' w',Holds P cx E' U' a' w' (aw ao.dst ef s1)->wpListIn (FW cx.ro) 0 P ops Q l a' w':=fun s1 ef h2 E' U' a' w' hh'=>
   pD hQ l aos _ E' U' a' w' (by simpa using hl) (fun j o ao h1 h2=>hm (j+1) o ao (by simpa using h1) (by simpa using h2)) h2 hh'
  obtain⟨⟨own,hc'⟩,hd,hg⟩:=hm 0 o ao rfl rfl;obtain⟨f1,f2⟩:=ln hc';unfold wpListIn;rcases hc with⟨h1,h2⟩ | ⟨h1,s1,hgh,h2⟩
  . rw[qa (by rw[j4 hc' hh.sz hg (fun d want _=>hh.tok d) h1];simp)];refine⟨fun _ _=>trivial,?_⟩;rw[<- f1];exact rec_ st ⟨True,.s undef,st.ch,[]⟩ h2 E U _ w (hh.step (ef:=⟨True,.s undef,st.ch,[]⟩) hd (.d (.s undef)) (Ev.refl hh.inv _))
  . rw[qb (j4 hc' hh.sz hg (fun d want _=>hh.tok d) h1)];obtain⟨E1,U1,hh1⟩:=hgh E U a w hh;rcases h2 with⟨ef,g1,g2⟩ | ⟨outs,g1,g2⟩
    . refine g1.sound f2 hh1.inv hh1.gok (fun x _=>hh1.ev x) (fun v E' U' w' r1 r2=>?_);rw[<- f1];exact rec_ s1 ef g2 E' U' _ w' (hh1.step hd r1 r2)
    . refine g1 own o a E1 U1 w f2 hh1.inv hh1.gok (fun x _=>hh1.ev x) _ _ (fun ef hef v E' U' w' r1 r2=>?_);rw[<- f1];exact rec_ s1 ef (g2 ef hef) E' U' _ w' (hh1.step hd r1 r2)
end Go.Am
end
section
namespace Go.Am
variable {P : Program} {E : Env} {U : Nat → Prop} {w : World}
section folds
variable {α : Type}
def dR : List (α->α)->(Nat->Bool)->Nat->α->α
 |[],_,_,a=>a
 | f :: r,S,i,a=>dR r S (i+1) (if S i then f a else a)
theorem d9 : ∀ (fs:List (α->α)) (S S':Nat->Bool) (i:Nat) (a:α),(∀ k f,fs[k]? = some f->S (i+k)=S' (i+k)\/∀ a,f a=a)->dR fs S i a=dR fs S' i a
 |[],_,_,_,_,_=>rfl
 | f :: r,S,S',i,a,h=>by
  simp only[dR];have h0:=h 0 f rfl;have e:(if S i then f a else a)=if S' i then f a else a:=by
   rcases h0 with h0 | h0
   . rw[zL]at h0;rw[h0]
   . rw[h0 a];split <;> split <;> rfl
  rw[e];exact d9 r S S' (i+1) _ (fun k g hk=>by have:=h (k+1) g (by simpa using hk);rwa[show i+(k+1)=i+1+k from by omega]at this)
theorem gD (fs:List (α->α)) (S:Nat->Bool) (i:Nat) (a:α) (h:∀ k f,fs[k]? = some f->S (i+k)=true->∀ a,f a=a):dR fs S i a=a:=by
 have:dR fs S i a=dR fs (fun _=>false) i a:=d9 fs S _ i a (fun k f hk=>by
  cases hs:S (i+k)with
  | false=>exact .inl rfl
  | true=>exact .inr (h k f hk hs))
 rw[this];clear this h
 induction fs generalizing i with
 | nil=>rfl
 | cons f r ih=>simp only[dR,zr,qi];exact ih (i+1)
theorem lC : ∀ (fs:List (α->α)) (S:Nat->Bool) (i:Nat) (a:α) (k:Nat) (f:α->α),fs[k]? = some f->S (i+k)=false->(∀ k' g,k < k'->fs[k']? = some g->S (i+k')=true->∀ a,g a=a) ->
 dR fs (fun n=>n == i+k || S n) i a=f (dR fs S i a)
 |[],_,_,_,k,f,h,_,_=>by simp at h
 | g :: r,S,i,a,0,f,h,hs,hl=>by
  simp at h;subst h;rw[zL]at hs;simp only[dR,zL,beq_self_eq_true,yz,qj,hs,zr,qi]
  have l1:∀ a,dR r (fun n=>n == i || S n) (i+1) a=a:=fun a=>gD r _ (i+1) a (fun k f hk hs'=>by
   refine hl (k+1) f (by omega) (by simpa using hk) ?_;have hne:(i+1+k == i)=false:=by simp;omega
   simp only[hne,zF]at hs'
   rwa[show i+(k+1)=i+1+k from by omega])
  have l2:∀ a,dR r S (i+1) a=a:=fun a=>gD r _ (i+1) a (fun k f hk hs'=>hl (k+1) f (by omega) (by simpa using hk) (by rwa[show i+(k+1)=i+1+k from by omega]))
  rw[l1,l2]
 | g :: r,S,i,a,k+1,f,h,hs,hl=>by
  have hne:(i == i+(k+1))=false:=by simp
  simp only[dR,hne,zF];have:=lC r S (i+1) (if S i then g a else a) k f (by simpa using h) (by rwa[show i+1+k=i+(k+1)from by omega]) (fun k' g' hk hg hs'=>hl (k'+1) g' (by omega) (by simpa using hg) (by rwa[show i+(k'+1)=i+1+k' from by omega]));rwa[show i+1+k=i+(k+1)from by omega]at this
theorem lD {β:Type} (π:α->β):∀ (fs:List (α->α)) (gs:List (β->β)) (S:Nat->Bool) (i:Nat) (a:α),fs.length=gs.length->(∀ (k:Nat) f g,fs[k]? = some f->gs[k]? = some g->∀ a,π (f a)=g (π a))->π (dR fs S i a)=dR gs S i (π a)
 |[],gs,_,_,_,hl,_=>by
  have:gs=[]:=by cases gs <;> simp_all
  subst this;rfl
 | f :: fs,[],_,_,_,hl,_=>by simp at hl
 | f :: fs,g :: gs,S,i,a,hl,h=>by
  simp only[dR];rw[lD π fs gs S (i+1) _ (by simpa using hl) (fun k f' g' h1 h2=>h (k+1) f' g' (by simpa using h1) (by simpa using h2))];have:=h 0 f g rfl rfl a;cases hs:S i <;> simp[this]
theorem nC : ∀ (fs:List (α->α)) (S:Nat->Bool) (i:Nat) (c:α),(∀ k f,fs[k]? = some f->S (i+k)=true->f c=c)->dR fs S i c=c
 |[],_,_,_,_=>rfl
 | f :: r,S,i,c,h=>by
  simp only[dR];have e:(if S i then f c else c)=c:=by
   cases hs:S i with
   | false=>rfl
   | true=>exact h 0 f rfl (by simpa using hs)
  rw[e];exact nC r S (i+1) c (fun k g hk hs=>h (k+1) g (by simpa using hk) (by rwa[show i+(k+1)=i+1+k from by omega]))
theorem js : ∀ (fs:List (α->α)) (S:Nat->Bool) (i:Nat) (a c:α) (j:Nat),(∀ k f,fs[k]? = some f->i+k < j->S (i+k)=true\/∀ a,f a=a)->(∀ k f,fs[k]? = some f->j<=i+k->S (i+k)=true->f c=c) ->
 dR fs (fun n=>decide (n < j)) i a=c->dR fs S i a=c
 |[],_,_,_,_,_,_,_,h=>h
 | f :: r,S,i,a,c,j,h1,h2,h3=>by
  have n1:∀ k g,r[k]? = some g->i+1+k < j->S (i+1+k)=true\/∀ a,g a=a:=fun k g hk hj=>by
   have:=h1 (k+1) g (by simpa using hk) (by omega);rwa[show i+(k+1)=i+1+k from by omega]at this
  have n2:∀ k g,r[k]? = some g->j<=i+1+k->S (i+1+k)=true->g c=c:=fun k g hk hj hs=>h2 (k+1) g (by simpa using hk) (by omega) (by rwa[show i+(k+1)=i+1+k from by omega])
  simp only[dR]at h3 ⊢;by_cases hij:i < j
  . simp only[hij,decide_true,qj]at h3;have e:(if S i then f a else a)=f a:=by
     rcases h1 0 f rfl (by omega)with h | h
     . rw[zL]at h;rw[h];rfl
     . rw[h a];split <;> rfl
    rw[e];exact js r S (i+1) (f a) c j n1 n2 h3
  . simp only[hij,decide_false,zr,qi]at h3;have hk:dR r (fun n=>decide (n < j)) (i+1) a=a:=gD r _ (i+1) a (fun k g _ hs=>by simp at hs;omega);have hac:a=c:=hk.symm.trans h3;subst hac;have e:(if S i then f a else a)=a:=by
     cases hs:S i with
     | false=>rfl
     | true=>exact h2 0 f rfl (by omega) (by simpa using hs)
    rw[e];exact js r S (i+1) a a j n1 n2 hk
theorem jU : ∀ (fs:List (α->α)) (S:Nat->Bool) (i:Nat) (a c:α) (k:Nat) (f:α->α),fs[k]? = some f->S (i+k)=true->(∀ a,f a=c)->(∀ k' g,k < k'->fs[k']? = some g->S (i+k')=true->g c=c)->dR fs S i a=c
 |[],_,_,_,_,k,f,h,_,_,_=>by simp at h
 | g :: r,S,i,a,c,0,f,h,hs,hc,hl=>by
  simp at h;subst h;rw[zL]at hs;simp only[dR,hs,qj,hc];exact nC r S (i+1) c (fun k f' hk hs'=>hl (k+1) f' (by omega) (by simpa using hk) (by rwa[show i+(k+1)=i+1+k from by omega]))
 | g :: r,S,i,a,c,k+1,f,h,hs,hc,hl=>by
  simp only[dR];exact jU r S (i+1) _ c k f (by simpa using h) (by rwa[show i+1+k=i+(k+1)from by omega]) hc (fun k' g' hk hg hs'=>hl (k'+1) g' (by omega) (by simpa using hg) (by rwa[show i+(k'+1)=i+1+k' from by omega]))
end folds
end Go.Am
end
section
namespace Go.Am
variable {P : Program} {E : Env} {U : Nat → Prop} {w : World}
def dL (o:Oper):List Nat:=(o.after.toList.filter (Region.binds .any)).map (·.on)
def iX : List (List Nat)->List Nat->List Nat
 |[],acc=>acc
 | p :: r,acc=>iX r (acc++[p.foldl (fun m i=>m ||| 2 ^ i ||| acc.getD i 0) 0])
theorem pq (acc:List Nat) (i:Nat):∀ (p:List Nat) (m:Nat),(p.foldl (fun m i=>m ||| 2 ^ i ||| acc.getD i 0) m).testBit i=true->m.testBit i=true\/∃ q∈p,q=i\/(acc.getD q 0).testBit i=true
 |[],m,h=>.inl h
 | q :: p,m,h=>by
  simp only[List.foldl_cons]at h;rcases pq acc i p _ h with h | ⟨q',h1,h2⟩
  . simp only[Nat.testBit_or,zV,Nat.testBit_two_pow,qf]at h;rcases h with (h | h) | h
    . exact .inl h
    . exact .inr ⟨q,zq,.inl h⟩
    . exact .inr ⟨q,zq,.inr h⟩
  . exact .inr ⟨q',zo _ h1,h2⟩
theorem gE {all:List (List Nat)} {S:Nat->Bool} (hS:∀ (j:Nat) l,all[j]? = some l->S j=true->∀ p∈l,S p=true) (hlt:∀ (j:Nat) l,all[j]? = some l->∀ p∈l,p < j) :
 ∀ (ps:List (List Nat)) (acc:List Nat),ps=all.drop acc.length->(∀ j i,j < acc.length->(acc.getD j 0).testBit i=true->∀ l,all[j]? = some l->(∀ p∈l,S p=true)->S i=true) ->
  ∀ j i,((iX ps acc).getD j 0).testBit i=true->∀ l,all[j]? = some l->(∀ p∈l,S p=true)->S i=true
 |[],acc,hp,ha,j,i,h,l,hl,hall=>by
  simp only[iX]at h;by_cases hj:j < acc.length
  . exact ha j i hj h l hl hall
  . have:acc.getD j 0=0:=by simp[zb,List.getElem?_eq_none (Nat.le_of_not_lt hj)]
    rw[this]at h;simp at h
 | p :: r,acc,hp,ha,j,i,h,l,hl,hall=>by
  have hp0:all[acc.length]? = some p:=by
   have:(all.drop acc.length)[0]? = some p:=by rw[<- hp];rfl
   simpa using this
  have hr:r=all.drop (acc++[p.foldl (fun m i=>m ||| 2 ^ i ||| acc.getD i 0) 0]).length:=by
   have:(all.drop acc.length).drop 1=r:=by rw[<- hp];rfl
   rw[<- this];simp
  refine gE hS hlt r _ hr (fun j i hj hb l hl hall=>?_) j i (by simpa only[iX]using h) l hl hall;simp only[zK,zQ,yh,zz]at hj;by_cases hj2:j < acc.length
  . rw[zb,yj hj2,<- zb]at hb;exact ha j i hj2 hb l hl hall
  . have hje:j=acc.length:=by omega
    subst hje;rw[zb,List.getElem?_append_right (zw _)]at hb;simp only[Nat.sub_self,zD,zN]at hb;rw[hp0]at hl;cases hl;rcases pq acc i p 0 hb with h0 | ⟨q,hq,rfl | hq2⟩
    . simp at h0
    . exact hall _ hq
    . have hql:q < acc.length:=hlt _ _ hp0 q hq;cases hlq:all[q]? with
      | none=>
       have:=List.getElem?_eq_none_iff.1 hlq;have:=(zi.1 hp0).1;omega
      | some lq=>exact ha q i hql hq2 lq hlq (hS q lq hlq (hall q hq))
def AO.slots (o:AO):List Nat:=
 (o.op.reads.filterMap fun x=>match x with | .tmp t=>some t | _=>none)++(match o.guard with | some (g,_)=>[g] | none=>[])
def AO.apart (x y:AO):Bool:=
 (match x.dst with
  | some d=>!(y.slots.contains d) && y.dst != some d
  | none=>true) &&
 (match y.dst with
  | some d=>!(x.slots.contains d)
  | none=>true)
def AO.mvs (x:AO):Bool:=
 match x.op,x.guard with
 |.mvs _,none=>!x.tot
 |_,_=>false
def ni (ops:Array Oper) (aos:List AO):Bool:=
 let ps:=ops.toList.map dL
 let ms:=iX ps []
 (ps.zipIdx.all fun p=>p.1.all (· < p.2)) &&
 (aos.zipIdx.all fun y=>aos.zipIdx.all fun x=>!(decide (x.2 < y.2)) || (ms.getD y.2 0).testBit x.2 || (x.1.apart y.1 && !x.1.tot && (!y.1.tot || x.1.mvs)))
def lW (e:Nat) (rb:List Nat) (ops:Array Oper) (aos:List AO):Bool:=
 if e=999 then
  ((ops.toList.map dL).zipIdx.all fun p=>p.1.all (· < p.2)) && rb.all fun c=>decide (c % 100 < ops.size) && ((iX (ops.toList.map dL) []).getD (c % 100) 0).testBit (c / 100)
 else
 let ps:=ops.toList.map dL
 let ms:=iX ps []
 (ps.zipIdx.all fun p=>p.1.all (· < p.2)) && ((aos[e]?).any fun x=>x.tot) && !(rb.contains e) &&
 (aos.zipIdx.all fun y=>aos.zipIdx.all fun x=>!(decide (x.2 < y.2)) || (ms.getD y.2 0).testBit x.2 ||
  (x.1.apart y.1 && ((!x.1.tot && !y.1.tot) || (y.2 == e && !x.1.tot && rb.contains x.2) || (x.2 == e && !y.1.tot && rb.contains y.2))))
theorem fh {x y:AO} (h:x.apart y=true):(∀ d,x.dst=some d->d∉y.slots/\y.dst≠some d)/\(∀ d,y.dst=some d->d∉x.slots):=by
 simp only[AO.apart,zm]at h;refine⟨fun d hd=>?_,fun d hd=>?_⟩
 . rw[hd]at h;simp at h;exact⟨h.1.1,h.1.2⟩
 . rw[hd]at h;simp at h;exact h.2
end Go.Am
end
section
namespace Go.Am
variable {P : Program} {E : Env} {U : Nat → Prop} {w : World}
variable [Glob P]
theorem tU {t t':dJ} {o:AO} (h:∀ i∈o.slots,gt t i=gt t' i):∀ x∈o.op.reads,aq P t x=aq P t' x:=fun x hx=>by
 cases x with
 | tmp i=>exact h i (zW.2 (.inl (List.mem_filterMap.2 ⟨.tmp i,hx,rfl⟩)))
 |_=>rfl
theorem OpR.congr {ρ ρ':Operand->C} {ch:Chs} {d:Nat} {op:AOp} {ef:Eff} (h:OpR P ρ ch d op ef) (he:∀ x∈op.reads,ρ x=ρ' x):OpR P ρ' ch d op ef:=by
 cases h with
 | f h hc=>exact .f (by rw[<- h];exact (pB he).symm) hc
 | call h=>
  rename_i fo aS r chs chs' od;have e1:ρ fo=ρ' fo:=he fo (by simp[AOp.reads]);have e2:aS.map ρ=aS.map ρ':=zH fun x hx=>he x (by simp only[AOp.reads];exact zo _ hx)
  have hx:=h.ex;rw[e1,e2]at hx;exact .call ⟨hx,h.nd,h.hnk,h.new,h.old,h.kr,h.kc⟩
 | callK h hp hr=>
  rename_i fo aS r chs;have e1:ρ fo=ρ' fo:=he fo (by simp[AOp.reads]);have e2:aS.map ρ=aS.map ρ':=zH fun x hx=>he x (by simp only[AOp.reads];exact zo _ hx)
  have hx:=h.ex;rw[e1,e2]at hx;exact .callK ⟨hx,h.nd,h.hnk,h.new,h.old,h.kr,h.kc⟩ hp hr
 | take hmv hs hr hl hq hh hks hsm h1 h2 h=>exact .take hmv (by rw[<- he _ hr];exact hs) hr hl hq hh hks hsm h1 (fun x hx hn=>by rw[<- he x hx];exact h2 x hx hn) h
theorem StepE.congr {o:AO} {st st':ASt} {ef:Eff} (h:StepE P o st ef) (hs:∀ i∈o.slots,gt st.t i=gt st'.t i) (hc:st.ch=st'.ch):StepE P o st' ef:=by
 have hw:fe st.t o.guard=fe st'.t o.guard:=by
  cases hg:o.guard with
  | none=>rfl
  | some g=>
   obtain⟨g,want⟩:=g;simp only[fe,hs g (zW.2 (.inr (by simp[hg])))]
 cases h with
 | yes _ h hr=>exact .yes ef (hw ▸ h) (hc ▸ hr.congr (tU hs))
 | no h=>rw[hc];exact .no (hw ▸ h)
theorem Holds.ext {cx:Cx} {a:Act} {st st':ASt} (h:Holds P cx E U a w st) (ht:∀ i,gt st.t i=gt st'.t i) (hc:st.ch=st'.ch):Holds P cx E U a w st':=
 ⟨h.sz,hc ▸ h.df,fun i=>ht i ▸ h.tok i,hc ▸ h.inv,h.os,h.tape,h.output,h.size,h.fr,h.keepA,hc ▸ h.live,h.base,hc ▸ h.fix,hc ▸ h.hid,h.gok⟩
end Go.Am
end
section
namespace Go.Am
variable {P : Program} [Glob P]
def ej (x:Nat) (p:AO×Eff) (c:C):C:=if p.1.dst=some x then p.2.v else ah p.2.sub c
def chF (p:AO×Eff) (h:Chs):Chs:=if p.1.tot then p.2.ch else h
def stF (p:AO×Eff) (s:ASt):ASt:=⟨aU p.1.dst p.2.sub p.2.v s.t,chF p s.ch⟩
theorem fm (dst:Option Nat) (m:List (Nat×Sb)) (v:C) (t:dJ) (x:Nat):gt (aU dst m v t) x=if dst=some x then v else ah m (gt t x):=by
 cases dst with
 | none=>simp[aU,ie]
 | some d=>simp[aU,fF,ie]
def stS (ps:List (AO×Eff)) (S:Nat->Bool) (s:ASt):ASt:=dR (ps.map stF) S 0 s
theorem eQ (ps:List (AO×Eff)) (S:Nat->Bool) (s:ASt) (x:Nat):gt (stS ps S s).t x=dR (ps.map (ej x)) S 0 (gt s.t x):=
 lD (fun s:ASt=>gt s.t x) (ps.map stF) (ps.map (ej x)) S 0 s (by simp) (fun k f g h1 h2 a=>by
  simp only[zh,za]at h1 h2;obtain⟨p,hp,rfl⟩:=h1;obtain⟨q,hq,rfl⟩:=h2;rw[hp]at hq;cases hq
  simp only[stF,ej,fm])
theorem fg (ps:List (AO×Eff)) (S:Nat->Bool) (s:ASt):(stS ps S s).ch=dR (ps.map chF) S 0 s.ch:=
 lD (fun s:ASt=>s.ch) (ps.map stF) (ps.map chF) S 0 s (by simp) (fun k f g h1 h2 a=>by
  simp only[zh,za]at h1 h2;obtain⟨p,hp,rfl⟩:=h1;obtain⟨q,hq,rfl⟩:=h2;rw[hp]at hq;cases hq
  rfl)
theorem nc : ∀ (aos:List AO) (s s':ASt),iu P true aos s s'->∃ efs:List Eff,efs.length=aos.length /\
 (∀ (j:Nat) ao ef,aos[j]? = some ao->efs[j]? = some ef->StepE P ao (stS (aos.zip efs) (fun i=>decide (i < j)) s) ef/\(ao.tot=true\/(ef.ch=(stS (aos.zip efs) (fun i=>decide (i < j)) s).ch/\ef.sub=[]))) /\
 s'=stS (aos.zip efs) (fun i=>decide (i < aos.length)) s
 |[],s,s',h=>by
  simp only[iu]at h;subst h;exact⟨[],rfl,fun j ao ef h=>by simp at h,rfl⟩
 | o :: os,s,s',h=>by
  obtain⟨ef,h1,h2,h3⟩:=h;have hp:aw o.dst ef s=stF (o,ef) s:=by
   simp only[aw,stF,chF];rcases h2 rfl with h | ⟨h,_⟩
   . rw[qb h]
   . by_cases ht:o.tot=true
     . rw[qb ht]
     . rw[qa ht,h]
  rw[hp]at h3;obtain⟨efs,l1,l2,l3⟩:=nc os _ s' h3;have shift:∀ j,stS (os.zip efs) (fun i=>decide (i < j)) (stF (o,ef) s)=stS ((o :: os).zip (ef :: efs)) (fun i=>decide (i < j+1)) s:=fun j=>by
   simp only[stS,List.zip_cons_cons,zt,dR,Nat.zero_lt_succ,decide_true,qj];have:∀ (fs:List (ASt->ASt)) (k:Nat) (a:ASt),dR fs (fun i=>decide (i < j)) k a=dR fs (fun i=>decide (i < j+1)) (k+1) a:=by
    intro fs
    induction fs with
    | nil=>intro k a;rfl
    | cons f r ih=>
     intro k a;simp only[dR];rw[ih];by_cases hk:k < j
     . simp[hk]
     . simp[hk]
   exact this _ 0 _
  refine⟨ef :: efs,by simp[l1],fun j ao e hj he=>?_,?_⟩
  . cases j with
    | zero=>
     simp at hj he;subst hj he;have e0:stS ((o :: os).zip (ef :: efs)) (fun i=>decide (i < 0)) s=s:=gD _ _ 0 s (fun k f _ hs=>by simp at hs);rw[e0];exact⟨h1,h2 rfl⟩
    | succ j=>
     simp at hj he;rw[<- shift j];exact l2 j ao e hj he
  . rw[l3,shift];rfl
theorem fO (l:Array Bool) (j i:Nat) (hj:j < l.size):(l.setIfInBounds j true).getD i false=(i == j || l.getD i false):=by
 simp only[zc,yl];by_cases h:j=i
 . subst h;simp[hj]
 . rw[qa h];have:(i == j)=false:=by simp;exact fun e=>h e.symm
   simp[this]
theorem jG {m:Nat} {f:Nat->Bool} (h:∃ i,i < m/\f i=false):∃ i,i < m/\f i=false/\∀ k,k < i->f k=true:=by
 induction m with
 | zero=>obtain⟨i,hi,_⟩:=h;omega
 | succ m ih=>
  by_cases h2:∃ i,i < m/\f i=false
  . obtain⟨i,h3,h4,h5⟩:=ih h2;exact⟨i,by omega,h4,h5⟩
  . obtain⟨i,h3,h4⟩:=h;have hi:i=m:=by
     by_cases hlt:i < m
     . exact absurd ⟨i,hlt,h4⟩ h2
     . omega
    subst hi;refine⟨i,h3,h4,fun k hk=>?_⟩;cases hf:f k with
    | true=>rfl
    | false=>exact absurd ⟨k,hk,hf⟩ h2
end Go.Am
end
section
namespace Go.Am
variable {P : Program} [Glob P]
section draw
variable {cx : Cx} {ops : Array Oper} {aos : List AO} {st st' : ASt} {efs : List Eff} {Q : Exit → Act → World → Prop}
theorem lr {m:Nat} {S:Nat->Bool} {j:Nat} (hj:j < m) (hs:S j=false):((List.range m).countP fun i=>!(i == j || S i))+1=(List.range m).countP fun i=>!(S i):=by
 induction m with
 | zero=>omega
 | succ m ih=>
  simp only[List.range_succ,List.countP_append,List.countP_cons,List.countP_nil,zz];by_cases h:j=m
  . subst h;have e:((List.range j).countP fun i=>!(i == j || S i))=(List.range j).countP fun i=>!(S i):=by
     apply List.countP_congr;intro i hi;have:i≠j:=by have:=zE.1 hi;omega
     simp[this]
    rw[e];simp[hs]
  . have:=ih (by omega);have hb:(m == j)=false:=by simp;omega
    rw[hb];simp only[zF];omega
theorem vh (hops:ops.size=aos.length) (hef:efs.length=aos.length) (hm:∀ (j:Nat) o ao,ops[j]? = some o->aos[j]? = some ao->fW P cx.n ops o ao) (hok:ni ops aos=true)
 (hch:∀ (j:Nat) ao ef,aos[j]? = some ao->efs[j]? = some ef->StepE P ao (stS (aos.zip efs) (fun i=>decide (i < j)) st) ef/\(ao.tot=true\/(ef.ch=(stS (aos.zip efs) (fun i=>decide (i < j)) st).ch/\ef.sub=[])))
 (hfin:st'=stS (aos.zip efs) (fun i=>decide (i < aos.length)) st) (hQ:∀ E' U' a' w',Holds P cx E' U' a' w' st'->Q .normal a' w') :
 ∀ (fuel:Nat) (listed:Array Bool) (E:Env) (U:Nat->Prop) (a:Act) (w:World),listed.size=ops.size->((List.range ops.size).countP fun i=>!(listed.getD i false))=fuel ->
  (∀ (j:Nat) o,ops[j]? = some o->listed.getD j false=true->∀ p∈dL o,listed.getD p false=true) ->
  Holds P cx E U a w (stS (aos.zip efs) (fun i=>listed.getD i false) st)->wpAnyIn (FW cx.ro) 0 P .any ops Q fuel listed a w:=by
 simp only[ni,zm]at hok;obtain⟨hok1,hok2⟩:=hok;have hlt:∀ (j:Nat) l,(ops.toList.map dL)[j]? = some l->∀ p∈l,p < j:=fun j l hj p hp=>by
  have hz:(l,j)∈(ops.toList.map dL).zipIdx:=by
   rw[zG];exact hj
  have:=zx.1 hok1 (l,j) hz;simpa using zx.1 this p hp
 have hpair:∀ (i j:Nat) x y,aos[i]? = some x->aos[j]? = some y->i < j->((iX (ops.toList.map dL) []).getD j 0).testBit i=true\/(x.apart y=true/\x.tot=false/\(y.tot=false\/x.mvs=true)):=fun i j x y hx hy hij=>by
  have h1:=zx.1 hok2 (y,j) (by rw[zG];exact hy);have h2:=zx.1 h1 (x,i) (by rw[zG];exact hx);simp only[hij,decide_true,Bool.not_true,zF,zV,zm]at h2;rcases h2 with h2 | ⟨⟨h3,h4⟩,h5⟩
  . exact .inl h2
  . exact .inr ⟨h3,by simpa using h4,by simpa using h5⟩
 have hmv:∀ (j:Nat) ao ef,aos[j]? = some ao->efs[j]? = some ef->ao.mvs=true->ao.tot=false/\(∀ x∈ao.slots,∃ v,gt (stS (aos.zip efs) (fun i=>decide (i < j)) st).t x=.s v)/\(∃ v,ef.v=.s v) /\
  ∀ s:ASt,(∀ x∈ao.slots,gt s.t x=gt (stS (aos.zip efs) (fun i=>decide (i < j)) st).t x)->StepE P ao s ⟨ef.cond,ef.v,s.ch,[]⟩:=fun j ao ef hao hefj hm=>by
  obtain⟨hs,_⟩:=hch j ao ef hao hefj;obtain⟨dst,guard,op,tot⟩:=ao;unfold AO.mvs at hm;split at hm
  . rename_i x0 hop hgd;simp only at hop hgd;subst hop hgd;have ht:tot=false:=by simpa using hm
    subst ht;cases hs with
    | no h=>simp[fe]at h
    | yes _ h hr=>
     cases hr with
     | f hf hc=>
      simp only[ai]at hf;split at hf
      . rename_i v hv;cases hf;refine⟨rfl,fun x hx=>?_,⟨v,rfl⟩,fun s hsl=>.yes _ rfl (.f ?_ trivial)⟩
        . simp only[AO.slots,AOp.reads,z4,List.mem_filterMap,zg]at hx;obtain⟨y,rfl,hy⟩:=hx;cases y with
          | tmp t=>simp only[zn]at hy;subst hy;exact⟨v,hv⟩
          |_=>cases hy
        . have e:aq P s.t x0=.s v:=by
           cases x0 with
           | tmp t=>
            have:=hsl t (by simp[AO.slots,AOp.reads]);exact this.trans hv
           |_=>exact hv
          simp only[ai,e]
      . cases hf
     | take hmv=>exact absurd rfl (hmv _)
  . cases hm
 have hz:∀ (j:Nat) ao ef,aos[j]? = some ao->efs[j]? = some ef->(aos.zip efs)[j]? = some (ao,ef):=fun j ao ef h1 h2=>by
  rw[List.getElem?_zip_eq_some];exact⟨h1,h2⟩
 have hz':∀ (j:Nat) p,(aos.zip efs)[j]? = some p->aos[j]? = some p.1/\efs[j]? = some p.2:=fun j p h=>by
  obtain⟨x,y⟩:=p;rw[List.getElem?_zip_eq_some]at h;exact h
 have hpure:∀ (j:Nat) p,(aos.zip efs)[j]? = some p->p.1.tot=false->p.2.sub=[]:=fun j p h ht=>by
  obtain⟨h1,h2⟩:=hz' j p h;rcases (hch j p.1 p.2 h1 h2).2 with h | h
  . rw[ht]at h;cases h
  . exact h.2
 have atEnd:∀ (listed:Array Bool) (E:Env) (U:Nat->Prop) (a:Act) (w:World),(∀ i,i < ops.size->listed.getD i false=true)->Holds P cx E U a w (stS (aos.zip efs) (fun i=>listed.getD i false) st)->Q .normal a w:=fun listed E U a w hall hh=>by
  have hag:∀ {α:Type} (g:AO×Eff->α->α) (c:α),dR ((aos.zip efs).map g) (fun i=>listed.getD i false) 0 c=dR ((aos.zip efs).map g) (fun i=>decide (i < aos.length)) 0 c:=fun g c=>
   d9 _ _ _ 0 c (fun k f hk=>by
    have hk':=(zi.1 hk).1;simp only[zy,List.length_zip,hef,Nat.min_self]at hk';left
    simp only[zz,hall k (by omega),hk',decide_true])
  refine hQ E U a w (hh.ext (fun i=>?_) ?_)
  . rw[hfin,eQ,eQ];exact hag _ _
  . rw[hfin,fg,fg];exact hag _ _
 intro fuel
 induction fuel with
 | zero=>
  intro listed E U a w hls hcnt hcl hh;have hall:∀ i,i < ops.size->listed.getD i false=true:=fun i hi=>by
   have:=yk.1 hcnt i (zE.2 hi);simpa using this
  refine⟨?_,atEnd listed E U a w hall hh⟩;apply yi.2;intro i hi hf;simp only[zm]at hf;have hi':=zE.1 hi;have h1:=hall i hi';have h2:listed.getD i true=listed.getD i false:=by
   have hlt:i < listed.size:=by omega
   simp[zc,zj hlt]
  rw[h2,h1]at hf;simp at hf
 | succ fuel ih=>
  intro listed E U a w hls hcnt hcl hh;have hsome:∃ i,i < ops.size/\listed.getD i false=false:=by
   rcases qh (∃ i,i < ops.size/\listed.getD i false=false)with h | h
   . exact h
   . exfalso
     have:((List.range ops.size).countP fun i=>!(listed.getD i false))=0:=yk.2 (fun i hi=>by
      cases hf:listed.getD i false with
      | true=>simp
      | false=>exact absurd ⟨i,zE.1 hi,hf⟩ h)
     omega
  have hgd:∀ i,i < ops.size->listed.getD i true=listed.getD i false:=fun i hi=>by
   have hlt:i < listed.size:=by omega
   simp[zc,zj hlt]
  refine⟨fun hnil=>?_,fun j hj=>?_⟩
  . exfalso
    obtain⟨i,h1,h2,h3⟩:=jG hsome;have hnot:=yi.1 hnil i (zE.2 h1);apply hnot;obtain⟨o,ho⟩:∃ o,ops[i]? = some o:=⟨_,zj h1⟩;simp only[zm];refine⟨by rw[hgd i h1,h2];rfl,?_⟩;simp only[ho,zU,zN];rw[yn];intro e he;simp only[zV];by_cases hb:Region.binds .any e=true
    . right;have hp:e.on∈dL o:=zu.2 ⟨e,yf.2 ⟨by simpa using he,hb⟩,rfl⟩;exact h3 _ (hlt i (dL o) (by simp[ho]) _ hp)
    . left;simpa using hb
  . have hj2:=yf.1 hj;have hjm:=zE.1 hj2.1;have hjr:=hj2.2;simp only[zm]at hjr;obtain⟨o,ho⟩:∃ o,ops[j]? = some o:=⟨_,zj hjm⟩;obtain⟨ao,hao⟩:∃ ao,aos[j]? = some ao:=⟨_,ze (by omega)⟩;obtain⟨ef,hefj⟩:∃ ef,efs[j]? = some ef:=⟨_,ze (by omega)⟩;have hSj:listed.getD j false=false:=by
     have:=hjr.1;rw[hgd j hjm]at this;simpa using this
    have hpreds:∀ p∈dL o,listed.getD p false=true:=fun p hp=>by
     obtain⟨e,he,rfl⟩:=zu.1 hp;obtain⟨he1,he2⟩:=yf.1 he;have:=hjr.2;simp only[ho,zU,zN]at this;rw[yn]at this;have:=this e (by simpa using he1);simpa[he2]using this
    have hclS:∀ (i:Nat) l,(ops.toList.map dL)[i]? = some l->listed.getD i false=true->∀ p∈l,listed.getD p false=true:=fun i l hi hs p hp=>by
     simp only[zh,za,zM]at hi;obtain⟨o',ho',rfl⟩:=hi;exact hcl i o' ho' hs p hp
    have hbef:∀ i x,aos[i]? = some x->i < j->listed.getD i false=true\/(x.apart ao=true/\x.tot=false/\(ao.tot=false\/x.mvs=true)):=fun i x hx hij=>by
     rcases hpair i j x ao hx hao hij with h | h
     . left;exact gE hclS hlt (ops.toList.map dL) [] (by simp) (fun j i h=>by simp at h) j i h (dL o) (by simp[ho]) hpreds
     . exact .inr h
    have haft:∀ i x,aos[i]? = some x->j < i->listed.getD i false=true->(ao.apart x=true/\ao.tot=false/\(x.tot=false\/ao.mvs=true)):=fun i x hx hij hs=>by
     rcases hpair j i ao x hao hx hij with h | h
     . exfalso
       obtain⟨o',ho'⟩:∃ o',ops[i]? = some o':=⟨_,zj (by have:=(zi.1 hx).1;omega)⟩;have:=gE hclS hlt (ops.toList.map dL) [] (by simp) (fun j i h=>by simp at h) i j h (dL o') (by simp[ho']) (hcl i o' ho' hs);rw[hSj]at this;cases this
     . exact h
    obtain⟨hst,hpu⟩:=hch j ao ef hao hefj;have hgo:∃ ef2,StepE P ao (stS (aos.zip efs) (fun i=>listed.getD i false) st) ef2/\(∀ E' U' a' w',Holds P cx E' U' a' w' (aw ao.dst ef2 (stS (aos.zip efs) (fun i=>listed.getD i false) st))->Holds P cx E' U' a' w' (stS (aos.zip efs) (fun i=>(listed.setIfInBounds j true).getD i false) st)):=by
     cases hmvs:ao.mvs with
     | true=>
      obtain⟨m1,m2,⟨v0,m3⟩,m4⟩:=hmv j ao ef hao hefj hmvs;have hpj:ef.sub=[]:=hpure j (ao,ef) (hz j ao ef hao hefj) m1;have hlate:∀ (x:Nat) (v:Value) (k:Nat) (p:AO×Eff),(aos.zip efs)[k]? = some p->j < k->listed.getD k false=true->p.1.dst≠some x->ej x p (.s v)=.s v:=fun x v k p hp hk hs hne=>by
       simp only[ej];rw[qa hne];cases hm:p.2.sub <;> simp[ah]
      have hslots:∀ x∈ao.slots,gt (stS (aos.zip efs) (fun i=>listed.getD i false) st).t x=gt (stS (aos.zip efs) (fun i=>decide (i < j)) st).t x:=fun x hx=>by
       obtain⟨v,hv⟩:=m2 x hx;rw[hv];rw[eQ]at hv ⊢;refine js _ _ 0 _ _ j (fun k f hk hkj=>?_) (fun k f hk hkj hs=>?_) hv
       . simp only[zh,za]at hk;obtain⟨p,hp,rfl⟩:=hk;obtain⟨g1,g2⟩:=hz' k p hp;simp only[zz]at hkj ⊢;rcases hbef k p.1 g1 hkj with h1 | ⟨h1,h2,h3⟩
         . exact .inl h1
         . right;intro c;have:=(fh h1).1;simp only[ej,hpure k p hp h2,eC];rw[qa (fun e=>(this x e).1 hx)]
       . simp only[zh,za]at hk;obtain⟨p,hp,rfl⟩:=hk;obtain⟨g1,g2⟩:=hz' k p hp;simp only[zz]at hkj hs;have hne:k≠j:=fun e=>by rw[e,hSj]at hs;cases hs
         obtain⟨h1,h2,h3⟩:=haft k p.1 g1 (by omega) hs;exact hlate x v k p hp (by omega) hs (fun e=>(fh h1).2 x e hx)
      refine⟨_,m4 _ hslots,fun E' U' a' w' h=>?_⟩;have hS':(fun i=>(listed.setIfInBounds j true).getD i false)=fun i=>i == 0+j || listed.getD i false:=by
       funext i
       rw[fO _ _ _ (by omega),zz]
      rw[hS'];have hother:∀ k,k≠j->(0+k == 0+j)=false:=fun k hk=>by simp;exact hk
      refine h.ext (fun x=>?_) ?_
      . have hkj:((aos.zip efs).map (ej x))[j]? = some (ej x (ao,ef)):=by simp[hz j ao ef hao hefj]
        rw[eQ];by_cases hx:ao.dst=some x
        . have e1:gt (aw ao.dst ⟨ef.cond,ef.v,(stS (aos.zip efs) (fun i=>listed.getD i false) st).ch,[]⟩ (stS (aos.zip efs) (fun i=>listed.getD i false) st)).t x=.s v0:=by
           simp only[aw,fm,hx,qj,m3]
          rw[e1];refine (jU _ _ 0 _ _ j _ hkj (by simp) (fun a=>by simp only[ej,hx,qj,m3]) (fun k g hk hg hs=>?_)).symm;simp only[zh,za]at hg;obtain⟨p,hp,rfl⟩:=hg;obtain⟨g1,g2⟩:=hz' k p hp;rw[hother k (by omega),zF,zz]at hs;obtain⟨h1,h2,h3⟩:=haft k p.1 g1 hk hs;exact hlate x v0 k p hp hk hs ((fh h1).1 x hx).2
        . have e1:gt (aw ao.dst ⟨ef.cond,ef.v,(stS (aos.zip efs) (fun i=>listed.getD i false) st).ch,[]⟩ (stS (aos.zip efs) (fun i=>listed.getD i false) st)).t x=gt (stS (aos.zip efs) (fun i=>listed.getD i false) st).t x:=by
           simp only[aw,fm,hx,qi,eC]
          rw[e1,eQ];refine d9 _ _ _ 0 _ (fun k f hk=>?_);by_cases hkj2:k=j
          . subst hkj2;rw[hkj]at hk;cases hk;right;intro c;simp only[ej,hpj,eC,qa hx]
          . left;rw[hother k hkj2,zF]
      . show (stS (aos.zip efs) (fun i=>listed.getD i false) st).ch=_
        rw[fg,fg];have hkj:((aos.zip efs).map chF)[j]? = some (chF (ao,ef)):=by simp[hz j ao ef hao hefj]
        refine d9 _ _ _ 0 _ (fun k f hk=>?_);by_cases hkj2:k=j
        . subst hkj2;rw[hkj]at hk;cases hk;right;intro c;simp[chF,m1]
        . left;rw[hother k hkj2,zF]
     | false=>
      have haft0:=haft;have haft:∀ i x,aos[i]? = some x->j < i->listed.getD i false=true->(ao.apart x=true/\ao.tot=false/\x.tot=false):=fun i x hx hij hs=>by
       obtain⟨h1,h2,h3⟩:=haft0 i x hx hij hs;exact⟨h1,h2,h3.resolve_right (by rw[hmvs];simp)⟩
      have hslots:∀ x∈ao.slots,gt (stS (aos.zip efs) (fun i=>decide (i < j)) st).t x=gt (stS (aos.zip efs) (fun i=>listed.getD i false) st).t x:=fun x hx=>by
       rw[eQ,eQ];refine d9 _ _ _ 0 _ (fun k f hk=>?_);simp only[zh,za]at hk;obtain⟨p,hp,rfl⟩:=hk;obtain⟨g1,g2⟩:=hz' k p hp;simp only[zz];rcases yr k j with h | h | h
       . rcases hbef k p.1 g1 h with h1 | ⟨h1,h2,h3⟩
         . left;simp[h,h1]
         . right;intro c;have:=(fh h1).1;simp only[ej,hpure k p hp h2,eC];rw[qa (fun e=>(this x e).1 hx)]
       . subst h;left;simp[hSj]
       . cases hs:listed.getD k false with
         | false=>left;simp;omega
         | true=>
          right;obtain⟨h1,h2,h3⟩:=haft k p.1 g1 h hs;intro c;have:=(fh h1).2;simp only[ej,hpure k p hp h3,eC];rw[qa (fun e=>this x e hx)]
      have hchs:(stS (aos.zip efs) (fun i=>decide (i < j)) st).ch=(stS (aos.zip efs) (fun i=>listed.getD i false) st).ch:=by
       rw[fg,fg];refine d9 _ _ _ 0 _ (fun k f hk=>?_);simp only[zh,za]at hk;obtain⟨p,hp,rfl⟩:=hk;obtain⟨g1,g2⟩:=hz' k p hp;simp only[zz];rcases yr k j with h | h | h
       . rcases hbef k p.1 g1 h with h1 | ⟨h1,h2,h3⟩
         . left;simp[h,h1]
         . right;intro c;simp[chF,h2]
       . subst h;left;simp[hSj]
       . cases hs:listed.getD k false with
         | false=>left;simp;omega
         | true=>
          right;obtain⟨h1,h2,h3⟩:=haft k p.1 g1 h hs;intro c;simp[chF,h3]
      have hst2:=hst.congr hslots hchs;have hnext:∀ E' U' a' w',Holds P cx E' U' a' w' (aw ao.dst ef (stS (aos.zip efs) (fun i=>listed.getD i false) st))->Holds P cx E' U' a' w' (stS (aos.zip efs) (fun i=>(listed.setIfInBounds j true).getD i false) st):=fun E' U' a' w' h=>by
       have hS':(fun i=>(listed.setIfInBounds j true).getD i false)=fun i=>i == 0+j || listed.getD i false:=by
        funext i
        rw[fO _ _ _ (by omega),zz]
       rw[hS'];refine h.ext (fun x=>?_) ?_
       . have e1:gt (aw ao.dst ef (stS (aos.zip efs) (fun i=>listed.getD i false) st)).t x=ej x (ao,ef) (gt (stS (aos.zip efs) (fun i=>listed.getD i false) st).t x):=by
          simp only[aw,fm,ej]
         rw[e1,eQ,eQ];have hkj:((aos.zip efs).map (ej x))[j]? = some (ej x (ao,ef)):=by simp[hz j ao ef hao hefj]
         by_cases hx:ao.dst=some x\/ao.tot=true
         . refine (lC _ (fun i=>listed.getD i false) 0 _ j _ hkj (by simpa using hSj) (fun k g hk hg hs=>?_)).symm;simp only[zh,za]at hg;obtain⟨p,hp,rfl⟩:=hg;obtain⟨g1,g2⟩:=hz' k p hp;obtain⟨h1,h2,h3⟩:=haft k p.1 g1 hk (by simpa using hs);rcases hx with hx | hx
           . intro c;have:=((fh h1).1 x hx).2;simp only[ej,hpure k p hp h3,eC,qa this]
           . rw[hx]at h2;cases h2
         . have hx1:ao.dst≠some x:=fun e=>hx (.inl e)
           have hx2:ao.tot=false:=by cases ht:ao.tot with | false=>rfl | true=>exact absurd (.inr ht) hx
           have hid:∀ c,ej x (ao,ef) c=c:=fun c=>by
            have:=hpure j (ao,ef) (hz j ao ef hao hefj) hx2;simp only at this;simp only[ej,this,eC,qa hx1]
           rw[hid];refine d9 _ _ _ 0 _ (fun k f hk=>?_);by_cases hkj2:k=j
           . subst hkj2;rw[hkj]at hk;cases hk;exact .inr hid
           . left;have:(0+k == 0+j)=false:=by simp;exact hkj2
             simp only[this,zF]
       . rw[fg];simp only[aw];have hkj:((aos.zip efs).map chF)[j]? = some (chF (ao,ef)):=by simp[hz j ao ef hao hefj]
         cases ht:ao.tot with
         | true=>
          have:=lC ((aos.zip efs).map chF) (fun i=>listed.getD i false) 0 st.ch j _ hkj (by simpa using hSj) (fun k g hk hg hs=>by
           simp only[zh,za]at hg;obtain⟨p,hp,rfl⟩:=hg;obtain⟨g1,g2⟩:=hz' k p hp;obtain⟨h1,h2,h3⟩:=haft k p.1 g1 hk (by simpa using hs)
           rw[ht]at h2;cases h2)
          rw[this];simp[chF,ht]
         | false=>
          have hp:ef.ch=(stS (aos.zip efs) (fun i=>decide (i < j)) st).ch:=by
           rcases hpu with h | h
           . rw[ht]at h;cases h
           . exact h.1
          rw[hp,hchs,fg];refine d9 _ _ _ 0 _ (fun k f hk=>?_);by_cases hkj2:k=j
          . subst hkj2;rw[hkj]at hk;cases hk;right;intro c;simp[chF,ht]
          . left;have:(0+k == 0+j)=false:=by simp;exact hkj2
            simp only[this,zF]
      exact⟨ef,hst2,hnext⟩
    obtain⟨ef2,hst2,hnext⟩:=hgo
    have hstep:=oy (Q:=Q) (K:=wpAnyIn (FW cx.ro) 0 P .any ops Q fuel (listed.setIfInBounds j true)) (hm j o ao ho hao) hst2 hh (fun E' U' a' w' h=>
     ih (listed.setIfInBounds j true) E' U' a' w' (by simpa using hls)
      (by
       have e:(fun i=>!((listed.setIfInBounds j true).getD i false))=fun i=>!(i == j || listed.getD i false):=by
        funext i;rw[fO _ _ _ (by omega)]
       rw[e];have:=lr (S:=fun i=>listed.getD i false) hjm hSj
       omega)
      (fun i o' ho' hs p hp=>by
       rw[fO _ _ _ (by omega)]at hs ⊢;simp only[zV,beq_iff_eq]at hs ⊢;right;rcases hs with rfl | hs
       . rw[ho]at ho';cases ho';exact hpreds p hp
       . exact hcl i o' ho' hs p hp)
      (hnext E' U' a' w' h))
    unfold wpOpIn;rw[ho];rcases hstep with⟨e,h⟩ | ⟨e,h⟩
    . simp only[e,qj];exact h
    . simp only[e,zr,qi];exact⟨fun _ _=>trivial,h⟩
end draw
end Go.Am
end
section
namespace Go.Am
variable {P : Program} [Glob P]
theorem rM {cx:Cx} {ops:Array Oper} {aos:List AO} {st st':ASt} {id:Nat} {E:Env} {U:Nat->Prop} {a:Act} {w:World} {Q:Exit->Act->World->Prop} (hmix:P.follows .mixedOrders=true) (hops:ops.size=aos.length)
 (hm:∀ (j:Nat) o ao,ops[j]? = some o->aos[j]? = some ao->fW P cx.n ops o ao) (hok:ni ops aos=true) (hc:iu P true aos st st') (hh:Holds P cx E U a w st) (hQ:∀ E' U' a' w',Holds P cx E' U' a' w' st'->Q .normal a' w') :
 (Code.region id ops true).wpIn (FW cx.ro) 0 P Q a w:=by
 obtain⟨efs,l1,l2,l3⟩:=nc aos st st' hc;refine wpIn_region_any hmix (vh hops l1 hm hok l2 l3 hQ ops.size _ E U a _ (by simp) ?_ (fun j o ho hs=>?_) ?_)
 . have:((List.range ops.size).countP fun i=>!((Array.replicate ops.size false).getD i false))=(List.range ops.size).length:=List.countP_eq_length.2 (fun i hi=>by
    have:=zE.1 hi
    simp[zc,this])
   simpa using this
 . exfalso
   by_cases h:j < ops.size <;> simp[zc,h]at hs
 . have e:stS (aos.zip efs) (fun i=>(Array.replicate ops.size false).getD i false) st=st:=gD _ _ 0 st (fun k f _ hs=>by
    exfalso
    by_cases h:k < ops.size <;> simp[zc,h]at hs)
   rw[e];exact⟨hh.sz,hh.df,hh.tok,hh.inv,hh.os,hh.tape,hh.output,hh.size,hh.fr,hh.keepA,hh.live,hh.base,hh.fix,hh.hid,hh.gok⟩
end Go.Am
end
section
namespace Go.Am
variable {P : Program} [Glob P]
section folds
variable {α : Type}
theorem po : ∀ (fs:List (α->α)) (S:Nat->Bool) (i:Nat) (a b:α) (k:Nat) (f:α->α),fs[k]? = some f->S (i+k)=false->dR fs (fun n=>decide (n < i+k) && S n) i a=b->f b=b ->
 dR fs (fun n=>n == i+k || S n) i a=dR fs S i a
 |[],_,_,_,_,k,f,h,_,_,_=>by simp at h
 | g :: r,S,i,a,b,0,f,h,hs,hb,hf=>by
  simp at h;subst h;rw[zL]at hs;have hab:a=b:=by
   rw[<- hb];refine (gD _ _ _ _ (fun k f _ hs'=>?_)).symm
   exfalso
   simp at hs';omega
  subst hab;simp only[dR,zL,beq_self_eq_true,yz,qj,hs,zr,qi,hf];refine d9 _ _ _ _ _ (fun k f hk=>.inl ?_);have hne:(i+1+k == i)=false:=by simp;omega
  simp[hne]
 | g :: r,S,i,a,b,k+1,f,h,hs,hb,hf=>by
  have hne:(i == i+(k+1))=false:=by simp
  simp only[dR,hne,zF];simp only[dR]at hb;have hlt:(decide (i < i+(k+1)) && S i)=S i:=by simp
  simp only[hlt]at hb;have e1:i+1+k=i+(k+1):=by omega
  have:=po r S (i+1) (if S i then g a else a) b k f (by simpa using h) (by rw[e1];exact hs) (by rw[e1];exact hb) hf;rwa[e1]at this
theorem nB : ∀ (fs:List (α->α)) (S:Nat->Bool) (i:Nat) (a:α) (k:Nat) (f:α->α),fs[k]? = some f->S (i+k)=false->(∀ k' g,k < k'->fs[k']? = some g->S (i+k')=true->∀ a,f (g a)=g (f a)) ->
 dR fs (fun n=>n == i+k || S n) i a=f (dR fs S i a)
 |[],_,_,_,k,f,h,_,_=>by simp at h
 | g :: r,S,i,a,0,f,h,hs,hl=>by
  simp at h;subst h;rw[zL]at hs;simp only[dR,zL,beq_self_eq_true,yz,qj,hs,zr,qi]
  have e:dR r (fun n=>n == i || S n) (i+1) (g a)=dR r S (i+1) (g a):=d9 _ _ _ _ _ (fun k f hk=>.inl (by
   have hne:(i+1+k == i)=false:=by simp;omega
   simp[hne]))
  rw[e];have com:∀ (r':List (α->α)) (j:Nat) (b:α),(∀ k' f',r'[k']? = some f'->S (j+k')=true->∀ a,g (f' a)=f' (g a))->dR r' S j (g b)=g (dR r' S j b):=by
   intro r'
   induction r' with
   | nil=>intro j b _;rfl
   | cons f' r' ih=>
    intro j b h;simp only[dR];have h0:(if S j then f' (g b)else g b)=g (if S j then f' b else b):=by
     cases hs:S j with
     | false=>rfl
     | true=>simp only[qj];exact (h 0 f' rfl (by simpa using hs) b).symm
    rw[h0];exact ih (j+1) _ (fun k' f'' hk hs'=>h (k'+1) f'' (by simpa using hk) (by rwa[show j+(k'+1)=j+1+k' from by omega]))
  exact com r (i+1) a (fun k' f' hk hs'=>hl (k'+1) f' (by omega) (by simpa using hk) (by rwa[show i+(k'+1)=i+1+k' from by omega]))
 | g :: r,S,i,a,k+1,f,h,hs,hl=>by
  have hne:(i == i+(k+1))=false:=by simp
  simp only[dR,hne,zF];have e1:i+1+k=i+(k+1):=by omega
  have:=nB r S (i+1) (if S i then g a else a) k f (by simpa using h) (by rw[e1];exact hs) (fun k' g' hk hg hs'=>hl (k'+1) g' (by omega) (by simpa using hg) (by rwa[show i+(k'+1)=i+1+k' from by omega]));rwa[e1]at this
end folds
end Go.Am
end
section
namespace Go.Am
variable {P : Program} [Glob P]
section core
variable {cx : Cx} {ops : Array Oper} {aos : List AO} {st st' : ASt} {efs : List Eff} {Q : Exit → Act → World → Prop}
theorem tE (hops:ops.size=aos.length) (hef:efs.length=aos.length) (hm:∀ (j:Nat) o ao,ops[j]? = some o->aos[j]? = some ao->fW P cx.n ops o ao)
 (hlt:∀ (j:Nat) l,(ops.toList.map dL)[j]? = some l->∀ p∈l,p < j)
 (hgo:∀ (S:Nat->Bool) (j:Nat) o ao,ops[j]? = some o->aos[j]? = some ao->S j=false->(∀ p∈dL o,S p=true)->(∀ (i:Nat) l,(ops.toList.map dL)[i]? = some l->S i=true->∀ p∈l,S p=true) ->
  ∃ ef2,StepE P ao (stS (aos.zip efs) S st) ef2/\(∀ E' U' a' w',Holds P cx E' U' a' w' (aw ao.dst ef2 (stS (aos.zip efs) S st))->Holds P cx E' U' a' w' (stS (aos.zip efs) (fun i=>i == 0+j || S i) st)))
 (hfin:st'=stS (aos.zip efs) (fun i=>decide (i < aos.length)) st) (hQ:∀ E' U' a' w',Holds P cx E' U' a' w' st'->Q .normal a' w') :
 ∀ (fuel:Nat) (listed:Array Bool) (E:Env) (U:Nat->Prop) (a:Act) (w:World),listed.size=ops.size->((List.range ops.size).countP fun i=>!(listed.getD i false))=fuel ->
  (∀ (j:Nat) o,ops[j]? = some o->listed.getD j false=true->∀ p∈dL o,listed.getD p false=true) ->
  Holds P cx E U a w (stS (aos.zip efs) (fun i=>listed.getD i false) st)->wpAnyIn (FW cx.ro) 0 P .any ops Q fuel listed a w:=by
 have atEnd:∀ (listed:Array Bool) (E:Env) (U:Nat->Prop) (a:Act) (w:World),(∀ i,i < ops.size->listed.getD i false=true)->Holds P cx E U a w (stS (aos.zip efs) (fun i=>listed.getD i false) st)->Q .normal a w:=fun listed E U a w hall hh=>by
  have hag:∀ {α:Type} (g:AO×Eff->α->α) (c:α),dR ((aos.zip efs).map g) (fun i=>listed.getD i false) 0 c=dR ((aos.zip efs).map g) (fun i=>decide (i < aos.length)) 0 c:=fun g c=>
   d9 _ _ _ 0 c (fun k f hk=>by
    have hk':=(zi.1 hk).1;simp only[zy,List.length_zip,hef,Nat.min_self]at hk';left
    simp only[zz,hall k (by omega),hk',decide_true])
  refine hQ E U a w (hh.ext (fun i=>?_) ?_)
  . rw[hfin,eQ,eQ];exact hag _ _
  . rw[hfin,fg,fg];exact hag _ _
 intro fuel
 induction fuel with
 | zero=>
  intro listed E U a w hls hcnt hcl hh;have hall:∀ i,i < ops.size->listed.getD i false=true:=fun i hi=>by
   have:=yk.1 hcnt i (zE.2 hi);simpa using this
  refine⟨?_,atEnd listed E U a w hall hh⟩;apply yi.2;intro i hi hf;simp only[zm]at hf;have hi':=zE.1 hi;have h1:=hall i hi';have h2:listed.getD i true=listed.getD i false:=by
   have hlt:i < listed.size:=by omega
   simp[zc,zj hlt]
  rw[h2,h1]at hf;simp at hf
 | succ fuel ih=>
  intro listed E U a w hls hcnt hcl hh;have hsome:∃ i,i < ops.size/\listed.getD i false=false:=by
   rcases qh (∃ i,i < ops.size/\listed.getD i false=false)with h | h
   . exact h
   . exfalso
     have:((List.range ops.size).countP fun i=>!(listed.getD i false))=0:=yk.2 (fun i hi=>by
      cases hf:listed.getD i false with
      | true=>simp
      | false=>exact absurd ⟨i,zE.1 hi,hf⟩ h)
     omega
  have hgd:∀ i,i < ops.size->listed.getD i true=listed.getD i false:=fun i hi=>by
   have hlt:i < listed.size:=by omega
   simp[zc,zj hlt]
  refine⟨fun hnil=>?_,fun j hj=>?_⟩
  . exfalso
    obtain⟨i,h1,h2,h3⟩:=jG hsome;have hnot:=yi.1 hnil i (zE.2 h1);apply hnot;obtain⟨o,ho⟩:∃ o,ops[i]? = some o:=⟨_,zj h1⟩;simp only[zm];refine⟨by rw[hgd i h1,h2];rfl,?_⟩;simp only[ho,zU,zN];rw[yn];intro e he;simp only[zV];by_cases hb:Region.binds .any e=true
    . right;have hp:e.on∈dL o:=zu.2 ⟨e,yf.2 ⟨by simpa using he,hb⟩,rfl⟩;exact h3 _ (hlt i (dL o) (by simp[ho]) _ hp)
    . left;simpa using hb
  . have hj2:=yf.1 hj;have hjm:=zE.1 hj2.1;have hjr:=hj2.2;simp only[zm]at hjr;obtain⟨o,ho⟩:∃ o,ops[j]? = some o:=⟨_,zj hjm⟩;obtain⟨ao,hao⟩:∃ ao,aos[j]? = some ao:=⟨_,ze (by omega)⟩;have hSj:listed.getD j false=false:=by
     have:=hjr.1;rw[hgd j hjm]at this;simpa using this
    have hpreds:∀ p∈dL o,listed.getD p false=true:=fun p hp=>by
     obtain⟨e,he,rfl⟩:=zu.1 hp;obtain⟨he1,he2⟩:=yf.1 he;have:=hjr.2;simp only[ho,zU,zN]at this;rw[yn]at this;have:=this e (by simpa using he1);simpa[he2]using this
    have hclS:∀ (i:Nat) l,(ops.toList.map dL)[i]? = some l->listed.getD i false=true->∀ p∈l,listed.getD p false=true:=fun i l hi hs p hp=>by
     simp only[zh,za,zM]at hi;obtain⟨o',ho',rfl⟩:=hi;exact hcl i o' ho' hs p hp
    obtain⟨ef2,hst2,hnext⟩:=hgo (fun i=>listed.getD i false) j o ao ho hao hSj hpreds hclS;have hS':(fun i=>(listed.setIfInBounds j true).getD i false)=fun i=>i == 0+j || listed.getD i false:=by
     funext i
     rw[fO _ _ _ (by omega),zz]
    have hstep:=oy (Q:=Q) (K:=wpAnyIn (FW cx.ro) 0 P .any ops Q fuel (listed.setIfInBounds j true)) (hm j o ao ho hao) hst2 hh (fun E' U' a' w' h=>
     ih (listed.setIfInBounds j true) E' U' a' w' (by simpa using hls)
      (by
       have e:(fun i=>!((listed.setIfInBounds j true).getD i false))=fun i=>!(i == j || listed.getD i false):=by
        funext i;rw[fO _ _ _ (by omega)]
       rw[e];have:=lr (S:=fun i=>listed.getD i false) hjm hSj
       omega)
      (fun i o' ho' hs p hp=>by
       rw[fO _ _ _ (by omega)]at hs ⊢;simp only[zV,beq_iff_eq]at hs ⊢;right;rcases hs with rfl | hs
       . rw[ho]at ho';cases ho';exact hpreds p hp
       . exact hcl i o' ho' hs p hp)
      (by rw[hS'];exact hnext E' U' a' w' h))
    unfold wpOpIn;rw[ho];rcases hstep with⟨e,h⟩ | ⟨e,h⟩
    . simp only[e,qj];exact h
    . simp only[e,zr,qi];exact⟨fun _ _=>trivial,h⟩
end core
end Go.Am
end
section
namespace Go.Am
variable {P : Program} [Glob P] {cx : Cx} {ops : Array Oper} {aos : List AO} {st st' : ASt} {efs : List Eff} {Q : Exit → Act → World → Prop}
def RobAt (P:Program) [Glob P] (aos:List AO) (efs:List Eff) (st:ASt) (e j:Nat):Prop:=
 ∀ ao ef aoe efe,aos[j]? = some ao->efs[j]? = some ef->aos[e]? = some aoe->efs[e]? = some efe ->
  ah efe.sub ef.v=ef.v/\(∀ x∈ao.slots,ah efe.sub (gt (stS (aos.zip efs) (fun i=>decide (i < min j e)) st).t x)=gt (stS (aos.zip efs) (fun i=>decide (i < min j e)) st).t x) /\
  ∃ ef2,StepE P ao ⟨(stS (aos.zip efs) (fun i=>decide (i < j)) st).t,if j < e then efe.ch else (stS (aos.zip efs) (fun i=>decide (i < e)) st).ch⟩ ef2/\ef2.v=ef.v /\
   ef2.ch=(if j < e then efe.ch else (stS (aos.zip efs) (fun i=>decide (i < e)) st).ch)/\ef2.sub=[]
theorem vi {e:Nat} {rb:List Nat} (hops:ops.size=aos.length) (hef:efs.length=aos.length) (hm:∀ (j:Nat) o ao,ops[j]? = some o->aos[j]? = some ao->fW P cx.n ops o ao) (he9:e≠999) (hok:lW e rb ops aos=true)
 (hch:∀ (j:Nat) ao ef,aos[j]? = some ao->efs[j]? = some ef->StepE P ao (stS (aos.zip efs) (fun i=>decide (i < j)) st) ef/\(ao.tot=true\/(ef.ch=(stS (aos.zip efs) (fun i=>decide (i < j)) st).ch/\ef.sub=[])))
 (hrob:∀ j∈rb,RobAt P aos efs st e j)
 (hfin:st'=stS (aos.zip efs) (fun i=>decide (i < aos.length)) st) (hQ:∀ E' U' a' w',Holds P cx E' U' a' w' st'->Q .normal a' w') :
 ∀ (fuel:Nat) (listed:Array Bool) (E:Env) (U:Nat->Prop) (a:Act) (w:World),listed.size=ops.size->((List.range ops.size).countP fun i=>!(listed.getD i false))=fuel ->
  (∀ (j:Nat) o,ops[j]? = some o->listed.getD j false=true->∀ p∈dL o,listed.getD p false=true) ->
  Holds P cx E U a w (stS (aos.zip efs) (fun i=>listed.getD i false) st)->wpAnyIn (FW cx.ro) 0 P .any ops Q fuel listed a w:=by
 simp only[lW,qa he9,zm]at hok;obtain⟨⟨⟨ok1,ok2⟩,ok3⟩,ok4⟩:=hok;have hlt:∀ (j:Nat) l,(ops.toList.map dL)[j]? = some l->∀ p∈l,p < j:=fun j l hj p hp=>by
  have hz:(l,j)∈(ops.toList.map dL).zipIdx:=by
   rw[zG];exact hj
  have:=zx.1 ok1 (l,j) hz;simpa using zx.1 this p hp
 obtain⟨aoe,haoe,hte⟩:∃ aoe,aos[e]? = some aoe/\aoe.tot=true:=by
  cases h:aos[e]? with
  | none=>rw[h]at ok2;cases ok2
  | some x=>rw[h]at ok2;exact⟨x,rfl,by simpa using ok2⟩
 have hner:e∉rb:=fun h=>by simp[h]at ok3
 have hpair:∀ (i k:Nat) x y,aos[i]? = some x->aos[k]? = some y->i < k->((iX (ops.toList.map dL) []).getD k 0).testBit i=true\/(x.apart y=true/\((x.tot=false/\y.tot=false)\/(k=e/\x.tot=false/\i∈rb)\/(i=e/\y.tot=false/\k∈rb))):=fun i k x y hx hy hik=>by
  have h1:=zx.1 ok4 (y,k) (by rw[zG];exact hy);have h2:=zx.1 h1 (x,i) (by rw[zG];exact hx);simp only[hik,decide_true,Bool.not_true,zF,zV,zm,yC,beq_iff_eq,List.contains_iff_mem]at h2;rcases h2 with h2 | ⟨h3,h4⟩
  . exact .inl h2
  . refine .inr ⟨h3,?_⟩;rcases h4 with (h4 | ⟨⟨h4,h5⟩,h6⟩) | ⟨⟨h4,h5⟩,h6⟩
    . exact .inl h4
    . exact .inr (.inl ⟨h4,h5,h6⟩)
    . exact .inr (.inr ⟨h4,h5,h6⟩)
 have hz:∀ (j:Nat) ao ef,aos[j]? = some ao->efs[j]? = some ef->(aos.zip efs)[j]? = some (ao,ef):=fun j ao ef h1 h2=>by
  rw[List.getElem?_zip_eq_some];exact⟨h1,h2⟩
 have hz':∀ (j:Nat) p,(aos.zip efs)[j]? = some p->aos[j]? = some p.1/\efs[j]? = some p.2:=fun j p h=>by
  obtain⟨x,y⟩:=p;rw[List.getElem?_zip_eq_some]at h;exact h
 have hpure:∀ (j:Nat) p,(aos.zip efs)[j]? = some p->p.1.tot=false->p.2.sub=[]:=fun j p h ht=>by
  obtain⟨h1,h2⟩:=hz' j p h;rcases (hch j p.1 p.2 h1 h2).2 with h | h
  . rw[ht]at h;cases h
  . exact h.2
 obtain⟨efe,hefe⟩:∃ efe,efs[e]? = some efe:=⟨_,ze (by have:=(zi.1 haoe).1;omega)⟩;refine tE hops hef hm hlt (fun S j o ao ho hao hSj hpreds hcl=>?_) hfin hQ;obtain⟨ef,hefj⟩:∃ ef,efs[j]? = some ef:=⟨_,ze (by have:=(zi.1 hao).1;omega)⟩;obtain⟨hst,hpu⟩:=hch j ao ef hao hefj;have hsw:∀ k x,aos[k]? = some x->(k < j/\S k=false\/j < k/\S k=true)->(∀ d,x.dst=some d->d∉ao.slots/\ao.dst≠some d)/\(k≠e->x.tot=false)/\(k=e->j∈rb/\ao.tot=false)/\(ao.tot=true->j=e/\k∈rb):=fun k x hx hs=>by
  have hje:j=e->ao.tot=true:=fun h=>by subst h;rw[hao]at haoe;cases haoe;exact hte
  have hke:k=e->x.tot=true:=fun h=>by subst h;rw[hx]at haoe;cases haoe;exact hte
  rcases hs with⟨hkj,hs⟩ | ⟨hjk,hs⟩
  . rcases hpair k j x ao hx hao hkj with h | ⟨h,hC⟩
    . exfalso
      have:=gE hcl hlt (ops.toList.map dL) [] (by simp) (fun j i h=>by simp at h) j k h (dL o) (by simp[ho]) hpreds;rw[hs]at this;cases this
    . refine⟨(fh h).1,fun hne=>?_,fun he=>?_,fun ht=>?_⟩
      . rcases hC with⟨h1,_⟩ | ⟨_,h1,_⟩ | ⟨h1,_⟩
        . exact h1
        . exact h1
        . exact absurd h1 hne
      . have hxt:=hke he;rcases hC with⟨h1,_⟩ | ⟨_,h1,_⟩ | ⟨_,h1,h2⟩
        . rw[hxt]at h1;cases h1
        . rw[hxt]at h1;cases h1
        . exact⟨h2,h1⟩
      . rcases hC with⟨_,h1⟩ | ⟨h1,_,h2⟩ | ⟨_,h1,_⟩
        . rw[ht]at h1;cases h1
        . exact⟨h1,h2⟩
        . rw[ht]at h1;cases h1
  . rcases hpair j k ao x hao hx hjk with h | ⟨h,hC⟩
    . exfalso
      obtain⟨o',ho'⟩:∃ o',ops[k]? = some o':=⟨_,zj (by have:=(zi.1 hx).1;omega)⟩;have:=gE hcl hlt (ops.toList.map dL) [] (by simp) (fun j i h=>by simp at h) k j h (dL o') (by simp[ho']) (hcl k (dL o') (by simp[ho']) hs);rw[hSj]at this;cases this
    . refine⟨fun d hd=>⟨(fh h).2 d hd,fun h2=>((fh h).1 d h2).2 hd⟩,fun hne=>?_,fun he=>?_,fun ht=>?_⟩
      . rcases hC with⟨_,h1⟩ | ⟨h1,_⟩ | ⟨_,h1,_⟩
        . exact h1
        . exact absurd h1 hne
        . exact h1
      . have hxt:=hke he;rcases hC with⟨_,h1⟩ | ⟨_,h1,h2⟩ | ⟨_,h1,_⟩
        . rw[hxt]at h1;cases h1
        . exact⟨h2,h1⟩
        . rw[hxt]at h1;cases h1
      . rcases hC with⟨h1,_⟩ | ⟨_,h1,_⟩ | ⟨h1,_,h2⟩
        . rw[ht]at h1;cases h1
        . rw[ht]at h1;cases h1
        . exact⟨h1,h2⟩
 have hidS:∀ k x p,aos[k]? = some p.1->(aos.zip efs)[k]? = some p->(k < j/\S k=false\/j < k/\S k=true)->k≠e->x∈ao.slots->∀ c,ej x p c=c:=fun k x p hk hp hs hne hx c=>by
  obtain⟨h1,h2,_,_⟩:=hsw k p.1 hk hs;simp only[ej,hpure k p hp (h2 hne),eC];rw[qa (fun e=>(h1 x e).1 hx)]
 have hidC:∀ k p,aos[k]? = some p.1->(k < j/\S k=false\/j < k/\S k=true)->k≠e->∀ c,chF p c=c:=fun k p hk hs hne c=>by
  obtain⟨_,h2,_,_⟩:=hsw k p.1 hk hs;simp[chF,h2 hne]
 have hmapS:∀ x k f,((aos.zip efs).map (ej x))[k]? = some f->∃ p,(aos.zip efs)[k]? = some p/\ej x p=f:=fun x k f h=>by
  rw[zh,za]at h;exact h
 have hmapC:∀ k f,((aos.zip efs).map chF)[k]? = some f->∃ p,(aos.zip efs)[k]? = some p/\chF p=f:=fun k f h=>by
  rw[zh,za]at h;exact h
 have hmain:∃ ef2,StepE P ao (stS (aos.zip efs) S st) ef2/\ef2.v=ef.v/\ef2.sub=ef.sub/\((ao.tot=true/\ef2.ch=ef.ch)\/(ao.tot=false/\ef2.ch=(stS (aos.zip efs) S st).ch)):=by
  by_cases hA:j≠e/\(e < j/\S e=false\/j < e/\S e=true)
  . obtain⟨hje,hse⟩:=hA;obtain⟨s1,_,s3,_⟩:=hsw e aoe haoe hse;obtain⟨hjr,htj⟩:=s3 rfl;obtain⟨r1,r2,ef2,r3,r4,r5,r6⟩:=hrob j hjr ao ef aoe efe hao hefj haoe hefe;have hslots:∀ x∈ao.slots,gt (stS (aos.zip efs) (fun i=>decide (i < j)) st).t x=gt (stS (aos.zip efs) S st).t x:=fun x hx=>by
     have hFe:((aos.zip efs).map (ej x))[e]? = some (ej x (aoe,efe)):=by simp[hz e aoe efe haoe hefe]
     have hdx:¬ aoe.dst=some x:=fun h=>(s1 x h).1 hx
     rcases hse with⟨hej,hs⟩ | ⟨hje2,hs⟩
     . rw[Nat.min_eq_right (Nat.le_of_lt hej)]at r2;have hc:=r2 x hx;rw[eQ,eQ]
       have e1:dR ((aos.zip efs).map (ej x)) (fun n=>n == 0+e || S n) 0 (gt st.t x)=dR ((aos.zip efs).map (ej x)) (fun i=>decide (i < j)) 0 (gt st.t x):=d9 _ _ _ 0 _ (fun k f hk=>by
        obtain⟨p,hp,rfl⟩:=hmapS x k f hk;obtain⟨g1,g2⟩:=hz' k p hp;simp only[zz];by_cases hke:k=e
        . left;subst hke;simp[hej]
        . have hb:(k == e)=false:=by simpa using hke
          rcases yr k j with h | h | h
          . cases hsk:S k with
            | true=>left;simp[h]
            | false=>right;exact hidS k x p g1 hp (.inl ⟨h,hsk⟩) hke hx
          . left;subst h;simp[hSj,hb]
          . cases hsk:S k with
            | false=>left;simp[hb];omega
            | true=>right;exact hidS k x p g1 hp (.inr ⟨h,hsk⟩) hke hx)
       rw[<- e1];refine po _ S 0 _ (gt (stS (aos.zip efs) (fun i=>decide (i < e)) st).t x) e _ hFe (by simpa using hs) ?_ (by simp only[ej,qa hdx];exact hc);rw[eQ];refine d9 _ _ _ 0 _ (fun k f hk=>?_);obtain⟨p,hp,rfl⟩:=hmapS x k f hk;obtain⟨g1,g2⟩:=hz' k p hp;simp only[zz];by_cases hke:k < e
       . cases hsk:S k with
         | true=>left;simp[hke]
         | false=>right;exact hidS k x p g1 hp (.inl ⟨by omega,hsk⟩) (by omega) hx
       . left;simp[hke]
     . rw[Nat.min_eq_left (Nat.le_of_lt hje2)]at r2;have hc:=r2 x hx;rw[eQ]at hc ⊢;rw[eQ];refine (js _ S 0 _ _ j (fun k f hk hkj=>?_) (fun k f hk hkj hs'=>?_) rfl).symm
       . obtain⟨p,hp,rfl⟩:=hmapS x k f hk;obtain⟨g1,g2⟩:=hz' k p hp;simp only[zz]at hkj ⊢;cases hsk:S k with
         | true=>exact .inl rfl
         | false=>exact .inr (hidS k x p g1 hp (.inl ⟨hkj,hsk⟩) (by omega) hx)
       . obtain⟨p,hp,rfl⟩:=hmapS x k f hk;obtain⟨g1,g2⟩:=hz' k p hp;simp only[zz]at hkj hs';have hkj2:j < k:=by
          rcases yu j k with h | h
          . exact h
          . have:k=j:=by omega
            subst this;rw[hSj]at hs';cases hs'
         by_cases hke:k=e
         . subst hke;rw[haoe]at g1;cases g1;rw[hefe]at g2;cases g2;simp only[ej,qa hdx];exact hc
         . exact hidS k x p g1 hp (.inr ⟨hkj2,hs'⟩) hke hx _
    have hchs:(if j < e then efe.ch else (stS (aos.zip efs) (fun i=>decide (i < e)) st).ch)=(stS (aos.zip efs) S st).ch:=by
     rw[fg (aos.zip efs) S st];rcases hse with⟨hej,hs⟩ | ⟨hje2,hs⟩
     . rw[qa (by omega),fg];refine d9 _ _ _ 0 _ (fun k f hk=>?_);obtain⟨p,hp,rfl⟩:=hmapC k f hk;obtain⟨g1,g2⟩:=hz' k p hp;simp only[zz];rcases yr k e with h | h | h
       . cases hsk:S k with
         | true=>left;simp[h]
         | false=>right;exact hidC k p g1 (.inl ⟨by omega,hsk⟩) (by omega)
       . left;subst h;simp[hs]
       . cases hsk:S k with
         | false=>left;simp;omega
         | true=>
          right;have htk:p.1.tot=false:=by
           rcases hpair e k aoe p.1 haoe g1 h with h2 | ⟨_,hC⟩
           . exfalso
             obtain⟨o',ho'⟩:∃ o',ops[k]? = some o':=⟨_,zj (by have:=(zi.1 g1).1;omega)⟩;have:=gE hcl hlt (ops.toList.map dL) [] (by simp) (fun j i h=>by simp at h) k e h2 (dL o') (by simp[ho']) (hcl k (dL o') (by simp[ho']) hsk);rw[hs]at this;cases this
           . rcases hC with⟨_,h1⟩ | ⟨h1,_⟩ | ⟨_,h1,_⟩
             . exact h1
             . omega
             . exact h1
          intro c;simp[chF,htk]
     . rw[qb hje2];have hFe:((aos.zip efs).map chF)[e]? = some (chF (aoe,efe)):=by simp[hz e aoe efe haoe hefe]
       refine (jU _ S 0 _ _ e _ hFe (by simpa using hs) (fun a=>by simp[chF,hte]) (fun k g hk hg hs'=>?_)).symm;obtain⟨p,hp,rfl⟩:=hmapC k g hg;obtain⟨g1,g2⟩:=hz' k p hp;simp only[zz]at hs';exact hidC k p g1 (.inr ⟨by omega,hs'⟩) (by omega) _
    refine⟨ef2,r3.congr hslots hchs,r4,?_,.inr ⟨htj,?_⟩⟩
    . rw[r6];exact (hpure j (ao,ef) (hz j ao ef hao hefj) htj).symm
    . rw[r5];exact hchs
  . have hne:∀ k,(k < j/\S k=false\/j < k/\S k=true)->k≠e:=fun k hk hke=>by
     subst hke;exact hA ⟨by omega,hk⟩
    have hslots:∀ x∈ao.slots,gt (stS (aos.zip efs) (fun i=>decide (i < j)) st).t x=gt (stS (aos.zip efs) S st).t x:=fun x hx=>by
     rw[eQ,eQ];refine d9 _ _ _ 0 _ (fun k f hk=>?_);obtain⟨p,hp,rfl⟩:=hmapS x k f hk;obtain⟨g1,g2⟩:=hz' k p hp;simp only[zz];rcases yr k j with h | h | h
     . cases hsk:S k with
       | true=>left;simp[h]
       | false=>right;exact hidS k x p g1 hp (.inl ⟨h,hsk⟩) (hne k (.inl ⟨h,hsk⟩)) hx
     . left;subst h;simp[hSj]
     . cases hsk:S k with
       | false=>left;simp;omega
       | true=>right;exact hidS k x p g1 hp (.inr ⟨h,hsk⟩) (hne k (.inr ⟨h,hsk⟩)) hx
    have hchs:(stS (aos.zip efs) (fun i=>decide (i < j)) st).ch=(stS (aos.zip efs) S st).ch:=by
     rw[fg,fg];refine d9 _ _ _ 0 _ (fun k f hk=>?_);obtain⟨p,hp,rfl⟩:=hmapC k f hk;obtain⟨g1,g2⟩:=hz' k p hp;simp only[zz];rcases yr k j with h | h | h
     . cases hsk:S k with
       | true=>left;simp[h]
       | false=>right;exact hidC k p g1 (.inl ⟨h,hsk⟩) (hne k (.inl ⟨h,hsk⟩))
     . left;subst h;simp[hSj]
     . cases hsk:S k with
       | false=>left;simp;omega
       | true=>right;exact hidC k p g1 (.inr ⟨h,hsk⟩) (hne k (.inr ⟨h,hsk⟩))
    refine⟨ef,hst.congr hslots hchs,rfl,rfl,?_⟩;cases ht:ao.tot with
    | true=>exact .inl ⟨rfl,rfl⟩
    | false=>
     refine .inr ⟨rfl,?_⟩;rcases hpu with h | h
     . rw[ht]at h;cases h
     . rw[h.1];exact hchs
 obtain⟨ef2,m1,m2,m3,m4⟩:=hmain;refine⟨ef2,m1,fun E' U' a' w' h=>h.ext (fun x=>?_) ?_⟩
 . have e1:gt (aw ao.dst ef2 (stS (aos.zip efs) S st)).t x=ej x (ao,ef) (gt (stS (aos.zip efs) S st).t x):=by
    simp only[aw,fm,ej,m2,m3]
   rw[e1,eQ,eQ];have hkj:((aos.zip efs).map (ej x))[j]? = some (ej x (ao,ef)):=by simp[hz j ao ef hao hefj]
   refine (nB _ S 0 _ j _ hkj (by simpa using hSj) (fun k g hk hg hs c=>?_)).symm;obtain⟨p,hp,rfl⟩:=hmapS x k g hg;obtain⟨g1,g2⟩:=hz' k p hp;simp only[zz]at hs;obtain⟨w1,w2,w3,w4⟩:=hsw k p.1 g1 (.inr ⟨hk,hs⟩);by_cases hke:k=e
   . obtain⟨hjr,htj⟩:=w3 hke;subst hke;have hsub:ef.sub=[]:=hpure j (ao,ef) (hz j ao ef hao hefj) htj;obtain⟨r1,_⟩:=hrob j hjr ao ef p.1 p.2 hao hefj g1 g2;simp only[ej,hsub,eC];by_cases h1:p.1.dst=some x
     . rw[qb h1,qa (w1 x h1).2,qb h1]
     . rw[qa h1];by_cases h2:ao.dst=some x
       . rw[qb h2,qa h1,qb h2];exact r1.symm
       . rw[qa h2,qa h1,qa h2]
   . have hsk:p.2.sub=[]:=hpure k p hp (w2 hke);simp only[ej,hsk,eC];by_cases h1:p.1.dst=some x
     . rw[qb h1,qb h1,qa (w1 x h1).2];cases ht:ao.tot with
       | false=>rw[hpure j (ao,ef) (hz j ao ef hao hefj) ht,eC]
       | true=>
        obtain⟨hje,hkr⟩:=w4 ht;subst hje;exact (hrob k hkr p.1 p.2 ao ef g1 g2 hao hefj).1
     . rw[qa h1,qa h1]
 . rw[fg];simp only[aw];have hkj:((aos.zip efs).map chF)[j]? = some (chF (ao,ef)):=by simp[hz j ao ef hao hefj]
   rcases m4 with⟨ht,hc⟩ | ⟨ht,hc⟩
   . rw[hc];refine (jU _ _ 0 _ _ j _ hkj (by simp) (fun a=>by simp[chF,ht]) (fun k g hk hg hs=>?_)).symm;obtain⟨p,hp,rfl⟩:=hmapC k g hg;obtain⟨g1,g2⟩:=hz' k p hp;have hkb:(k == j)=false:=by simp;omega
     simp only[zz,hkb,zF]at hs;obtain⟨_,_,w3,w4⟩:=hsw k p.1 g1 (.inr ⟨hk,hs⟩);have hje:=(w4 ht).1;exact hidC k p g1 (.inr ⟨hk,hs⟩) (by omega) _
   . rw[hc,fg];refine d9 _ _ _ 0 _ (fun k f hk=>?_);by_cases hkj2:k=j
     . subst hkj2;rw[hkj]at hk;cases hk;right;intro c;simp[chF,ht]
     . left;have:(0+k == 0+j)=false:=by simp;exact hkj2
       simp only[this,zF]
end Go.Am
end
section
namespace Go.Am
variable {P : Program} [Glob P]
def ownFlag (h:AO):Bool:=match h.op with | .mkSl own _ _ _ _ _=>own | .store own _ _ _=>own | .mvs _=>true | _=>false
def inB (n:Nat) (ao:AO):Bool:=
 (match ao.dst with | some d=>decide (d < n) | none=>true) && (match ao.guard with | some (g,_)=>decide (g < n) | none=>true)
def jb (P:Program) (n:Nat) (ops:Array Oper):List AO->List Oper->Option (List AO)
 |[],[]=>some []
 | h :: hs,o :: os=>(lU P (ownFlag h) h.tot ops o).bind fun ao=>if inB n ao && (ao.tot == h.tot)then (jb P n ops hs os).map (ao :: ·)else none
 |_,_=>none
def d8 (P:Program) (n:Nat):AC->Code->Option AC
 |.keep l x,c=>(d8 P n x c).map (.keep l)
 |.cut x,c=>(d8 P n x c).map .cut
 |.nilrow i sz ty x,c=>(d8 P n x c).map (.nilrow i sz ty)
 |.fz l x,c=>(d8 P n x c).map (.fz l)
 |.deepen i isz ity x,c=>(d8 P n x c).map (.deepen i isz ity)
 |.rangeFunc _ _ a b,.rangeFunc g ps x y=>if ps.all (fun p=>decide (p < n))then (d8 P n a x).bind fun a'=>(d8 P n b y).map fun b'=>.rangeFunc g ps.toList a' b' else none
 |.skip,.skip=>some .skip
 |.ret,.ret=>some .ret
 |.seq a b,.seq c d=>(d8 P n a c).bind fun a'=>(d8 P n b d).map fun b'=>.seq a' b'
 |.region dr hs,.region _ ops draw=>
  if draw=dr then (jb P n ops hs ops.toList).bind fun r=>if !dr || (ni ops r && P.follows .mixedOrders)then some (.region dr r)else none else none
 |.draw e rb hs,.region _ ops true=>
  (jb P n ops hs ops.toList).bind fun r=>if lW e rb ops r && P.follows .mixedOrders then some (.draw e rb r)else none
 |.cond _ a b,.cond c x y=>(d8 P n a x).bind fun a'=>(d8 P n b y).map fun b'=>.cond c a' b'
 |.block _ a,.block id x=>(d8 P n a x).map (.block id)
 |.loop a,.loop x=>(d8 P n a x).map .loop
 |.exit _,.exit id=>some (.exit id)
 |_,_=>none
inductive It where
 | c (x:AC)
 | blk (id:Nat)
 | post (Q:ASt->Prop)
 | rnd (N:ASt->Prop) (R:Code->ASt->Prop)
 | lp (x:AC)
def RnH (P:Program) [Glob P] (cx:Cx) (Q:ASt->Prop) (a:Act) (w:World):Prop:=∃ E U st,Holds P cx E U a w st/\Q st
def s9 (P:Program) (ro:Option Nat) (Q:Exit->Act->World->Prop) (c:Code) (a:Act) (w:World):Prop:=
 ∀ (b:Frame) (kk:List Item) (cs:List Frame),b.roundOf=(FW ro).round->(FW ro).fn b.fn->(FW ro).room (cs.length+1+0) ->
  ∃ e a' w',Q e a' w'/\ArrivesIn (Machine.fenced P (FW ro)) P (lone (b.atR a (.code c :: .inLoop c :: kk)) cs w) b kk cs e a' w'
def WE (P:Program) [Glob P] (cx:Cx) (Q:ASt->Prop):List It->Exit->Act->World->Prop
 |[],.normal,a,w=>RnH P cx Q a w
 |[],.ret,a,w=>RnH P cx Q a w
 |[],_,_,_=>False
 |.c x :: k,.normal,a,w=>∀ code,d8 P cx.n x code=some x->code.wpIn (FW cx.ro) 0 P (WE P cx Q k) a w
 |.c _ :: k,e,a,w=>WE P cx Q k e a w
 |.blk _ :: k,.normal,a,w=>WE P cx Q k .normal a w
 |.blk id :: k,.exit j,a,w=>if j=id then WE P cx Q k .normal a w else WE P cx Q k (.exit j) a w
 |.blk _ :: k,e,a,w=>WE P cx Q k e a w
 |.post R :: _,.normal,a,w=>RnH P cx R a w
 |.post _ :: k,e,a,w=>WE P cx Q k e a w
 |.lp x :: k,.normal,a,w=>∀ code,d8 P cx.n x code=some x->s9 P cx.ro (WE P cx Q k) code a w
 |.lp _ :: k,e,a,w=>WE P cx Q k e a w
 |.rnd N _ :: _,.normal,a,w=>RnH P cx N a w
 |.rnd _ R :: _,.ret,a,w=>RnH P cx (R .ret) a w
 |.rnd _ R :: _,.exit j,a,w=>RnH P cx (R (.exit j)) a w
 |.rnd _ _ :: _,_,_,_=>False
def SG (P:Program) [Glob P] (cx:Cx) (Q:ASt->Prop) (k:List It) (st:ASt):Prop:=
 ∀ E U a w,Holds P cx E U a w st->WE P cx Q k .normal a w
def DG (P:Program) [Glob P] (cx:Cx) (Q:ASt->Prop) (dr:Bool) (k:List It) (os:List AO) (st:ASt):Prop:=
 match dr with
 | true=>∃ st',iu P true os st st'/\SG P cx Q k st'
 | false=>jl P cx (SG P cx Q k) os st
end Go.Am
end
section
namespace Go.Am
variable {P : Program} [Glob P]
variable {cx : Cx} {Q : ASt → Prop} {k : List It} {st : ASt}
def bw (Q:ASt->Prop):List It->ASt->Prop
 |[],st=>Q st
 |.rnd _ R :: _,st=>R .ret st
 |.c _ :: k,st=>bw Q k st
 |.blk _ :: k,st=>bw Q k st
 |.post _ :: k,st=>bw Q k st
 |.lp _ :: k,st=>bw Q k st
theorem kj : ∀ (k:List It) (a:Act) (w:World),RnH P cx (bw Q k) a w->WE P cx Q k .ret a w
 |[],_,_,h=>h
 |.c _ :: k,a,w,h=>kj k a w h
 |.blk _ :: k,a,w,h=>kj k a w h
 |.post _ :: k,a,w,h=>kj k a w h
 |.lp _ :: k,a,w,h=>kj k a w h
 |.rnd _ _ :: _,_,_,h=>h
inductive ER where
 | cont (k:List It)
 | out (p:ASt->Prop)
 | none
def aJ (id:Nat):List It->ER
 |[]=>.none
 |.blk j :: k=>if j=id then .cont k else aJ id k
 |.rnd _ R :: _=>.out (R (.exit id))
 |.c _ :: k=>aJ id k
 |.post _ :: k=>aJ id k
 |.lp _ :: k=>aJ id k
theorem jx {id:Nat}:∀ (k k':List It) (a:Act) (w:World),aJ id k=.cont k'->WE P cx Q k' .normal a w->WE P cx Q k (.exit id) a w
 |[],k',a,w,h,_=>by simp[aJ]at h
 |.c _ :: k,k',a,w,h,h2=>jx k k' a w (by simpa only[aJ]using h) h2
 |.post _ :: k,k',a,w,h,h2=>jx k k' a w (by simpa only[aJ]using h) h2
 |.lp _ :: k,k',a,w,h,h2=>jx k k' a w (by simpa only[aJ]using h) h2
 |.rnd _ _ :: k,k',a,w,h,h2=>by simp[aJ]at h
 |.blk j :: k,k',a,w,h,h2=>by
  simp only[aJ]at h;simp only[WE];by_cases hj:j=id
  . subst hj;simp at h;subst h;simpa using h2
  . rw[qa hj]at h;rw[qa (fun e=>hj e.symm)];exact jx k k' a w h h2
theorem ki {id:Nat}:∀ (k:List It) (p:ASt->Prop) (a:Act) (w:World),aJ id k=.out p->RnH P cx p a w->WE P cx Q k (.exit id) a w
 |[],p,a,w,h,_=>by simp[aJ]at h
 |.c _ :: k,p,a,w,h,h2=>ki k p a w (by simpa only[aJ]using h) h2
 |.post _ :: k,p,a,w,h,h2=>ki k p a w (by simpa only[aJ]using h) h2
 |.lp _ :: k,p,a,w,h,h2=>ki k p a w (by simpa only[aJ]using h) h2
 |.rnd _ R :: k,p,a,w,h,h2=>by simp only[aJ,ER.out.injEq]at h;subst h;exact h2
 |.blk j :: k,p,a,w,h,h2=>by
  simp only[aJ]at h;simp only[WE];by_cases hj:j=id
  . subst hj;simp at h
  . rw[qa hj]at h;rw[qa (fun e=>hj e.symm)];exact ki k p a w h h2
theorem S_nil (h:Q st):SG P cx Q [] st:=fun E U a w hh=>⟨E,U,st,hh,h⟩
theorem S_post {R:ASt->Prop} (h:R st):SG P cx Q (.post R :: k) st:=fun E U a w hh=>⟨E,U,st,hh,h⟩
theorem S_blk {id:Nat} (h:SG P cx Q k st):SG P cx Q (.blk id :: k) st:=fun E U a w hh=>h E U a w hh
theorem eW {x:AC} (h:∀ code,d8 P cx.n x code=some x->∀ E U a w,Holds P cx E U a w st->code.wpIn (FW cx.ro) 0 P (WE P cx Q k) a w):SG P cx Q (.c x :: k) st:=
 fun E U a w hh code hc=>h code hc E U a w hh
theorem py {x:AC} {c:Code} {E:Env} {U:Nat->Prop} {a:Act} {w:World} (h:SG P cx Q (.c x :: .lp x :: k) st) (hh:Holds P cx E U a w st) (hc:d8 P cx.n x c=some x):s9 P cx.ro (WE P cx Q k) c a w:=by
 intro b kk cs hro hF hroom;obtain⟨e,a1,w1,hq,harr⟩:=h E U a w hh c hc b (.inLoop c :: kk) cs hro hF hroom;cases e with
 | normal=>
  obtain⟨e2,a2,w2,hq2,harr2⟩:=hq c hc b kk cs hro hF hroom;exact⟨e2,a2,w2,hq2,.of_steps (StepsIn.trans harr (.one (fenced_calm hF hroom rfl) stepR_inLoop)) harr2⟩
 | exit id=>exact⟨_,a1,w1,hq,.pass (x:=.inLoop c) rfl (fun _ _=>.inl (by simp)) harr⟩
 | goto l=>exact⟨_,a1,w1,hq,.pass (x:=.inLoop c) rfl (fun _ _=>.inl (by simp)) harr⟩
 | ret=>exact⟨_,a1,w1,hq,.pass (x:=.inLoop c) rfl (fun _ _=>.inl (by simp)) harr⟩
 | panic ch=>exact⟨_,a1,w1,hq,.pass (x:=.inLoop c) rfl (fun _ _=>.inl (by simp)) harr⟩
 | outgrown=>exact⟨_,a1,w1,hq,.pass (x:=.inLoop c) rfl (fun _ _=>.inl (by simp)) harr⟩
theorem S_lp {x:AC} (h:SG P cx Q (.c x :: .lp x :: k) st):SG P cx Q (.lp x :: k) st:=fun _ _ _ _ hh _ hc=>py h hh hc
theorem S_lp0 {x:AC} (h:SG P cx Q (.c x :: .lp x :: k) st):SG P cx Q (.c (.loop x) :: k) st:=eW fun code hc E U a w hh=>by
 cases code <;> simp[d8]at hc;rename_i c;intro b kk cs hro hF hroom;obtain⟨e,a',w',hq,harr⟩:=py h hh hc b kk cs hro hF hroom;exact⟨e,a',w',hq,.of_steps (.one (fenced_calm hF hroom rfl) stepR_loop) harr⟩
theorem S_skip (h:SG P cx Q k st):SG P cx Q (.c .skip :: k) st:=eW fun code hc E U a w hh=>by
 cases code <;> simp[d8]at hc;exact wpIn_skip (h E U a w hh)
theorem S_ret (h:bw Q k st):SG P cx Q (.c .ret :: k) st:=eW fun code hc E U a w hh=>by
 cases code <;> simp[d8]at hc;exact wpIn_ret (kj k a w ⟨E,U,st,hh,h⟩)
theorem S_out {id:Nat} {p:ASt->Prop} (hk:aJ id k=.out p) (h:p st):SG P cx Q (.c (.exit id) :: k) st:=eW fun code hc E U a w hh=>by
 cases code <;> simp[d8]at hc;subst hc;exact wpIn_exit (ki k p a w hk ⟨E,U,st,hh,h⟩)
theorem S_exit {id:Nat} {k':List It} (hk:aJ id k=.cont k') (h:SG P cx Q k' st):SG P cx Q (.c (.exit id) :: k) st:=eW fun code hc E U a w hh=>by
 cases code <;> simp[d8]at hc;subst hc;exact wpIn_exit (jx k k' a w hk (h E U a w hh))
theorem S_seq {x y:AC} (h:SG P cx Q (.c x :: .c y :: k) st):SG P cx Q (.c (.seq x y) :: k) st:=eW fun code hc E U a w hh=>by
 cases code <;> simp only[d8,zk,za,reduceCtorEq]at hc;rename_i c d;obtain⟨a',h1,b',h2,h3⟩:=hc;cases h3;refine wpIn_seq (wpIn_mono (h E U a w hh c h1) (fun e a w he=>?_));cases e <;> first | exact he | exact he d h2
theorem S_keep {l:List Nat} {x:AC} (h:SG P cx Q (.c x :: k) st):SG P cx Q (.c (.keep l x) :: k) st:=eW fun code hc E U a w hh=>by
 simp only[d8,za]at hc;obtain⟨x',h1,h2⟩:=hc;cases h2;exact h E U a w hh code h1
theorem td {i sz:Nat} {ty:TypeId} {x:AC} (h:SG P cx Q (.c x :: k) st):SG P cx Q (.c (.nilrow i sz ty x) :: k) st:=eW fun code hc E U a w hh=>by
 simp only[d8,za]at hc;obtain⟨x',h1,h2⟩:=hc;cases h2;exact h E U a w hh code h1
theorem S_fz0 {l:List Nat} {x:AC} (h:SG P cx Q (.c x :: k) st):SG P cx Q (.c (.fz l x) :: k) st:=eW fun code hc E U a w hh=>by
 simp only[d8,za]at hc;obtain⟨x',h1,h2⟩:=hc;cases h2;exact h E U a w hh code h1
theorem tb {i isz:Nat} {ity:TypeId} {x:AC} (h:SG P cx Q (.c x :: k) st):SG P cx Q (.c (.deepen i isz ity x) :: k) st:=eW fun code hc E U a w hh=>by
 simp only[d8,za]at hc;obtain⟨x',h1,h2⟩:=hc;cases h2;exact h E U a w hh code h1
theorem S_block {id:Nat} {x:AC} (h:SG P cx Q (.c x :: .blk id :: k) st):SG P cx Q (.c (.block id x) :: k) st:=eW fun code hc E U a w hh=>by
 cases code <;> simp[d8]at hc;rename_i id' c;obtain⟨h1,rfl⟩:=hc;refine wpIn_block (wpIn_mono (h E U a w hh c h1) (fun e a w he=>?_));cases e <;> exact he
theorem S_cond {c:Operand} {x y:AC} {b:Bool} (hb:aq P st.t c=.s (.bool b)) (h1:b=true->SG P cx Q (.c x :: k) st) (h2:b=false->SG P cx Q (.c y :: k) st):SG P cx Q (.c (.cond c x y) :: k) st:=eW fun code hc E U a w hh=>by
 cases code <;> simp only[d8,zk,za,reduceCtorEq]at hc;rename_i c' p q;obtain⟨a',g1,b',g2,g3⟩:=hc;cases g3;have he:=dK (hb ▸ hh.ev c);exact wpIn_cond_split he (fun e=>h1 e E U a w hh p g1) (fun e=>h2 e E U a w hh q g2)
theorem iz {n:Nat} {ops:Array Oper}:∀ {hs:List AO} {os:List Oper} {r:List AO},jb P n ops hs os=some r->r.length=os.length/\∀ (j:Nat) o ao,os[j]? = some o->r[j]? = some ao->fW P n ops o ao
 |[],[],r,h=>by simp[jb]at h;subst h;exact⟨rfl,fun j o ao h=>by simp at h⟩
 |[],o :: os,r,h=>by simp[jb]at h
 | x :: hs,[],r,h=>by simp[jb]at h
 | x :: hs,o :: os,r,h=>by
  simp only[jb,zk]at h;obtain⟨ao,h1,h2⟩:=h;split at h2
  . rename_i hb;simp only[za]at h2;obtain⟨r',h3,rfl⟩:=h2;obtain⟨g1,g2⟩:=iz h3;refine⟨by simp[g1],fun j o' ao' ho ha=>?_⟩;cases j with
    | zero=>
     simp at ho ha;subst ho ha;simp only[zm,inB,beq_iff_eq]at hb;obtain⟨⟨b1,b2⟩,b3⟩:=hb;refine⟨⟨_,by rw[b3];exact h1⟩,fun d hd=>?_,fun d want hd=>?_⟩
     . rw[hd]at b1;simpa using b1
     . rw[hd]at b2;simpa using b2
    | succ j=>simp at ho ha;exact g2 j o' ao' ho ha
  . cases h2
theorem uQ {dr:Bool} {os:List AO} (h:DG P cx Q dr k os st):SG P cx Q (.c (.region dr os) :: k) st:=eW fun code hc E U a w hh=>by
 cases code <;> simp only[d8,reduceCtorEq]at hc;rename_i id ops draw;split at hc
 . rename_i hd;subst hd;simp only[zk]at hc;obtain⟨r,h3,h4⟩:=hc;split at h4
   . rename_i hok;simp only[zn,AC.region.injEq,true_and]at h4;subst h4;obtain⟨g1,g2⟩:=iz h3;have g2':∀ (j:Nat) o ao,ops[j]? = some o->r[j]? = some ao->fW P cx.n ops o ao:=fun j o ao ho ha=>g2 j o ao (by simpa using ho) ha
     cases draw with
     | false=>
      exact wpIn_region_list (pD (cx:=cx) (Q:=WE P cx Q k) (G:=SG P cx Q k) (fun st' h2 E' U' a' w' h=>h2 E' U' a' w' h) ops.toList r st E U a w g1.symm g2 h hh)
     | true=>
      obtain⟨st',h1,h2⟩:=h;simp only[Bool.not_true,zF,zm]at hok;exact rM hok.2 (by simpa using g1.symm) g2' hok.1 h1 hh (fun E' U' a' w' h=>h2 E' U' a' w' h)
   . cases h4
 . cases hc
def LeS (s s':ASt):Prop:=(∀ i,gt s'.t i=.any\/gt s.t i=gt s'.t i)/\((s'.ch.map (·.1)).Nodup/\∀ p∈s'.ch,lk s.ch p.1=some p.2)
theorem gv.less {E:Env} {U:Nat->Prop} {h:Array Obj} {ch ch':Chs} {b:Nat} {o:Obj} (hh:gv E U h ch b o) (hs:∀ k c,(k,c)∈ch'->(k,c)∈ch):gv E U h ch' b o:=⟨hh.1,hh.2.1,fun k c hm=>hh.2.2 k c (hs k c hm)⟩
theorem Holds.le {cx:Cx} {E:Env} {U:Nat->Prop} {a:Act} {w:World} {s s':ASt} (hh:Holds P cx E U a w s) (h:LeS s s'):Holds P cx E U a w s':=by
 have hs:∀ k c,(k,c)∈s'.ch->(k,c)∈s.ch:=fun k c hm=>dH (h.2.2 (k,c) hm)
 refine⟨hh.sz,?_,fun i=>?_,hh.inv.sub hs h.2.1,hh.os,hh.tape,hh.output,hh.size,hh.fr,hh.keepA,fun k c hm=>hh.live k c (hs k c hm),hh.base,fun k cs hk hm=>hh.fix k cs hk (hs k _ hm),fun p hp=>(hh.hid p hp).less hs,hh.gok⟩
 . obtain⟨Ds,h1,h2,h3⟩:=hh.df;exact⟨Ds,h1,h2,fun D hD=>⟨(h3 D hD).1,(h3 D hD).2.less hs⟩⟩
 . rcases h.1 i with e | e
   . rw[e];exact .d (.any _)
   . rw[<- e];exact hh.tok i
end Go.Am
end
section
namespace Go.Am
variable {P : Program} [Glob P] {cx : Cx} {Q : ASt → Prop} {k : List It} {st : ASt}
def av : List Nat->Nat->Bool
 |[],_=>false
 | j :: l,i=>if j=i then true else av l i
def bv (l:List Nat):dJ->dJ
 |[]=>[]
 | (i,c) :: t=>if av l i=true then (i,c) :: bv l t else bv l t
theorem vr (l:List Nat) (t:dJ) (i:Nat):gt (bv l t) i=.any\/gt t i=gt (bv l t) i:=by
 induction t with
 | nil=>exact .inl rfl
 | cons p t ih=>
  obtain⟨j,c⟩:=p;simp only[bv];by_cases hj:j=i
  . subst hj;by_cases hl:av l j=true
    . rw[qb hl];exact .inr (by simp[gt,lk])
    . rw[qa hl];left;have:∀ t:dJ,gt (bv l t) j=.any:=by
       intro t
       induction t with
       | nil=>rfl
       | cons q t ih2=>
        obtain⟨m,c'⟩:=q;simp only[bv];by_cases hm:av l m=true
        . rw[qb hm];have hne:m≠j:=fun e=>hl (e ▸ hm)
          simp only[gt,lk,qa hne]at ih2 ⊢;exact ih2
        . rw[qa hm];exact ih2
      exact this t
  . by_cases hl:av l j=true
    . rw[qb hl];simp only[gt,lk,qa hj]at ih ⊢;exact ih
    . rw[qa hl];simp only[gt,lk,qa hj]at ih ⊢;exact ih
theorem Holds.slots {E:Env} {U:Nat->Prop} {a:Act} {w:World} {t:dJ} (hh:Holds P cx E U a w st) (ht:∀ i,Rep E U w.heap (gt t i) (a.tmps.getD i undef)):Holds P cx E U a w ⟨t,st.ch⟩:=
 ⟨hh.sz,hh.df,ht,hh.inv,hh.os,hh.tape,hh.output,hh.size,hh.fr,hh.keepA,hh.live,hh.base,hh.fix,hh.hid,hh.gok⟩
theorem S_keepT {l:List Nat} (h:SG P cx Q k ⟨bv l st.t,st.ch⟩):SG P cx Q k st:=fun E U a w hh=>
 h E U a w (hh.slots fun i=>by
  rcases vr l st.t i with e | e
  . rw[e];exact .d (.any _)
  . rw[<- e];exact hh.tok i)
theorem dW.refl : dW P cx st st:=fun E U _ _ hh=>⟨E,U,hh⟩
theorem fE {s':ASt} (hg:dW P cx st s') (h:SG P cx Q k s'):SG P cx Q k st:=fun E U a w hh=>by
 obtain⟨E',U',h'⟩:=hg E U a w hh;exact h E' U' a w h'
theorem Holds.ghost {E:Env} {U:Nat->Prop} {a:Act} {w:World} (hh:Holds P cx E U a w st) {m:List (Nat×Sb)} {d:Nat} {E':Env} {U':Nat->Prop} {ch':Chs} (hd:d < 100000) (he:Ev E U w st.ch m d E' U' w ch'):Holds P cx E' U' a w ⟨bq m st.t,ch'⟩:=by
 refine⟨hh.sz,hh.onDf he,fun i=>by rw[ie];exact he.rep (hh.tok i),he.inv,hh.os,hh.tape,hh.output,hh.size,hh.fr,fun b hb=>⟨(he.keep b (hh.keepA b hb).1).1,(hh.keepA b hb).2⟩,fun k c hm b hb=>?_,fun b hb=>?_,fun k cs hk hm=>?_,fun p hp=>(hh.hid p hp).ev he,hh.gok.mono he.keep⟩
 . rcases he.live k c hm b hb with h | ⟨k0,c0,h1,h2⟩
   . exact .inl (z6 hh.size h)
   . exact hh.live k0 c0 h1 b h2
 . rcases he.newU b hb with h | h | ⟨k0,c0,h1,h2⟩
   . exact hh.base b h
   . exact .inr (.inl (z6 hh.size h))
   . rcases hh.live k0 c0 h1 b h2 with h | h
     . exact .inr (.inl h)
     . exact .inr (.inr h)
 . rcases he.boxes k cs hm with h | ⟨⟨cs0,h1⟩,h2⟩
   . have:=Cx.fx_ge hk;omega
   . exact h2.trans (hh.fix k cs0 hk h1)
def bf (ch:Chs):List Nat->List (Nat×Sb)
 |[]=>[]
 | k :: ks=>
  match (lk ch k).bind bz with
  | some x=>(k,.c x) :: bf ch ks
  | none=>bf ch ks
theorem jm {ch:Chs}:∀ ks:List Nat,qA ch (bf ch ks)
 |[]=>fun k c h=>by simp[bf]at h
 | k :: ks=>by
  simp only[bf];cases hl:(lk ch k).bind bz with
  | none=>exact jm ks
  | some x=>
   simp only[zk]at hl;obtain⟨c0,hl,hx⟩:=hl;intro k' c' h;simp only[z0]at h;by_cases hk:k'=k
   . subst hk;simp at h;exact⟨c0,x,hl,hx,h.symm⟩
   . have hb:(k' == k)=false:=by simp[hk]
     rw[hb]at h;exact jm ks k' c' h
def cd (ks:List Nat) (s:ASt):ASt:=⟨bq (bf s.ch ks) s.t,ae (bf s.ch ks) (aB s.ch (bf s.ch ks))⟩
theorem Holds.fz {E:Env} {U:Nat->Prop} {a:Act} {w:World} (hh:Holds P cx E U a w st) (ks:List Nat):∃ U',Holds P cx E U' a w (cd ks st):=by
 have he:=Ev.freeze (w1:=w) hh.inv (jm ks) rfl rfl rfl (zw _) (fun _ _=>rfl) (fun _=>False) (fun b h=>h.elim) 0;exact⟨_,hh.ghost (by decide) he⟩
theorem dW.fz (ks:List Nat):dW P cx st (cd ks st):=fun E U a w hh=>by
 obtain⟨U',h⟩:=hh.fz ks;exact⟨E,U',h⟩
theorem S_fz (ks:List Nat) (h:SG P cx Q k (cd ks st)):SG P cx Q k st:=fE (dW.fz ks) h
def dm (i sz:Nat) (ty:TypeId) (s:ASt):ASt:=⟨am (bq [(i,.c .any)] s.t) i (.own i),(i,.row sz ty []) :: ae [(i,.c .any)] (af s.ch i)⟩
theorem dW.nilrow {i sz:Nat} {ty:TypeId} (hi:i < 100000) (hn:gt st.t i=.s (.slice none 0 0)):dW P cx st (dm i sz ty st):=fun E U a w hh=>by
 let x:KE:=ke0 ⟨0,0,0,0,sz,true⟩
 have hx:dM (dQ E i x) U w.heap i (.row sz ty []):=by
  rw[dM,updE_same];exact⟨⟨rfl,rfl,(fun n el h=>by simp at h),.inl ⟨rfl,rfl⟩⟩,gn _⟩
 have he:=Ev.freshNil hh.inv i x (.row sz ty []) (fun b hb=>by cases hb.1) hx;have hv:a.tmps.getD i undef=.slice none 0 0:=dK (hn ▸ hh.tok i);have h1:=hh.ghost hi he;refine⟨_,U,h1.slots fun j=>?_⟩;by_cases hj:i=j
 . subst hj;simp only[fF,qj];have:=Rep.own (E:=dQ E i x) (U:=U) (h:=w.heap) i;rw[updE_same]at this;rw[hv];exact this
 . have:=h1.tok j;simp only[fF,qa hj];exact this
theorem mA {i sz:Nat} {ty:TypeId} (hi:i < 100000) (hn:gt st.t i=.s (.slice none 0 0)) (h:SG P cx Q k (dm i sz ty st)):SG P cx Q k st:=fE (dW.nilrow hi hn) h
def cB (kk isz:Nat) (ity ty:TypeId) (es:List (List C)) (s:ASt):ASt:=⟨bq [(kk,.inner)] s.t,(kk,.deep isz ity ty none (es.map fun _=>[])) :: ae [(kk,.inner)] (af s.ch kk)⟩
theorem dW.deepen {kk isz:Nat} {ity ty:TypeId} {es:List (List C)} (hl:lk st.ch kk=some (.row 1 ty es)) (hes:∀ e∈es,e=[.s (.slice none 0 0)]):dW P cx st (cB kk isz ity ty es st):=fun E U a w hh=>by
 have hkm:=dH hl;obtain⟨⟨h1,h2,h3,h4⟩,hf⟩:=hh.inv.ok kk _ hkm
 let y0:KE0:=⟨0,0,0,0,isz,true⟩
 let x:KE:=mkK (E kk).toKE0 (fun _=>y0) (eh isz ity none (es.map fun _=>[]))
 have hx:FpOk x (eh isz ity none (es.map fun _=>[])):=nM (fun i q _ h=>by cases h) (fun i j q q' _ _ _ h=>by cases h)
 have he:=Ev.write (w1:=w) (k:=kk) (c1:=.deep isz ity ty none (es.map fun _=>[])) (x:=x) hh.inv hl rfl rfl rfl (zw _) (fun _ _ _=>rfl) rfl (fun b hb=>by
  rcases hb with h | ⟨i,q,_,h,_⟩
  . exact (hf.fp b).2 (.inl h)
  . cases h) (fun⟨cs,h⟩=>by cases h) (fun _ _=>by
  simp only[dM,updE_same];refine⟨⟨by rw[zy];exact h1,h2,?_⟩,hx,fun i n t es' h=>?_⟩
  . rcases h4 with⟨g1,rfl⟩ | ⟨g1,g2,g3,arr,g4,g5,g6⟩
    . exact .inl ⟨g1,rfl⟩
    . refine .inr ⟨g1,by rw[zy];exact g2,g3,arr,g4,by rw[yA]at g5;exact g5,fun i hi=>?_⟩;have hi':i < es.length:=by simpa using hi
      have e1:=hes es[i] (yy hi');have e2:es[i]? = some [.s (.slice none 0 0)]:=by rw[ze hi',e1]
      obtain⟨r1,r2⟩:=g6 i _ 0 _ e2 rfl;rw[yA,zL]at r1 r2;exact⟨r2,fun _=>nS r1⟩
  . simp only[eh,reduceCtorEq,qi,zh,Option.map_map,za]at h;obtain⟨e,_,h⟩:=h;simp only[Function.comp,zf]at h;obtain⟨rfl,rfl,rfl⟩:=h
    exact⟨rfl,rfl,(fun n el h=>by simp at h),.inl ⟨rfl,rfl⟩⟩) 0
 exact⟨_,U,hh.ghost (by decide) he⟩
end Go.Am
end
section
namespace Go.Am
variable {P : Program} [Glob P] {cx : Cx} {Q : ASt → Prop} {k : List It} {st : ASt}
variable {dr : Bool} {o : AO} {os : List AO}
def bK (dr:Bool) (o:AO) (ef:Eff) (s:ASt):Prop:=
 match dr,o.tot with
 | true,false=>ef.ch=s.ch/\ef.sub=[]
 |_,_=>True
theorem jF {ef:Eff} {s:ASt} (h:bK dr o ef s):dr=true->o.tot=true\/(ef.ch=s.ch/\ef.sub=[]):=fun hd=>by
 subst hd;cases ht:o.tot with
 | true=>exact .inl rfl
 | false=>simp only[bK,ht]at h;exact .inr h
theorem D_nil (h:SG P cx Q k st):DG P cx Q dr k [] st:=by
 cases dr with
 | true=>exact⟨st,rfl,h⟩
 | false=>exact h
theorem pV {ef:Eff} (hs:StepE P o st ef) (hd:bK dr o ef st) (h:DG P cx Q dr k os (aw o.dst ef st)):DG P cx Q dr k (o :: os) st:=by
 cases dr with
 | true=>
  obtain⟨st',h1,h2⟩:=h;exact⟨st',⟨ef,hs,jF hd,h1⟩,h2⟩
 | false=>
  cases hs with
  | yes _ hw hr=>exact .inr ⟨hw,st,dW.refl,.inl ⟨ef,hr,h⟩⟩
  | no hw=>exact .inl ⟨hw,h⟩
theorem og {s':ASt} (hno:o.guard=none) (hg:dW P cx st s') (h:DG P cx Q false k (o :: os) s'):DG P cx Q false k (o :: os) st:=by
 rcases h with⟨h1,_⟩ | ⟨h1,s1,g1,g2⟩
 . rw[hno]at h1;cases h1
 . refine .inr ⟨by rw[hno];rfl,s1,fun E U a w hh=>?_,g2⟩;obtain⟨E',U',h'⟩:=hg E U a w hh;exact g1 E' U' a w h'
theorem oh {outs:Eff->Prop} (hg:o.guard=none) (ho:OpM P cx.ro (aq P st.t) st.ch (o.dst.getD 0) o.op outs) (h:∀ ef,outs ef->DG P cx Q false k os (aw o.dst ef st)):DG P cx Q false k (o :: os) st:=
 .inr ⟨by rw[hg];rfl,st,dW.refl,.inr ⟨outs,ho,h⟩⟩
theorem D_outs {outs:List Eff} (hg:o.guard=none) (ho:OpM P cx.ro (aq P st.t) st.ch (o.dst.getD 0) o.op (fun ef=>ef∈outs)) (h:∀ ef∈outs,DG P cx Q false k os (aw o.dst ef st)):DG P cx Q false k (o :: os) st:=
 oh hg ho h
def EqS (s s':ASt):Prop:=(∀ i,gt s.t i=gt s'.t i)/\s.ch=s'.ch
theorem iu.eqS : ∀ (os:List AO) (s s2 s':ASt),EqS s s2->iu P dr os s s'->∃ s2',EqS s' s2'/\iu P dr os s2 s2'
 |[],s,s2,s',he,h=>by simp only[iu]at h;subst h;exact⟨s2,he,rfl⟩
 | o :: os,s,s2,s',he,h=>by
  obtain⟨ef,h1,h2,h3⟩:=h;have he2:EqS (aw o.dst ef s) (aw o.dst ef s2):=⟨fun i=>by simp only[aw,fm,he.1 i],rfl⟩;obtain⟨s2',g1,g2⟩:=iu.eqS os _ _ s' he2 h3;exact⟨s2',g1,ef,h1.congr (fun i _=>he.1 i) he.2,fun hd=>by rw[<- he.2];exact h2 hd,g2⟩
theorem SG.eqS {s2:ASt} (he:EqS s2 st) (h:SG P cx Q k s2):SG P cx Q k st:=fun E U a w hh=>h E U a w (hh.ext (fun i=>(he.1 i).symm) he.2.symm)
theorem dW.eqS {s s':ASt} (he:EqS s s'):dW P cx s' s:=fun E U _ _ hh=>⟨E,U,hh.ext (fun i=>(he.1 i).symm) he.2.symm⟩
theorem jl.eqS {G:ASt->Prop} (hG:∀ s s2,EqS s2 s->G s2->G s):∀ (os:List AO) (s s2:ASt),EqS s2 s->jl P cx G os s2->jl P cx G os s
 |[],s,s2,he,h=>hG s s2 he h
 | o :: os,s,s2,he,h=>by
  have hw:fe s2.t o.guard=fe s.t o.guard:=by
   cases hg:o.guard with
   | none=>rfl
   | some g=>obtain⟨g,want⟩:=g;simp only[fe,he.1 g]
  rcases h with⟨h1,h2⟩ | ⟨h1,s1,g1,g2⟩
  . refine .inl ⟨hw ▸ h1,jl.eqS hG os _ (aw o.dst ⟨True,.s undef,s2.ch,[]⟩ s2) ⟨fun i=>by simp only[aw,fm,he.1 i],he.2⟩ h2⟩
  . refine .inr ⟨hw ▸ h1,s1,fun E U a w hh=>?_,g2⟩;obtain⟨E',U',h'⟩:=dW.eqS he E U a w hh;exact g1 E' U' a w h'
theorem DG.eqS {s2:ASt} (he:EqS s2 st) (h:DG P cx Q dr k os s2):DG P cx Q dr k os st:=by
 cases dr with
 | true=>
  obtain⟨s',h1,h2⟩:=h;obtain⟨s2',g1,g2⟩:=iu.eqS os _ _ s' he h1;exact⟨s2',g2,h2.eqS g1⟩
 | false=>exact jl.eqS (fun s s2 he h=>SG.eqS he h) os _ _ he h
theorem r9 {g:Nat} {c:C} (h:gt st.t g=c):EqS ⟨am st.t g c,st.ch⟩ st:=⟨fun i=>by
 simp only[fF];split
 . rename_i e;subst e;exact h.symm
 . rfl,rfl⟩
structure WfR (chs:Chs) (r:C) (chs':Chs) (nk:List Nat):Prop where
 new:∀ k c,(k,c)∈chs'->k∈nk\/∃ c0,(k,c0)∈chs
 old:∀ k cs,(k,.box cs)∈chs->∃ cs',(k,.box cs')∈chs'
 kr:dG (chs'.map (·.1)) r
 kc:∀ k c,(k,c)∈chs'->gd (chs'.map (·.1)) c
structure Ent (P:Program) [Glob P] where
 id:FuncId
 sp:List C->Chs->Option (Prop×C×Chs×List Nat)
 ok:∀ args chs p r chs' nk,sp args chs=some (p,r,chs',nk)->p->FC P id args chs r chs'/\WfR chs r chs' nk
 kp:List C->Chs->Option (Prop×C):=fun _ _=>none
 kpok:∀ args chs p r,kp args chs=some (p,r)->p->FC P id args chs r chs/\eZ chs=true/\dG [] r:=by intro _ _ _ _ h;cases h
 tk:List Nat:=[]
end Go.Am
end
