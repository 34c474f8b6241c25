/- Part 9 of the proof of: the statements about chapter 8 -/
import Derived.Test.YtcbabnbiinkafaaGreatDoorProg
import Derived.Lib.ItoaNum
import Derived.KernelRfl
import Derived.Test.YtcbabnbiinkafaaGreatDoorBn8
set_option linter.all false
section
namespace Go.Am
open Dat (cells)
variable {P : Program} [Glob P] {cx : Cx} {Q : ASt → Prop} {k : List It} {st : ASt}
theorem pB {rb:List Nat} {S:Nat→Bool} {j:Nat} (hj:S j=false) (hs:lJ rb S):∀ {E:EL} {h:Chs},(∀ q∈E,q.1 < 100)→fY rb (ixE E)=true→(∀ q∈E,q.1 < j→S q.1=true)→j∈ixE E →
 ∃ m h1,kD j E h=(m,h1)∧dY (fun i=>i == j || S i) E=dY S E++[(j,m,h1)]
 | [],h,_,_,_,hm=>by simp [ixE] at hm
 | (e,m,h1) :: l,h,hE,ho,hb,hm=>by
  have he:e < 100:=hE (e,m,h1) List.mem_cons_self
  have ho':fY rb (ixE l)=true:=by
   cases l with
   | nil=>rfl
   | cons q l=>
    obtain ⟨q1,q2,q3⟩:=q
    simp only [ixE,fY,Bool.and_eq_true] at ho ⊢
    exact ho.2.2
  by_cases hej:e=j
  · subst hej
    refine ⟨m,h1,by simp [kD],?_⟩
    simp only [dY]
    rw [if_pos (by simp),if_neg (by rw [hj]; simp)]
    rw [nc]
    · rfl
    · intro q hq
      cases l with
      | nil=>cases hq
      | cons q' l=>
       cases hq
       obtain ⟨q1,q2,q3⟩:=q
       simp only [ixE,fY,Bool.and_eq_true,decide_eq_true_eq] at ho
       have hq1:=hE (q1,q2,q3) (by simp)
       have hne:¬ q1=e:=by omega
       cases hsq:S q1 with
       | false=>simp [hne,hsq]
       | true=>
        have hm:=ho.1
        simp only [List.contains_iff_mem] at hm
        have:=hs _ hm
        simp only at hq1
        rw [show (100*e+q1) % 100=q1 by omega,show (100*e+q1) / 100=e by omega] at this
        rw [this hsq] at hj; cases hj
  · have hb1:(e == j)=false:=by simpa using hej
    have hjl:j∈ixE l:=by
     simp only [ixE,List.mem_cons] at hm
     exact hm.resolve_left (fun q=>hej q.symm)
    have asc:∀ (l:EL) (x:Nat),fY rb (x :: ixE l)=true→∀ y∈ixE l,x < y:=by
     intro l
     induction l with
     | nil=>intro x _ y hy; simp [ixE] at hy
     | cons z l ih=>
      obtain ⟨z1,z2,z3⟩:=z
      intro x ho y hy
      simp only [ixE,fY,Bool.and_eq_true,decide_eq_true_eq] at ho
      simp only [ixE,List.mem_cons] at hy
      rcases hy with rfl | hy
      · exact ho.2.1
      · have:=ih z1 ho.2.2 y hy; omega
    have hlt:e < j:=asc l e ho j hjl
    have hse:S e=true:=hb (e,m,h1) List.mem_cons_self hlt
    obtain ⟨m',h1',g1,g2⟩:=pB (h:=h) hj hs (fun q hq=>hE q (List.mem_cons_of_mem _ hq)) ho' (fun q hq=>hb q (List.mem_cons_of_mem _ hq)) hjl
    refine ⟨m',h1',by simp only [kD]; rw [if_neg hej]; exact g1,?_⟩
    simp only [dY,hb1,Bool.false_or]
    rw [if_pos hse,if_pos hse,g2]; rfl
theorem nE {rb:List Nat} {i j:Nat} {v:C} {m:List (Nat×Sb)} {h:Chs}:∀ {D:EL},gg rb i v (D++[(j,m,h)])=(gg rb i v D && (decide (j=i) || (av rb (100*j+i) || fV m v)))
 | []=>by simp [gg]
 | (e,m',h') :: D=>by simp only [List.cons_append,gg,nE (D:=D),Bool.and_assoc]
theorem mL {c:C} {j:Nat} {m:List (Nat×Sb)} {h:Chs}:∀ {D:EL},fq c (D++[(j,m,h)])=(fq c D && fV m c)
 | []=>by simp [fq]
 | (e,m',h') :: D=>by simp only [List.cons_append,fq,mL (D:=D),Bool.and_assoc]
theorem pA {j:Nat} {m:List (Nat×Sb)} {h1:Chs}:∀ {D:EL} {h:Chs},fU (D++[(j,m,h1)]) h=h1
 | [],h=>rfl
 | (e,m',h') :: D,h=>by simp only [List.cons_append,fU]; exact pA
def chk2 (rb:List Nat) (os:List AO) (ix:List Nat):Bool:=qn os && (u0 rb os && (fY rb ix && (decide (os.length≤100) && ix.all fun e=>decide (e < os.length))))
theorem qY {S:Nat→Bool}:∀ {E:EL},(∀ q∈E,S q.1=true)→dY S E=E
 | [],_=>rfl
 | q :: l,h=>by
  simp only [dY]
  rw [if_pos (h q List.mem_cons_self),qY fun q hq=>h q (List.mem_cons_of_mem _ hq)]
theorem vr {rb:List Nat} {os:List AO} {L:List (Ent P)} {vs:List C} {E:EL} (hchk:chk2 rb os (ixE E)=true) (hn0:an (ag st.ch)) (hnd:ndE2 E)
 (hops:ops2 P L rb st.t os vs E st.ch 0 os vs) (hend:SG P cx Q k ⟨hJ rb E st.t 0 os vs,fU E st.ch⟩):SG P cx Q (.c (.draw 999 rb os) :: k) st:=by
 simp only [chk2,Bool.and_eq_true,decide_eq_true_eq] at hchk
 obtain ⟨k1,k2,k3,k4,k5⟩:=hchk
 have k1:(os.filterMap (·.dst)).Nodup:=by simpa [qn] using k1
 obtain ⟨l1,l2⟩:=sF hops
 have hEl:∀ q∈E,q.1 < os.length:=fun q hq=>by
  have:q.1∈ixE E:=by rw [ol]; exact List.mem_map.2 ⟨q,hq,rfl⟩
  simpa using List.all_eq_true.1 k5 _ this
 have hE100:∀ q∈E,q.1 < 100:=fun q hq=>by have:=hEl q hq; omega
 have hread:∀ (j:Nat) o,os[j]? = some o→o.guard=none∧∀ x∈eP o.op.reads,∀ (i:Nat) q,os[i]? = some q→q.dst=some x→100*i+j∈rb:=fun j o ho=>by
  have h1:=List.all_eq_true.1 k2 (o,j) (by rw [List.mk_mem_zipIdx_iff_getElem?]; exact ho)
  simp only [Bool.and_eq_true,Option.isNone_iff_eq_none] at h1
  refine ⟨h1.1,fun x hx i q hq hd=>?_⟩
  have h2:=List.all_eq_true.1 h1.2 x hx
  have h3:=List.all_eq_true.1 h2 (q,i) (by rw [List.mk_mem_zipIdx_iff_getElem?]; exact hq)
  simp only [hd,bne_self_eq_false,Bool.false_or] at h3
  simpa using h3
 have hndc:∀ S,((fU (dY S E) st.ch).map (·.1)).Nodup:=fun S=>ry S hn0 hnd
 have uniq:∀ (i i':Nat) (o o':AO) (x:Nat),os[i]? = some o→os[i']? = some o'→o.dst=some x→o'.dst=some x→i=i':=fun i i' o o' x a1 b1 a3 b3=>by
  rcases Nat.lt_trichotomy i i' with h | h | h
  · exact (gQ k1 i i' h o o' x a1 b1 a3 b3).elim
  · exact h
  · exact (gQ k1 i' i h o' o x b1 a1 b3 a3).elim
 refine m7 (T:=fun S=>⟨ge rb S (dY S E) st.t 0 os vs,fU (dY S E) st.ch⟩) ⟨fun x=>?_,hndc _,fun p hp=>?_⟩ (fun S j ao hj hSj hp hs=>?_) (fun S hS=>?_)
 · have e0:dY (fun _=>false) E=[]:=nc (fun q _=>rfl)
   show gt (ge rb (fun _=>false) (dY (fun _=>false) E) st.t 0 os vs) x=.any∨gt st.t x=gt (ge rb (fun _=>false) (dY (fun _=>false) E) st.t 0 os vs) x
   rw [e0]
   rcases iz rb [] st.t (fun _=>false) x os vs 0 l1 k1 with ⟨j,o,v,_,_,_,h⟩ | ⟨_,h⟩
   · left; rw [h]; simp
   · right; rw [h,lj]; simp [fq]
 · have e0:dY (fun _=>false) E=[]:=nc (fun q _=>rfl)
   have hp':p∈fU (dY (fun _=>false) E) st.ch:=hp
   rw [e0] at hp'
   exact eT (by rw [← dU]; exact d8 hn0) hp'
 · have hjl:j < os.length:=(List.getElem?_eq_some_iff.1 hj).1
   obtain ⟨hg,hrd⟩:=hread j ao hj
   obtain ⟨v,hv,hc⟩:=l2 j ao hj
   rw [Nat.zero_add] at hc
   have hre:=mQ hSj hp hs (by omega) hE100 hc
   rw [List.nil_append] at hre
   obtain ⟨ef2,s1,s2,s3,s4⟩:=uZ hg hre
   have hslots:∀ x∈ao.slots,gt (hJ rb (dY S E) st.t 0 os vs) x=gt (ge rb S (dY S E) st.t 0 os vs) x:=fun x hx=>by
    have hx2:x∈eP ao.op.reads:=by
     simp only [AO.slots,hg,List.append_nil] at hx
     exact jj hx
    rw [← nt rb (dY S E) st.t (fun _=>true) os vs 0 (fun _ _=>rfl)]
    rcases iz rb (dY S E) st.t S x os vs 0 l1 k1 with ⟨i,o,w,a1,a2,a3,a4⟩ | ⟨a1,a2⟩
    · have hcd:=hrd x hx2 i o a1 a3
      have hSi:=hp _ hcd (by omega)
      rw [show (100*i+j) / 100=i by omega] at hSi
      rcases iz rb (dY S E) st.t (fun _=>true) x os vs 0 l1 k1 with ⟨i',o',w',b1,b2,b3,b4⟩ | ⟨b1,_⟩
      · have hii:=uniq i' i o' o x b1 a1 b3 a3
        subst hii
        rw [a2] at b2; cases b2
        rw [b4,a4,Nat.zero_add,hSi]
      · exact absurd a3 (b1 o (List.mem_of_getElem? a1))
    · rw [a2]
      rcases iz rb (dY S E) st.t (fun _=>true) x os vs 0 l1 k1 with ⟨i',o',w',b1,b2,b3,b4⟩ | ⟨_,b2⟩
      · exact absurd b3 (a1 o' (List.mem_of_getElem? b1))
      · exact b2
   have hb:∀ q∈E,q.1 < j→j∈ixE E→S q.1=true:=fun q hq hlt hjE=>by
    refine lz hp hs (by omega) (l:=ixE E) (fun e he=>?_) k3 hjE q.1 (by rw [ol]; exact List.mem_map.2 ⟨q,hq,rfl⟩) hlt
    rw [ol] at he
    obtain ⟨q',hq',rfl⟩:=List.mem_map.1 he
    exact hE100 q' hq'
   have hkey:∃ m,ef2.sub=m∧ef2.ch=fU (dY (fun i=>i == j || S i) E) st.ch∧(∀ (i:Nat) w,i < 100→i≠j→gg rb i w (dY (fun i=>i == j || S i) E)=true→S i=true→gg rb i w (dY S E)=true∧ah m w=w)∧(∀ c,fq c (dY (fun i=>i == j || S i) E)=true→fq c (dY S E)=true∧ah m c=c):=by
    by_cases hjE:j∈ixE E
    · obtain ⟨m,h1,g1,g2⟩:=pB (h:=fU (dY S E) st.ch) hSj hs hE100 k3 (fun q hq hlt=>hb q hq hlt hjE) hjE
      rw [g1] at s3 s4
      refine ⟨m,s4,by rw [s3,g2,pA],fun i w hi1 hij ha hSi=>?_,fun c ha=>?_⟩
      · rw [g2,nE,Bool.and_eq_true] at ha
        refine ⟨ha.1,?_⟩
        have h2:=ha.2
        have hd:decide (j=i)=false:=by simp; exact fun q=>hij q.symm
        rw [hd,Bool.false_or,Bool.or_eq_true] at h2
        rcases h2 with h2 | h2
        · exfalso
          have:=hs _ (i7.1 h2)
          rw [show (100*j+i) % 100=i by omega,show (100*j+i) / 100=j by omega] at this
          rw [this hSi] at hSj; cases hSj
        · exact pe w h2
      · rw [g2,mL,Bool.and_eq_true] at ha
        exact ⟨ha.1,pe c ha.2⟩
    · rw [rK hjE] at s3 s4
      refine ⟨[],s4,by rw [s3,lg hjE],fun i w _ _ ha _=>?_,fun c ha=>?_⟩
      · rw [lg hjE] at ha; exact ⟨ha,eF w⟩
      · rw [lg hjE] at ha; exact ⟨ha,eF c⟩
   obtain ⟨m,q1,q2,q3,q4⟩:=hkey
   refine ⟨ef2,s1.congr hslots rfl,.of_le ⟨fun x=>?_,hndc _,fun p hp'=>?_⟩⟩
   · show gt (ge rb (fun i=>i == j || S i) (dY (fun i=>i == j || S i) E) st.t 0 os vs) x=.any∨gt (aT ao.dst ef2.sub ef2.v (ge rb S (dY S E) st.t 0 os vs)) x=_
     rw [q1,s2,fE]
     rcases iz rb (dY (fun i=>i == j || S i) E) st.t (fun i=>i == j || S i) x os vs 0 l1 k1 with ⟨i,o,w,a1,a2,a3,a4⟩ | ⟨a1,a2⟩
     · rw [Nat.zero_add] at a4
       rw [a4]
       by_cases hcond:((i == j || S i) && gg rb i w (dY (fun i=>i == j || S i) E))=true
       · right
         rw [if_pos hcond]
         rw [Bool.and_eq_true] at hcond
         by_cases hij:i=j
         · subst hij
           rw [hj] at a1; cases a1
           rw [hv] at a2; cases a2
           rw [if_pos a3]
         · have hne:ao.dst≠some x:=fun e=>hij (uniq i j o ao x a1 hj a3 e)
           rw [if_neg hne]
           have hb0:(i == j)=false:=by simpa using hij
           have hSi:S i=true:=by simpa [hb0] using hcond.1
           have hi1:i < 100:=by have:=(List.getElem?_eq_some_iff.1 a1).1; omega
           obtain ⟨r1,r2⟩:=q3 i w hi1 hij hcond.2 hSi
           rcases iz rb (dY S E) st.t S x os vs 0 l1 k1 with ⟨i',o',w',b1,b2,b3,b4⟩ | ⟨b1,_⟩
           · have hii:=uniq i' i o' o x b1 a1 b3 a3
             subst hii
             rw [a2] at b2; cases b2
             rw [b4,Nat.zero_add,hSi,r1,if_pos (by rfl)]; exact r2
           · exact absurd a3 (b1 o (List.mem_of_getElem? a1))
       · left; rw [if_neg hcond]
     · have hne:ao.dst≠some x:=a1 ao (List.mem_of_getElem? hj)
       rw [if_neg hne,a2,lj]
       by_cases hcond:fq (gt st.t x) (dY (fun i=>i == j || S i) E)=true
       · right
         rw [if_pos hcond]
         obtain ⟨r1,r2⟩:=q4 _ hcond
         rcases iz rb (dY S E) st.t S x os vs 0 l1 k1 with ⟨i',o',w',b1,b2,b3,b4⟩ | ⟨_,b2⟩
         · exact absurd b3 (a1 o' (List.mem_of_getElem? b1))
         · rw [b2,lj,if_pos r1]; exact r2
       · left; rw [if_neg hcond]
   · show lk ef2.ch p.1=some p.2
     rw [q2]
     exact eT (hndc _) hp'
 · have eD:dY S E=E:=qY (fun q hq=>hS q.1 (hEl q hq))
   have e1:ge rb S E st.t 0 os vs=hJ rb E st.t 0 os vs:=nt rb E st.t S os vs 0 (fun j hj=>by rw [Nat.zero_add]; exact hS j hj)
   simp only [eD,e1]
   exact hend
def pj : AOp→Bool
 | .store _ _ _ _=>false
 | .call _ _=>false
 | .mkSl own _ _ _ _ _=>!own
 | .makeSl _ _ _ _ _ _=>false
 | .alloc _=>false
 | .box _=>false
 | .app _ _ _ _ _ _ _=>false
 | .ssl _ _ _ _ _=>false
 | _=>true
def mj (op:AOp) (j:Nat) (ef:Eff) (E:EL):EL:=match pj op with | true=>E | false=>E++[(j,ef.sub,ef.ch)]
def mFin2 (P:Program) [Glob P] (L:List (Ent P)) (cx:Cx) (Q:ASt→Prop) (k:List It) (rb:List Nat) (all:List AO) (s0:ASt) (vs:List C) (E:EL):Prop:=
 chk2 rb all (ixE E)=true∧an (ag s0.ch)∧ndE2 E∧ops2 P L rb s0.t all vs E s0.ch 0 all vs∧SG P cx Q k ⟨hJ rb E s0.t 0 all vs,fU E s0.ch⟩
def gK (P:Program) [Glob P] (L:List (Ent P)) (cx:Cx) (Q:ASt→Prop) (k:List It) (rb:List Nat) (all:List AO) (s0:ASt):Nat→Md→List AO→ASt→Nat→List C→EL→Prop
 | _+1,.run,[],_,_,vs,E=>mFin2 P L cx Q k rb all s0 vs E
 | n+1,.run,⟨dst,none,op,tot⟩ :: os,s,j,vs,E=>gK P L cx Q k rb all s0 n (.eff (ai (aq P s.t) s.ch (dst.getD 0) op)) (⟨dst,none,op,tot⟩ :: os) s j vs E
 | n+1,.eff (some ef),⟨dst,none,op,_⟩ :: os,s,j,vs,E=>gK P L cx Q k rb all s0 n .run os ⟨aT dst ef.sub ef.v s.t,ef.ch⟩ (j+1) (vs++[ef.v]) (mj op j ef E)
 | n+1,.eff none,⟨dst,none,op,tot⟩ :: os,s,j,vs,E=>gK P L cx Q k rb all s0 n (.tk1 (cg L (aq P s.t) op)) (⟨dst,none,op,tot⟩ :: os) s j vs E
 | n+1,.tk1 none,⟨dst,none,op,tot⟩ :: os,s,j,vs,E=>gK P L cx Q k rb all s0 n (aF L (aq P s.t) s.ch (dst.getD 0) op) (⟨dst,none,op,tot⟩ :: os) s j vs E
 | n+1,.tk1 (some (a,kk,i)),⟨dst,none,op,tot⟩ :: os,s,j,vs,E=>gK P L cx Q k rb all s0 n (.tq a kk i (aM s.ch kk i) (aL s.ch kk i)) (⟨dst,none,op,tot⟩ :: os) s j vs E
 | n+1,.tq a kk _ (some (p,m,ty,es)) (some ch'),⟨dst,none,op,tot⟩ :: os,s,j,vs,E=>gK P L cx Q k rb all s0 n (.tr a kk p (aR a kk m ty es ch' s) (ai (aq P (aR a kk m ty es ch' s).t) (aR a kk m ty es ch' s).ch (dst.getD 0) op)) (⟨dst,none,op,tot⟩ :: os) s j vs E
 | n+1,.tr a kk _ _ (some ef),⟨dst,none,op,_⟩ :: os,s,j,vs,E=>gK P L cx Q k rb all s0 n .run os ⟨aT dst (aZ [(a,.c .any),(kk,.inner)] ef.sub) ef.v s.t,ef.ch⟩ (j+1) (vs++[ef.v]) (mj op j ⟨ef.cond,ef.v,ef.ch,aZ [(a,.c .any),(kk,.inner)] ef.sub⟩ E)
 | n+1,.tr a kk p s1 none,⟨dst,none,op,tot⟩ :: os,s,j,vs,E=>gK P L cx Q k rb all s0 n (.ts a kk p s1 (aF L (aq P s1.t) s1.ch (dst.getD 0) op)) (⟨dst,none,op,tot⟩ :: os) s j vs E
 | n+1,.ts a kk _ _ (.cal (.eff ef)),⟨dst,none,op,_⟩ :: os,s,j,vs,E=>gK P L cx Q k rb all s0 n .run os ⟨aT dst (aZ [(a,.c .any),(kk,.inner)] ef.sub) ef.v s.t,ef.ch⟩ (j+1) (vs++[ef.v]) (mj op j ⟨ef.cond,ef.v,ef.ch,aZ [(a,.c .any),(kk,.inner)] ef.sub⟩ E)
 | n+1,.cal (.eff ef),⟨dst,none,op,_⟩ :: os,s,j,vs,E=>gK P L cx Q k rb all s0 n .run os ⟨aT dst ef.sub ef.v s.t,ef.ch⟩ (j+1) (vs++[ef.v]) (mj op j ef E)
 | _,_,_,_,_,_,_=>False
theorem s5 {L:List (Ent P)} {rb:List Nat} {all:List AO} {s0:ASt}:∀ (n:Nat) (m:Md) (os:List AO) (s:ASt) (j:Nat) (vs:List C) (E:EL),gK P L cx Q k rb all s0 n m os s j vs E→SG P cx Q (.c (.draw 999 rb all) :: k) s0:=by
 intro n
 induction n with
 | zero=>intro m os s j vs E h; simp [gK] at h
 | succ n ih=>
  intro m os s j vs E h
  cases os with
  | nil=>
   cases m <;> simp only [gK] at h
   obtain ⟨h0,h1,h2,h3,h4⟩:=h
   exact vr h0 h1 h2 h3 h4
  | cons o os=>
   unfold gK at h
   split at h <;> first | exact h.elim | exact ih _ _ _ _ _ _ h | (simp at*<;> (subst_vars; exact ih _ _ _ _ _ _ h))
theorem qG {rb:List Nat} {os:List AO} (L:List (Ent P)) (n:Nat) (h:gK P L cx Q k rb os st n .run os st 0 [] []):SG P cx Q (.c (.draw 999 rb os) :: k) st:=
 s5 n .run os st 0 [] [] h
end Go.Am
end
section
open Go Go.Am
open Go.Am.Dat (cells)
namespace Go.Proofs.YtcbabnbiinkafaaGreatDoor
def oO (k:Nat):Operand:=.tmp k
def oN (n:Int):Operand:=.const (.int .i64 n)
def oA (d:Nat) (op:AOp):AO:=⟨some d,none,op,false⟩
def oM (d k:Nat):AO:=⟨some d,none,.mv (.tmp k),false⟩
def oT (d:Nat) (op:AOp):AO:=⟨some d,none,op,true⟩
def oG (d g:Nat) (w:Bool) (op:AOp):AO:=⟨some d,some (g,w),op,false⟩
def oR (l:List AO):AC:=.region false l
def oQ (l:List AO):AC:=.region true l
def oS (a b:AC):AC:=.seq a b
def oK (l:List Nat) (a:AC):AC:=.keep l a
def oF (d n k:Nat):AO:=oA d (.faddr n (oO k))
def oL (d k:Nat):AO:=oA d (.load false 1 (oO k))
def js : List C:=[
 .s (.string ⟨#[100,97,116,97]⟩),.s (.bool false),.s (.func (.func 268) #[] #[]),
 .s (.string ⟨#[115,101,110,100]⟩),.s (.bool false),.s (.func (.func 269) #[] #[]),
 .s (.string ⟨#[97,99,107]⟩),.s (.bool false),.s (.func (.func 270) #[] #[]),
 .s (.string ⟨#[112,114,101,112,97,114,101]⟩),.s (.bool true),.s (.func (.func 271) #[] #[]),
 .s (.string ⟨#[99,97,110,99,101,108]⟩),.s (.bool false),.s (.func (.func 272) #[] #[]),
 .s (.string ⟨#[99,111,109,109,97,110,100]⟩),.s (.bool false),.s (.func (.func 273) #[] #[]),
 .s (.string ⟨#[99,111,109,112,108,101,116,101]⟩),.s (.bool false),.s (.func (.func 274) #[] #[]),
 .s (.string ⟨#[102,111,114,119,97,114,100]⟩),.s (.bool false),.s (.func (.func 275) #[] #[]),
 .s (.string ⟨#[115,119,105,116,99,104]⟩),.s (.bool false),.s (.func (.func 276) #[] #[]),
 .s (.string ⟨#[102,97,105,108]⟩),.s (.bool false),.s (.func (.func 277) #[] #[]),
 .s (.string ⟨#[114,101,99,111,118,101,114]⟩),.s (.bool true),.s (.func (.func 278) #[] #[]),
 .s (.string ⟨#[112,97,115,115]⟩),.s (.bool false),.s (.func (.func 279) #[] #[])]
def varsOk (U:Nat→Prop) (h:Array Obj):Prop:=
 (∃ ty fz,U 2∧h[2]? = some (.cells (Lib.pow10Tab.map fun z=>Value.int .u64 z).toArray ty fz))∧True
instance : Glob Tryz.prog where
 gl:=[(0,js)]
 inv:=varsOk
 mono:=fun U U' h h' ⟨⟨a,b,c,d⟩,_⟩ hk=>⟨⟨a,b,(hk 2 c).1,(hk 2 c).2.trans d⟩,trivial⟩
end Go.Proofs.YtcbabnbiinkafaaGreatDoor
end
section
open Go Go.Am
open Go.Am.Dat (cells)
namespace Go.Proofs.YtcbabnbiinkafaaGreatDoor
set_option maxRecDepth 100000
def c3 : AC:=oS (oR [oA 3 (.box (oO 0)),oA 6 (.mv (.const (.bool false)))]) (oK [1,2,3] (oS (oS (oR [oA 14 (.call (.func 21) []),oA 15 (.un .not (oO 14))]) (oK [1,2,3,15] (.cond (oO 15) (oS (oR [oA 6 (.mv (.const (.bool false)))]) (oK [6] (.ret))) (.skip)))) (oK [1,2,3] (oS (oS (oR [oM 16 1,oA 17 (.call (.func 22) [(oO 16)]),oA 18 (.un .not (oO 17)),oM 19 18,oG 20 19 false (.mv (oO 2)),oG 21 19 false (.call (.func 22) [(oO 20)]),oG 22 19 false (.un .not (oO 21)),oA 23 (.pick (oO 19) (.const (.bool true)) (oO 22))]) (oK [1,2,3,23] (.cond (oO 23) (oS (oR [oA 6 (.mv (.const (.bool true)))]) (oK [6] (.ret))) (.skip)))) (oK [1,2,3] (oS (oQ [oA 25 (.load true 3 (oO 3)),oM 26 1,oA 27 (.call (.func 24) [(oO 26)]),oM 28 2,oA 29 (.call (.func 24) [(oO 28)]),oT 30 (.call (.func 23) [(oO 25),(oO 27),(oO 29)]),oT 24 (.mv (oO 30)),oA 31 (.extr (oO 24) 0),oA 32 (.extr (oO 24) 1),oM 7 31,oT 8 (.mv (oO 32))]) (oK [1,2,3,7,8] (oS (oQ [oA 34 (.load true 3 (oO 3)),oM 35 1,oA 36 (.call (.func 24) [(oO 35)]),oM 37 2,oA 38 (.call (.func 24) [(oO 37)]),oT 39 (.call (.func 25) [(oO 34),(oO 36),(oO 38)]),oT 33 (.mv (oO 39)),oA 40 (.extr (oO 33) 0),oA 41 (.extr (oO 33) 1),oM 9 40,oT 10 (.mv (oO 41))]) (oK [1,2,3,7,8,9,10] (oS (oR [oA 42 (.load true 3 (oO 3)),oA 43 (.call (.func 26) [(oO 42)]),oM 11 43]) (oK [1,2,3,7,8,9,10,11] (oS (oR [oA 44 (.load true 3 (oO 3)),oA 45 (.call (.func 27) [(oO 44)]),oM 12 45]) (oK [1,2,3,7,8,9,10,11,12] (oS (oS (oR [oM 46 11,oM 47 12,oA 48 (.bin .neq 3 (oO 46) (oO 47))]) (oK [1,2,3,7,8,9,10,12,48] (.cond (oO 48) (oS (oR [oA 6 (.mv (.const (.bool false)))]) (oK [6] (.ret))) (.skip)))) (oK [1,2,3,7,8,9,10,12] (oS (oS (oR [oM 49 12,oA 50 (.bin .eql 3 (oO 49) (oN 0))]) (oK [1,2,3,7,8,9,10,12,50] (.cond (oO 50) (oR [oM 51 1,oM 52 2,oA 53 (.call (.func 28) [(oO 51),(oO 52)]),oM 12 53]) (.skip)))) (oK [1,2,3,7,8,9,10,12] (oS (oS (oR [oM 54 12,oA 55 (.bin .neq 3 (oO 54) (oN 0))]) (oK [1,2,3,7,8,9,10,12,55] (.cond (oO 55) (oS (oR [oM 56 8,oM 57 12,oA 58 (.bin .eql 3 (oO 56) (oO 57)),oM 59 58,oG 60 59 true (.mv (oO 10)),oG 61 59 true (.mv (oO 12)),oG 62 59 true (.bin .eql 3 (oO 60) (oO 61)),oA 63 (.pick (oO 59) (oO 62) (.const (.bool false))),oM 64 63,oG 65 64 true (.mv (oO 7)),oG 66 64 true (.len false (oO 65)),oG 67 64 true (.bin .eql 3 (oO 66) (oN 0)),oA 68 (.pick (oO 64) (oO 67) (.const (.bool false))),oM 69 68,oG 70 69 true (.mv (oO 9)),oG 71 69 true (.bin .eql 3 (oO 70) (oN 0)),oA 72 (.pick (oO 69) (oO 71) (.const (.bool false))),oM 6 72]) (oK [6] (.ret))) (.skip)))) (oK [1,2,3,7,8,9,10] (oS (oR [oA 73 (.load true 3 (oO 3)),oM 74 1,oM 75 2,oA 76 (.call (.func 29) [(oO 73),(oO 74),(oO 75)]),oM 13 76]) (oK [7,8,9,10,13] (oS (oS (oR [oM 77 8,oA 78 (.bin .neq 27 (oO 77) (oN 0)),oM 79 78,oG 80 79 false (.mv (oO 7)),oG 81 79 false (.mv (oO 13)),oG 82 79 false (.call (.func 30) [(oO 80),(oO 81)]),oG 83 79 false (.un .not (oO 82)),oA 84 (.pick (oO 79) (.const (.bool true)) (oO 83))]) (oK [9,10,13,84] (.cond (oO 84) (oS (oR [oA 6 (.mv (.const (.bool false)))]) (oK [6] (.ret))) (.skip)))) (oK [9,10,13] (oS (oS (oR [oM 85 13,oA 86 (.len false (oO 85)),oA 87 (.bin .eql 3 (oO 86) (oN 0))]) (oK [9,10,13,87] (.cond (oO 87) (oS (oR [oM 88 10,oA 89 (.bin .eql 27 (oO 88) (oN 12)),oM 90 89,oG 91 90 true (.mv (oO 9)),oG 92 90 true (.bin .eql 3 (oO 91) (oN 0)),oA 93 (.pick (oO 90) (oO 92) (.const (.bool false))),oM 6 93]) (oK [6] (.ret))) (.skip)))) (oK [9,10,13] (oS (oR [oM 94 10,oA 95 (.bin .eql 27 (oO 94) (oN 0)),oM 96 95,oG 97 96 true (.mv (oO 9)),oG 98 96 true (.mv (oO 13)),oG 99 96 true (.iaddr 1 [.int .i64 0] (oO 98) (oN 0)),oG 100 96 true (.load false 1 (oO 99)),oG 101 96 true (.bin .eql 3 (oO 97) (oO 100)),oA 102 (.pick (oO 96) (oO 101) (.const (.bool false))),oM 6 102]) (oK [6] (.ret))))))))))))))))))))))))))))
def c4l1 : AC:=oS (oS (oR [oM 89 12,oM 90 9,oM 91 11,oA 92 (.iaddr 1 [.int .i64 0] (oO 90) (oO 91)),oL 93 92,oA 94 (.bin .leq 3 (oO 89) (oO 93))]) (oK [3,5,7,8,9,11,12,94] (.cond (oO 94) (.skip) (.exit 2)))) (oK [3,5,7,8,9,11,12] (oS (.block 3 (oS (oR [oA 97 (.load true 3 (oO 3)),oM 98 7,oM 99 8,oM 100 12,oA 101 (.call (.func 32) [(oO 97),(oO 98),(oO 99),(oO 100)]),oA 102 (.un .not (oO 101))]) (oK [3,5,7,8,9,11,12,102] (.cond (oO 102) (oS (oR [oA 6 (.mv (.const (.bool false)))]) (oK [6] (.ret))) (.skip))))) (oK [3,5,7,8,9,11,12] (oR [oM 95 12,oA 96 (.bin .add 3 (oO 95) (oN 1)),oM 12 96]))))
def c4l2 : AC:=oS (oS (oR [oM 111 14,oM 112 9,oM 113 11,oA 114 (.iaddr 1 [.int .i64 0] (oO 112) (oO 113)),oL 115 114,oA 116 (.bin .lss 3 (oO 111) (oO 115))]) (oK [3,5,7,8,9,11,13,14,116] (.cond (oO 116) (.skip) (.exit 4)))) (oK [3,5,7,8,9,11,13,14] (oS (.block 5 (oR [oM 119 13,oM 120 119,oG 121 120 false (.load true 3 (oO 3)),oG 122 120 false (.mv (oO 7)),oG 123 120 false (.mv (oO 8)),oG 124 120 false (.mv (oO 14)),oG 125 120 false (.call (.func 33) [(oO 121),(oO 122),(oO 123),(oO 124)]),oA 126 (.pick (oO 120) (.const (.bool true)) (oO 125)),oM 13 126])) (oK [3,5,7,8,9,11,13,14] (oR [oM 117 14,oA 118 (.bin .add 3 (oO 117) (oN 1)),oM 14 118]))))
def c4l3 : AC:=oS (oS (oR [oM 49 11,oM 50 9,oA 51 (.len false (oO 50)),oA 52 (.bin .lss 3 (oO 49) (oO 51))]) (oK [3,5,7,8,9,11,52] (.cond (oO 52) (.skip) (.exit 0)))) (oK [3,5,7,8,9,11] (oS (.block 1 (oS (oS (oQ [oM 55 9,oA 56 (.mvs (oO 11)),oA 57 (.iaddr 1 [.int .i64 0] (oO 55) (oO 56)),oL 58 57,oF 59 2 3,oL 60 59,oM 61 7,oA 62 (.len false (oO 61)),oA 63 (.bin .sub 3 (oO 62) (oN 1)),oT 64 (.call (.func 31) [(oO 58),(oO 60),(oO 63)]),oT 65 (.un .not (oO 64)),oT 66 (.mv (oO 65)),⟨some 67,some (66,false),.mv (oO 11),true⟩,⟨some 68,some (66,false),.bin .gtr 3 (oO 67) (oN 0),true⟩,⟨some 69,some (66,false),.mv (oO 68),true⟩,oG 70 69 true (.mv (oO 9)),oG 71 69 true (.mv (oO 11)),oG 72 69 true (.iaddr 1 [.int .i64 0] (oO 70) (oO 71)),oG 73 69 true (.load false 1 (oO 72)),oG 74 69 true (.mv (oO 9)),oG 75 69 true (.mv (oO 11)),oG 76 69 true (.bin .sub 3 (oO 75) (oN 1)),oG 77 69 true (.iaddr 1 [.int .i64 0] (oO 74) (oO 76)),oG 78 69 true (.load false 1 (oO 77)),⟨some 79,some (69,true),.bin .leq 3 (oO 73) (oO 78),true⟩,⟨some 80,some (66,false),.pick (oO 69) (oO 79) (.const (.bool false)),true⟩,oT 81 (.pick (oO 66) (.const (.bool true)) (oO 80))]) (oK [3,5,7,8,9,11,81] (.cond (oO 81) (oS (oR [oA 6 (.mv (.const (.bool false)))]) (oK [6] (.ret))) (.skip)))) (oK [3,5,7,8,9,11] (oS (oS (oQ [oM 82 9,oA 83 (.mvs (oO 11)),oA 84 (.iaddr 1 [.int .i64 0] (oO 82) (oO 83)),oL 85 84,oF 86 2 3,oL 87 86,oT 88 (.bin .sub 3 (oO 85) (oO 87)),oT 12 (.mv (oO 88))]) (oK [3,5,7,8,9,11,12] (.block 2 (.loop c4l1)))) (oK [3,5,7,8,9,11] (oS (oR [oM 103 11,oA 104 (.bin .eql 3 (oO 103) (oN 0)),oM 13 104]) (oK [3,5,7,8,9,11,13] (oS (oS (oR [oM 105 9,oM 106 11,oA 107 (.bin .sub 3 (oO 106) (oN 1)),oA 108 (.ext (.mx true) [(oN 0),(oO 107)]),oA 109 (.iaddr 1 [.int .i64 0] (oO 105) (oO 108)),oL 110 109,oM 14 110]) (oK [3,5,7,8,9,11,13,14] (.block 4 (.loop c4l2)))) (oK [3,5,7,8,9,11,13] (oS (oR [oM 127 13,oA 128 (.un .not (oO 127))]) (oK [3,5,7,8,9,11,128] (.cond (oO 128) (oS (oR [oA 6 (.mv (.const (.bool false)))]) (oK [6] (.ret))) (.skip))))))))))))) (oK [3,5,7,8,9,11] (oR [oM 53 11,oA 54 (.bin .add 3 (oO 53) (oN 1)),oM 11 54]))))
def c4 : AC:=oS (oR [oA 3 (.box (oO 0)),oA 4 (.box (oO 1)),oA 5 (.box (oO 2)),oA 6 (.mv (.const (.bool false)))]) (oK [3,4,5] (oS (oS (oR [oA 18 (.call (.func 21) []),oA 19 (.un .not (oO 18))]) (oK [3,4,5,19] (.cond (oO 19) (oS (oR [oA 6 (.mv (.const (.bool false)))]) (oK [6] (.ret))) (.skip)))) (oK [3,4,5] (oS (oQ [oA 20 (.iarr 2 1 (oO 4) (oN 0)),oL 21 20,oA 22 (.iarr 2 1 (oO 4) (oN 1)),oL 23 22,oM 7 21,oT 8 (.mv (oO 23))]) (oK [3,5,7,8] (oS (oS (oR [oM 24 7,oA 25 (.call (.func 22) [(oO 24)]),oA 26 (.un .not (oO 25)),oM 27 26,oG 28 27 false (.load true 3 (oO 3)),oG 29 27 false (.call (.func 27) [(oO 28)]),oG 30 27 false (.bin .neq 3 (oO 29) (oN 0)),oA 31 (.pick (oO 27) (.const (.bool true)) (oO 30)),oM 32 31,oG 33 32 false (.mv (oO 7)),oG 34 32 false (.mv (oO 8)),oG 35 32 false (.call (.func 28) [(oO 33),(oO 34)]),oG 36 32 false (.bin .neq 3 (oO 35) (oN 0)),oA 37 (.pick (oO 32) (.const (.bool true)) (oO 36))]) (oK [3,5,7,8,37] (.cond (oO 37) (oS (oR [oA 6 (.mv (.const (.bool true)))]) (oK [6] (.ret))) (.skip)))) (oK [3,5,7,8] (oS (oQ [oA 39 (.load true 3 (oO 3)),oM 40 7,oA 41 (.call (.func 24) [(oO 40)]),oM 42 8,oA 43 (.call (.func 24) [(oO 42)]),oT 44 (.call (.func 23) [(oO 39),(oO 41),(oO 43)]),oT 38 (.mv (oO 44)),oA 45 (.extr (oO 38) 0),oA 46 (.extr (oO 38) 1),oM 9 45,oT 10 (.mv (oO 46))]) (oK [3,5,7,8,9,10] (oS (oS (oR [oM 47 10,oA 48 (.bin .neq 27 (oO 47) (oN 0))]) (oK [3,5,7,8,9,48] (.cond (oO 48) (oS (oR [oA 6 (.mv (.const (.bool false)))]) (oK [6] (.ret))) (.skip)))) (oK [3,5,7,8,9] (oS (oS (oR [oA 11 (.mv (oN 0))]) (oK [3,5,7,8,9,11] (.block 0 (.loop c4l3)))) (oK [3,5,7,8,9] (oS (oR [oA 129 (.load true 3 (oO 3)),oA 15 (.alloc [.int .i64 0,.int .i64 0,.int .i64 0]),⟨none,none,.store false 3 (oO 15) (oO 129),false⟩]) (oK [3,5,7,8,9,15] (oS (oS (oR [oA 130 (.iarr 2 1 (oO 5) (oN 0)),oL 131 130,oA 132 (.call (.func 31) [(oO 131),(oN 0),(oN 20)]),oM 133 132,oG 134 133 true (.iarr 2 1 (oO 5) (oN 1)),oG 135 133 true (.load false 1 (oO 134)),oG 136 133 true (.call (.func 31) [(oO 135),(oN 0),(oN 100)]),oA 137 (.pick (oO 133) (oO 136) (.const (.bool false)))]) (oK [3,5,7,8,9,15,137] (.cond (oO 137) (oQ [oF 138 2 3,oL 139 138,oA 140 (.iarr 2 1 (oO 5) (oN 0)),oL 141 140,oA 142 (.bin .add 3 (oO 139) (oO 141)),oF 143 0 3,oL 144 143,oA 145 (.iarr 2 1 (oO 5) (oN 1)),oL 146 145,oA 147 (.bin .add 3 (oO 144) (oO 146)),oF 148 2 15,⟨none,none,.store false 1 (oO 148) (oO 142),false⟩,oT 149 (.faddr 0 (oO 15)),⟨none,none,.store false 1 (oO 149) (oO 147),true⟩]) (.skip)))) (oK [7,8,9,15] (oS (oS (oR [oA 150 (.load true 3 (oO 15)),oA 151 (.call (.func 27) [(oO 150)]),oA 152 (.bin .neq 3 (oO 151) (oN 0))]) (oK [7,8,9,15,152] (.cond (oO 152) (oS (oR [oA 6 (.mv (.const (.bool true)))]) (oK [6] (.ret))) (.skip)))) (oK [7,8,9,15] (oS (oQ [oA 154 (.load true 3 (oO 15)),oM 155 7,oA 156 (.call (.func 24) [(oO 155)]),oM 157 8,oA 158 (.call (.func 24) [(oO 157)]),oT 159 (.call (.func 25) [(oO 154),(oO 156),(oO 158)]),oT 153 (.mv (oO 159)),oA 160 (.extr (oO 153) 0),oA 161 (.extr (oO 153) 1),oM 16 160,oT 17 (.mv (oO 161))]) (oK [9,16,17] (oS (oS (oR [oM 162 17,oA 163 (.bin .neq 27 (oO 162) (oN 0))]) (oK [9,16,17,163] (.cond (oO 163) (oS (oR [oM 164 17,oA 165 (.bin .eql 27 (oO 164) (oN 12)),oM 166 165,oG 167 166 true (.mv (oO 16)),oG 168 166 true (.bin .eql 3 (oO 167) (oN 0)),oA 169 (.pick (oO 166) (oO 168) (.const (.bool false))),oM 6 169]) (oK [6] (.ret))) (.skip)))) (oK [9,16] (oS (oR [oM 170 9,oA 171 (.len false (oO 170)),oA 172 (.bin .gtr 3 (oO 171) (oN 0)),oM 173 172,oG 174 173 true (.mv (oO 9)),oG 175 173 true (.iaddr 1 [.int .i64 0] (oO 174) (oN 0)),oG 176 173 true (.load false 1 (oO 175)),oG 177 173 true (.mv (oO 16)),oG 178 173 true (.bin .leq 3 (oO 176) (oO 177)),oA 179 (.pick (oO 173) (oO 178) (.const (.bool false))),oM 6 179]) (oK [6] (.ret))))))))))))))))))))))))))
def c5 : AC:=oS (oR [oA 3 (.box (oO 0)),oA 6 (.mv (.const (.bool false)))]) (oK [1,2,3] (oS (oS (oR [oA 16 (.call (.func 21) []),oA 17 (.un .not (oO 16))]) (oK [1,2,3,17] (.cond (oO 17) (oS (oR [oA 6 (.mv (.const (.bool false)))]) (oK [6] (.ret))) (.skip)))) (oK [1,2,3] (oS (oS (oR [oA 18 (.load true 3 (oO 3)),oA 19 (.call (.func 34) [(oO 18)]),oA 20 (.un .not (oO 19)),oM 21 20,oG 22 21 false (.mv (oO 2)),oG 23 21 false (.call (.func 35) [(oO 22)]),oG 24 21 false (.un .not (oO 23)),oA 25 (.pick (oO 21) (.const (.bool true)) (oO 24))]) (oK [1,2,3,25] (.cond (oO 25) (oS (oR [oA 6 (.mv (.const (.bool true)))]) (oK [6] (.ret))) (.skip)))) (oK [1,2,3] (oS (oR [oA 27 (.load true 3 (oO 3)),oA 28 (.call (.func 37) [(oO 27)]),oM 29 1,oM 30 2,oA 31 (.call (.func 38) [(oO 30)]),oA 32 (.call (.func 36) [(oO 28),(oO 29),(oO 31)]),oM 26 32,oA 33 (.extr (oO 26) 0),oA 34 (.extr (oO 26) 1),oA 35 (.extr (oO 26) 2),oA 7 (.alloc [.int .i64 0,.int .i64 0,.int .i64 0,.int .i64 0,.int .i64 0,.int .i64 0,.int .i64 0,.int .i64 0,.int .i64 0,.slice none 0 0]),⟨none,none,.store false 10 (oO 7) (oO 33),false⟩,oM 8 34,oM 9 35]) (oK [1,2,3,7,8,9] (oS (oR [oA 37 (.load true 3 (oO 3)),oA 38 (.call (.func 37) [(oO 37)]),oM 39 1,oM 40 2,oA 41 (.call (.func 38) [(oO 40)]),oA 42 (.call (.func 39) [(oO 38),(oO 39),(oO 41)]),oM 36 42,oA 43 (.extr (oO 36) 0),oA 44 (.extr (oO 36) 1),oM 10 43,oM 11 44]) (oK [1,2,3,7,8,9,10,11] (oS (oS (oR [oA 45 (.load true 3 (oO 3)),oM 46 1,oA 47 (.call (.func 40) [(oO 45),(oO 46)]),oM 12 47]) (oK [1,2,3,7,8,9,10,11,12] (oS (oR [oM 48 12,oA 49 (.bin .neq 3 (oO 48) (oN 0))]) (oK [1,2,3,7,8,9,10,11,12,49] (.cond (oO 49) (oS (oR [oM 50 9,oM 51 12,oA 52 (.bin .eql 3 (oO 50) (oO 51)),oM 53 52,oG 54 53 true (.mv (oO 11)),oG 55 53 true (.mv (oO 12)),oG 56 53 true (.bin .eql 3 (oO 54) (oO 55)),oA 57 (.pick (oO 53) (oO 56) (.const (.bool false))),oM 58 57,oG 59 58 true (.mv (oO 8)),oG 60 58 true (.bin .eql 3 (oO 59) (oN 0)),oA 61 (.pick (oO 58) (oO 60) (.const (.bool false))),oM 62 61,oG 63 62 true (.load true 10 (oO 7)),oG 64 62 true (.build [.int .i64 0,.int .i64 0,.int .i64 0,.int .i64 0,.int .i64 0,.int .i64 0,.int .i64 0,.int .i64 0,.int .i64 0,.slice none 0 0] []),oG 65 62 true (.call (.func 41) [(oO 63),(oO 64)]),oA 66 (.pick (oO 62) (oO 65) (.const (.bool false))),oM 67 66,oG 68 67 true (.mv (oO 10)),oG 69 67 true (.len false (oO 68)),oG 70 67 true (.bin .eql 3 (oO 69) (oN 0)),oA 71 (.pick (oO 67) (oO 70) (.const (.bool false))),oM 6 71]) (oK [6] (.ret))) (.skip)))))) (oK [1,2,3,7,8,9,10,11] (oS (oR [oA 73 (.load true 3 (oO 3)),oM 74 1,oM 75 2,oA 76 (.call (.func 42) [(oO 73),(oO 74),(oO 75)]),oM 72 76,oA 77 (.extr (oO 72) 0),oA 78 (.extr (oO 72) 1),oA 79 (.extr (oO 72) 2),oA 13 (.alloc [.int .i64 0,.int .i64 0,.int .i64 0,.int .i64 0,.int .i64 0,.int .i64 0,.int .i64 0,.int .i64 0,.int .i64 0,.slice none 0 0]),⟨none,none,.store false 10 (oO 13) (oO 77),false⟩,oM 14 78,oM 15 79]) (oK [1,2,3,7,8,9,10,11,13,14,15] (oS (oS (oR [oM 80 9,oM 81 15,oA 82 (.bin .neq 3 (oO 80) (oO 81)),oM 83 82,oG 84 83 false (.mv (oO 8)),oG 85 83 false (.mv (oO 14)),oG 86 83 false (.bin .neq 3 (oO 84) (oO 85)),oA 87 (.pick (oO 83) (.const (.bool true)) (oO 86)),oM 88 87,oG 89 88 false (.load true 10 (oO 7)),oG 90 88 false (.load true 10 (oO 13)),oG 91 88 false (.call (.func 41) [(oO 89),(oO 90)]),oG 92 88 false (.un .not (oO 91)),oA 93 (.pick (oO 88) (.const (.bool true)) (oO 92))]) (oK [1,2,3,10,11,15,93] (.cond (oO 93) (oS (oR [oA 6 (.mv (.const (.bool false)))]) (oK [6] (.ret))) (.skip)))) (oK [1,2,3,10,11,15] (oS (oS (oR [oM 94 15,oA 95 (.bin .neq 3 (oO 94) (oN 0))]) (oK [1,2,3,10,11,15,95] (.cond (oO 95) (oS (oR [oM 96 11,oM 97 15,oA 98 (.bin .eql 3 (oO 96) (oO 97)),oM 99 98,oG 100 99 true (.mv (oO 10)),oG 101 99 true (.len false (oO 100)),oG 102 99 true (.bin .eql 3 (oO 101) (oN 0)),oA 103 (.pick (oO 99) (oO 102) (.const (.bool false))),oM 6 103]) (oK [6] (.ret))) (.skip)))) (oK [1,2,3,10,11] (oS (oR [oM 104 11,oA 105 (.bin .eql 27 (oO 104) (oN 0)),oM 106 105,oG 107 106 true (.mv (oO 10)),oG 108 106 true (.load true 3 (oO 3)),oG 109 106 true (.mv (oO 1)),oG 110 106 true (.mv (oO 2)),oG 111 106 true (.call (.func 43) [(oO 108),(oO 109),(oO 110)]),oG 112 106 true (.call (.func 30) [(oO 107),(oO 111)]),oA 113 (.pick (oO 106) (oO 112) (.const (.bool false))),oM 6 113]) (oK [6] (.ret))))))))))))))))))))
def c9l1 : AC:=oS (oS (oR [oM 74 15,oM 75 13,oA 76 (.len false (oO 75)),oA 77 (.bin .lss 3 (oO 74) (oO 76))]) (oK [3,7,8,9,10,12,13,14,15,77] (.cond (oO 77) (.skip) (.exit 0)))) (oK [3,7,8,9,10,12,13,14,15] (oS (.block 1 (oQ [oA 80 (.mvs (oO 14)),oM 81 13,oA 82 (.mvs (oO 15)),oA 83 (.iaddr 2 [.int .i64 0,.int .i64 0] (oO 81) (oO 82)),oF 84 1 83,oL 85 84,oM 86 13,oM 87 15,oA 88 (.iaddr 2 [.int .i64 0,.int .i64 0] (oO 86) (oO 87)),oF 89 0 88,oL 90 89,oT 91 (.bin .sub 3 (oO 85) (oO 90)),oT 92 (.ext (.mx true) [(oO 80),(oO 91)]),oT 14 (.mv (oO 92))])) (oK [3,7,8,9,10,12,13,14,15] (oR [oM 78 15,oA 79 (.bin .add 3 (oO 78) (oN 1)),oM 15 79]))))
def c9 : AC:=oS (oR [oA 3 (.box (oO 0)),oA 6 (.mv (.const (.bool false)))]) (oK [1,2,3] (oS (oS (oR [oA 16 (.call (.func 21) []),oA 17 (.un .not (oO 16))]) (oK [1,2,3,17] (.cond (oO 17) (oS (oR [oA 6 (.mv (.const (.bool false)))]) (oK [6] (.ret))) (.skip)))) (oK [1,2,3] (oS (oS (oR [oA 18 (.load true 3 (oO 3)),oA 19 (.call (.func 34) [(oO 18)]),oA 20 (.un .not (oO 19)),oM 21 20,oG 22 21 false (.mv (oO 2)),oG 23 21 false (.call (.func 35) [(oO 22)]),oG 24 21 false (.un .not (oO 23)),oA 25 (.pick (oO 21) (.const (.bool true)) (oO 24))]) (oK [1,2,3,25] (.cond (oO 25) (oS (oR [oA 6 (.mv (.const (.bool true)))]) (oK [6] (.ret))) (.skip)))) (oK [1,2,3] (oS (oR [oA 27 (.load true 3 (oO 3)),oA 28 (.call (.func 37) [(oO 27)]),oM 29 1,oM 30 2,oA 31 (.call (.func 38) [(oO 30)]),oA 32 (.call (.func 55) [(oO 28),(oO 29),(oO 31)]),oM 26 32,oA 33 (.extr (oO 26) 0),oA 34 (.extr (oO 26) 1),oM 7 33,oM 8 34]) (oK [1,2,3,7,8] (oS (oR [oA 36 (.load true 3 (oO 3)),oA 37 (.call (.func 37) [(oO 36)]),oM 38 1,oM 39 2,oA 40 (.call (.func 38) [(oO 39)]),oA 41 (.call (.func 56) [(oO 37),(oO 38),(oO 40)]),oM 35 41,oA 42 (.extr (oO 35) 0),oA 43 (.extr (oO 35) 1),oM 9 42,oM 10 43]) (oK [1,2,3,7,8,9,10] (oS (oS (oR [oA 44 (.load true 3 (oO 3)),oM 45 1,oM 46 2,oA 47 (.call (.func 53) [(oO 44),(oO 45),(oO 46)]),oM 11 47]) (oK [1,2,3,7,8,9,10,11] (oS (oR [oM 48 11,oA 49 (.bin .neq 3 (oO 48) (oN 0))]) (oK [1,2,3,7,8,9,10,11,49] (.cond (oO 49) (oS (oR [oM 50 8,oM 51 11,oA 52 (.bin .eql 3 (oO 50) (oO 51)),oM 53 52,oG 54 53 true (.mv (oO 10)),oG 55 53 true (.mv (oO 11)),oG 56 53 true (.bin .eql 3 (oO 54) (oO 55)),oA 57 (.pick (oO 53) (oO 56) (.const (.bool false))),oM 58 57,oG 59 58 true (.mv (oO 7)),oG 60 58 true (.len false (oO 59)),oG 61 58 true (.bin .eql 3 (oO 60) (oN 0)),oA 62 (.pick (oO 58) (oO 61) (.const (.bool false))),oM 63 62,oG 64 63 true (.mv (oO 9)),oG 65 63 true (.bin .eql 3 (oO 64) (oN 0)),oA 66 (.pick (oO 63) (oO 65) (.const (.bool false))),oM 6 66]) (oK [6] (.ret))) (.skip)))))) (oK [1,2,3,7,8,9,10] (oS (oR [oA 68 (.load true 3 (oO 3)),oM 69 1,oM 70 2,oA 71 (.call (.func 58) [(oO 68),(oO 69),(oO 70)]),oM 67 71,oA 72 (.extr (oO 67) 0),oA 73 (.extr (oO 67) 1),oM 12 72,oM 13 73]) (oK [3,7,8,9,10,12,13] (oS (oR [oA 14 (.mv (oN 0))]) (oK [3,7,8,9,10,12,13,14] (oS (oS (oR [oA 15 (.mv (oN 0))]) (oK [3,7,8,9,10,12,13,14,15] (.block 0 (.loop c9l1)))) (oK [3,7,8,9,10,12,14] (oS (oR [oM 93 8,oA 94 (.bin .eql 27 (oO 93) (oN 0)),oM 95 94,oG 96 95 true (.mv (oO 7)),oG 97 95 true (.mv (oO 12)),oG 98 95 true (.call (.func 57) [(oO 96),(oO 97)]),oA 99 (.pick (oO 95) (oO 98) (.const (.bool false))),oM 100 99,oG 101 100 true (.load true 3 (oO 3)),oG 102 100 true (.mv (oO 7)),oG 103 100 true (.call (.func 47) [(oO 101),(oO 102)]),oG 104 100 true (.bin .eql 3 (oO 103) (oN 0)),oA 105 (.pick (oO 100) (oO 104) (.const (.bool false))),oM 106 105,oG 107 106 true (.mv (oO 10)),oG 108 106 true (.bin .eql 27 (oO 107) (oN 0)),oA 109 (.pick (oO 106) (oO 108) (.const (.bool false))),oM 110 109,oG 111 110 true (.mv (oO 9)),oG 112 110 true (.mv (oO 14)),oG 113 110 true (.bin .eql 3 (oO 111) (oO 112)),oA 114 (.pick (oO 110) (oO 113) (.const (.bool false))),oM 115 114,oG 116 115 true (.mv (oO 9)),oG 117 115 true (.faddr 2 (oO 3)),oG 118 115 true (.load false 1 (oO 117)),oG 119 115 true (.bin .leq 3 (oO 116) (oO 118)),oA 120 (.pick (oO 115) (oO 119) (.const (.bool false))),oM 6 120]) (oK [6] (.ret))))))))))))))))))))
def c21 : AC:=oS (oR [oA 0 (.mv (.const (.bool false)))]) (oK [] (oS (oR [oA 11 (.call (.func 88) []),oA 12 (.mkSl false 3 1 [.int .i64 0] 5 [(0,(oN (-900))),(1,(oN (-900))),(2,(oN (-900))),(3,(oN (-900))),(4,(oN (-900)))]),oA 13 (.mkSl false 3 1 [.int .i64 0] 5 [(0,(oN (-870))),(1,(oN (-855))),(2,(oN (-850))),(3,(oN (-855))),(4,(oN (-840)))]),oA 14 (.call (.func 25) [(oO 11),(oO 12),(oO 13)]),oM 10 14,oA 15 (.extr (oO 10) 0),oA 16 (.extr (oO 10) 1),oM 1 15,oM 2 16]) (oK [1,2] (oS (oR [oA 18 (.call (.func 89) []),oA 19 (.call (.func 90) []),oA 20 (.call (.func 39) [(oO 18),(oN 0),(oO 19)]),oM 17 20,oA 21 (.extr (oO 17) 0),oA 22 (.extr (oO 17) 1),oM 3 21,oM 4 22]) (oK [1,2,3,4] (oS (oR [oA 24 (.call (.func 89) []),oA 25 (.call (.func 90) []),oA 26 (.ssl 3 (oO 25) none (some (oN 3)) none),oA 27 (.call (.func 36) [(oO 24),(oN 0),(oO 26)]),oM 23 27,oA 28 (.extr (oO 23) 0),oA 29 (.extr (oO 23) 1),oA 30 (.extr (oO 23) 2),oA 5 (.alloc [.int .i64 0,.int .i64 0,.int .i64 0,.int .i64 0,.int .i64 0,.int .i64 0,.int .i64 0,.int .i64 0,.int .i64 0,.slice none 0 0]),⟨none,none,.store false 10 (oO 5) (oO 28),false⟩,oM 6 29,oM 7 30]) (oK [1,2,3,4,5,7] (oS (oR [oA 32 (.call (.func 89) []),oA 33 (.build [.int .i64 0,.int .i64 0,.int .i64 0] [(2,1,(oN 10))]),oA 34 (.build [.int .i64 0,.int .i64 0,.int .i64 0] [(0,1,(oN 1)),(1,1,(oN 10)),(2,1,(oN 14))]),oA 35 (.build [.int .i64 0,.int .i64 0,.int .i64 0] [(1,1,(oN 14)),(2,1,(oN 30))]),oA 36 (.mkSl false 138 3 [.int .i64 0,.int .i64 0,.int .i64 0] 3 [(0,(oO 33)),(1,(oO 34)),(2,(oO 35))]),oA 37 (.call (.func 44) [(oO 32),(oO 36),(oN 4)]),oM 31 37,oA 38 (.extr (oO 31) 0),oA 39 (.extr (oO 31) 1),oM 8 38,oM 9 39]) (oK [1,2,3,4,5,7,8,9] (oS (oR [oM 40 2,oA 41 (.bin .eql 27 (oO 40) (oN 0)),oM 42 41,oG 43 42 true (.mv (oO 1)),oG 44 42 true (.bin .eql 3 (oO 43) (oN 3)),oA 45 (.pick (oO 42) (oO 44) (.const (.bool false))),oM 46 45,oG 47 46 true (.mv (oO 4)),oG 48 46 true (.bin .eql 27 (oO 47) (oN 0)),oA 49 (.pick (oO 46) (oO 48) (.const (.bool false))),oM 50 49,oG 51 50 true (.mv (oO 3)),oG 52 50 true (.mkSl false 3 1 [.int .i64 0] 2 [(0,(oN 0)),(1,(oN 1))]),oG 53 50 true (.call (.func 30) [(oO 51),(oO 52)]),oA 54 (.pick (oO 50) (oO 53) (.const (.bool false))),oM 55 54,oG 56 55 true (.mv (oO 7)),oG 57 55 true (.bin .eql 27 (oO 56) (oN 0)),oA 58 (.pick (oO 55) (oO 57) (.const (.bool false))),oM 59 58,oG 60 59 true (.load true 10 (oO 5)),oG 61 59 true (.call (.func 80) [(oO 60)]),⟨some 62,some (59,true),.bin .eql 9 (oO 61) (.const (.string ⟨#[51,32,48,32,48,32,48,32,45,49,32,45,49,32,48,32,50,32,49,124,48,32,49,124,124]⟩)),false⟩,oA 63 (.pick (oO 59) (oO 62) (.const (.bool false))),oM 64 63,oG 65 64 true (.mv (oO 9)),oG 66 64 true (.bin .eql 27 (oO 65) (oN 0)),oA 67 (.pick (oO 64) (oO 66) (.const (.bool false))),oM 68 67,oG 69 68 true (.mv (oO 8)),oG 70 68 true (.bin .eql 3 (oO 69) (oN 1)),oA 71 (.pick (oO 68) (oO 70) (.const (.bool false))),oM 0 71]) (oK [0] (.ret))))))))))))
def rv21 : List RV:=[.tmp 0]
theorem is21 : FnIs Tryz.prog 21 72 c21 rv21:=⟨⟨Tryz.f21,_,Tryz.func21,by kernel_rfl,rfl,rfl,by kernel_rfl,by kernel_rfl⟩,by decide⟩
def c23 : AC:=oS (oR [oA 3 (.box (oO 0)),oA 6 (.mv (.const (.slice none 0 0))),oA 7 (.mv (oN 0))]) (oK [1,2,3] (oS (oS (oR [oA 9 (.load true 3 (oO 3)),oA 10 (.call (.func 26) [(oO 9)]),oM 11 1,oM 12 2,oA 13 (.call (.func 92) [(oO 11),(oO 12)]),oA 14 (.mkSl false 27 1 [.int .i64 0] 2 [(0,(oO 10)),(1,(oO 13))]),oA 15 (.call (.func 91) [(oO 14)]),oM 8 15]) (oK [1,2,3,8] (oS (oR [oM 16 8,oA 17 (.bin .neq 27 (oO 16) (oN 0))]) (oK [1,2,3,8,17] (.cond (oO 17) (oS (oR [oM 18 8,oA 6 (.mv (.const (.slice none 0 0))),oM 7 18]) (oK [6,7] (.ret))) (.skip)))))) (oK [1,2,3] (oS (oR [oA 19 (.load true 3 (oO 3)),oM 20 1,oM 21 2,oA 22 (.call (.func 94) [(oO 19),(oO 20),(oO 21)]),oA 23 (.call (.func 93) [(oO 22)]),oM 6 23,oA 7 (.mv (oN 0))]) (oK [6,7] (.ret))))))
def rv23 : List RV:=[.tmp 6,.tmp 7]
theorem is23 : FnIs Tryz.prog 23 24 c23 rv23:=⟨⟨Tryz.f23,_,Tryz.func23,by kernel_rfl,rfl,rfl,by kernel_rfl,by kernel_rfl⟩,by decide⟩
def c25 : AC:=oS (oR [oA 3 (.box (oO 0)),oA 6 (.mv (oN 0)),oA 7 (.mv (oN 0))]) (oK [1,2,3] (oS (oR [oA 11 (.load true 3 (oO 3)),oM 12 1,oM 13 2,oA 14 (.call (.func 23) [(oO 11),(oO 12),(oO 13)]),oM 10 14,oA 15 (.extr (oO 10) 0),oA 16 (.extr (oO 10) 1),oM 8 15,oM 9 16]) (oK [8,9] (oS (oS (oR [oM 17 9,oM 18 8,oA 19 (.len false (oO 18)),oA 20 (.bin .gtr 3 (oO 19) (oN 0)),oA 21 (.call (.func 95) [(oO 20),(oN 12)]),oA 22 (.mkSl false 27 1 [.int .i64 0] 2 [(0,(oO 17)),(1,(oO 21))]),oA 23 (.call (.func 91) [(oO 22)]),oM 9 23]) (oK [8,9] (oS (oR [oM 24 9,oA 25 (.bin .neq 27 (oO 24) (oN 0))]) (oK [8,9,25] (.cond (oO 25) (oS (oR [oM 26 9,oA 6 (.mv (oN 0)),oM 7 26]) (oK [6,7] (.ret))) (.skip)))))) (oK [8] (oS (oR [oM 27 8,oA 28 (.iaddr 1 [.int .i64 0] (oO 27) (oN 0)),oL 29 28,oM 6 29,oA 7 (.mv (oN 0))]) (oK [6,7] (.ret))))))))
def rv25 : List RV:=[.tmp 6,.tmp 7]
theorem is25 : FnIs Tryz.prog 25 30 c25 rv25:=⟨⟨Tryz.f25,_,Tryz.func25,by kernel_rfl,rfl,rfl,by kernel_rfl,by kernel_rfl⟩,by decide⟩
def c26 : AC:=oS (oR [oA 1 (.box (oO 0)),oA 2 (.mv (oN 0))]) (oK [1] (oS (oR [oF 4 0 1,oL 5 4,oA 6 (.call (.func 96) [(oO 5),(oN (-300)),(oN 300)]),oM 7 6,oG 8 7 true (.faddr 1 (oO 1)),oG 9 7 true (.load false 1 (oO 8)),oG 10 7 true (.call (.func 96) [(oO 9),(oN 0),(oN 300)]),oA 11 (.pick (oO 7) (oO 10) (.const (.bool false))),oM 12 11,oG 13 12 true (.faddr 2 (oO 1)),oG 14 12 true (.load false 1 (oO 13)),oG 15 12 true (.call (.func 96) [(oO 14),(oN 0),(oN 40)]),oA 16 (.pick (oO 12) (oO 15) (.const (.bool false))),oM 3 16]) (oK [3] (oS (oR [oM 17 3,oA 18 (.call (.func 95) [(oO 17),(oN 2)]),oM 2 18]) (oK [2] (.ret))))))
def rv26 : List RV:=[.tmp 2]
theorem is26 : FnIs Tryz.prog 26 19 c26 rv26:=⟨⟨Tryz.f26,_,Tryz.func26,by kernel_rfl,rfl,rfl,by kernel_rfl,by kernel_rfl⟩,by decide⟩
def c30l1 : AC:=oS (oS (oR [oM 11 5,oM 12 0,oA 13 (.len false (oO 12)),oA 14 (.bin .lss 3 (oO 11) (oO 13))]) (oK [0,1,5,14] (.cond (oO 14) (.skip) (.exit 0)))) (oK [0,1,5] (oS (.block 1 (oS (oQ [oM 17 0,oA 18 (.mvs (oO 5)),oA 19 (.iaddr 1 [.int .i64 0] (oO 17) (oO 18)),oL 20 19,oM 21 1,oM 22 5,oA 23 (.iaddr 1 [.int .i64 0] (oO 21) (oO 22)),oL 24 23,oT 25 (.bin .neq 3 (oO 20) (oO 24))]) (oK [0,1,5,25] (.cond (oO 25) (oS (oR [oA 4 (.mv (.const (.bool false)))]) (oK [4] (.ret))) (.skip))))) (oK [0,1,5] (oR [oM 15 5,oA 16 (.bin .add 3 (oO 15) (oN 1)),oM 5 16]))))
def c30 : AC:=oS (oR [oA 4 (.mv (.const (.bool false)))]) (oK [0,1] (oS (oS (oR [oM 6 0,oA 7 (.len false (oO 6)),oM 8 1,oA 9 (.len false (oO 8)),oA 10 (.bin .neq 3 (oO 7) (oO 9))]) (oK [0,1,10] (.cond (oO 10) (oS (oR [oA 4 (.mv (.const (.bool false)))]) (oK [4] (.ret))) (.skip)))) (oK [0,1] (oS (oS (oR [oA 5 (.mv (oN 0))]) (oK [0,1,5] (.block 0 (.loop c30l1)))) (oK [] (oS (oR [oA 4 (.mv (.const (.bool true)))]) (oK [4] (.ret))))))))
def rv30 : List RV:=[.tmp 4]
theorem is30 : FnIs Tryz.prog 30 26 c30 rv30:=⟨⟨Tryz.f30,_,Tryz.func30,by kernel_rfl,rfl,rfl,by kernel_rfl,by kernel_rfl⟩,by decide⟩
def c31 : AC:=oS (oR [oA 6 (.mv (.const (.bool false)))]) (oK [0,1,2] (oS (oR [oM 7 1,oM 8 0,oA 9 (.bin .leq 3 (oO 7) (oO 8)),oM 10 9,oG 11 10 true (.mv (oO 0)),oG 12 10 true (.mv (oO 2)),oG 13 10 true (.bin .leq 3 (oO 11) (oO 12)),oA 14 (.pick (oO 10) (oO 13) (.const (.bool false))),oM 6 14]) (oK [6] (.ret))))
def rv31 : List RV:=[.tmp 6]
theorem is31 : FnIs Tryz.prog 31 15 c31 rv31:=⟨⟨Tryz.f31,_,Tryz.func31,by kernel_rfl,rfl,rfl,by kernel_rfl,by kernel_rfl⟩,by decide⟩
def qj : AC:=oS (oS (oR [oM 14 3,oF 15 0 1,oL 16 15,oA 17 (.len false (oO 16)),oA 18 (.bin .lss 3 (oO 14) (oO 17))]) (oK [1,3,18] (.cond (oO 18) (.skip) (.exit 0)))) (oK [1,3] (oS (.block 1 (oS (oR [oF 21 0 1,oL 22 21,oM 23 3,⟨some 24,none,.iaddr 1 [.string ⟨#[]⟩] (oO 22) (oO 23),false⟩,oL 25 24,oA 26 (.len true (oO 25)),oA 27 (.bin .gtr 3 (oO 26) (oN 20))]) (oK [1,3,27] (.cond (oO 27) (oS (oR [oA 2 (.mv (.const (.bool false)))]) (oK [2] (.ret))) (.skip))))) (oK [1,3] (oR [oM 19 3,oA 20 (.bin .add 3 (oO 19) (oN 1)),oM 3 20]))))
def c34 : AC:=oS (oR [oA 1 (.box (oO 0)),oA 2 (.mv (.const (.bool false)))]) (oK [1] (oS (oS (oR [oF 4 0 1,oL 5 4,oA 6 (.len false (oO 5)),oA 7 (.bin .gtr 3 (oO 6) (oN 8)),oM 8 7,oG 9 8 false (.faddr 1 (oO 1)),oG 10 8 false (.load false 1 (oO 9)),oG 11 8 false (.len false (oO 10)),oG 12 8 false (.bin .gtr 3 (oO 11) (oN 20)),oA 13 (.pick (oO 8) (.const (.bool true)) (oO 12))]) (oK [1,13] (.cond (oO 13) (oS (oR [oA 2 (.mv (.const (.bool false)))]) (oK [2] (.ret))) (.skip)))) (oK [1] (oS (oS (oR [oA 3 (.mv (oN 0))]) (oK [1,3] (.block 0 (.loop qj)))) (oK [] (oS (oR [oA 2 (.mv (.const (.bool true)))]) (oK [2] (.ret))))))))
def rv34 : List RV:=[.tmp 2]
theorem is34 : FnIs Tryz.prog 34 28 c34 rv34:=⟨⟨Tryz.f34,_,Tryz.func34,by kernel_rfl,rfl,rfl,by kernel_rfl,by kernel_rfl⟩,by decide⟩
def c36 : AC:=oS (oR [oA 3 (.box (oO 0)),oA 6 (.alloc [.int .i64 0,.int .i64 0,.int .i64 0,.int .i64 0,.int .i64 0,.int .i64 0,.int .i64 0,.int .i64 0,.int .i64 0,.slice none 0 0]),oA 7 (.mv (oN 0)),oA 8 (.mv (oN 0))]) (oK [1,2,3,6] (oS (oR [oA 13 (.load true 3 (oO 3)),oM 14 1,oM 15 2,oA 16 (.call (.func 97) [(oO 13),(oO 14),(oO 15)]),oM 12 16,oA 17 (.extr (oO 12) 0),oA 18 (.extr (oO 12) 1),oA 19 (.extr (oO 12) 2),oM 9 17,oM 10 18,oM 11 19]) (oK [6,9,10,11] (oS (oS (oR [oM 20 11,oA 21 (.bin .neq 27 (oO 20) (oN 0))]) (oK [6,9,10,11,21] (.cond (oO 21) (oS (oR [oA 22 (.build [.int .i64 0,.int .i64 0,.int .i64 0,.int .i64 0,.int .i64 0,.int .i64 0,.int .i64 0,.int .i64 0,.int .i64 0,.slice none 0 0] []),oM 23 10,oM 24 11,⟨none,none,.store false 10 (oO 6) (oO 22),false⟩,oM 7 23,oM 8 24]) (oK [6,7,8] (.ret))) (.skip)))) (oK [6,9] (oS (oR [oM 25 9,oA 26 (.nilc (oO 25)),oF 27 0 26,oA 28 (.load true 10 (oO 27)),⟨none,none,.store false 10 (oO 6) (oO 28),false⟩,oA 7 (.mv (oN 0)),oA 8 (.mv (oN 0))]) (oK [6,7,8] (.ret))))))))
def rv36 : List RV:=[.cell 6 true 10,.tmp 7,.tmp 8]
theorem is36 : FnIs Tryz.prog 36 29 c36 rv36:=⟨⟨Tryz.f36,_,Tryz.func36,by kernel_rfl,rfl,rfl,by kernel_rfl,by kernel_rfl⟩,by decide⟩
def c40 : AC:=oS (oR [oA 2 (.box (oO 0)),oA 4 (.mv (oN 0))]) (oK [1,2] (oS (oS (oR [oA 6 (.load true 3 (oO 2)),oA 7 (.call (.func 46) [(oO 6)]),oM 5 7]) (oK [1,2,5] (oS (oR [oM 8 5,oA 9 (.bin .neq 3 (oO 8) (oN 0))]) (oK [1,2,5,9] (.cond (oO 9) (oS (oR [oM 10 5,oM 4 10]) (oK [4] (.ret))) (.skip)))))) (oK [1,2] (oS (oS (oR [oA 11 (.load true 3 (oO 2)),oM 12 1,oA 13 (.call (.func 99) [(oO 11),(oO 12)]),oA 14 (.un .not (oO 13))]) (oK [14] (.cond (oO 14) (oS (oR [oA 4 (.mv (oN 6))]) (oK [4] (.ret))) (.skip)))) (oK [] (oS (oR [oA 4 (.mv (oN 0))]) (oK [4] (.ret))))))))
def rv40 : List RV:=[.tmp 4]
theorem is40 : FnIs Tryz.prog 40 15 c40 rv40:=⟨⟨Tryz.f40,_,Tryz.func40,by kernel_rfl,rfl,rfl,by kernel_rfl,by kernel_rfl⟩,by decide⟩
def c41 : AC:=oS (oR [oA 2 (.box (oO 0)),oA 3 (.box (oO 1)),oA 4 (.mv (.const (.bool false)))]) (oK [2,3] (oS (oR [oF 5 0 2,oL 6 5,oF 7 0 3,oL 8 7,oA 9 (.bin .eql 3 (oO 6) (oO 8)),oM 10 9,oG 11 10 true (.faddr 1 (oO 2)),oG 12 10 true (.load false 1 (oO 11)),oG 13 10 true (.faddr 1 (oO 3)),oG 14 10 true (.load false 1 (oO 13)),oG 15 10 true (.bin .eql 3 (oO 12) (oO 14)),oA 16 (.pick (oO 10) (oO 15) (.const (.bool false))),oM 17 16,oG 18 17 true (.faddr 2 (oO 2)),oG 19 17 true (.load false 1 (oO 18)),oG 20 17 true (.faddr 2 (oO 3)),oG 21 17 true (.load false 1 (oO 20)),oG 22 17 true (.bin .eql 3 (oO 19) (oO 21)),oA 23 (.pick (oO 17) (oO 22) (.const (.bool false))),oM 24 23,oG 25 24 true (.faddr 3 (oO 2)),oG 26 24 true (.load false 1 (oO 25)),oG 27 24 true (.faddr 3 (oO 3)),oG 28 24 true (.load false 1 (oO 27)),oG 29 24 true (.bin .eql 3 (oO 26) (oO 28)),oA 30 (.pick (oO 24) (oO 29) (.const (.bool false))),oM 31 30,oG 32 31 true (.faddr 4 (oO 2)),oG 33 31 true (.load false 1 (oO 32)),oG 34 31 true (.faddr 4 (oO 3)),oG 35 31 true (.load false 1 (oO 34)),oG 36 31 true (.bin .eql 3 (oO 33) (oO 35)),oA 37 (.pick (oO 31) (oO 36) (.const (.bool false))),oM 38 37,oG 39 38 true (.faddr 5 (oO 2)),oG 40 38 true (.load false 1 (oO 39)),oG 41 38 true (.faddr 5 (oO 3)),oG 42 38 true (.load false 1 (oO 41)),oG 43 38 true (.bin .eql 3 (oO 40) (oO 42)),oA 44 (.pick (oO 38) (oO 43) (.const (.bool false))),oM 45 44,oG 46 45 true (.faddr 6 (oO 2)),oG 47 45 true (.load false 1 (oO 46)),oG 48 45 true (.faddr 6 (oO 3)),oG 49 45 true (.load false 1 (oO 48)),oG 50 45 true (.bin .eql 3 (oO 47) (oO 49)),oA 51 (.pick (oO 45) (oO 50) (.const (.bool false))),oM 52 51,oG 53 52 true (.faddr 7 (oO 2)),oG 54 52 true (.load false 1 (oO 53)),oG 55 52 true (.faddr 7 (oO 3)),oG 56 52 true (.load false 1 (oO 55)),oG 57 52 true (.bin .eql 3 (oO 54) (oO 56)),oA 58 (.pick (oO 52) (oO 57) (.const (.bool false))),oM 59 58,oG 60 59 true (.faddr 8 (oO 2)),oG 61 59 true (.load false 1 (oO 60)),oG 62 59 true (.faddr 8 (oO 3)),oG 63 59 true (.load false 1 (oO 62)),oG 64 59 true (.bin .eql 3 (oO 61) (oO 63)),oA 65 (.pick (oO 59) (oO 64) (.const (.bool false))),oM 66 65,oG 67 66 true (.faddr 9 (oO 2)),oG 68 66 true (.load false 1 (oO 67)),oG 69 66 true (.faddr 9 (oO 3)),oG 70 66 true (.load false 1 (oO 69)),oG 71 66 true (.call (.func 100) [(oO 68),(oO 70)]),oA 72 (.pick (oO 66) (oO 71) (.const (.bool false))),oM 4 72]) (oK [4] (.ret))))
def rv41 : List RV:=[.tmp 4]
theorem is41 : FnIs Tryz.prog 41 73 c41 rv41:=⟨⟨Tryz.f41,_,Tryz.func41,by kernel_rfl,rfl,rfl,by kernel_rfl,by kernel_rfl⟩,by decide⟩
def qk : AC:=oS (oR [oA 29 (.bin .lss 3 (oO 28) (oO 27))]) (oK [1,2,3,26,27,28,29] (oS (.cond (oO 29) (.skip) (.exit 0)) (oK [1,2,3,26,27,28] (oS (.block 1 (oS (oR [oM 30 28,oA 31 (.iaddr 3 [.int .i64 0,.int .i64 0,.int .i64 0] (oO 26) (oO 28)),oA 32 (.load true 3 (oO 31)),oA 10 (.alloc [.int .i64 0,.int .i64 0,.int .i64 0]),oM 9 30,⟨none,none,.store false 3 (oO 10) (oO 32),false⟩]) (oK [1,2,3,9,10,26,27,28] (oS (oR [oM 33 1,oM 34 9,oA 35 (.bin .sub 3 (oO 34) (oN 1)),oA 36 (.ext (.mx true) [(oN 0),(oO 35)]),oA 37 (.iaddr 3 [.int .i64 0,.int .i64 0,.int .i64 0] (oO 33) (oO 36)),oA 38 (.load true 3 (oO 37)),oA 11 (.alloc [.int .i64 0,.int .i64 0,.int .i64 0]),⟨none,none,.store false 3 (oO 11) (oO 38),false⟩]) (oK [1,2,3,9,10,11,26,27,28] (oS (oQ [oF 39 0 10,oL 40 39,oF 41 0 3,oL 42 41,oA 43 (.len false (oO 42)),oA 44 (.bin .sub 3 (oO 43) (oN 1)),oA 45 (.call (.func 96) [(oO 40),(oN 0),(oO 44)]),oA 46 (.call (.func 95) [(oO 45),(oN 6)]),oF 47 1 10,oL 48 47,oA 49 (.call (.func 102) [(oO 48)]),oA 50 (.mvs (oO 49)),oG 51 50 true (.faddr 2 (oO 10)),oG 52 50 true (.load false 1 (oO 51)),oG 53 50 true (.call (.func 102) [(oO 52)]),oA 54 (.pick (oO 50) (oO 53) (.const (.bool false))),oA 55 (.call (.func 95) [(oO 54),(oN 2)]),oF 56 1 10,oL 57 56,oF 58 2 10,oL 59 58,oA 60 (.bin .leq 3 (oO 57) (oO 59)),oA 61 (.mvs (oO 60)),oG 62 61 true (.mv (oO 9)),oG 63 61 true (.bin .eql 3 (oO 62) (oN 0)),oG 64 61 true (.mv (oO 63)),oG 65 64 false (.faddr 1 (oO 10)),oG 66 64 false (.load false 1 (oO 65)),oG 67 64 false (.faddr 2 (oO 11)),oG 68 64 false (.load false 1 (oO 67)),oG 69 64 false (.bin .eql 3 (oO 66) (oO 68)),oG 70 61 true (.pick (oO 64) (.const (.bool true)) (oO 69)),oA 71 (.pick (oO 61) (oO 70) (.const (.bool false))),oA 72 (.call (.func 95) [(oO 71),(oN 9)]),oM 73 9,oA 74 (.bin .eql 3 (oO 73) (oN 0)),oT 75 (.mv (oO 74)),oG 76 75 false (.faddr 0 (oO 10)),oG 77 75 false (.load false 1 (oO 76)),oG 78 75 false (.faddr 0 (oO 11)),oG 79 75 false (.load false 1 (oO 78)),⟨some 80,some (75,false),.bin .neq 3 (oO 77) (oO 79),true⟩,oT 81 (.pick (oO 75) (.const (.bool true)) (oO 80)),oT 82 (.call (.func 95) [(oO 81),(oN 26)]),oT 83 (.mkSl false 27 1 [.int .i64 0] 4 [(0,(oO 46)),(1,(oO 55)),(2,(oO 72)),(3,(oO 82))]),oT 84 (.call (.func 91) [(oO 83)]),oT 12 (.mv (oO 84))]) (oK [1,2,3,12,26,27,28] (oS (oR [oM 85 12,oA 86 (.bin .neq 27 (oO 85) (oN 0))]) (oK [1,2,3,12,26,27,28,86] (.cond (oO 86) (oS (oR [oM 87 12,oA 6 (.mv (oN 0)),oM 7 87]) (oK [6,7] (.ret))) (.skip))))))))))) (oK [1,2,3,26,27,28] (oR [oA 88 (.bin .add 3 (oO 28) (oN 1)),oM 28 88]))))))
def c44l2 : AC:=oS (oS (oR [oM 92 14,oA 93 (.bin .add 3 (oO 92) (oN 1)),oM 94 1,oA 95 (.len false (oO 94)),oA 96 (.bin .lss 3 (oO 93) (oO 95))]) (oK [1,2,13,14,96] (.cond (oO 96) (.skip) (.exit 2)))) (oK [1,2,13,14] (oS (.block 3 (oS (oQ [oM 99 1,oA 100 (.mvs (oO 14)),oA 101 (.iaddr 3 [.int .i64 0,.int .i64 0,.int .i64 0] (oO 99) (oO 100)),oF 102 2 101,oL 103 102,oM 104 1,oA 105 (.mvs (oO 14)),oA 106 (.iaddr 3 [.int .i64 0,.int .i64 0,.int .i64 0] (oO 104) (oO 105)),oF 107 1 106,oL 108 107,oA 109 (.bin .sub 3 (oO 103) (oO 108)),oM 110 2,oT 111 (.bin .leq 3 (oO 109) (oO 110)),oT 112 (.mv (oO 111)),oG 113 112 true (.mv (oO 1)),oG 114 112 true (.mv (oO 14)),oG 115 112 true (.bin .sub 3 (oO 114) (oN 1)),oG 116 112 true (.iaddr 3 [.int .i64 0,.int .i64 0,.int .i64 0] (oO 113) (oO 115)),oG 117 112 true (.faddr 0 (oO 116)),oG 118 112 true (.load false 1 (oO 117)),oG 119 112 true (.mv (oO 1)),oG 120 112 true (.mv (oO 14)),oG 121 112 true (.bin .add 3 (oO 120) (oN 1)),oG 122 112 true (.iaddr 3 [.int .i64 0,.int .i64 0,.int .i64 0] (oO 119) (oO 121)),oG 123 112 true (.faddr 0 (oO 122)),oG 124 112 true (.load false 1 (oO 123)),⟨some 125,some (112,true),.bin .eql 3 (oO 118) (oO 124),true⟩,oT 126 (.pick (oO 112) (oO 125) (.const (.bool false)))]) (oK [1,2,13,14,126] (.cond (oO 126) (oR [oM 127 13,oA 128 (.bin .add 3 (oO 127) (oN 1)),oM 13 128]) (.skip))))) (oK [1,2,13,14] (oR [oM 97 14,oA 98 (.bin .add 3 (oO 97) (oN 1)),oM 14 98]))))
def c44 : AC:=oS (oR [oA 3 (.box (oO 0)),oA 6 (.mv (oN 0)),oA 7 (.mv (oN 0))]) (oK [1,2,3] (oS (oS (oR [oA 15 (.load true 3 (oO 3)),oA 16 (.call (.func 101) [(oO 15)]),oM 17 1,oA 18 (.len false (oO 17)),oA 19 (.bin .leq 3 (oO 18) (oN 200)),oA 20 (.call (.func 95) [(oO 19),(oN 8)]),oA 21 (.mkSl false 27 1 [.int .i64 0] 2 [(0,(oO 16)),(1,(oO 20))]),oA 22 (.call (.func 91) [(oO 21)]),oM 8 22]) (oK [1,2,3,8] (oS (oR [oM 23 8,oA 24 (.bin .neq 27 (oO 23) (oN 0))]) (oK [1,2,3,8,24] (.cond (oO 24) (oS (oR [oM 25 8,oA 6 (.mv (oN 0)),oM 7 25]) (oK [6,7] (.ret))) (.skip)))))) (oK [1,2,3] (oS (oS (oR [oM 26 1,oA 27 (.len false (oO 26)),oA 28 (.mv (oN 0))]) (oK [1,2,3,26,27,28] (.block 0 (.loop qk)))) (oK [1,2] (oS (oS (oR [oM 89 2,oA 90 (.call (.func 102) [(oO 89)]),oA 91 (.un .not (oO 90))]) (oK [1,2,91] (.cond (oO 91) (oS (oR [oA 6 (.mv (oN 0)),oA 7 (.mv (oN 2))]) (oK [6,7] (.ret))) (.skip)))) (oK [1,2] (oS (oR [oA 13 (.mv (oN 0))]) (oK [1,2,13] (oS (oS (oR [oA 14 (.mv (oN 1))]) (oK [1,2,13,14] (.block 2 (.loop c44l2)))) (oK [13] (oS (oR [oM 129 13,oM 6 129,oA 7 (.mv (oN 0))]) (oK [6,7] (.ret))))))))))))))
def rv44 : List RV:=[.tmp 6,.tmp 7]
theorem is44 : FnIs Tryz.prog 44 130 c44 rv44:=⟨⟨Tryz.f44,_,Tryz.func44,by kernel_rfl,rfl,rfl,by kernel_rfl,by kernel_rfl⟩,by decide⟩
def c46 : AC:=oS (oR [oA 1 (.box (oO 0)),oA 2 (.mv (oN 0))]) (oK [1] (oS (oR [oA 6 (.load true 3 (oO 1)),oA 7 (.call (.func 51) [(oO 6)]),oM 5 7,oA 8 (.extr (oO 5) 0),oA 9 (.extr (oO 5) 1),oM 3 8,oM 4 9]) (oK [4] (oS (oR [oM 10 4,oM 2 10]) (oK [2] (.ret))))))
def rv46 : List RV:=[.tmp 2]
theorem is46 : FnIs Tryz.prog 46 11 c46 rv46:=⟨⟨Tryz.f46,_,Tryz.func46,by kernel_rfl,rfl,rfl,by kernel_rfl,by kernel_rfl⟩,by decide⟩
def c49l1 : AC:=oS (oR [oA 31 (.bin .lss 3 (oO 30) (oO 29))]) (oK [1,28,29,30,31] (oS (.cond (oO 31) (.skip) (.exit 0)) (oK [1,28,29,30] (oS (.block 1 (oS (oR [oM 32 30,⟨some 33,none,.iaddr 1 [.string ⟨#[]⟩] (oO 28) (oO 30),false⟩,oL 34 33,oM 5 32,oM 6 34]) (oK [1,5,6,28,29,30] (oS (oQ [oA 35 (.mvs (oO 6)),oA 36 (.call (.func 103) [(oO 35)]),oA 37 (.call (.func 95) [(oO 36),(oN 4)]),oF 38 0 1,oL 39 38,oA 40 (.mvs (oO 5)),oA 41 (.ssl 1 (oO 39) none (some (oO 40)) none),oM 42 6,oT 43 (.call (.func 104) [(oO 41),(oO 42)]),oT 44 (.un .not (oO 43)),oT 45 (.call (.func 95) [(oO 44),(oN 5)]),oT 46 (.mkSl false 27 1 [.int .i64 0] 2 [(0,(oO 37)),(1,(oO 45))]),oT 47 (.call (.func 91) [(oO 46)]),oT 7 (.mv (oO 47))]) (oK [1,5,7,28,29,30] (oS (oR [oM 48 7,oA 49 (.bin .neq 27 (oO 48) (oN 0))]) (oK [1,5,7,28,29,30,49] (.cond (oO 49) (oS (oR [oM 50 5,oM 51 7,oM 2 50,oM 3 51]) (oK [2,3] (.ret))) (.skip))))))))) (oK [1,28,29,30] (oR [oA 52 (.bin .add 3 (oO 30) (oN 1)),oM 30 52]))))))
def c49l2 : AC:=oS (oR [oA 58 (.bin .lss 3 (oO 57) (oO 56))]) (oK [1,8,55,56,57,58] (oS (.cond (oO 58) (.skip) (.exit 2)) (oK [1,8,55,56,57] (oS (.block 3 (oS (oR [oM 59 57,oA 60 (.iaddr 2 [.int .i64 0,.int .i64 0] (oO 55) (oO 57)),oA 61 (.load true 2 (oO 60)),oA 10 (.alloc [.int .i64 0,.int .i64 0]),oM 9 59,⟨none,none,.store false 2 (oO 10) (oO 61),false⟩]) (oK [1,8,9,10,55,56,57] (oS (oQ [oM 62 8,oA 63 (.iarr 2 1 (oO 10) (oN 0)),oL 64 63,oA 65 (.call (oO 62) [(oO 64)]),oA 66 (.mvs (oO 65)),oG 67 66 true (.mv (oO 8)),oG 68 66 true (.iarr 2 1 (oO 10) (oN 1)),oG 69 66 true (.load false 1 (oO 68)),oG 70 66 true (.call (oO 67) [(oO 69)]),oA 71 (.pick (oO 66) (oO 70) (.const (.bool false))),oA 72 (.call (.func 95) [(oO 71),(oN 6)]),oA 73 (.iarr 2 1 (oO 10) (oN 0)),oL 74 73,oA 75 (.iarr 2 1 (oO 10) (oN 1)),oL 76 75,oA 77 (.bin .lss 3 (oO 74) (oO 76)),oA 78 (.call (.func 95) [(oO 77),(oN 9)]),oF 79 1 1,oL 80 79,oA 81 (.mvs (oO 9)),oA 82 (.ssl 2 (oO 80) none (some (oO 81)) none),oA 83 (.load true 2 (oO 10)),oT 84 (.call (.func 106) [(oO 82),(oO 83)]),oT 85 (.un .not (oO 84)),oT 86 (.call (.func 95) [(oO 85),(oN 26)]),oT 87 (.mkSl false 27 1 [.int .i64 0] 3 [(0,(oO 72)),(1,(oO 78)),(2,(oO 86))]),oT 88 (.call (.func 91) [(oO 87)]),oT 11 (.mv (oO 88))]) (oK [1,8,9,11,55,56,57] (oS (oR [oM 89 11,oA 90 (.bin .neq 27 (oO 89) (oN 0))]) (oK [1,8,9,11,55,56,57,90] (.cond (oO 90) (oS (oR [oM 91 9,oM 92 11,oM 2 91,oM 3 92]) (oK [2,3] (.ret))) (.skip))))))))) (oK [1,8,55,56,57] (oR [oA 93 (.bin .add 3 (oO 57) (oN 1)),oM 57 93]))))))
def c49 : AC:=oS (oR [oA 1 (.box (oO 0)),oA 2 (.mv (oN 0)),oA 3 (.mv (oN 0))]) (oK [1] (oS (oS (oQ [oF 12 0 1,oL 13 12,oA 14 (.len false (oO 13)),oA 15 (.bin .gtr 3 (oO 14) (oN 0)),oA 16 (.call (.func 95) [(oO 15),(oN 10)]),oF 17 0 1,oL 18 17,oA 19 (.len false (oO 18)),oA 20 (.bin .leq 3 (oO 19) (oN 6)),oT 21 (.call (.func 95) [(oO 20),(oN 8)]),oT 22 (.mkSl false 27 1 [.int .i64 0] 2 [(0,(oO 16)),(1,(oO 21))]),oT 23 (.call (.func 91) [(oO 22)]),oT 4 (.mv (oO 23))]) (oK [1,4] (oS (oR [oM 24 4,oA 25 (.bin .neq 27 (oO 24) (oN 0))]) (oK [1,4,25] (.cond (oO 25) (oS (oR [oM 26 4,oA 2 (.mv (oN 0)),oM 3 26]) (oK [2,3] (.ret))) (.skip)))))) (oK [1] (oS (oS (oR [oF 27 0 1,oL 28 27,oA 29 (.len false (oO 28)),oA 30 (.mv (oN 0))]) (oK [1,28,29,30] (.block 0 (.loop c49l1)))) (oK [1] (oS (oR [oA 53 (.mkFn (.func 105) [] [(oO 1)]),oM 8 53]) (oK [1,8] (oS (oS (oR [oF 54 1 1,oL 55 54,oA 56 (.len false (oO 55)),oA 57 (.mv (oN 0))]) (oK [1,8,55,56,57] (.block 2 (.loop c49l2)))) (oK [1] (oS (oR [oF 94 2 1,oL 95 94,oA 96 (.call (.func 96) [(oO 95),(oN 1),(oN 100000)]),oA 97 (.call (.func 95) [(oO 96),(oN 2)]),oA 2 (.mv (oN 0)),oM 3 97]) (oK [2,3] (.ret))))))))))))
def rv49 : List RV:=[.tmp 2,.tmp 3]
theorem is49 : FnIs Tryz.prog 49 98 c49 rv49:=⟨⟨Tryz.f49,_,Tryz.func49,by kernel_rfl,rfl,rfl,by kernel_rfl,by kernel_rfl⟩,by decide⟩
def c51l1 : AC:=oS (oS (oR [oM 16 4,oF 17 0 1,oL 18 17,oA 19 (.len false (oO 18)),oA 20 (.bin .lss 3 (oO 16) (oO 19))]) (oK [1,4,20] (.cond (oO 20) (.skip) (.exit 0)))) (oK [1,4] (oS (.block 1 (oS (oS (oR [oF 23 0 1,oL 24 23,oM 25 4,⟨some 26,none,.iaddr 1 [.string ⟨#[]⟩] (oO 24) (oO 25),false⟩,oL 27 26,oA 28 (.call (.func 108) [(oO 27)]),oA 29 (.un .not (oO 28))]) (oK [1,4,29] (.cond (oO 29) (oS (oR [oM 30 4,oM 2 30,oA 3 (.mv (oN 4))]) (oK [2,3] (.ret))) (.skip)))) (oK [1,4] (oS (oQ [oF 31 0 1,oL 32 31,oA 33 (.mvs (oO 4)),oA 34 (.ssl 1 (oO 32) none (some (oO 33)) none),oF 35 0 1,oL 36 35,oM 37 4,⟨some 38,none,.iaddr 1 [.string ⟨#[]⟩] (oO 36) (oO 37),false⟩,oL 39 38,oT 40 (.call (.func 109) [(oO 34),(oO 39)])]) (oK [1,4,40] (.cond (oO 40) (oS (oR [oM 41 4,oM 2 41,oA 3 (.mv (oN 5))]) (oK [2,3] (.ret))) (.skip))))))) (oK [1,4] (oR [oM 21 4,oA 22 (.bin .add 3 (oO 21) (oN 1)),oM 4 22]))))
def ql : AC:=oS (oS (oR [oM 73 7,oM 74 5,oA 75 (.bin .lss 3 (oO 73) (oO 74))]) (oK [1,5,6,7,75] (.cond (oO 75) (.skip) (.exit 4)))) (oK [1,5,6,7] (oS (.block 5 (oS (oQ [oF 78 1 1,oL 79 78,oA 80 (.mvs (oO 7)),oA 81 (.iaddr 2 [.int .i64 0,.int .i64 0] (oO 79) (oO 80)),oA 82 (.load true 2 (oO 81)),oA 83 (.load true 2 (oO 6)),oT 84 (.ext (.eqs false [0,0]) [(oO 82),(oO 83)])]) (oK [1,5,6,7,84] (.cond (oO 84) (oS (oR [oM 85 5,oM 2 85,oA 3 (.mv (oN 26))]) (oK [2,3] (.ret))) (.skip))))) (oK [1,5,6,7] (oR [oM 76 7,oA 77 (.bin .add 3 (oO 76) (oN 1)),oM 7 77]))))
def c51l3 : AC:=oS (oS (oR [oM 42 5,oF 43 1 1,oL 44 43,oA 45 (.len false (oO 44)),oA 46 (.bin .lss 3 (oO 42) (oO 45))]) (oK [1,5,46] (.cond (oO 46) (.skip) (.exit 2)))) (oK [1,5] (oS (.block 3 (oS (oR [oF 49 1 1,oL 50 49,oM 51 5,oA 52 (.iaddr 2 [.int .i64 0,.int .i64 0] (oO 50) (oO 51)),oA 53 (.load true 2 (oO 52)),oA 6 (.alloc [.int .i64 0,.int .i64 0]),⟨none,none,.store false 2 (oO 6) (oO 53),false⟩]) (oK [1,5,6] (oS (oS (oR [oA 54 (.load true 3 (oO 1)),oA 55 (.iarr 2 1 (oO 6) (oN 0)),oL 56 55,oA 57 (.call (.func 99) [(oO 54),(oO 56)]),oA 58 (.un .not (oO 57)),oM 59 58,oG 60 59 false (.load true 3 (oO 1)),oG 61 59 false (.iarr 2 1 (oO 6) (oN 1)),oG 62 59 false (.load false 1 (oO 61)),oG 63 59 false (.call (.func 99) [(oO 60),(oO 62)]),oG 64 59 false (.un .not (oO 63)),oA 65 (.pick (oO 59) (.const (.bool true)) (oO 64))]) (oK [1,5,6,65] (.cond (oO 65) (oS (oR [oM 66 5,oM 2 66,oA 3 (.mv (oN 6))]) (oK [2,3] (.ret))) (.skip)))) (oK [1,5,6] (oS (oS (oR [oA 67 (.iarr 2 1 (oO 6) (oN 0)),oL 68 67,oA 69 (.iarr 2 1 (oO 6) (oN 1)),oL 70 69,oA 71 (.bin .geq 3 (oO 68) (oO 70))]) (oK [1,5,6,71] (.cond (oO 71) (oS (oR [oM 72 5,oM 2 72,oA 3 (.mv (oN 9))]) (oK [2,3] (.ret))) (.skip)))) (oK [1,5,6] (oS (oR [oA 7 (.mv (oN 0))]) (oK [1,5,6,7] (.block 4 (.loop ql))))))))))) (oK [1,5] (oR [oM 47 5,oA 48 (.bin .add 3 (oO 47) (oN 1)),oM 5 48]))))
def c51 : AC:=oS (oR [oA 1 (.box (oO 0)),oA 2 (.mv (oN 0)),oA 3 (.mv (oN 0))]) (oK [1] (oS (oS (oR [oF 8 0 1,oL 9 8,oA 10 (.len false (oO 9)),oA 11 (.bin .eql 3 (oO 10) (oN 0))]) (oK [1,11] (.cond (oO 11) (oS (oR [oA 2 (.mv (oN 0)),oA 3 (.mv (oN 10))]) (oK [2,3] (.ret))) (.skip)))) (oK [1] (oS (oS (oR [oF 12 0 1,oL 13 12,oA 14 (.len false (oO 13)),oA 15 (.bin .gtr 3 (oO 14) (oN 6))]) (oK [1,15] (.cond (oO 15) (oS (oR [oA 2 (.mv (oN 0)),oA 3 (.mv (oN 8))]) (oK [2,3] (.ret))) (.skip)))) (oK [1] (oS (oS (oR [oA 4 (.mv (oN 0))]) (oK [1,4] (.block 0 (.loop c51l1)))) (oK [1] (oS (oS (oR [oA 5 (.mv (oN 0))]) (oK [1,5] (.block 2 (.loop c51l3)))) (oK [1] (oS (oS (oR [oF 86 2 1,oL 87 86,oA 88 (.call (.func 31) [(oO 87),(oN 1),(oN 100000)]),oA 89 (.un .not (oO 88))]) (oK [89] (.cond (oO 89) (oS (oR [oA 2 (.mv (oN 0)),oA 3 (.mv (oN 2))]) (oK [2,3] (.ret))) (.skip)))) (oK [] (oS (oR [oA 2 (.mv (oN 0)),oA 3 (.mv (oN 0))]) (oK [2,3] (.ret))))))))))))))
def rv51 : List RV:=[.tmp 2,.tmp 3]
theorem is51 : FnIs Tryz.prog 51 90 c51 rv51:=⟨⟨Tryz.f51,_,Tryz.func51,by kernel_rfl,rfl,rfl,by kernel_rfl,by kernel_rfl⟩,by decide⟩
def c88 : AC:=oS (oR [oA 0 (.alloc [.int .i64 0,.int .i64 0,.int .i64 0])]) (oK [0] (oS (oR [oA 1 (.build [.int .i64 0,.int .i64 0,.int .i64 0] [(0,1,(oN 30)),(1,1,(oN 10)),(2,1,(oN 2))]),⟨none,none,.store false 3 (oO 0) (oO 1),false⟩]) (oK [0] (.ret))))
def rv88 : List RV:=[.cell 0 true 3]
theorem is88 : FnIs Tryz.prog 88 2 c88 rv88:=⟨⟨Tryz.f88,_,Tryz.func88,by kernel_rfl,rfl,rfl,by kernel_rfl,by kernel_rfl⟩,by decide⟩
def c89 : AC:=oS (oR [oA 0 (.alloc [.slice none 0 0,.slice none 0 0,.int .i64 0])]) (oK [0] (oS (oR [⟨some 1,none,.mkSl false 9 1 [.string ⟨#[]⟩] 3 [(0,(.const (.string ⟨#[97]⟩))),(1,(.const (.string ⟨#[98]⟩))),(2,(.const (.string ⟨#[99]⟩)))],false⟩,oA 2 (.build [.int .i64 0,.int .i64 0] [(0,1,(oN 0)),(1,1,(oN 1))]),oA 3 (.build [.int .i64 0,.int .i64 0] [(0,1,(oN 1)),(1,1,(oN 2))]),oA 4 (.mkSl false 40 2 [.int .i64 0,.int .i64 0] 2 [(0,(oO 2)),(1,(oO 3))]),oA 5 (.build [.slice none 0 0,.slice none 0 0,.int .i64 0] [(0,1,(oO 1)),(1,1,(oO 4)),(2,1,(oN 100))]),⟨none,none,.store false 3 (oO 0) (oO 5),false⟩]) (oK [0] (.ret))))
def rv89 : List RV:=[.cell 0 true 3]
theorem is89 : FnIs Tryz.prog 89 6 c89 rv89:=⟨⟨Tryz.f89,_,Tryz.func89,by kernel_rfl,rfl,rfl,by kernel_rfl,by kernel_rfl⟩,by decide⟩
def c90 : AC:=oS (oR [oA 0 (.mv (.const (.slice none 0 0)))]) (oK [] (oS (oR [oA 1 (.build [.int .i64 0,.int .i64 0,.int .i64 0] [(1,1,(oN 1))]),oA 2 (.build [.int .i64 0,.int .i64 0,.int .i64 0] [(1,1,(oN 2))]),oA 3 (.build [.int .i64 0,.int .i64 0,.int .i64 0] [(0,1,(oN 1)),(1,1,(oN 3))]),oA 4 (.build [.int .i64 0,.int .i64 0,.int .i64 0] [(0,1,(oN 3)),(1,1,(oN 4)),(2,1,(oN 1))]),oA 5 (.build [.int .i64 0,.int .i64 0,.int .i64 0] [(0,1,(oN 5)),(1,1,(oN 5))]),oA 6 (.build [.int .i64 0,.int .i64 0,.int .i64 0] [(0,1,(oN 7)),(1,1,(oN 6))]),oA 7 (.build [.int .i64 0,.int .i64 0,.int .i64 0] [(0,1,(oN 7)),(1,1,(oN 7))]),oA 8 (.build [.int .i64 0,.int .i64 0,.int .i64 0] [(0,1,(oN 6)),(1,1,(oN 8))]),oA 9 (.build [.int .i64 0,.int .i64 0,.int .i64 0] [(0,1,(oN 1)),(1,1,(oN 9))]),oA 10 (.build [.int .i64 0,.int .i64 0,.int .i64 0] [(0,1,(oN 2)),(1,1,(oN 10))]),oA 11 (.build [.int .i64 0,.int .i64 0,.int .i64 0] [(0,1,(oN 1)),(1,1,(oN 11))]),oA 12 (.build [.int .i64 0,.int .i64 0,.int .i64 0] [(0,1,(oN 2)),(1,1,(oN 12))]),oA 13 (.mkSl false 83 3 [.int .i64 0,.int .i64 0,.int .i64 0] 12 [(0,(oO 1)),(1,(oO 2)),(2,(oO 3)),(3,(oO 4)),(4,(oO 5)),(5,(oO 6)),(6,(oO 7)),(7,(oO 8)),(8,(oO 9)),(9,(oO 10)),(10,(oO 11)),(11,(oO 12))]),oM 0 13]) (oK [0] (.ret))))
def rv90 : List RV:=[.tmp 0]
theorem is90 : FnIs Tryz.prog 90 14 c90 rv90:=⟨⟨Tryz.f90,_,Tryz.func90,by kernel_rfl,rfl,rfl,by kernel_rfl,by kernel_rfl⟩,by decide⟩
def c91l1 : AC:=oS (oR [oA 8 (.bin .lss 3 (oO 7) (oO 6))]) (oK [5,6,7,8] (oS (.cond (oO 8) (.skip) (.exit 0)) (oK [5,6,7] (oS (.block 1 (oS (oR [oA 9 (.iaddr 1 [.int .i64 0] (oO 5) (oO 7)),oL 10 9,oM 4 10]) (oK [4,5,6,7] (oS (oR [oM 11 4,oA 12 (.bin .neq 27 (oO 11) (oN 0))]) (oK [4,5,6,7,12] (.cond (oO 12) (oS (oR [oM 13 4,oM 2 13]) (oK [2] (.ret))) (.skip))))))) (oK [5,6,7] (oR [oA 14 (.bin .add 3 (oO 7) (oN 1)),oM 7 14]))))))
def c91 : AC:=oS (oR [oA 2 (.mv (oN 0))]) (oK [0] (oS (oS (oR [oM 5 0,oA 6 (.len false (oO 5)),oA 7 (.mv (oN 0))]) (oK [5,6,7] (.block 0 (.loop c91l1)))) (oK [] (oS (oR [oA 2 (.mv (oN 0))]) (oK [2] (.ret))))))
def rv91 : List RV:=[.tmp 2]
theorem is91 : FnIs Tryz.prog 91 15 c91 rv91:=⟨⟨Tryz.f91,_,Tryz.func91,by kernel_rfl,rfl,rfl,by kernel_rfl,by kernel_rfl⟩,by decide⟩
def c92l1 : AC:=oS (oR [oA 26 (.bin .lss 3 (oO 25) (oO 24))]) (oK [1,23,24,25,26] (oS (.cond (oO 26) (.skip) (.exit 0)) (oK [1,23,24,25] (oS (.block 1 (oS (oR [oM 27 25,oA 28 (.iaddr 1 [.int .i64 0] (oO 23) (oO 25)),oL 29 28,oM 6 27,oM 7 29]) (oK [1,6,7,23,24,25] (oS (oR [oM 30 7,oA 31 (.call (.func 136) [(oO 30)]),oA 32 (.un .not (oO 31)),oM 33 32,oG 34 33 false (.mv (oO 1)),oG 35 33 false (.mv (oO 6)),oG 36 33 false (.iaddr 1 [.int .i64 0] (oO 34) (oO 35)),oG 37 33 false (.load false 1 (oO 36)),oG 38 33 false (.call (.func 136) [(oO 37)]),oG 39 33 false (.un .not (oO 38)),oA 40 (.pick (oO 33) (.const (.bool true)) (oO 39))]) (oK [1,23,24,25,40] (.cond (oO 40) (oS (oR [oA 4 (.mv (oN 2))]) (oK [4] (.ret))) (.skip))))))) (oK [1,23,24,25] (oR [oA 41 (.bin .add 3 (oO 25) (oN 1)),oM 25 41]))))))
def c92 : AC:=oS (oR [oA 4 (.mv (oN 0))]) (oK [0,1] (oS (oS (oR [oM 8 1,oA 9 (.len false (oO 8)),oM 10 0,oA 11 (.len false (oO 10)),oA 12 (.bin .eql 3 (oO 9) (oO 11)),oA 13 (.call (.func 95) [(oO 12),(oN 10)]),oM 14 0,oA 15 (.len false (oO 14)),oA 16 (.bin .leq 3 (oO 15) (oN 60)),oA 17 (.call (.func 95) [(oO 16),(oN 8)]),oA 18 (.mkSl false 27 1 [.int .i64 0] 2 [(0,(oO 13)),(1,(oO 17))]),oA 19 (.call (.func 91) [(oO 18)]),oM 5 19]) (oK [0,1,5] (oS (oR [oM 20 5,oA 21 (.bin .neq 27 (oO 20) (oN 0))]) (oK [0,1,5,21] (.cond (oO 21) (oS (oR [oM 22 5,oM 4 22]) (oK [4] (.ret))) (.skip)))))) (oK [0,1] (oS (oS (oR [oM 23 0,oA 24 (.len false (oO 23)),oA 25 (.mv (oN 0))]) (oK [1,23,24,25] (.block 0 (.loop c92l1)))) (oK [] (oS (oR [oA 4 (.mv (oN 0))]) (oK [4] (.ret))))))))
def rv92 : List RV:=[.tmp 4]
theorem is92 : FnIs Tryz.prog 92 42 c92 rv92:=⟨⟨Tryz.f92,_,Tryz.func92,by kernel_rfl,rfl,rfl,by kernel_rfl,by kernel_rfl⟩,by decide⟩
def c93 : AC:=oS (oR [oA 2 (.mv (.const (.slice none 0 0)))]) (oK [0] (oS (oR [oM 3 0,oA 4 (.call (.func 137) [(.const (.slice none 0 0)),(oO 3)]),oM 2 4]) (oK [2] (.ret))))
def rv93 : List RV:=[.tmp 2]
theorem is93 : FnIs Tryz.prog 93 5 c93 rv93:=⟨⟨Tryz.f93,_,Tryz.func93,by kernel_rfl,rfl,rfl,by kernel_rfl,by kernel_rfl⟩,by decide⟩
def c95 : AC:=oS (oR [oA 4 (.mv (oN 0))]) (oK [0,1] (oS (oS (oR [oM 5 0]) (oK [1,5] (.cond (oO 5) (oS (oR [oA 4 (.mv (oN 0))]) (oK [4] (.ret))) (.skip)))) (oK [1] (oS (oR [oM 6 1,oM 4 6]) (oK [4] (.ret))))))
def rv95 : List RV:=[.tmp 4]
theorem is95 : FnIs Tryz.prog 95 7 c95 rv95:=⟨⟨Tryz.f95,_,Tryz.func95,by kernel_rfl,rfl,rfl,by kernel_rfl,by kernel_rfl⟩,by decide⟩
def c96 : AC:=oS (oR [oA 6 (.mv (.const (.bool false)))]) (oK [0,1,2] (oS (oR [oM 7 1,oM 8 0,oA 9 (.bin .leq 3 (oO 7) (oO 8)),oM 10 9,oG 11 10 true (.mv (oO 0)),oG 12 10 true (.mv (oO 2)),oG 13 10 true (.bin .leq 3 (oO 11) (oO 12)),oA 14 (.pick (oO 10) (oO 13) (.const (.bool false))),oM 6 14]) (oK [6] (.ret))))
def rv96 : List RV:=[.tmp 6]
theorem is96 : FnIs Tryz.prog 96 15 c96 rv96:=⟨⟨Tryz.f96,_,Tryz.func96,by kernel_rfl,rfl,rfl,by kernel_rfl,by kernel_rfl⟩,by decide⟩
def qm : AC:=oS (oR [oA 38 (.bin .lss 3 (oO 37) (oO 36))]) (oK [10,35,36,37,38] (oS (.cond (oO 38) (.skip) (.exit 0)) (oK [10,35,36,37] (oS (.block 1 (oS (oR [oM 39 37,oA 40 (.iaddr 3 [.int .i64 0,.int .i64 0,.int .i64 0] (oO 35) (oO 37)),oA 41 (.load true 3 (oO 40)),oA 12 (.alloc [.int .i64 0,.int .i64 0,.int .i64 0]),oM 11 39,⟨none,none,.store false 3 (oO 12) (oO 41),false⟩]) (oK [10,11,12,35,36,37] (oS (oR [oM 42 10,oA 43 (.load true 3 (oO 12)),oA 44 (.call (.func 118) [(oO 42),(oO 43)]),oM 13 44]) (oK [10,11,13,35,36,37] (oS (oR [oM 45 13,oA 46 (.bin .neq 27 (oO 45) (oN 0))]) (oK [10,11,13,35,36,37,46] (.cond (oO 46) (oS (oR [oM 47 11,oM 48 13,oA 6 (.mv (.const (.pointer none))),oM 7 47,oM 8 48]) (oK [6,7,8] (.ret))) (.skip))))))))) (oK [10,35,36,37] (oR [oA 49 (.bin .add 3 (oO 37) (oN 1)),oM 37 49]))))))
def c97 : AC:=oS (oR [oA 3 (.box (oO 0)),oA 6 (.mv (.const (.pointer none))),oA 7 (.mv (oN 0)),oA 8 (.mv (oN 0))]) (oK [1,2,3] (oS (oQ [oA 14 (.load true 3 (oO 3)),oA 15 (.call (.func 101) [(oO 14)]),oA 16 (.mvs (oO 1)),oF 17 0 3,oL 18 17,oA 19 (.len false (oO 18)),oA 20 (.bin .sub 3 (oO 19) (oN 1)),oA 21 (.call (.func 96) [(oO 16),(oN 0),(oO 20)]),oA 22 (.call (.func 95) [(oO 21),(oN 6)]),oM 23 2,oA 24 (.len false (oO 23)),oA 25 (.bin .leq 3 (oO 24) (oN 200)),oT 26 (.call (.func 95) [(oO 25),(oN 8)]),oT 27 (.mkSl false 27 1 [.int .i64 0] 3 [(0,(oO 15)),(1,(oO 22)),(2,(oO 26))]),oT 28 (.call (.func 91) [(oO 27)]),oT 9 (.mv (oO 28))]) (oK [1,2,3,9] (oS (oS (oR [oM 29 9,oA 30 (.bin .neq 27 (oO 29) (oN 0))]) (oK [1,2,3,9,30] (.cond (oO 30) (oS (oR [oM 31 9,oA 6 (.mv (.const (.pointer none))),oA 7 (.mv (oN 0)),oM 8 31]) (oK [6,7,8] (.ret))) (.skip)))) (oK [1,2,3] (oS (oR [oA 32 (.load true 3 (oO 3)),oM 33 1,oA 34 (.call (.func 107) [(oO 32),(oO 33)]),oM 10 34]) (oK [2,10] (oS (oS (oR [oM 35 2,oA 36 (.len false (oO 35)),oA 37 (.mv (oN 0))]) (oK [10,35,36,37] (.block 0 (.loop qm)))) (oK [10] (oS (oQ [oM 50 10,oA 51 (.nilc (oO 50)),oF 52 14 51,oL 53 52,oM 54 10,oA 55 (.nilc (oO 54)),oF 56 14 55,oL 57 56,oA 58 (.len false (oO 57)),oA 59 (.bin .sub 3 (oO 58) (oN 1)),oM 60 10,oA 61 (.nilc (oO 60)),oF 62 0 61,oF 63 0 62,oL 64 63,oT 65 (.iaddr 3 [.int .i64 0,.int .i64 0,.int .i64 0] (oO 53) (oO 59)),oT 66 (.faddr 2 (oO 65)),⟨none,none,.store false 1 (oO 66) (oO 64),true⟩]) (oK [10] (oS (oR [oM 67 10,oM 68 10,oA 69 (.nilc (oO 68)),oF 70 0 69,oF 71 0 70,oL 72 71,oA 73 (.call (.func 139) [(oO 67),(oO 72)])]) (oK [10] (oS (oR [oM 74 10,oM 6 74,oA 7 (.mv (oN 0)),oA 8 (.mv (oN 0))]) (oK [6,7,8] (.ret))))))))))))))))
def rv97 : List RV:=[.tmp 6,.tmp 7,.tmp 8]
theorem is97 : FnIs Tryz.prog 97 75 c97 rv97:=⟨⟨Tryz.f97,_,Tryz.func97,by kernel_rfl,rfl,rfl,by kernel_rfl,by kernel_rfl⟩,by decide⟩
def c98 : AC:=oS (oR [oA 2 (.mv (.const (.slice none 0 0)))]) (oK [0] (oS (oR [⟨some 3,none,.mkSl true 9 1 [.string ⟨#[]⟩] 0 [],false⟩,oM 4 0,⟨some 5,none,.app 44 9 1 16 [.string ⟨#[]⟩] (oO 3) (oO 4),false⟩,oM 2 5]) (oK [2] (.ret))))
def rv98 : List RV:=[.tmp 2]
theorem is98 : FnIs Tryz.prog 98 6 c98 rv98:=⟨⟨Tryz.f98,_,Tryz.func98,by kernel_rfl,rfl,rfl,by kernel_rfl,by kernel_rfl⟩,by decide⟩
def c99 : AC:=oS (oR [oA 2 (.box (oO 0)),oA 4 (.mv (.const (.bool false)))]) (oK [1,2] (oS (oR [oM 5 1,oF 6 0 2,oL 7 6,oA 8 (.len false (oO 7)),oA 9 (.bin .sub 3 (oO 8) (oN 1)),oA 10 (.call (.func 31) [(oO 5),(oN 0),(oO 9)]),oM 4 10]) (oK [4] (.ret))))
def rv99 : List RV:=[.tmp 4]
theorem is99 : FnIs Tryz.prog 99 11 c99 rv99:=⟨⟨Tryz.f99,_,Tryz.func99,by kernel_rfl,rfl,rfl,by kernel_rfl,by kernel_rfl⟩,by decide⟩
def qL : AC:=oS (oS (oR [oM 11 5,oM 12 0,oA 13 (.len false (oO 12)),oA 14 (.bin .lss 3 (oO 11) (oO 13))]) (oK [0,1,5,14] (.cond (oO 14) (.skip) (.exit 0)))) (oK [0,1,5] (oS (.block 1 (oS (oQ [oM 17 0,oA 18 (.mvs (oO 5)),oA 19 (.iaddr 1 [.slice none 0 0] (oO 17) (oO 18)),oL 20 19,oM 21 1,oM 22 5,oA 23 (.iaddr 1 [.slice none 0 0] (oO 21) (oO 22)),oL 24 23,oT 25 (.call (.func 30) [(oO 20),(oO 24)]),oT 26 (.un .not (oO 25))]) (oK [0,1,5,26] (.cond (oO 26) (oS (oR [oA 4 (.mv (.const (.bool false)))]) (oK [4] (.ret))) (.skip))))) (oK [0,1,5] (oR [oM 15 5,oA 16 (.bin .add 3 (oO 15) (oN 1)),oM 5 16]))))
def c100 : AC:=oS (oR [oA 4 (.mv (.const (.bool false)))]) (oK [0,1] (oS (oS (oR [oM 6 0,oA 7 (.len false (oO 6)),oM 8 1,oA 9 (.len false (oO 8)),oA 10 (.bin .neq 3 (oO 7) (oO 9))]) (oK [0,1,10] (.cond (oO 10) (oS (oR [oA 4 (.mv (.const (.bool false)))]) (oK [4] (.ret))) (.skip)))) (oK [0,1] (oS (oS (oR [oA 5 (.mv (oN 0))]) (oK [0,1,5] (.block 0 (.loop qL)))) (oK [] (oS (oR [oA 4 (.mv (.const (.bool true)))]) (oK [4] (.ret))))))))
def rv100 : List RV:=[.tmp 4]
theorem is100 : FnIs Tryz.prog 100 27 c100 rv100:=⟨⟨Tryz.f100,_,Tryz.func100,by kernel_rfl,rfl,rfl,by kernel_rfl,by kernel_rfl⟩,by decide⟩
def c101 : AC:=oS (oR [oA 1 (.box (oO 0)),oA 2 (.mv (oN 0))]) (oK [1] (oS (oR [oA 6 (.load true 3 (oO 1)),oA 7 (.call (.func 49) [(oO 6)]),oM 5 7,oA 8 (.extr (oO 5) 0),oA 9 (.extr (oO 5) 1),oM 3 8,oM 4 9]) (oK [4] (oS (oR [oM 10 4,oM 2 10]) (oK [2] (.ret))))))
def rv101 : List RV:=[.tmp 2]
theorem is101 : FnIs Tryz.prog 101 11 c101 rv101:=⟨⟨Tryz.f101,_,Tryz.func101,by kernel_rfl,rfl,rfl,by kernel_rfl,by kernel_rfl⟩,by decide⟩
def c102 : AC:=oS (oR [oA 2 (.mv (.const (.bool false)))]) (oK [0] (oS (oR [oM 3 0,oA 4 (.call (.func 96) [(oO 3),(oN 0),(oN 1000000000)]),oM 2 4]) (oK [2] (.ret))))
def rv102 : List RV:=[.tmp 2]
theorem is102 : FnIs Tryz.prog 102 5 c102 rv102:=⟨⟨Tryz.f102,_,Tryz.func102,by kernel_rfl,rfl,rfl,by kernel_rfl,by kernel_rfl⟩,by decide⟩
def nJ : AC:=oS (oR [oA 10 (.bin .lss 3 (oO 9) (oO 8))]) (oK [0,7,8,9,10] (oS (.cond (oO 10) (.skip) (.exit 0)) (oK [0,7,8,9] (oS (.block 1 (oS (oR [oM 11 9,oA 12 (.iaddr 1 [.int .u8 0] (oO 7) (oO 9)),oL 13 12,oM 3 11,oM 4 13]) (oK [0,3,4,7,8,9] (oS (oR [oM 14 4,oA 15 (.bin .geq 5 (oO 14) (.const (.int .u8 97))),oM 16 15,oG 17 16 true (.mv (oO 4)),oG 18 16 true (.bin .leq 5 (oO 17) (.const (.int .u8 122))),oA 19 (.pick (oO 16) (oO 18) (.const (.bool false))),oM 20 19,oG 21 20 false (.mv (oO 4)),oG 22 20 false (.bin .geq 5 (oO 21) (.const (.int .u8 65))),oG 23 20 false (.mv (oO 22)),oG 24 23 true (.mv (oO 4)),oG 25 23 true (.bin .leq 5 (oO 24) (.const (.int .u8 90))),oG 26 20 false (.pick (oO 23) (oO 25) (.const (.bool false))),oA 27 (.pick (oO 20) (.const (.bool true)) (oO 26)),oM 5 27]) (oK [0,3,4,5,7,8,9] (oS (oR [oM 28 5,oA 29 (.un .not (oO 28)),oM 30 29,oG 31 30 true (.mv (oO 3)),oG 32 30 true (.bin .eql 3 (oO 31) (oN 0)),oG 33 30 true (.mv (oO 32)),oG 34 33 false (.mv (oO 4)),oG 35 33 false (.bin .neq 5 (oO 34) (.const (.int .u8 45))),oG 36 33 false (.mv (oO 35)),oG 37 36 true (.mv (oO 4)),oG 38 36 true (.bin .lss 5 (oO 37) (.const (.int .u8 48))),oG 39 36 true (.mv (oO 38)),oG 40 39 false (.mv (oO 4)),oG 41 39 false (.bin .gtr 5 (oO 40) (.const (.int .u8 57))),oG 42 36 true (.pick (oO 39) (.const (.bool true)) (oO 41)),oG 43 33 false (.pick (oO 36) (oO 42) (.const (.bool false))),oG 44 30 true (.pick (oO 33) (.const (.bool true)) (oO 43)),oA 45 (.pick (oO 30) (oO 44) (.const (.bool false)))]) (oK [0,7,8,9,45] (.cond (oO 45) (oS (oR [oA 2 (.mv (.const (.bool false)))]) (oK [2] (.ret))) (.skip))))))))) (oK [0,7,8,9] (oR [oA 46 (.bin .add 3 (oO 9) (oN 1)),oM 9 46]))))))
def c103 : AC:=oS (oR [oA 2 (.mv (.const (.bool false)))]) (oK [0] (oS (oS (oR [oM 6 0,oA 7 (.ext .s2b [(oO 6)]),oA 8 (.len false (oO 7)),oA 9 (.mv (oN 0))]) (oK [0,7,8,9] (.block 0 (.loop nJ)))) (oK [0] (oS (oR [oM 47 0,⟨some 48,none,.bin .neq 9 (oO 47) (.const (.string ⟨#[]⟩)),false⟩,oM 49 48,oG 50 49 true (.mv (oO 0)),oG 51 49 true (.len true (oO 50)),oG 52 49 true (.bin .leq 3 (oO 51) (oN 12)),oA 53 (.pick (oO 49) (oO 52) (.const (.bool false))),oM 2 53]) (oK [2] (.ret))))))
def oH : List RV:=[.tmp 2]
theorem is103 : FnIs Tryz.prog 103 54 c103 oH:=⟨⟨Tryz.f103,_,Tryz.func103,by kernel_rfl,rfl,rfl,by kernel_rfl,by kernel_rfl⟩,by decide⟩
def c104 : AC:=oS (oR [oA 4 (.mv (.const (.bool false)))]) (oK [0,1] (oS (oR [oM 5 0,oM 6 1,oA 7 (.call (.func 140) [(oO 5),(oO 6)]),oA 8 (.bin .geq 3 (oO 7) (oN 0)),oM 4 8]) (oK [4] (.ret))))
def rv104 : List RV:=[.tmp 4]
theorem is104 : FnIs Tryz.prog 104 9 c104 rv104:=⟨⟨Tryz.f104,_,Tryz.func104,by kernel_rfl,rfl,rfl,by kernel_rfl,by kernel_rfl⟩,by decide⟩
def c105 : AC:=oS (oR [oA 3 (.mv (.const (.bool false)))]) (oK [0,1] (oS (oR [oM 4 0,oF 5 0 1,oL 6 5,oA 7 (.len false (oO 6)),oA 8 (.bin .sub 3 (oO 7) (oN 1)),oA 9 (.call (.func 96) [(oO 4),(oN 0),(oO 8)]),oM 3 9]) (oK [3] (.ret))))
def rv105 : List RV:=[.tmp 3]
theorem is105 : FnIs Tryz.prog 105 10 c105 rv105:=⟨⟨Tryz.f105,_,Tryz.func105,by kernel_rfl,rfl,rfl,by kernel_rfl,by kernel_rfl⟩,by decide⟩
def c106 : AC:=oS (oR [oA 3 (.box (oO 1)),oA 4 (.mv (.const (.bool false)))]) (oK [0,3] (oS (oR [oM 5 0,oA 6 (.load true 2 (oO 3)),oA 7 (.call (.func 141) [(oO 5),(oO 6)]),oA 8 (.bin .geq 3 (oO 7) (oN 0)),oM 4 8]) (oK [4] (.ret))))
def rv106 : List RV:=[.tmp 4]
theorem is106 : FnIs Tryz.prog 106 9 c106 rv106:=⟨⟨Tryz.f106,_,Tryz.func106,by kernel_rfl,rfl,rfl,by kernel_rfl,by kernel_rfl⟩,by decide⟩
def qM : AC:=oS (oS (oR [oM 14 3,oM 15 0,oA 16 (.len true (oO 15)),oA 17 (.bin .lss 3 (oO 14) (oO 16))]) (oK [0,3,17] (.cond (oO 17) (.skip) (.exit 0)))) (oK [0,3] (oS (.block 1 (oS (oR [oM 20 0,oM 21 3,oA 22 (.istr (oO 20) (oO 21)),oM 4 22]) (oK [0,3,4] (oS (oR [oM 23 4,oA 24 (.bin .geq 5 (oO 23) (.const (.int .u8 97))),oM 25 24,oG 26 25 true (.mv (oO 4)),oG 27 25 true (.bin .leq 5 (oO 26) (.const (.int .u8 122))),oA 28 (.pick (oO 25) (oO 27) (.const (.bool false))),oM 29 28,oG 30 29 false (.mv (oO 4)),oG 31 29 false (.bin .geq 5 (oO 30) (.const (.int .u8 65))),oG 32 29 false (.mv (oO 31)),oG 33 32 true (.mv (oO 4)),oG 34 32 true (.bin .leq 5 (oO 33) (.const (.int .u8 90))),oG 35 29 false (.pick (oO 32) (oO 34) (.const (.bool false))),oA 36 (.pick (oO 29) (.const (.bool true)) (oO 35)),oM 5 36]) (oK [0,3,4,5] (oS (oR [oM 37 5,oA 38 (.un .not (oO 37)),oM 39 38,oG 40 39 true (.mv (oO 3)),oG 41 39 true (.bin .eql 3 (oO 40) (oN 0)),oG 42 39 true (.mv (oO 41)),oG 43 42 false (.mv (oO 4)),oG 44 42 false (.bin .neq 5 (oO 43) (.const (.int .u8 45))),oG 45 42 false (.mv (oO 44)),oG 46 45 true (.mv (oO 4)),oG 47 45 true (.bin .lss 5 (oO 46) (.const (.int .u8 48))),oG 48 45 true (.mv (oO 47)),oG 49 48 false (.mv (oO 4)),oG 50 48 false (.bin .gtr 5 (oO 49) (.const (.int .u8 57))),oG 51 45 true (.pick (oO 48) (.const (.bool true)) (oO 50)),oG 52 42 false (.pick (oO 45) (oO 51) (.const (.bool false))),oG 53 39 true (.pick (oO 42) (.const (.bool true)) (oO 52)),oA 54 (.pick (oO 39) (oO 53) (.const (.bool false)))]) (oK [0,3,54] (.cond (oO 54) (oS (oR [oA 2 (.mv (.const (.bool false)))]) (oK [2] (.ret))) (.skip))))))))) (oK [0,3] (oR [oM 18 3,oA 19 (.bin .add 3 (oO 18) (oN 1)),oM 3 19]))))
def c108 : AC:=oS (oR [oA 2 (.mv (.const (.bool false)))]) (oK [0] (oS (oS (oR [oM 6 0,oA 7 (.len true (oO 6)),oA 8 (.bin .lss 3 (oO 7) (oN 1)),oM 9 8,oG 10 9 false (.mv (oO 0)),oG 11 9 false (.len true (oO 10)),oG 12 9 false (.bin .gtr 3 (oO 11) (oN 12)),oA 13 (.pick (oO 9) (.const (.bool true)) (oO 12))]) (oK [0,13] (.cond (oO 13) (oS (oR [oA 2 (.mv (.const (.bool false)))]) (oK [2] (.ret))) (.skip)))) (oK [0] (oS (oS (oR [oA 3 (.mv (oN 0))]) (oK [0,3] (.block 0 (.loop qM)))) (oK [] (oS (oR [oA 2 (.mv (.const (.bool true)))]) (oK [2] (.ret))))))))
def mE : List RV:=[.tmp 2]
theorem is108 : FnIs Tryz.prog 108 55 c108 mE:=⟨⟨Tryz.f108,_,Tryz.func108,by kernel_rfl,rfl,rfl,by kernel_rfl,by kernel_rfl⟩,by decide⟩
def qN : AC:=oS (oS (oR [oM 6 5,oM 7 0,oA 8 (.len false (oO 7)),oA 9 (.bin .lss 3 (oO 6) (oO 8))]) (oK [0,1,5,9] (.cond (oO 9) (.skip) (.exit 0)))) (oK [0,1,5] (oS (.block 1 (oS (oR [oM 12 0,oM 13 5,⟨some 14,none,.iaddr 1 [.string ⟨#[]⟩] (oO 12) (oO 13),false⟩,oL 15 14,oM 16 1,oA 17 (.bin .eql 9 (oO 15) (oO 16))]) (oK [0,1,5,17] (.cond (oO 17) (oS (oR [oA 4 (.mv (.const (.bool true)))]) (oK [4] (.ret))) (.skip))))) (oK [0,1,5] (oR [oM 10 5,oA 11 (.bin .add 3 (oO 10) (oN 1)),oM 5 11]))))
def c109 : AC:=oS (oR [oA 4 (.mv (.const (.bool false)))]) (oK [0,1] (oS (oS (oR [oA 5 (.mv (oN 0))]) (oK [0,1,5] (.block 0 (.loop qN)))) (oK [] (oS (oR [oA 4 (.mv (.const (.bool false)))]) (oK [4] (.ret))))))
def qx : List RV:=[.tmp 4]
theorem is109 : FnIs Tryz.prog 109 18 c109 qx:=⟨⟨Tryz.f109,_,Tryz.func109,by kernel_rfl,rfl,rfl,by kernel_rfl,by kernel_rfl⟩,by decide⟩
def c114 : AC:=oS (oR [oA 2 (.box (oO 0)),oA 3 (.box (oO 1)),oA 4 (.mv (oN 0))]) (oK [2,3] (oS (oS (oQ [oF 6 0 3,oL 7 6,oA 8 (.call (.func 96) [(oO 7),(oN 0),(oN 11)]),oA 9 (.call (.func 95) [(oO 8),(oN 15)]),oF 10 1 3,oL 11 10,oT 12 (.call (.func 102) [(oO 11)]),oT 13 (.call (.func 95) [(oO 12),(oN 2)]),oT 14 (.mkSl false 27 1 [.int .i64 0] 2 [(0,(oO 9)),(1,(oO 13))]),oT 15 (.call (.func 91) [(oO 14)]),oT 5 (.mv (oO 15))]) (oK [2,3,5] (oS (oR [oM 16 5,oA 17 (.bin .neq 27 (oO 16) (oN 0))]) (oK [2,3,5,17] (.cond (oO 17) (oS (oR [oM 18 5,oM 4 18]) (oK [4] (.ret))) (.skip)))))) (oK [2,3] (oS (oS (oR [oF 19 0 3,oL 20 19,oA 21 (.iarr 12 3 (.global 0) (oO 20)),oF 22 1 21,oL 23 22]) (oK [2,3,23] (.cond (oO 23) (oS (oR [oF 24 2 3,oL 25 24,oF 26 0 2,oL 27 26,oA 28 (.len false (oO 27)),oA 29 (.bin .sub 3 (oO 28) (oN 1)),oA 30 (.call (.func 96) [(oO 25),(oN 0),(oO 29)]),oA 31 (.call (.func 95) [(oO 30),(oN 6)]),oM 4 31]) (oK [4] (.ret))) (.skip)))) (oK [3] (oS (oR [oF 32 2 3,oL 33 32,oA 34 (.bin .eql 3 (oO 33) (oN 0)),oA 35 (.call (.func 95) [(oO 34),(oN 3)]),oM 4 35]) (oK [4] (.ret))))))))
def oI : List RV:=[.tmp 4]
theorem is114 : FnIs Tryz.prog 114 36 c114 oI:=⟨⟨Tryz.f114,_,Tryz.func114,by kernel_rfl,rfl,rfl,by kernel_rfl,by kernel_rfl⟩,by decide⟩
def c118 : AC:=oS (oR [oA 3 (.box (oO 1)),oA 4 (.mv (oN 0))]) (oK [0,3] (oS (oS (oQ [oM 7 0,oA 8 (.nilc (oO 7)),oF 9 10 8,oA 10 (.load true 3 (oO 9)),oA 11 (.load true 3 (oO 3)),oA 12 (.call (.func 114) [(oO 10),(oO 11)]),oF 13 1 3,oL 14 13,oM 15 0,oA 16 (.nilc (oO 15)),oF 17 0 16,oF 18 0 17,oL 19 18,oA 20 (.bin .geq 3 (oO 14) (oO 19)),oT 21 (.call (.func 95) [(oO 20),(oN 9)]),oT 22 (.mkSl false 27 1 [.int .i64 0] 2 [(0,(oO 12)),(1,(oO 21))]),oT 23 (.call (.func 91) [(oO 22)]),oT 5 (.mv (oO 23))]) (oK [0,3,5] (oS (oR [oM 24 5,oA 25 (.bin .neq 27 (oO 24) (oN 0))]) (oK [0,3,5,25] (.cond (oO 25) (oS (oR [oM 26 5,oM 4 26]) (oK [4] (.ret))) (.skip)))))) (oK [0,3] (oS (oR [oM 27 0,oF 28 1 3,oL 29 28,oA 30 (.call (.func 151) [(oO 27),(oO 29)])]) (oK [0,3] (oS (oS (oQ [oF 31 0 3,oL 32 31,oA 33 (.iarr 12 3 (.global 0) (oO 32)),oF 34 2 33,oL 35 34,oM 36 0,oA 37 (.load true 3 (oO 3)),oT 38 (.call (oO 35) [(oO 36),(oO 37)]),oT 6 (.mv (oO 38))]) (oK [0,3,6] (oS (oR [oM 39 6,oA 40 (.bin .neq 27 (oO 39) (oN 0))]) (oK [0,3,6,40] (.cond (oO 40) (oS (oR [oM 41 6,oM 4 41]) (oK [4] (.ret))) (.skip)))))) (oK [0,3] (oS (oR [oM 42 0,oF 43 1 3,oL 44 43,oA 45 (.nilc (oO 42)),oF 46 0 45,oF 47 0 46,⟨none,none,.store false 1 (oO 47) (oO 44),false⟩]) (oK [] (oS (oR [oA 4 (.mv (oN 0))]) (oK [4] (.ret))))))))))))
def rv118 : List RV:=[.tmp 4]
theorem is118 : FnIs Tryz.prog 118 48 c118 rv118:=⟨⟨Tryz.f118,_,Tryz.func118,by kernel_rfl,rfl,rfl,by kernel_rfl,by kernel_rfl⟩,by decide⟩
def c120 : AC:=oS (oR [oA 2 (.mv (.const (.bool false)))]) (oK [0] (oS (oR [oM 3 0,oA 4 (.nilc (oO 3)),oF 5 0 4,oF 6 1 5,oL 7 6,oA 8 (.bin .eql 3 (oO 7) (oN 2)),oM 9 8,oG 10 9 false (.mv (oO 0)),oG 11 9 false (.nilc (oO 10)),oG 12 9 false (.faddr 0 (oO 11)),oG 13 9 false (.faddr 1 (oO 12)),oG 14 9 false (.load false 1 (oO 13)),oG 15 9 false (.bin .eql 3 (oO 14) (oN 3)),oA 16 (.pick (oO 9) (.const (.bool true)) (oO 15)),oM 2 16]) (oK [2] (.ret))))
def rv120 : List RV:=[.tmp 2]
theorem is120 : FnIs Tryz.prog 120 17 c120 rv120:=⟨⟨Tryz.f120,_,Tryz.func120,by kernel_rfl,rfl,rfl,by kernel_rfl,by kernel_rfl⟩,by decide⟩
def c121 : AC:=oS (oR [oA 2 (.mv (oN 0))]) (oK [0] (oS (oQ [oM 3 0,oA 4 (.nilc (oO 3)),oF 5 0 4,oF 6 2 5,oL 7 6,oM 8 0,oA 9 (.nilc (oO 8)),oF 10 10 9,oF 11 2 10,oL 12 11,oT 13 (.bin .add 3 (oO 7) (oO 12)),oT 2 (.mv (oO 13))]) (oK [2] (.ret))))
def rv121 : List RV:=[.tmp 2]
theorem is121 : FnIs Tryz.prog 121 14 c121 rv121:=⟨⟨Tryz.f121,_,Tryz.func121,by kernel_rfl,rfl,rfl,by kernel_rfl,by kernel_rfl⟩,by decide⟩
def c136 : AC:=oS (oR [oA 2 (.mv (.const (.bool false)))]) (oK [0] (oS (oR [oM 3 0,oA 4 (.call (.func 96) [(oO 3),(oN (-2000)),(oN 1000)]),oM 2 4]) (oK [2] (.ret))))
def rv136 : List RV:=[.tmp 2]
theorem is136 : FnIs Tryz.prog 136 5 c136 rv136:=⟨⟨Tryz.f136,_,Tryz.func136,by kernel_rfl,rfl,rfl,by kernel_rfl,by kernel_rfl⟩,by decide⟩
def c137r1 : AC:=.block 1 (oR [oL 8 2,oM 9 5,oA 10 (.mkSl false 3 1 [.int .i64 0] 1 [(0,(oO 9))]),oA 11 (.app 24 3 1 8 [.int .i64 0] (oO 8) (oO 10)),⟨none,none,.store true 1 (oO 2) (oO 11),false⟩])
def c137 : AC:=oS (oR [oA 2 (.box (oO 0)),oA 4 (.mv (.const (.slice none 0 0)))]) (oK [1,2] (oS (oS (oR [oM 6 1]) (oK [2,6] (.block 0 (.rangeFunc (oO 6) [7] (oR [oM 5 7]) c137r1)))) (oK [2] (oS (oR [oL 12 2,oM 4 12]) (oK [4] (.ret))))))
def rv137 : List RV:=[.tmp 4]
theorem is137 : FnIs Tryz.prog 137 13 c137 rv137:=⟨⟨Tryz.f137,_,Tryz.func137,by kernel_rfl,rfl,rfl,by kernel_rfl,by kernel_rfl⟩,by decide⟩
def qO : AC:=oS (oR [oA 13 (.bin .lss 3 (oO 12) (oO 11))]) (oK [0,2,3,5,6,10,11,12,13] (oS (.cond (oO 13) (.skip) (.exit 0)) (oK [0,2,3,5,6,10,11,12] (oS (.block 1 (oS (oR [oM 14 12,oA 15 (.iaddr 1 [.int .i64 0] (oO 10) (oO 12)),oL 16 15,oM 7 14,oM 8 16]) (oK [0,2,3,5,6,7,8,10,11,12] (oS (oR [oL 17 2,oM 18 7,oA 19 (.iaddr 1 [.int .i64 0] (oO 17) (oO 18)),oL 20 19,oM 9 20]) (oK [0,2,3,5,6,7,8,9,10,11,12] (oS (oS (oR [oM 21 9,oM 22 8,oF 23 0 3,oL 24 23,oA 25 (.bin .add 3 (oO 22) (oO 24)),oF 26 1 3,oL 27 26,oA 28 (.bin .add 3 (oO 25) (oO 27)),oA 29 (.bin .gtr 3 (oO 21) (oO 28))]) (oK [0,2,3,5,6,7,8,9,10,11,12,29] (.cond (oO 29) (oR [oM 30 5,oA 31 (.bin .add 3 (oO 30) (oN 1)),oM 5 31]) (oR [oA 5 (.mv (oN 0))])))) (oK [0,2,3,5,6,7,8,9,10,11,12] (oS (oS (oR [oM 32 9,oM 33 8,oF 34 0 3,oL 35 34,oA 36 (.bin .add 3 (oO 33) (oO 35)),oF 37 1 3,oL 38 37,oA 39 (.bin .sub 3 (oO 36) (oO 38)),oA 40 (.bin .lss 3 (oO 32) (oO 39))]) (oK [0,2,3,5,6,7,10,11,12,40] (.cond (oO 40) (oR [oA 6 (.mv (.const (.bool true)))]) (.skip)))) (oK [0,2,3,5,6,7,10,11,12] (oS (oR [oM 41 6,oM 42 41,oG 43 42 true (.mv (oO 5)),oG 44 42 true (.faddr 2 (oO 3)),oG 45 42 true (.load false 1 (oO 44)),oG 46 42 true (.bin .gtr 3 (oO 43) (oO 45)),oA 47 (.pick (oO 42) (oO 46) (.const (.bool false)))]) (oK [0,2,3,5,6,7,10,11,12,47] (.cond (oO 47) (oS (oR [oA 6 (.mv (.const (.bool false)))]) (oK [0,2,3,5,6,7,10,11,12] (oS (oR [oM 48 0,oM 49 7,oA 50 (.call (oO 48) [(oO 49)]),oA 51 (.un .not (oO 50))]) (oK [0,2,3,5,6,10,11,12,51] (.cond (oO 51) (.ret) (.skip)))))) (.skip))))))))))))) (oK [0,2,3,5,6,10,11,12] (oR [oA 52 (.bin .add 3 (oO 12) (oN 1)),oM 12 52]))))))
def c138 : AC:=oS (oR [oA 5 (.mv (oN 0)),oA 6 (.mv (.const (.bool true)))]) (oK [0,1,2,3,5,6] (oS (oR [oL 10 1,oA 11 (.len false (oO 10)),oA 12 (.mv (oN 0))]) (oK [0,2,3,5,6,10,11,12] (.block 0 (.loop qO)))))
def mF : List RV:=[]
theorem is138 : FnIs Tryz.prog 138 53 c138 mF:=⟨⟨Tryz.f138,_,Tryz.func138,by kernel_rfl,rfl,rfl,by kernel_rfl,by kernel_rfl⟩,by decide⟩
def c139 : AC:=oS (oS (oR [oM 4 0,oA 5 (.nilc (oO 4)),oF 6 15 5,oL 7 6,oA 8 (.bin .neq 3 (oO 7) (oN (-1)))]) (oK [0,1,8] (.cond (oO 8) (oQ [oM 9 0,oM 10 0,oA 11 (.nilc (oO 10)),oF 12 16 11,oL 13 12,oA 14 (.mvs (oO 1)),oM 15 0,oA 16 (.nilc (oO 15)),oF 17 15 16,oL 18 17,oA 19 (.bin .sub 3 (oO 14) (oO 18)),oA 20 (.ext (.mx true) [(oO 13),(oO 19)]),oT 21 (.nilc (oO 9)),oT 22 (.faddr 16 (oO 21)),⟨none,none,.store false 1 (oO 22) (oO 20),true⟩]) (.skip)))) (oK [0] (oR [oM 23 0,oA 24 (.nilc (oO 23)),oF 25 15 24,⟨none,none,.store false 1 (oO 25) (oN (-1)),false⟩]))
def rv139 : List RV:=[]
theorem is139 : FnIs Tryz.prog 139 26 c139 rv139:=⟨⟨Tryz.f139,_,Tryz.func139,by kernel_rfl,rfl,rfl,by kernel_rfl,by kernel_rfl⟩,by decide⟩
def nK : AC:=oS (oR [oA 9 (.bin .lss 3 (oO 8) (oO 7))]) (oK [0,1,7,8,9] (oS (.cond (oO 9) (.skip) (.exit 0)) (oK [0,1,7,8] (oS (.block 1 (oS (oR [oM 10 8,oM 5 10]) (oK [0,1,5,7,8] (oS (oR [oM 11 1,oM 12 0,oM 13 5,⟨some 14,none,.iaddr 1 [.string ⟨#[]⟩] (oO 12) (oO 13),false⟩,oL 15 14,oA 16 (.bin .eql 9 (oO 11) (oO 15))]) (oK [0,1,5,7,8,16] (.cond (oO 16) (oS (oR [oM 17 5,oM 4 17]) (oK [4] (.ret))) (.skip))))))) (oK [0,1,7,8] (oR [oA 18 (.bin .add 3 (oO 8) (oN 1)),oM 8 18]))))))
def c140 : AC:=oS (oR [oA 4 (.mv (oN 0))]) (oK [0,1] (oS (oS (oR [oM 6 0,oA 7 (.len false (oO 6)),oA 8 (.mv (oN 0))]) (oK [0,1,7,8] (.block 0 (.loop nK)))) (oK [] (oS (oR [oA 4 (.mv (oN (-1)))]) (oK [4] (.ret))))))
def oJ : List RV:=[.tmp 4]
theorem is140 : FnIs Tryz.prog 140 19 c140 oJ:=⟨⟨Tryz.f140,_,Tryz.func140,by kernel_rfl,rfl,rfl,by kernel_rfl,by kernel_rfl⟩,by decide⟩
def nL : AC:=oS (oR [oA 9 (.bin .lss 3 (oO 8) (oO 7))]) (oK [0,3,7,8,9] (oS (.cond (oO 9) (.skip) (.exit 0)) (oK [0,3,7,8] (oS (.block 1 (oS (oR [oM 10 8,oM 5 10]) (oK [0,3,5,7,8] (oS (oQ [oA 11 (.load true 2 (oO 3)),oM 12 0,oM 13 5,oA 14 (.iaddr 2 [.int .i64 0,.int .i64 0] (oO 12) (oO 13)),oA 15 (.load true 2 (oO 14)),oT 16 (.ext (.eqs false [0,0]) [(oO 11),(oO 15)])]) (oK [0,3,5,7,8,16] (.cond (oO 16) (oS (oR [oM 17 5,oM 4 17]) (oK [4] (.ret))) (.skip))))))) (oK [0,3,7,8] (oR [oA 18 (.bin .add 3 (oO 8) (oN 1)),oM 8 18]))))))
def c141 : AC:=oS (oR [oA 3 (.box (oO 1)),oA 4 (.mv (oN 0))]) (oK [0,3] (oS (oS (oR [oM 6 0,oA 7 (.len false (oO 6)),oA 8 (.mv (oN 0))]) (oK [0,3,7,8] (.block 0 (.loop nL)))) (oK [] (oS (oR [oA 4 (.mv (oN (-1)))]) (oK [4] (.ret))))))
def oP : List RV:=[.tmp 4]
theorem is141 : FnIs Tryz.prog 141 19 c141 oP:=⟨⟨Tryz.f141,_,Tryz.func141,by kernel_rfl,rfl,rfl,by kernel_rfl,by kernel_rfl⟩,by decide⟩
def c148 : AC:=oS (oR [oA 4 (.mv (.const (.bool false)))]) (oK [0,1] (oS (oQ [oM 5 0,oA 6 (.nilc (oO 5)),oF 7 10 6,oF 8 1 7,oL 9 8,oA 10 (.mvs (oO 1)),oM 11 0,oA 12 (.nilc (oO 11)),oF 13 0 12,oF 14 3 13,oL 15 14,oA 16 (.ext (.mx false) [(oO 10),(oO 15)]),oA 17 (.mvs (oO 1)),oM 18 0,oA 19 (.nilc (oO 18)),oF 20 0 19,oF 21 3 20,oL 22 21,oA 23 (.ext (.mx true) [(oO 17),(oO 22)]),oA 24 (.build [.int .i64 0,.int .i64 0] [(0,1,(oO 16)),(1,1,(oO 23))]),oT 25 (.call (.func 106) [(oO 9),(oO 24)]),oT 4 (.mv (oO 25))]) (oK [4] (.ret))))
def rv148 : List RV:=[.tmp 4]
theorem is148 : FnIs Tryz.prog 148 26 c148 rv148:=⟨⟨Tryz.f148,_,Tryz.func148,by kernel_rfl,rfl,rfl,by kernel_rfl,by kernel_rfl⟩,by decide⟩
end Go.Proofs.YtcbabnbiinkafaaGreatDoor
end
