/- Part 2 of the proof of: the statements about chapter 8 -/
import Derived.Test.YtcbabnbiinkafaaGreatDoorBu1
set_option linter.all false
set_option maxHeartbeats 8000000
set_option maxRecDepth 100000
section
namespace Go.Am
variable {P : Program} {E : Env} {U : Nat → Prop} {w : World} {ch : Chs} {d : Nat}
theorem Ev.freeze {w1:World} {m:List (Nat×Sb)} (hi:Inv E U w.heap ch) (hm:qA ch m) (hos:w1.os=w.os) (htp:w1.tape=w.tape) (hou:w1.output=w.output) (hsz:w.heap.size<=w1.heap.size)
 (hold:∀ b,b < w.heap.size->w1.heap[b]? = w.heap[b]?) (N:Nat->Prop) (hN:∀ b,N b->w.heap.size<=b/\b < w1.heap.size) (d:Nat) :
 Ev E U w ch m d E (fun b=>U b\/N b\/∃ k s,m.lookup k=some s/\(E k).fp b) w1 (ae m (aB ch m)):=by
 have hkeep:∀ b,U b->(U b\/N b\/∃ k s,m.lookup k=some s/\(E k).fp b)/\w1.heap[b]? = w.heap[b]?:=fun b hb=>⟨.inl hb,hold b (hi.lt b hb)⟩
 have hfz:∀ k s,m.lookup k=some s->∃ c0,(k,c0)∈ch:=fun k c' h=>by
  obtain⟨c0,x,h1,_⟩:=hm k c' h;exact⟨_,dH h1⟩
 have hsub:∀ k c',m.lookup k=some (.c c')->∀ v,Rep E U w.heap (.own k) v->Rep E (fun b=>U b\/N b\/∃ k s,m.lookup k=some s/\(E k).fp b) w1.heap c' v:=fun k c' h v hv=>by
  obtain⟨c0,x,h1,h2,h3⟩:=hm k _ h;cases h3;have hck:=dH h1;exact .d (mJ (hi.ok k _ hck) h2 hv hkeep (fun b hb=>⟨.inr (.inr ⟨k,_,h,hb⟩),hold _ (hi.fpl k _ hck b hb)⟩))
 have hmd:∀ k c,(k,c)∈aB ch m->(k,c)∈ch/\m.lookup k=none:=fun k c h=>kR hi.nd h
 have:=Ev.gen (news:=[]) (old:=aB ch m) (d:=d) (E':=E) hi hos htp hou hsz (jr m ch) hkeep (fun _ _=>rfl) (fun _ _=>rfl) hsub (fun _ _ _=>rfl)
  (fun k c h b hb=>hold b (hi.fpl k c (hmd k c h).1 b hb)) (fun b hb _=>hold b hb) (by simp) (fun k c h=>by simp at h) (fun k c h=>by simp at h) (fun k c h=>by simp at h) (fun k c h=>by simp at h)
  (fun k c k' c' h=>by simp at h) (fun b hb=>?_) (fun k c h=>by simp at h) (fun b hb=>?_) (fun k cs h=>by simp at h)
 . simpa using this
 . rcases hb with hb | hb | ⟨k,s,h1,h2⟩
   . exact .inl hb
   . exact .inr (.inl (hN b hb).1)
   . obtain⟨c0,h0⟩:=hfz k s h1;exact .inr (.inr ⟨k,c0,h0,(fun c' hc'=>by have:=(hmd k c' hc').2;rw[h1]at this;cases this),h2⟩)
 . rcases hb with hb | hb | ⟨k,s,h1,h2⟩
   . have:=hi.lt b hb;omega
   . exact (hN b hb).2
   . obtain⟨c0,h0⟩:=hfz k s h1;have:=hi.fpl k c0 h0 b h2;omega
theorem gm : ∀ (ps:List (Nat×C)),qA ch (ay ch ps).2
 |[]=>fun k c' h=>by simp[ay]at h
 | (i,.own k) :: r=>by
  simp only[ay];cases hl:(lk ch k).bind bz with
  | none=>exact gm r
  | some x=>
   simp only[zk]at hl;obtain⟨c0,hl,hx⟩:=hl;intro k' c' h;simp only[z0]at h;by_cases hk:k'=k
   . subst hk;simp at h;exact⟨c0,x,hl,hx,h.symm⟩
   . have hb:(k' == k)=false:=by simp[hk]
     rw[hb]at h;exact gm r k' c' h
 | (i,.any) :: r | (i,.s _) :: r | (i,.sl _ _) :: r | (i,.ref _) :: r | (i,.agg _) :: r | (i,.tup _) :: r | (i,.fn _ _ _) :: r | (i,.ptr _ _) :: r | (i,.eptr _ _ _) :: r | (i,.isl _ _ _) :: r | (i,.inn _ _) :: r | (i,.iptr _ _ _ _) :: r=>gm r
theorem nh : ∀ (ps:List (Nat×C)),(ay ch ps).1.length=ps.length/\∀ (j:Nat) p q,ps[j]? = some p->(ay ch ps).1[j]? = some q ->
 q.1=p.1/\(q.2=p.2\/∃ k,p.2=.own k/\(ay ch ps).2.lookup k=some (.c q.2))
 |[]=>⟨rfl,fun j p q h=>by simp at h⟩
 | (i,c) :: r=>by
  obtain⟨h1,h2⟩:=nh r;have same:∀ m2:List (Nat×Sb),(∀ (k:Nat) s,(ay ch r).2.lookup k=some s->m2.lookup k=some s)->∀ (j:Nat) p q,((i,c) :: r)[j]? = some p->((i,c) :: (ay ch r).1)[j]? = some q ->
   q.1=p.1/\(q.2=p.2\/∃ k,p.2=.own k/\m2.lookup k=some (.c q.2)):=by
   intro m2 hm2 j p q hp hq;cases j with
   | zero=>simp at hp hq;subst hp hq;exact⟨rfl,.inl rfl⟩
   | succ j=>
    simp at hp hq;obtain⟨e1,e2⟩:=h2 j p q hp hq;refine⟨e1,e2.imp id ?_⟩
    rintro⟨k,g1,g3⟩
    exact⟨k,g1,hm2 k _ g3⟩
  cases c with
  | own k=>
   simp only[ay];cases hl:(lk ch k).bind bz with
   | none=>exact⟨by simp[h1],same _ (fun _ _ h=>h)⟩
   | some x=>
    have hl':=hl;simp only[zk]at hl';obtain⟨c0,hl0,hx⟩:=hl';refine⟨by simp[h1],fun j p q hp hq=>?_⟩;cases j with
    | zero=>simp at hp hq;subst hp hq;exact⟨rfl,.inr ⟨k,rfl,by simp⟩⟩
    | succ j=>
     simp at hp hq;obtain⟨e1,e2⟩:=h2 j p q hp hq;refine⟨e1,e2.imp id ?_⟩
     rintro⟨k',g1,g3⟩
     refine⟨k',g1,?_⟩;simp only[z0];by_cases hk:k'=k
     . subst hk;obtain⟨c1,x1,l1,l2,l3⟩:=gm r k' _ g3;rw[hl0]at l1;cases l1;rw[hx]at l2;cases l2;simp[l3]
     . have hb:(k' == k)=false:=by simp[hk]
       rw[hb];exact g3
  |_=>exact⟨by simp[ay,h1],same _ (fun _ _ h=>h)⟩
def jA (U:Nat->Prop) (h:Array Obj) (sz:Nat) (es:List (List C)) (arr:Array Value):Prop:=
 arr.size=es.length*sz/\(∀ (i:Nat) (e:List C),es[i]? = some e->e.length=sz) /\
 ∀ (i:Nat) (e:List C) (j:Nat) (c:C),es[i]? = some e->e[j]? = some c->RepD U h c (arr.getD (i*sz+j) undef)/\(arr.getD (i*sz+j) undef).oneCell'=true
theorem kJ {h:Array Obj} {a:Act} (sz:Nat):∀ (ps:List (Nat×Operand)) (qs:List (Nat×C)) (cells:Array Value) (es es':List (List C)),
 jA U h sz es cells->qs.length=ps.length->(∀ (j:Nat) p q,ps[j]? = some p->qs[j]? = some q->q.1=p.1/\Rep E U h q.2 (a.eval p.2)) ->
 bl sz es qs=some es'->∃ cells',Instr.fill (fun i=>some (i*sz,sz)) cells (ps.map fun (i,x)=>(i,a.eval x))=some cells'/\jA U h sz es' cells'
 |[],qs,cells,es,es',hc,hl,_,hf=>by
  have:qs=[]:=by cases qs <;> simp_all
  subst this;simp[bl]at hf;subst hf;exact⟨cells,rfl,hc⟩
 | (i,x) :: ps,[],cells,es,es',hc,hl,_,hf=>by simp at hl
 | (i,x) :: ps,(i',c) :: qs,cells,es,es',hc,hl,hp,hf=>by
  obtain⟨hp1,hp2⟩:=hp 0 (i,x) (i',c) rfl rfl;simp only at hp1 hp2;subst hp1;simp only[bl]at hf;split at hf
  . rename_i hcond;obtain⟨e1,e2,e3⟩:=hcond;obtain⟨s1,s2⟩:=kF hp2 e3;obtain⟨f1,f2⟩:=pn (i'*sz) (a.eval x) cells;obtain⟨c1,c2,c3⟩:=hc;have hm:(i'+1)*sz<=es.length*sz:=zB sz (by omega);rw[zP,z8]at hm;have hcells:jA U h sz (es.set i' (aj c)) ((a.eval x).cells.zipIdx.foldl (fun cs (x:Value×Nat)=>match x with | (c,j)=>cs.setIfInBounds (i'*sz+j) c) cells):=by
     have hlen:∀ (n:Nat) (e:List C),(es.set i' (aj c))[n]? = some e->e.length=sz:=fun n e he=>by
      rw[zJ]at he;by_cases hni:i'=n
      . rw[qb hni,qb e2]at he;cases he;exact e1
      . rw[qa hni]at he;exact c2 n e he
     refine⟨by rw[f1,c1];simp,hlen,fun n e j c0 he hj=>?_⟩;have hn:n < es.length:=by have:=(zi.1 he).1;simpa using this
     have hj':j < sz:=by have:=(zi.1 hj).1;rwa[hlen n e he]at this
     have hm2:(n+1)*sz<=es.length*sz:=zB sz (by omega);rw[zP,z8]at hm2;rw[f2 _ (by rw[c1];omega),s1,e1];rw[zJ]at he;by_cases hni:i'=n
     . subst hni;rw[qb rfl,qb e2]at he;cases he;rw[qb ⟨by omega,by omega⟩];have:i'*sz+j - i'*sz=j:=by omega
       rw[this];exact s2 j c0 hj
     . rw[qa hni]at he
       rw[qa (by
        rintro⟨g1,g2⟩
        rcases yu n i' with hlt | hge
        . have:(n+1)*sz<=i'*sz:=zB sz (by omega);rw[zP,z8]at this;omega
        . have:(i'+1)*sz<=n*sz:=zB sz (by omega);rw[zP,z8]at this
          omega)]
       exact c3 n e j c0 he hj
    obtain⟨cells',h1,h2⟩:=kJ sz ps qs _ _ es' hcells (by simpa using hl) (fun j p q h1 h2=>hp (j+1) p q (by simpa using h1) (by simpa using h2)) hf;refine⟨cells',?_,h2⟩;simp only[zt,Instr.fill];rw[qa (by simp only[s1,e1,c1];simp;omega)];exact h1
  . cases hf
theorem getElem!_arr (zero:Array Value) (n:Nat) (h:n < zero.size):zero[n]! = zero.getD n undef:=by
 simp[zc,zj h,getElem!_pos zero n h]
theorem iQ {h:Array Obj} (z:List Value) (sz len:Nat) (hz:z.length=sz) (h1:z.all (·.oneCell')=true) (zero:Array Value) (h2:len*sz≠0->zero=z.toArray) :
 jA U h sz (List.replicate len (z.map C.s)) ((Array.range (len*sz)).map (zero[· % zero.size]!)):=by
 refine⟨by simp,fun i e he=>?_,fun i e j c he hj=>?_⟩
 . rw[List.getElem?_replicate]at he;split at he
   . cases he;simpa using hz
   . cases he
 . rw[List.getElem?_replicate]at he;split at he
   . rename_i hil;cases he;simp only[zh,za]at hj;obtain⟨u,hu,rfl⟩:=hj;have hj':j < sz:=by have:=(zi.1 hu).1;omega
     have hm2:(i+1)*sz<=len*sz:=zB sz (by omega);rw[zP,z8]at hm2;have hne:len*sz≠0:=by omega
     have hzz:=h2 hne;subst hzz;have hidx:(i*sz+j) % sz=j:=by rw[Nat.mul_comm,Nat.mul_add_mod,Nat.mod_eq_of_lt hj']
     have hg:((Array.range (len*sz)).map (z.toArray[· % z.toArray.size]!)).getD (i*sz+j) undef=u:=by
      have hlt:i*sz+j < len*sz:=by omega
      simp only[zc,Array.getElem?_map];rw[Array.getElem?_range];rw[qb hlt];simp only[zU,zN,List.size_toArray,hz,hidx];rw[getElem!_arr _ _ (by simp;omega)];simp[zc,hu]
     rw[hg];exact⟨.s u,zx.1 h1 u (zp hu)⟩
   . cases he
theorem e9 {t e:TypeId} {len sz:Nat} {parts:Array (Nat×Value)} {z:List Value} {cells:Array Value} (hu:P.underlying t=some (.slice e)) (hz:gf P e=some z) (hs:eq P e=some sz) (hbig:len*sz<=2 ^ 24)
 (hf:∀ zero:Array Value,(len*sz≠0->zero=z.toArray)->Instr.fill (fun i=>some (i*sz,sz)) ((Array.range (len*sz)).map (zero[· % zero.size]!)) parts.toList=some cells) :
 (Instr.buildSlice t len parts).run P w=.ok (.slice (some ⟨w.heap.size,0,none⟩) len len) (w.alloc (.cells cells e)):=by
 have hb:¬ (len*sz > 2 ^ 24):=by omega
 obtain⟨i,v,g1,g2,rfl⟩:=kg hz;simp only[Instr.buildSlice,Sem.run_bind,run_underlying hu,Result.andThen_ok,eB hs,Sem.run_ite,qa hb];by_cases h0:len*sz=0
 . have hf':=hf #[] (fun h=>absurd h0 h);rw[qb h0];simp only[Sem.run_pure,Result.andThen_ok];rw[hf'];simp[newRow]
 . have hf':=hf v.cells (fun _=>by simp);rw[qa h0];simp only[Sem.run_pure,gp g1 g2,Result.andThen_ok];rw[hf'];simp[newRow]
theorem jV {s:Sem Next} {p:Prop} {arr:Array Value} {ty:TypeId} {sz n:Nat} {es:List (List C)} (hi:Inv E U w.heap ch) (hs:s.run P w=.ok (.value (.slice (some ⟨w.heap.size,0,none⟩) n n)) (w.alloc (.cells arr ty)))
 (hr:jA U w.heap sz es arr) (hn:n=es.length) (hmax:n<=maxLen):dN P E U w ch d s ⟨p,.own d,(d,.row sz ty es) :: ae [(d,.c .any)] (af ch d),[(d,.c .any)]⟩:=
 qZ hi arr ty sz n n es _ hs rfl rfl rfl rfl rfl hn (by omega) hmax (by rw[hr.1,hn];exact zw _) hr.2.1 hr.2.2
theorem sT {a:Act} {t e:TypeId} {len sz:Nat} {parts:Array (Nat×Operand)} {z:List Value} {o:Oper} {p:Prop} (hi:Inv E U w.heap ch) (ho:o.op=.buildSlice t len parts) (hu:P.underlying t=some (.slice e)) (hz:gf P e=some z)
 (hs:eq P e=some sz) (hbig:len*sz<=2 ^ 24) (hlen:len<=maxLen) (hzl:z.length=sz) (hp:parts.toList=[]) (h1:z.all (·.oneCell')=true) :
 dN P E U w ch d (execOp a.eval o) ⟨p,.own d,(d,.row sz e (List.replicate len (z.map .s))) :: ae [(d,.c .any)] (af ch d),[(d,.c .any)]⟩:=by
 have hpe:parts=#[]:=by simpa using hp
 subst hpe;by_cases hz0:len*sz=0
 . have hr:jA U w.heap sz (List.replicate len (z.map C.s)) #[]:=by simpa[hz0,Array.range_zero']using iQ (U:=U) (h:=w.heap) z sz len hzl h1 #[] (fun h=>absurd hz0 h)
   have hrun:(execOp a.eval o).run P w=.ok (.value (.slice (some ⟨w.heap.size,0,none⟩) len len)) (w.alloc (.cells #[] e)):=by
    have:=e9 (w:=w) (parts:=#[]) (cells:=#[]) hu hz hs hbig (fun zero _=>by simp[hz0,Instr.fill]);simp[execOp,ho,this]
   exact jV hi hrun hr (by simp) hlen
 . have hr:=iQ (U:=U) (h:=w.heap) z sz len hzl h1 z.toArray (fun _=>rfl);have hrun:(execOp a.eval o).run P w=.ok (.value (.slice (some ⟨w.heap.size,0,none⟩) len len)) (w.alloc (.cells ((Array.range (len*sz)).map (z.toArray[· % z.toArray.size]!)) e)):=by
    have:=e9 (w:=w) (parts:=#[]) (cells:=(Array.range (len*sz)).map (z.toArray[· % z.toArray.size]!)) hu hz hs hbig (fun zero h=>by rw[h hz0];simp[Instr.fill]);simp[execOp,ho,this]
   exact jV hi hrun hr (by simp) hlen
theorem ew {xs:Array Value} {i:Nat} {v:Value} (h:xs[i]? = some v):xs.getD i undef=v:=by simp[zc,h]
theorem rT {a:Act} {ρ:Operand->C} {t e:TypeId} {len sz:Nat} {parts:Array (Nat×Operand)} {z:List Value} {o:Oper} {es:List (List C)} {p:Prop} (hi:Inv E U w.heap ch) (ho:o.op=.buildSlice t len parts)
 (hu:P.underlying t=some (.slice e)) (hz:gf P e=some z) (hs:eq P e=some sz) (hbig:len*sz<=2 ^ 24) (hzl:z.length=sz) (hmax:len<=maxLen) (hρ:∀ x,Rep E U w.heap (ρ x) (a.eval x)) (h1:z.all (·.oneCell')=true)
 (hf:bl sz (List.replicate len (z.map .s)) (ay ch (parts.toList.map fun (i,x)=>(i,ρ x))).1=some es) :
 dN P E U w ch d (execOp a.eval o) ⟨p,.sl sz es,ae (ay ch (parts.toList.map fun (i,x)=>(i,ρ x))).2 (aB ch (ay ch (parts.toList.map fun (i,x)=>(i,ρ x))).2),(ay ch (parts.toList.map fun (i,x)=>(i,ρ x))).2⟩:=by
 generalize hq:parts.toList.map (fun (x:Nat×Operand)=>match x with | (i,x)=>(i,ρ x))=qs at *;have hfz:=gm (ch:=ch) qs;obtain⟨d1,d2⟩:=nh (ch:=ch) qs;have hmap:(parts.map fun (i,x)=>(i,a.eval x)).toList=parts.toList.map fun (i,x)=>(i,a.eval x):=by simp
 have key:∀ (w1:World),(∀ b,b < w.heap.size->w1.heap[b]? = w.heap[b]?)->∀ (zero:Array Value),(len*sz≠0->zero=z.toArray) ->
  ∃ cells',Instr.fill (fun i=>some (i*sz,sz)) ((Array.range (len*sz)).map (zero[· % zero.size]!)) (parts.toList.map fun (i,x)=>(i,a.eval x))=some cells' /\
   jA (fun b=>U b\/b=w.heap.size\/∃ k c',(ay ch qs).2.lookup k=some c'/\(E k).fp b) w1.heap sz es cells':=by
  intro w1 hold zero h2;refine kJ (E:=E) sz parts.toList _ _ _ es (iQ z sz len hzl h1 zero h2) (by rw[d1,<- hq];simp) (fun j pp q hp hq'=>?_) hf;have hqj:qs[j]? = some (pp.1,ρ pp.2):=by rw[<- hq];simp[hp]
  obtain⟨e1,e2⟩:=d2 j _ q hqj hq';refine⟨e1,?_⟩;have hkeep:∀ b,U b->(U b\/b=w.heap.size\/∃ k c',(ay ch qs).2.lookup k=some c'/\(E k).fp b)/\w1.heap[b]? = w.heap[b]?:=fun b hb=>⟨.inl hb,hold b (hi.lt b hb)⟩
  rcases e2 with e2 | ⟨k,g1,g3⟩
  . rw[e2];exact (hρ pp.2).same hkeep
  . simp only at g1;have hr:=hρ pp.2;rw[g1]at hr;obtain⟨c1,x1,l1,l2,l3⟩:=hfz k _ g3;cases l3;have hck:=dH l1;exact .d (mJ (hi.ok k _ hck) l2 hr hkeep (fun b hb=>⟨.inr (.inr ⟨k,_,g3,hb⟩),hold _ (hi.fpl k _ hck b hb)⟩))
 have hlen:es.length=len:=by
  have:∀ (qs:List (Nat×C)) (es0 es:List (List C)),bl sz es0 qs=some es->es.length=es0.length:=by
   intro qs
   induction qs with
   | nil=>intro es0 es h;simp[bl]at h;rw[h]
   | cons q qs ih=>
    intro es0 es h;obtain⟨i,c⟩:=q;simp only[bl]at h;split at h
    . rw[ih _ _ h];simp
    . cases h
  rw[this _ _ _ hf];simp
 obtain⟨cells,f1,f2⟩:=key w (fun _ _=>rfl) z.toArray (fun _=>rfl);have hrun:∃ cells',(execOp a.eval o).run P w=.ok (.value (.slice (some ⟨w.heap.size,0,none⟩) len len)) (w.alloc (.cells cells' e)) /\
  jA (fun b=>U b\/b=w.heap.size\/∃ k c',(ay ch qs).2.lookup k=some c'/\(E k).fp b) (w.alloc (.cells cells' e)).heap sz es cells':=by
  have hold:∀ cells' b,b < w.heap.size->(w.alloc (.cells cells' e)).heap[b]? = w.heap[b]?:=fun cells' b hb=>RowKit.Below.heap_alloc w _ b hb
  by_cases h0:len*sz=0
  . obtain⟨c1,g1,g2⟩:=key w (fun _ _=>rfl) #[] (fun h=>absurd h0 h);obtain⟨c1',g1',g2'⟩:=key (w.alloc (.cells c1 e)) (hold c1) #[] (fun h=>absurd h0 h);rw[g1]at g1';cases g1';refine⟨c1,?_,g2'⟩;have hm:=hmap;simp only at hm
    have:=e9 (P:=P) (w:=w) (parts:=parts.map fun (i,x)=>(i,a.eval x)) (cells:=c1) hu hz hs hbig (fun zero h=>by
     rw[hmap];have:(Array.range (len*sz)).map (zero[· % zero.size]!)=(Array.range (len*sz)).map ((#[]:Array Value)[· % (#[]:Array Value).size]!):=by rw[h0,Array.range_zero'];simp
     rw[this];exact g1)
    simp only[execOp,ho,Sem.run_bind,this,Result.andThen_ok,Sem.run_pure]
  . obtain⟨c1,g1,g2⟩:=key w (fun _ _=>rfl) z.toArray (fun _=>rfl);obtain⟨c1',g1',g2'⟩:=key (w.alloc (.cells c1 e)) (hold c1) z.toArray (fun _=>rfl);rw[g1]at g1';cases g1';refine⟨c1,?_,g2'⟩;have:=e9 (P:=P) (w:=w) (parts:=parts.map fun (i,x)=>(i,a.eval x)) (cells:=c1) hu hz hs hbig (fun zero h=>by rw[hmap,h h0];exact g1);simp only[execOp,ho,Sem.run_bind,this,Result.andThen_ok,Sem.run_pure]
 obtain⟨cells',r1,r2⟩:=hrun;refine⟨_,E,_,_,.inl r1,?_,Ev.freeze (w1:=w.alloc (.cells cells' e)) hi hfz rfl rfl rfl (by simp) (fun b hb=>RowKit.Below.heap_alloc w _ b hb) (fun b=>b=w.heap.size) (fun b hb=>by subst hb;simp) d⟩;refine .d ?_;obtain⟨q1,q2,q3⟩:=r2;rw[<- hlen];refine .sl es w.heap.size 0 _ sz cells' e (0,0) (fun i j=>cells'.getD (i*sz+j) undef) (.inr (.inl rfl)) (heap_alloc_new w _) (zw _) (by omega) q2 (fun i el j c he hj=>?_) (fun i el j c he hj=>(q3 i el j c he hj).1);have hil:i < es.length:=(zi.1 he).1;have hj':j < sz:=by have:=(zi.1 hj).1;rwa[q2 i el he]at this
 have hm2:(i+1)*sz<=es.length*sz:=zB sz (by omega);rw[zP,z8]at hm2;have hlt:0+i*sz+j < cells'.size:=by rw[q1];omega
 refine⟨?_,(q3 i el j c he hj).2⟩;rw[zj hlt];simp only[zz]at hlt ⊢;simp[zc,zj hlt]
def MemR (E:Env) (U:Nat->Prop) (h:Array Obj) (b off:Nat) (cs:List C):Prop:=
 ∀ (j:Nat) (c:C),cs[j]? = some c->∃ arr ty fz v,h[b]? = some (.cells arr ty fz)/\arr[off+j]? = some v/\Rep E U h c v/\v.oneCell'=true
theorem iF {t:TypeId} {agg:Bool} {sz b off:Nat} {cs:List C} (hb:je P t=some agg) (hs:eq P t=some sz) (hm:MemR E U w.heap b off cs) (o:Nat) (h1:o+sz<=cs.length) (h2:agg=false->sz=1) :
 ∃ v,(Instr.loadAt t (.pointer (some ⟨b,off+o,none⟩))).run P w=.ok v w/\Rep E U w.heap (au agg sz cs o) v:=by
 have cell:∀ j c,cs[j]? = some c->∃ v,w.cell? ⟨b,off+j,none⟩=some v/\Rep E U w.heap c v/\v.oneCell'=true:=fun j c hj=>by
  obtain⟨arr,ty,fz,v,g1,g2,g3,g4⟩:=hm j c hj;exact⟨v,by rw[cell_of_row w b (off+j) arr ty fz g1];exact g2,g3,g4⟩
 cases agg with
 | true=>
  have hall:∀ j,j < sz->∃ v,w.cell? ⟨b,off+o+j,none⟩=some v/\Rep E U w.heap (cs.getD (o+j) .any) v/\v.oneCell'=true:=fun j hj=>by
   have hlt:o+j < cs.length:=by omega
   obtain⟨v,g1,g2,g3⟩:=cell (o+j) cs[o+j] (ze hlt);refine⟨v,by rw[show off+o+j=off+(o+j)from by omega];exact g1,?_,g3⟩;rw[zb,ze hlt];exact g2
  let f:Nat->Value:=fun j=>(w.cell? ⟨b,off+o+j,none⟩).getD undef
  have hl:=run_loadCells (P:=P) w ⟨b,off+o,none⟩ sz f (fun j hj=>by
   obtain⟨v,g1,_⟩:=hall j hj
   rw[Addr.add_lit];simp[f,g1])
  refine⟨.agg ((List.range sz).map f).toArray,?_,?_⟩
  . simp only[Instr.loadAt,Instr.sureAddr,Sem.run_bind,Sem.run_pure,Result.andThen_ok,loadVar,j0 hb,qj,eB hs,hl]
  . simp only[au,qj];have hget:∀ j,j < sz->(((List.range sz).map f).toArray).getD j undef=f j:=fun j hj=>by
     apply ew;simp[hj]
    refine .agg _ _ (by simp;omega) (fun j c hj=>?_) (fun j hj=>?_)
    . obtain⟨hj1,hj2⟩:=jc hj;rw[zO]at hj1;rw[hget j hj2];obtain⟨v,g1,g2,_⟩:=hall j hj2;rw[zb,hj1]at g2;simpa[f,g1]using g2
    . have hj':j < sz:=by simpa using hj
      rw[hget j hj'];obtain⟨v,g1,_,g3⟩:=hall j hj';simpa[f,g1]using g3
 | false=>
  have hsz:=h2 rfl;subst hsz;have hlt:o < cs.length:=by omega
  obtain⟨v,g1,g2,_⟩:=cell o cs[o] (ze hlt);refine⟨v,?_,?_⟩
  . simp[Instr.loadAt,Instr.sureAddr,loadVar,j0 hb,g1]
  . simp only[au,zr,qi];rw[z9 hlt];exact g2
theorem rY {k:Nat} {cs:List C} {h:Array Obj} (hc:dM E U h k (.box cs)) (off n:Nat) (hno:∀ (j:Nat) c,((cs.drop off).take n)[j]? = some c->aL c=true):MemR E U h (E k).blk off ((cs.drop off).take n):=by
 obtain⟨⟨_,arr,ty,h1,h2,h3⟩,_⟩:=hc;intro j c hj;have hn:=hno j c hj;obtain⟨hj1,hj2⟩:=jc hj;rw[zO]at hj1;have hlt:off+j < arr.size:=by rw[h2];exact (zi.1 hj1).1
 rcases h3 _ c hj1 with⟨r1,r2⟩ | ⟨⟨n,t,es,rfl⟩,_⟩
 . refine⟨arr,ty,(0,0),arr.getD (off+j) undef,h1,?_,r1,r2⟩;simp[zc,zj hlt]
 . cases hn
theorem pH {y:KE0} {sz:Nat} {ty:TypeId} {es:List (List C)} {h:Array Obj} (hc:fa U h y sz ty es) {i:Nat} {e:List C} (he:es[i]? = some e):MemR E U h y.blk (y.off+i*sz) e:=by
 obtain⟨h1,h2,h3,h4⟩:=hc;have hil:i < es.length:=(zi.1 he).1;rcases h4 with⟨_,rfl⟩ | ⟨_,h5,h6,arr,h7,h8,h9⟩
 . simp at he
 . intro j c hj;have hj':j < sz:=by have:=(zi.1 hj).1;rwa[h3 i e he]at this
   have hm2:(i+1)*sz<=y.cap*sz:=zB sz (by omega);rw[zP,z8]at hm2;have hlt:y.off+i*sz+j < arr.size:=by omega
   obtain⟨r1,r2⟩:=h9 i e j c he hj;refine⟨arr,ty,(0,0),arr.getD (y.off+i*sz+j) undef,h7,?_,.d r1,r2⟩;simp[zc,zj hlt]
theorem l5 {a:Act} {t:TypeId} {agg:Bool} {sz:Nat} {x:Operand} {o:Oper} {b off j:Nat} {cs:List C} {p:Prop} (hi:Inv E U w.heap ch) (ho:o.op=.load t x) (hb:je P t=some agg) (hs:eq P t=some sz)
 (hx:a.eval x=.pointer (some ⟨b,off+j,none⟩)) (hm:MemR E U w.heap b off cs) (h1:j+sz<=cs.length) (h2:agg=false->sz=1) :
 dN P E U w ch d (execOp a.eval o) ⟨p,au agg sz cs j,ch,[]⟩:=by
 obtain⟨v,g1,g2⟩:=iF hb hs hm j h1 h2;refine dF hi ?_ g2;simp only[execOp,ho,hx,Sem.run_bind,g1,Result.andThen_ok,Sem.run_pure]
theorem Ev.write {w1:World} {k:Nat} {c0 c1:Ch} {x:KE} (hi:Inv E U w.heap ch) (hl:lk ch k=some c0)
 (hos:w1.os=w.os) (htp:w1.tape=w.tape) (hou:w1.output=w.output) (hsz:w.heap.size<=w1.heap.size) (hold:∀ b,b < w.heap.size->¬ (E k).fp b->w1.heap[b]? = w.heap[b]?)
 (hxe:x.toKE0=(E k).toKE0) (hx:∀ b,x.fp b->(E k).fp b) (hbox:(∃ cs,c1=.box cs)->∃ cs,c0=.box cs)
 (hok:(∀ b,U b->U b/\w1.heap[b]? = w.heap[b]?)->(∀ c v,Rep E U w.heap c v->Rep (dQ E k x) U w1.heap (ah [(k,.inner)] c) v)->dM (dQ E k x) U w1.heap k c1) (d:Nat) :
 Ev E U w ch [(k,.inner)] d (dQ E k x) U w1 ((k,c1) :: ae [(k,.inner)] (af ch k)):=by
 have hkm:=dH hl;have hkeep:∀ b,U b->U b/\w1.heap[b]? = w.heap[b]?:=fun b hu=>⟨hu,hold b (hi.lt b hu) (fun e=>hi.out k c0 hkm b e hu)⟩
 have henv:∀ k',[(k,Sb.inner)].lookup k'=none->dQ E k x k'=E k':=fun k' h=>by
  rw[fV]at h;split at h
  . cases h
  . exact d0 E x (by assumption)
 have henvI:∀ k',[(k,Sb.inner)].lookup k'=some .inner->(dQ E k x k').toKE0=(E k').toKE0:=fun k' h=>by
  rw[fV]at h;split at h
  . have e:k'=k:=by assumption
    subst e;rw[updE_same];exact hxe
  . cases h
 have hsub:∀ k' c',[(k,Sb.inner)].lookup k'=some (.c c')->∀ v,Rep E U w.heap (.own k') v->Rep (dQ E k x) U w1.heap c' v:=fun k' c' h=>by
  rw[fV]at h;split at h <;> cases h
 have hrep:∀ c v,Rep E U w.heap c v->Rep (dQ E k x) U w1.heap (ah [(k,.inner)] c) v:=fun c v hr=>hr.mono hkeep henv henvI hsub
 have hd:∀ c,(k,c)∉af ch k:=fun c=>dZ hi.nd
 have hmem:∀ k' c,(k',c)∈af ch k->(k',c)∈ch/\k'≠k:=fun k' c h=>⟨eH h,fun e=>hd c (e ▸ h)⟩
 refine Ev.gen (news:=[(k,c1)]) (old:=af ch k) hi hos htp hou hsz (eu ch k) hkeep henv henvI hsub (fun k' c h=>d0 E x (hmem k' c h).2)
  (fun k' c h b hb=>hold b (hi.fpl k' c (hmem k' c h).1 b hb) (fun hb'=>hi.sep k' c k c0 (hmem k' c h).1 hkm (hmem k' c h).2 b hb hb')) (fun b hb1 hb2=>hold b hb1 (hb2 k c0 hkm)) (by simp) (fun k' c h=>?_) (fun k' c h=>?_) (fun k' c h b hb=>?_) (fun k' c h b hb=>?_)
  (fun k1 x1 k2 x2 h1 h2 hne=>?_) (fun b hb=>.inl hb) (fun k' c h b hb=>?_) (fun b hb=>by have:=hi.lt b hb;omega) (fun k' cs h=>?_)
 . simp only[zg,zf]at h;obtain⟨rfl,rfl⟩:=h;exact hd
 . simp only[zg,zf]at h;obtain⟨rfl,rfl⟩:=h;exact hok hkeep hrep
 . simp only[zg,zf]at h;obtain⟨rfl,rfl⟩:=h;rw[updE_same]at hb;exact .inr ⟨_,c0,hkm,hd,hx b hb⟩
 . simp only[zg,zf]at h;obtain⟨rfl,rfl⟩:=h;rw[updE_same]at hb;have:=hi.fpl _ c0 hkm b (hx b hb);omega
 . simp only[zg,zf]at h1 h2;exact absurd (h1.1.trans h2.1.symm) hne
 . simp only[zg,zf]at h;obtain⟨rfl,rfl⟩:=h;rw[updE_same]at hb;exact hi.out _ c0 hkm b (hx b hb)
 . simp only[zg,zf]at h;obtain⟨rfl,h⟩:=h;obtain⟨cs0,rfl⟩:=hbox ⟨cs,h.symm⟩;exact .inr ⟨⟨cs0,hkm⟩,by rw[updE_same];exact hxe⟩
theorem Ev.write0 {w1:World} {k:Nat} {c0 c1:Ch} (hi:Inv E U w.heap ch) (hl:lk ch k=some c0)
 (hos:w1.os=w.os) (htp:w1.tape=w.tape) (hou:w1.output=w.output) (hsz:w1.heap.size=w.heap.size) (hold:∀ b,¬ (E k).fp b->w1.heap[b]? = w.heap[b]?)
 (hbox:(∃ cs,c1=.box cs)->∃ cs,c0=.box cs) (hok:(∀ b,U b->U b/\w1.heap[b]? = w.heap[b]?)->(∀ c v,Rep E U w.heap c v->Rep E U w1.heap c v)->dM E U w1.heap k c1) (d:Nat):Ev E U w ch [] d E U w1 (am ch k c1):=by
 have hkm:=dH hl;have hkeep:∀ b,U b->U b/\w1.heap[b]? = w.heap[b]?:=fun b hu=>⟨hu,hold b (fun e=>hi.out k c0 hkm b e hu)⟩
 have hd:∀ c,(k,c)∉af ch k:=fun c=>dZ hi.nd
 have hmem:∀ k' c,(k',c)∈af ch k->(k',c)∈ch/\k'≠k:=fun k' c h=>⟨eH h,fun e=>hd c (e ▸ h)⟩
 have h1:=Ev.gen (news:=[(k,c1)]) (old:=af ch k) (m:=[]) (d:=d) (E':=E) hi hos htp hou (by omega) (eu ch k) hkeep (fun _ _=>rfl) (fun _ _=>rfl) (fun k' c' h=>by simp at h) (fun _ _ _=>rfl)
  (fun k' c h b hb=>hold b (fun hb'=>hi.sep k' c k c0 (hmem k' c h).1 hkm (hmem k' c h).2 b hb hb')) (fun b hb1 hb2=>hold b (hb2 k c0 hkm)) (by simp) (fun k' c h=>by
   simp only[zg,zf]at h;obtain⟨rfl,rfl⟩:=h;exact hd) (fun k' c h=>by
   simp only[zg,zf]at h;obtain⟨rfl,rfl⟩:=h;exact hok hkeep (fun c v hr=>hr.same hkeep)) (fun k' c h b hb=>by
   simp only[zg,zf]at h;obtain⟨rfl,rfl⟩:=h;exact .inr ⟨_,c0,hkm,hd,hb⟩) (fun k' c h b hb=>by
   simp only[zg,zf]at h;obtain⟨rfl,rfl⟩:=h;have:=hi.fpl _ c0 hkm b hb;omega)
  (fun k1 x1 k2 x2 h1 h2 hne=>by simp only[zg,zf]at h1 h2;exact absurd (h1.1.trans h2.1.symm) hne) (fun b hb=>.inl hb) (fun k' c h b hb=>by
   simp only[zg,zf]at h;obtain⟨rfl,rfl⟩:=h;exact hi.out _ c0 hkm b hb) (fun b hb=>by have:=hi.lt b hb;omega) (fun k' cs h=>by
   simp only[zg,zf]at h;obtain⟨rfl,h⟩:=h;obtain⟨cs0,rfl⟩:=hbox ⟨cs,h.symm⟩
   exact .inr ⟨⟨cs0,hkm⟩,rfl⟩)
 rw[j3]at h1
 exact h1.chs (fun k' c hm=>by
  rcases fk hi.nd hm with h | h
  . rw[h];simp
  . exact zW.2 (.inr h)) (by rw[fb hl];exact hi.nd)
theorem gY {t:TypeId} {sz b off:Nat} {arr:Array Value} {ty:TypeId} {x:Value} (hs:eq P t=some sz) (hb:w.heap[b]? = some (.cells arr ty (0,0))) (hx:x.cells.size=sz) (hle:off+sz<=arr.size) (h1:∀ j,j < x.cells.size->(x.cells.getD j undef).oneCell'=true) :
 (Instr.storeAt t (.pointer (some ⟨b,off,none⟩)) x).run P w=.ok () (w.setRow b (arr.toList.take off++x.cells.toList++arr.toList.drop (off+x.cells.toList.length)).toArray):=by
 have hst:=run_storeCells_at P b off ty x.cells.toList 0 arr w hb (by simp;omega) (fun v hv=>by
  obtain⟨j,hj⟩:=List.getElem?_of_mem hv;have hlt:j < x.cells.size:=by have:=(zi.1 hj).1;simpa using this
  have hg:x.cells.getD j undef=v:=by apply ew;simpa using hj
  rw[<- hg];exact h1 j hlt)
 simp only[zL]at hst;simp[Instr.storeAt,Instr.sureAddr,storeVar,eB hs,hx,hst]
theorem iL {arr:Array Value} {xs:List Value} {off k:Nat} (hle:off+xs.length<=arr.size) :
 ((arr.toList.take off++xs++arr.toList.drop (off+xs.length)).toArray).getD k undef=if off<=k/\k < off+xs.length then xs.getD (k - off) undef else arr.getD k undef:=by
 simp only[zc,List.getElem?_toArray,zb];rw[ye,zS];have ht:(arr.toList.take off).length=off:=by simp;omega
 rw[ht];by_cases h1:k < off
 . rw[qb h1,qa (by omega),ya,qb h1];simp
 . rw[qa h1,zS];by_cases h2:k - off < xs.length
   . rw[qb h2,qb ⟨by omega,by omega⟩]
   . rw[qa h2,qa (by omega),zO];have:off+xs.length+(k - off - xs.length)=k:=by omega
     rw[this];simp
theorem jQ {arr:Array Value} {xs:List Value} {off:Nat} (hle:off+xs.length<=arr.size):((arr.toList.take off++xs++arr.toList.drop (off+xs.length)).toArray).size=arr.size:=by
 simp;omega
theorem FpOk.dom {x:KE} {I I':j5} (h:FpOk x I) (hd:∀ i,(I i).isSome=(I' i).isSome):FpOk x I':=by
 have g:∀ i q,I' i=some q->∃ q',I i=some q':=fun i q hq=>by
  have:=hd i;rw[hq]at this;exact Option.isSome_iff_exists.1 (by rw[this];rfl)
 have g':∀ i q,I i=some q->∃ q',I' i=some q':=fun i q hq=>by
  have:=hd i;rw[hq]at this;exact Option.isSome_iff_exists.1 (by rw[<- this];rfl)
 refine⟨fun b=>(h.fp b).trans ⟨?_,?_⟩,fun i q hq=>?_,fun i j q q' hne hq hq'=>?_⟩
 . rintro (h1 | ⟨i,q,h1,h2,h3⟩)
   . exact .inl h1
   . obtain⟨q',h1'⟩:=g' i q h1;exact .inr ⟨i,q',h1',h2,h3⟩
 . rintro (h1 | ⟨i,q,h1,h2,h3⟩)
   . exact .inl h1
   . obtain⟨q',h1'⟩:=g i q h1;exact .inr ⟨i,q',h1',h2,h3⟩
 . obtain⟨q',h1⟩:=g i q hq;exact h.ne i q' h1
 . obtain⟨r,h1⟩:=g i q hq;obtain⟨r',h2⟩:=g j q' hq';exact h.sep i j r r' hne h1 h2
theorem rI {cs xs:List C} {off:Nat} (hle:off+xs.length<=cs.length) (h1:∀ (j:Nat) c,((cs.drop off).take xs.length)[j]? = some c->aL c=true) (h2:∀ (j:Nat) c,xs[j]? = some c->aL c=true):eK (aH cs off xs)=eK cs:=by
 have no:∀ (o:Option C),(∀ c,o=some c->aL c=true)->jW o=none:=fun o ho=>by
  cases o with
  | none=>rfl
  | some c=>have:=ho c rfl;cases c <;> first | rfl | simp[aL]at this
 funext j
 simp only[eK];by_cases hj:off<=j/\j < off+xs.length
 . have e1:(aH cs off xs)[j]? = xs[j - off]?:=by
    unfold aH;rw[ye,List.getElem?_append_right (by simp;omega),yj (by simp;omega)]
    congr 1;simp;omega
   rw[e1,no _ (h2 _),no];intro c hc;refine h1 (j - off) c ?_;rw[ya,qb (by omega),zO];rw[show off+(j - off)=j by omega];exact hc
 . have e1:(aH cs off xs)[j]? = cs[j]?:=by
    unfold aH;rcases yu j off with h | h
    . rw[ye,yj (by simp;omega),ya,qb h]
    . rw[List.getElem?_append_right (by simp;omega),zO]
      congr 1;simp;omega
   rw[e1]
theorem nP {c:C} (h:aR c=true):aL c=true:=by cases c <;> first | rfl | simp[aR]at h
theorem mr {a:Act} {t:TypeId} {sz:Nat} {x y:Operand} {o:Oper} {k off:Nat} {cs:List C} {c:C} {p:Prop} (hi:Inv E U w.heap ch) (ho:o.op=.store t x y) (hs:eq P t=some sz)
 (hx:a.eval x=.pointer (some ⟨(E k).blk,off,none⟩)) (hl:lk ch k=some (.box cs)) (hr:Rep E U w.heap c (a.eval y)) (h1:(aj c).length=sz) (h2:off+sz<=cs.length) (h3:(aj c).all aR=true) (h4:((cs.drop off).take sz).all aL=true) :
 dN P E U w ch d (execOp a.eval o) ⟨p,.s undef,am ch k (.box (aH cs off (aj c))),[]⟩:=by
 have hc:=hi.ok k _ (dH hl);obtain⟨⟨hn,arr,ty,b1,b2,b3⟩,hf,hin⟩:=hc;obtain⟨s1,s2⟩:=lm hr h3;have hxl:(a.eval y).cells.toList.length=sz:=by simp;omega
 have hrun:=gY (P:=P) (t:=t) (x:=a.eval y) (off:=off) hs b1 (by omega) (by omega) (fun j hj=>by
  have:j < (aj c).length:=by omega
  exact (s2 j _ (ze this)).2)
 have hown:(E k).fp (E k).blk:=(hf.fp _).2 (.inl ⟨hn,rfl⟩);have hold:∀ b,b≠(E k).blk->(w.setRow (E k).blk (arr.toList.take off++(a.eval y).cells.toList++arr.toList.drop (off+(a.eval y).cells.toList.length)).toArray).heap[b]? = w.heap[b]?:=fun b hb=>setRow_other w _ b _ hb
 refine⟨undef,E,U,_,.inr ⟨?_,rfl⟩,.d (.s undef),Ev.write0 (w1:=w.setRow (E k).blk (arr.toList.take off++(a.eval y).cells.toList++arr.toList.drop (off+(a.eval y).cells.toList.length)).toArray) hi hl rfl rfl rfl (by simp[World.setRow]) (fun b hb=>hold b (fun e=>hb (e ▸ hown))) (fun _=>⟨cs,rfl⟩) (fun hkeep hrep=>?_) d⟩
 . simp only[execOp,ho,hx,Sem.run_bind,hrun,Result.andThen_ok,Sem.run_pure]
 . have hsp:(aH cs off (aj c)).length=cs.length:=ia (by omega);have hbI:eK (aH cs off (aj c))=eK cs:=rI (by omega) (fun j c0 hj=>jy h4 (by rw[h1]at hj;exact hj)) (fun j c0 hj=>nP (jy h3 hj));simp only[dM,hbI];refine⟨⟨hn,_,ty,setRow_heap w _ arr _ ty _ b1,by rw[jQ (by rw[hxl];omega),hsp];exact b2,fun j c0 hj=>?_⟩,hf,fun i n t' es he=>(hin i n t' es he).mono hkeep (fun hn'=>hold _ (hf.ne i _ he hn' hn))⟩;rw[iL (by omega)];rcases kZ (by omega) hj with⟨g1,g2,g3⟩ | ⟨g1,g2⟩
   . rw[qb ⟨g1,by omega⟩];obtain⟨r1,r2⟩:=s2 _ _ g3;have e:(a.eval y).cells.toList.getD (j - off) undef=(a.eval y).cells.getD (j - off) undef:=by simp[zb,zc]
     rw[e];exact .inl ⟨hrep _ _ r1,r2⟩
   . rw[qa (by omega)];rcases b3 j c0 g2 with⟨r1,r2⟩ | r
     . exact .inl ⟨hrep _ _ r1,r2⟩
     . exact .inr r
theorem mt {w:World} {y:KE0} {n:Nat} {ty0:TypeId} {es:List (List C)} {xs:List C} {vs:Array Value} {i j:Nat} (hc:fa U w.heap y n ty0 es) (hl:vs.size=xs.length)
 (hv:∀ (q:Nat) c0,xs[q]? = some c0->RepD U w.heap c0 (vs.getD q undef)/\(vs.getD q undef).oneCell'=true) (h2:i < es.length) (h3:j+xs.length<=n) (hkeep:∀ b,U b->b≠y.blk) :
 y.nil=false/\∃ arr,w.heap[y.blk]? = some (.cells arr ty0 (0,0))/\y.off+i*n+j+xs.length<=arr.size /\
  fa U (w.setRow y.blk (arr.toList.take (y.off+i*n+j)++vs.toList++arr.toList.drop (y.off+i*n+j+vs.toList.length)).toArray).heap y n ty0 (es.set i (aH (es.getD i []) j xs)):=by
 obtain⟨b1,b2,b3,b4⟩:=hc;rcases b4 with⟨_,rfl⟩ | ⟨hn,b5,b6,arr,b7,b8,b9⟩
 . simp at h2
 have hxl:vs.toList.length=xs.length:=by simp;omega
 have hm:(i+1)*n<=y.cap*n:=zB n (by omega);rw[zP,z8]at hm;have hfit:y.off+i*n+j+xs.length<=arr.size:=by omega
 have hg0:es.getD i []=es[i]:=by simp[zb,ze h2]
 have hel:es[i].length=n:=b3 i _ (ze h2);have hsl:(aH (es.getD i []) j xs).length=n:=by rw[hg0,ia (by omega)];exact hel
 have hlen:∀ (m:Nat) (e:List C),(es.set i (aH (es.getD i []) j xs))[m]? = some e->e.length=n:=fun m e he=>by
  rw[zJ]at he;by_cases hmi:i=m
  . rw[qb hmi,qb h2]at he;cases he;exact hsl
  . rw[qa hmi]at he;exact b3 m e he
 refine⟨hn,arr,b7,hfit,by simp[b1],b2,hlen,.inr ⟨hn,by simpa using b5,b6,_,setRow_heap w _ arr _ ty0 _ b7,by rw[jQ (by rw[hxl];omega)];exact b8,fun m e q c0 he hq=>?_⟩⟩;have hk:∀ b,U b->U b/\(w.setRow y.blk (arr.toList.take (y.off+i*n+j)++vs.toList++arr.toList.drop (y.off+i*n+j+vs.toList.length)).toArray).heap[b]? = w.heap[b]?:=fun b hu=>⟨hu,setRow_other w _ b _ (hkeep b hu)⟩
 have hml:m < es.length:=by have:=(zi.1 he).1;simpa using this
 have hqn:q < n:=by have:=(zi.1 hq).1;rwa[hlen m e he]at this
 rw[iL (by omega)];rw[zJ]at he;by_cases hmi:i=m
 . subst hmi;rw[qb rfl,qb h2]at he;cases he;rw[hg0]at hq;rcases kZ (by omega) hq with⟨g1,g2,g3⟩ | ⟨g1,g2⟩
   . rw[qb ⟨by omega,by omega⟩];obtain⟨r1,r2⟩:=hv _ _ g3;have e:vs.toList.getD (y.off+i*n+q - (y.off+i*n+j)) undef=vs.getD (q - j) undef:=by
      have:y.off+i*n+q - (y.off+i*n+j)=q - j:=by omega
      rw[this];simp[zb,zc]
     rw[e];exact⟨r1.mono hk,r2⟩
   . rw[qa (by omega)];obtain⟨r1,r2⟩:=b9 i _ q c0 (ze h2) g2;exact⟨r1.mono hk,r2⟩
 . rw[qa hmi]at he
   rw[qa (by
    rintro⟨g1,g2⟩
    rcases yu m i with hlt | hge
    . have:(m+1)*n<=i*n:=zB n (by omega);rw[zP,z8]at this;omega
    . have:(i+1)*n<=m*n:=zB n (by omega);rw[zP,z8]at this
      omega)]
   obtain⟨r1,r2⟩:=b9 m e q c0 he hq;exact⟨r1.mono hk,r2⟩
theorem rV {a:Act} {t:TypeId} {sz:Nat} {x y:Operand} {o:Oper} {k i j n:Nat} {ty0:TypeId} {es:List (List C)} {c:C} {p:Prop} (hi:Inv E U w.heap ch) (ho:o.op=.store t x y) (hs:eq P t=some sz)
 (hx:a.eval x=.pointer (some ⟨(E k).blk,(E k).off+i*(E k).sz+j,none⟩)) (hl:lk ch k=some (.row n ty0 es)) (hr:Rep E U w.heap c (a.eval y)) (h1:(aj c).length=sz) (h2:i < es.length) (h3:j+sz<=n) (h4:(aj c).all a8=true) :
 dN P E U w ch d (execOp a.eval o) ⟨p,.s undef,am ch k (.row n ty0 (es.set i (aH (es.getD i []) j (aj c)))),[]⟩:=by
 have hc:=hi.ok k _ (dH hl);obtain⟨hrow,hf⟩:=hc;rw[hrow.2.1]at hx;obtain⟨s1,s2⟩:=kF hr h4;have hout:∀ (hn:(E k).nil=false) b,U b->b≠(E k).blk:=fun hn b hu e=>hi.out k _ (dH hl) b ((hf.fp _).2 (.inl ⟨hn,e.symm⟩)) hu
 have hnil:(E k).nil=false:=by
  rcases hrow.2.2.2 with⟨_,rfl⟩ | ⟨hn,_⟩
  . simp at h2
  . exact hn
 obtain⟨hn,arr,b7,hfit,hok⟩:=mt (w:=w) (xs:=aj c) (vs:=(a.eval y).cells) (i:=i) (j:=j) hrow s1 s2 h2 (by omega) (hout hnil)
 have hrun:=gY (P:=P) (t:=t) (x:=a.eval y) (off:=(E k).off+i*n+j) hs b7 (by omega) (by omega) (fun j hj=>by
  have:j < (aj c).length:=by omega
  exact (s2 j _ (ze this)).2)
 have hown:(E k).fp (E k).blk:=(hf.fp _).2 (.inl ⟨hn,rfl⟩);refine⟨undef,E,U,_,.inr ⟨?_,rfl⟩,.d (.s undef),Ev.write0 (w1:=w.setRow (E k).blk (arr.toList.take ((E k).off+i*n+j)++(a.eval y).cells.toList++arr.toList.drop ((E k).off+i*n+j+(a.eval y).cells.toList.length)).toArray) hi hl rfl rfl rfl (by simp[World.setRow]) (fun b hb=>setRow_other w _ b _ (fun e=>hb (e ▸ hown))) (fun⟨cs,h⟩=>by cases h) (fun hkeep hrep=>by simp only[dM];exact⟨hok,hf⟩) d⟩;simp only[execOp,ho,hx,Sem.run_bind,hrun,Result.andThen_ok,Sem.run_pure]
def hJ (i:Nat) (es':List (List C)):Ch->Ch
 |.box cs=>
  match cs[i]? with
  | some (.isl n t _)=>.box (cs.set i (.isl n t es'))
  |_=>.box cs
 |.deep n t ty hole rows=>.deep n t ty hole (rows.set i es')
 | c=>c
theorem gL {k i n:Nat} {t:TypeId} {es:List (List C)} {p:Prop} (h:aN ch k i=some (p,n,t,es)) (hp:p) :
 ∃ c0,lk ch k=some c0/\chI c0 i=some (n,t,es)/\(∀ es',setInn ch k i es'=am ch k (hJ i es' c0))/\(∀ R,c0≠.res R):=by
 unfold aN at h;split at h
 . rename_i cs hl;split at h
   . rename_i n' t' es0 hc;cases h;exact⟨_,hl,by simp[chI,eK,hc,jW],fun es'=>by simp[setInn,hl,hJ,hc],by simp⟩
   . cases h
 . rename_i n' t' ty hole rows hl;cases h;refine⟨_,hl,?_,fun es'=>by simp[setInn,hl,hJ],by simp⟩;simp only[chI,eh,qa hp.2,ze hp.1,zU];rw[zb,ze hp.1];rfl
 . cases h
theorem r0 {c0:Ch} {i n:Nat} {t:TypeId} {es es':List (List C)} (h:chI c0 i=some (n,t,es)) (j:Nat):chI (hJ i es' c0) j=if j=i then some (n,t,es')else chI c0 j:=by
 cases c0 with
 | box cs=>
  simp only[chI,eK]at h;obtain⟨n',t',es0,hc,h⟩:∃ n' t' es0,cs[i]? = some (.isl n' t' es0)/\(n',t',es0)=(n,t,es):=by
   cases hc:cs[i]? with
   | none=>rw[hc]at h;cases h
   | some c=>rw[hc]at h;cases c <;> simp[jW]at h;exact⟨_,_,_,rfl,by simp[h]⟩
  cases h;simp only[hJ,hc,chI,eK,zJ];by_cases hj:j=i
  . subst hj;have:=(zi.1 hc).1;simp[this,jW]
  . rw[qa (fun e=>hj e.symm),qa hj]
 | deep n' t' ty hole rows=>
  simp only[chI,eh]at h ⊢;split at h
  . cases h
  . rename_i hh;simp only[za,zf]at h;obtain⟨es0,h1,rfl,rfl,rfl⟩:=h;simp only[hJ,eh,zJ];by_cases hj:j=i
    . subst hj;have:=(zi.1 h1).1;simp[this,hh]
    . have hj':¬ (i=j):=fun e=>hj e.symm
      simp only[qa hj,qa hj']
 |_=>cases h
theorem dM.inns {k:Nat} {c:Ch} {h:Array Obj} (hc:dM E U h k c) (hr:∀ R,c≠.res R):FpOk (E k) (chI c)/\jB U h (E k) (chI c):=by
 cases c with
 | box cs=>exact⟨hc.2.1,hc.2.2⟩
 | row sz ty es=>exact⟨hc.2,fun i n t es h=>by cases h⟩
 | deep isz ity ty hole rows=>exact⟨hc.2.1,hc.2.2⟩
 | res R=>exact absurd rfl (hr R)
theorem dM.setInn {k i n:Nat} {t:TypeId} {es es':List (List C)} {c0:Ch} {h h':Array Obj} (hc:dM E U h k c0) (hI:chI c0 i=some (n,t,es)) (hk:∀ b,U b->U b/\h'[b]? = h[b]?) (hrep:∀ c v,Rep E U h c v->Rep E U h' c v)
 (hb:∀ b,(E k).fp b->(((E k).inn i).nil=false->b≠((E k).inn i).blk)->h'[b]? = h[b]?) (hrow:fa U h' ((E k).inn i) n t es'):dM E U h' k (hJ i es' c0):=by
 have hr:∀ R,c0≠.res R:=by rintro R rfl;cases hI
 obtain⟨hf,hin⟩:=hc.inns hr;have hdom:∀ j,(chI c0 j).isSome=(chI (hJ i es' c0) j).isSome:=fun j=>by
  rw[r0 hI];split
  . rename_i e;subst e;rw[hI];rfl
  . rfl
 have hf':=hf.dom hdom;have hin':jB U h' (E k) (chI (hJ i es' c0)):=fun j n' t' es0 hj=>by
  rw[r0 hI]at hj;split at hj
  . rename_i e;subst e;cases hj;exact hrow
  . rename_i hne;refine (hin j n' t' es0 hj).mono hk (fun hn=>hb _ ((hf.fp _).2 (.inr ⟨j,_,hj,hn,rfl⟩)) (fun hn'=>hf.sep j i _ _ hne hj hI hn hn'))
 cases c0 with
 | box cs=>
  obtain⟨⟨hn,arr,ty,b1,b2,b3⟩,_,_⟩:=hc;obtain⟨n',t',es0,hcs,hI'⟩:∃ n' t' es0,cs[i]? = some (.isl n' t' es0)/\(n',t',es0)=(n,t,es):=by
   simp only[chI,eK]at hI;cases hc:cs[i]? with
   | none=>rw[hc]at hI;cases hI
   | some c=>rw[hc]at hI;cases c <;> simp[jW]at hI;exact⟨_,_,_,rfl,by simp[hI]⟩
  cases hI';simp only[hJ,hcs]at hf' hin' ⊢;simp only[dM];refine⟨⟨hn,arr,ty,(hb _ ((hf.fp _).2 (.inl ⟨hn,rfl⟩)) (fun hn'=>(hf.ne i (n,t,es) hI hn' hn).symm)).trans b1,by simpa using b2,fun j c hj=>?_⟩,hf',hin'⟩;rw[zJ]at hj;split at hj
  . rename_i e;subst e;split at hj
    . cases hj;rcases b3 i _ hcs with⟨r1,_⟩ | ⟨_,r2⟩
      . exact absurd r1 gW
      . exact .inr ⟨⟨_,_,_,rfl⟩,r2⟩
    . cases hj
  . rcases b3 j c hj with⟨r1,r2⟩ | r
    . exact .inl ⟨hrep _ _ r1,r2⟩
    . exact .inr r
 | deep n' t' ty hole rows=>
  obtain⟨⟨b1,b2,b3⟩,_,_⟩:=hc;simp only[hJ,dM]at hf' hin' ⊢;refine⟨⟨by simpa using b1,b2,?_⟩,hf',hin'⟩;rcases b3 with⟨b3,rfl⟩ | ⟨b3,b4,b5,arr,b6,b7,b8⟩
  . exact .inl ⟨b3,by simp⟩
  . exact .inr ⟨b3,by simpa using b4,b5,arr,(hb _ ((hf.fp _).2 (.inl ⟨b3,rfl⟩)) (fun hn'=>(hf.ne i _ hI hn' b3).symm)).trans b6,b7,fun j hj=>b8 j (by simpa using hj)⟩
 |_=>cases hI
theorem rU {a:Act} {t:TypeId} {sz:Nat} {x y:Operand} {o:Oper} {k i m j n:Nat} {ty0:TypeId} {es:List (List C)} {c:C} {p q:Prop} (hi:Inv E U w.heap ch) (ho:o.op=.store t x y) (hs:eq P t=some sz)
 (hx:a.eval x=.pointer (some ⟨((E k).inn i).blk,((E k).inn i).off+m*((E k).inn i).sz+j,none⟩)) (hl:aN ch k i=some (q,n,ty0,es)) (hq:q) (hr:Rep E U w.heap c (a.eval y)) (h1:(aj c).length=sz) (h2:m < es.length) (h3:j+sz<=n) (h4:(aj c).all a8=true) :
 dN P E U w ch d (execOp a.eval o) ⟨p,.s undef,setInn ch k i (es.set m (aH (es.getD m []) j (aj c))),[]⟩:=by
 obtain⟨c0,hlk,hI,hset,hres⟩:=gL hl hq;have hck:=hi.ok k _ (dH hlk);obtain⟨hf,hin⟩:=hck.inns hres;have hrow:=hin i _ _ _ hI;rw[hrow.2.1]at hx;obtain⟨s1,s2⟩:=kF hr h4;have hnil:((E k).inn i).nil=false:=by
  rcases hrow.2.2.2 with⟨_,rfl⟩ | ⟨hn,_⟩
  . simp at h2
  . exact hn
 have hown:(E k).fp ((E k).inn i).blk:=(hf.fp _).2 (.inr ⟨i,_,hI,hnil,rfl⟩);obtain⟨hn,arr,b7,hfit,hok⟩:=mt (w:=w) (xs:=aj c) (vs:=(a.eval y).cells) (i:=m) (j:=j) hrow s1 s2 h2 (by omega) (fun b hu e=>hi.out k _ (dH hlk) b (e ▸ hown) hu)
 have hrun:=gY (P:=P) (t:=t) (x:=a.eval y) (off:=((E k).inn i).off+m*n+j) hs b7 (by omega) (by omega) (fun j hj=>by
  have:j < (aj c).length:=by omega
  exact (s2 j _ (ze this)).2)
 rw[hset];refine⟨undef,E,U,_,.inr ⟨?_,rfl⟩,.d (.s undef),Ev.write0 (w1:=w.setRow ((E k).inn i).blk (arr.toList.take (((E k).inn i).off+m*n+j)++(a.eval y).cells.toList++arr.toList.drop (((E k).inn i).off+m*n+j+(a.eval y).cells.toList.length)).toArray) hi hlk rfl rfl rfl (by simp[World.setRow]) (fun b hb=>setRow_other w _ b _ (fun e=>hb (e ▸ hown))) (fun⟨cs,h⟩=>?_) (fun hkeep hrep=>hck.setInn hI hkeep hrep (fun b _ hb=>setRow_other w _ b _ (hb hnil)) hok) d⟩
 . simp only[execOp,ho,hx,Sem.run_bind,hrun,Result.andThen_ok,Sem.run_pure]
 . cases c0 with
   | box cs0=>exact⟨cs0,rfl⟩
   |_=>simp[hJ]at h
theorem tF {sz:Nat} {v0:Value} {news:List (List C)} (h:aV ch sz (.s v0)=some news):v0=.slice none 0 0/\news=[]:=by
 unfold aV at h;split at h
 . rename_i heq;cases heq
 . rename_i heq;cases heq;cases h;exact⟨rfl,rfl⟩
 . rename_i heq;cases heq
 . cases h
theorem pl {c:C} {y:Value} {news:List (List C)} {sz:Nat} (hi:Inv E U w.heap ch) (hr:Rep E U w.heap c y) (he:aV ch sz c=some news) (hpos:0 < sz) :
 (∀ e∈news,e.length=sz)/\(Builtin.lenOf y).run P w=.ok news.length w/\∃ nv:List Value,(∀ w':World,w'.heap=w.heap->(Builtin.firstCells sz news.length y).run P w'=.ok nv.toArray w')/\nv.length=news.length*sz /\
  (∀ (i:Nat) (e:List C) (j:Nat) (c0:C),news[i]? = some e->e[j]? = some c0->RepD U w.heap c0 (nv.getD (i*sz+j) undef)/\(nv.getD (i*sz+j) undef).oneCell'=true)/\∀ u∈nv,u.oneCell'=true:=by
 have load0:∀ (a:Option Addr) (cap:Nat) (w':World),(Builtin.firstCells sz 0 (.slice a 0 cap)).run P w'=.ok #[] w':=fun a cap w'=>by
  cases a <;> simp[Builtin.firstCells,loadCells,loadCellsFrom]
 have gen:∀ (b off cap:Nat) (arr:Array Value) (ty:TypeId) (fz:Nat×Nat),w.heap[b]? = some (.cells arr ty fz)->off+news.length*sz<=arr.size->(∀ (i:Nat) (e:List C),news[i]? = some e->e.length=sz) ->
  (∀ (i:Nat) (e:List C) (j:Nat) (c0:C),news[i]? = some e->e[j]? = some c0->RepD U w.heap c0 (arr.getD (off+i*sz+j) undef)/\(arr.getD (off+i*sz+j) undef).oneCell'=true)->y=.slice (some ⟨b,off,none⟩) news.length cap ->
  (∀ e∈news,e.length=sz)/\(Builtin.lenOf y).run P w=.ok news.length w/\∃ nv:List Value,(∀ w':World,w'.heap=w.heap->(Builtin.firstCells sz news.length y).run P w'=.ok nv.toArray w')/\nv.length=news.length*sz /\
  (∀ (i:Nat) (e:List C) (j:Nat) (c0:C),news[i]? = some e->e[j]? = some c0->RepD U w.heap c0 (nv.getD (i*sz+j) undef)/\(nv.getD (i*sz+j) undef).oneCell'=true)/\∀ u∈nv,u.oneCell'=true:=by
  intro b off cap arr ty fz hb hfit hs' hv hy;subst hy;refine⟨fun e he=>by obtain⟨n,hn⟩:=List.getElem?_of_mem he;exact hs' n e hn,by simp[Builtin.lenOf],?_⟩;have hget:∀ q,q < news.length*sz->((List.range (news.length*sz)).map fun q=>arr.getD (off+q) undef).getD q undef=arr.getD (off+q) undef:=fun q hq=>by
   simp[zb,hq]
  refine⟨(List.range (news.length*sz)).map fun q=>arr.getD (off+q) undef,fun w' hw'=>?_,by simp,fun i e j c0 h1 h2=>?_,fun u hu=>?_⟩
  . simp only[Builtin.firstCells]
    exact run_loadCells w' ⟨b,off,none⟩ (news.length*sz) (fun q=>arr.getD (off+q) undef) (fun q hq=>by
     rw[Addr.add_lit,cell_of_row w' b (off+q) arr ty fz (by rw[hw'];exact hb)];have hlt:off+q < arr.size:=by omega
     simp[zc,zj hlt])
  . have hil:i < news.length:=(zi.1 h1).1;have hj':j < sz:=by have:=(zi.1 h2).1;rwa[hs' i e h1]at this
    have hm2:(i+1)*sz<=news.length*sz:=zB sz (by omega);rw[zP,z8]at hm2;rw[hget _ (by omega),<- yG];exact hv i e j c0 h1 h2
  . simp only[zu,zE]at hu;obtain⟨q,hq,rfl⟩:=hu;have hil:q / sz < news.length:=(Nat.div_lt_iff_lt_mul hpos).2 hq;have hj':q % sz < sz:=Nat.mod_lt q hpos;have hel:=hs' _ _ (ze hil);have:=(hv (q / sz) _ (q % sz) _ (ze hil) (ze (by rw[hel];exact hj'))).2;have hq':off+q / sz*sz+q % sz=off+q:=by have:=Nat.div_add_mod q sz;rw[Nat.mul_comm]at this;omega
    rwa[hq']at this
 have zero:∀ (a:Option Addr) (cap:Nat),news=[]->y=.slice a 0 cap->(∀ e∈news,e.length=sz)/\(Builtin.lenOf y).run P w=.ok news.length w/\∃ nv:List Value,(∀ w':World,w'.heap=w.heap->(Builtin.firstCells sz news.length y).run P w'=.ok nv.toArray w')/\nv.length=news.length*sz /\
  (∀ (i:Nat) (e:List C) (j:Nat) (c0:C),news[i]? = some e->e[j]? = some c0->RepD U w.heap c0 (nv.getD (i*sz+j) undef)/\(nv.getD (i*sz+j) undef).oneCell'=true)/\∀ u∈nv,u.oneCell'=true:=by
  intro a cap hn hy;subst hn hy;exact⟨fun e he=>by simp at he,by simp[Builtin.lenOf],[],fun w' _=>load0 _ _ w',by simp,fun i e j c0 h=>by simp at h,fun u hu=>by simp at hu⟩
 cases c <;> simp only[aV]at he <;> try (cases he;done)
 case s v0=>
  have hv:=dK hr;obtain⟨g1,g2⟩:=tF (ch:=ch) (sz:=sz) (v0:=v0) (by simpa only[aV]using he);exact zero none 0 g2 (hv.trans g1)
 case sl m es=>
  split at he
  . rename_i hm;subst hm;cases he;cases ji hr with
    | sl0 _ a cap hc=>exact zero a cap rfl rfl
    | sl _ b off cap _ arr ty fz vf hU hb hcap hmax hsz' hv hr'=>
     by_cases hne:news=[]
     . subst hne;exact zero _ _ rfl rfl
     . refine gen b off cap arr ty fz hb ?_ hsz' (fun i e j c0 h1 h2=>?_) rfl
       ·
        have hl:news.length - 1 < news.length:=by cases news with | nil=>exact absurd rfl hne | cons e es=>simp
        have hel:=hsz' _ _ (ze hl);have hlast:m - 1 < (news[news.length - 1]).length:=by rw[hel];omega
        have:=(hv _ _ _ _ (ze hl) (ze hlast)).1;have hlt:=(Array.getElem?_eq_some_iff.1 this).1;have hm:news.length*m=(news.length - 1)*m+m:=by
         have:news.length=(news.length - 1)+1:=by omega
         rw[this,zP,z8];simp
        omega
       . obtain⟨g1,g2⟩:=hv i e j c0 h1 h2;rw[ew g1];exact⟨hr' i e j c0 h1 h2,g2⟩
  . cases he
 case own k=>
  cases hl:lk ch k with
  | none=>simp[hl]at he
  | some c0=>
   cases c0 with
   | row n ty es=>
    simp only[hl]at he;split at he
    . rename_i hm;subst hm;cases he;obtain⟨⟨b1,b2,b3,b4⟩,_⟩:=hi.ok k _ (dH hl);rcases iP hr with⟨hn,rfl⟩ | ⟨hn,rfl⟩
      . rcases b4 with⟨_,rfl⟩ | ⟨hn',_⟩
        . exact zero none 0 rfl rfl
        . rw[hn]at hn';cases hn'
      . rcases b4 with⟨hn',_⟩ | ⟨_,b5,b6,arr,b7,b8,b9⟩
        . rw[hn]at hn';cases hn'
        . refine gen _ _ (E k).cap arr ty (0,0) b7 ?_ b3 b9 (by rw[b1]);have:news.length*n<=(E k).cap*n:=zB n b5;omega
    . cases he
   |_=>simp[hl]at he
theorem pR {t:Chs} {k:Nat} {c:Ch} (h:lk t k=some c) (m:List (Nat×Sb)):lk (ae m t) k=some (ec m c):=by rw[rj,h];rfl
theorem Ev.rekey {w1:World} {k:Nat} {c0 c1:Ch} {x:KE} (hi:Inv E U w.heap ch) (hl:lk ch k=some c0) (hos:w1.os=w.os) (htp:w1.tape=w.tape) (hou:w1.output=w.output) (hsz:w.heap.size<=w1.heap.size)
 (hold:∀ b,b < w.heap.size->¬ (E k).fp b->w1.heap[b]? = w.heap[b]?) (hx:∀ b,x.fp b->(w.heap.size<=b/\b < w1.heap.size)\/(E k).fp b)
 (hrow:∀ cs,c1≠.box cs) (hok:(∀ b,U b->U b/\w1.heap[b]? = w.heap[b]?)->dM (dQ E k x) U w1.heap k c1) (d:Nat):Ev E U w ch [(k,.c .any)] d (dQ E k x) U w1 (am (ae [(k,.c .any)] ch) k c1):=by
 have hkm:=dH hl;have hkeep:∀ b,U b->U b/\w1.heap[b]? = w.heap[b]?:=fun b hu=>⟨hu,hold b (hi.lt b hu) (fun e=>hi.out k c0 hkm b e hu)⟩
 have hd:∀ c,(k,c)∉af ch k:=fun c=>dZ hi.nd
 have hmem:∀ k' c,(k',c)∈af ch k->(k',c)∈ch/\k'≠k:=fun k' c h=>⟨eH h,fun e=>hd c (e ▸ h)⟩
 have h1:=Ev.gen (news:=[(k,c1)]) (old:=af ch k) (m:=[(k,.c .any)]) (d:=d) (E':=dQ E k x) (U':=U) (w1:=w1) hi hos htp hou hsz (eu ch k) hkeep (fun k' hk=>by
  rw[fV]at hk;split at hk
  . cases hk
  . exact d0 E x (by assumption)) (fun k' hk=>by rw[fV]at hk;split at hk <;> cases hk) (fun k' c' hk v _=>by
  rw[fV]at hk;split at hk
  . cases hk;exact .d (.any v)
  . cases hk) (fun k' c h=>d0 E x (hmem k' c h).2)
  (fun k' c h b hb=>hold b (hi.fpl k' c (hmem k' c h).1 b hb) (fun hb'=>hi.sep k' c k c0 (hmem k' c h).1 hkm (hmem k' c h).2 b hb hb')) (fun b hb1 hb2=>hold b hb1 (hb2 k c0 hkm)) (by simp) (fun k' c h=>by
   simp only[zg,zf]at h;obtain⟨rfl,rfl⟩:=h;exact hd) (fun k' c h=>by
   simp only[zg,zf]at h;obtain⟨rfl,rfl⟩:=h;exact hok hkeep) (fun k' c h b hb=>by
   simp only[zg,zf]at h;obtain⟨rfl,rfl⟩:=h;rw[updE_same]at hb;rcases hx b hb with g | g
   . exact .inl g.1
   . exact .inr ⟨_,c0,hkm,hd,g⟩) (fun k' c h b hb=>by
   simp only[zg,zf]at h;obtain⟨rfl,rfl⟩:=h;rw[updE_same]at hb;rcases hx b hb with g | g
   . exact g.2
   . have:=hi.fpl _ c0 hkm b g;omega)
  (fun k1 x1 k2 x2 h1 h2 hne=>by simp only[zg,zf]at h1 h2;exact absurd (h1.1.trans h2.1.symm) hne) (fun b hb=>.inl hb) (fun k' c h b hb hu=>by
   simp only[zg,zf]at h;obtain⟨rfl,rfl⟩:=h;rw[updE_same]at hb;rcases hx b hb with g | g
   . have:=hi.lt b hu;omega
   . exact hi.out _ c0 hkm b g hu) (fun b hb=>by have:=hi.lt b hb;omega) (fun k' cs h=>by
   simp only[zg,zf]at h;exact absurd h.2.symm (hrow cs))
 have hdel:∀ (k':Nat) c,(k',c)∈af (ae [(k,Sb.c .any)] ch) k->(k',c)∈ae [(k,Sb.c .any)] (af ch k):=fun k' c h=>by
  have hnd:((ae [(k,Sb.c .any)] ch).map (·.1)).Nodup:=by rw[fj];exact hi.nd
  have hne:k'≠k:=fun e=>dZ hnd (e ▸ h)
  obtain⟨c1,g1,rfl⟩:=ik (eH h);refine jk ?_;have hm:(k',c1)∈am ch k c1:=dH (by rw[lZ,qa (fun e=>hne e.symm)];exact eR hi.nd g1);rcases fk hi.nd hm with g | g
  . exact absurd (congrArg Prod.fst g) hne
  . exact g
 have hnd:((ae [(k,Sb.c .any)] ch).map (·.1)).Nodup:=by rw[fj];exact hi.nd
 exact h1.chs (fun k' c hm=>by
  rcases fk hnd hm with h | h
  . rw[h];simp
  . exact zW.2 (.inr (hdel k' c h))) (by rw[fb (pR hl _),fj];exact hi.nd)
theorem Ev.freshNil (hi:Inv E U w.heap ch) (d:Nat) (x:KE) (c:Ch) (hxn:∀ b,¬ x.fp b) (hc:dM (dQ E d x) U w.heap d c) :
 Ev E U w ch [(d,.c .any)] d (dQ E d x) U w ((d,c) :: ae [(d,.c .any)] (af ch d)):=
 Ev.one hi d x c rfl rfl rfl (zw _) (fun _ _=>rfl) (fun b hb=>absurd hb (hxn b)) hc
theorem mN {t u ty e:TypeId} {i:TypeInfo} {y:Value} {n g off sLen sCap:Nat} {cur:Array Value} {nv:List Value} {e2:TypeId} (ht:P.underlying t=some (.slice e)) (hu:P.underlying u=some (.slice e2)) (hi:P.info? e=some i)
 (hg:w.heap[g]? = some (.cells cur e (0,0))) (hlen:(Builtin.lenOf y).run P w=.ok n w) (hf:(Builtin.firstCells i.size n y).run P w=.ok nv.toArray w) (h1:∀ u∈nv,u.oneCell'=true)
 (hroom:sLen+n<=sCap) (hfit:off+sLen*i.size+nv.length<=cur.size) :
 (Builtin.append_ #[t,u] ty #[.slice (some ⟨g,off,none⟩) sLen sCap,y]).run P w =
  .ok (.slice (some ⟨g,off,none⟩) (sLen+n) sCap) (w.setRow g (cur.toList.take (off+sLen*i.size)++nv++cur.toList.drop (off+sLen*i.size+nv.length)).toArray):=by
 have hst:=run_storeCells_at P g (off+sLen*i.size) e nv 0 cur w hg (by simpa using hfit) h1;simp only[zL]at hst;simp[Builtin.append_,run_underlying ht,run_underlying hu,sizeOf,typeInfo,hi,hlen,hroom,hf,Addr.add_lit,hst]
theorem jO {t u ty e:TypeId} {i:TypeInfo} {z y:Value} {n:Nat} {b:Option Addr} {sLen sCap:Nat} {olds nv:List Value} {e2:TypeId} (ht:P.underlying t=some (.slice e)) (hu:P.underlying u=some (.slice e2)) (hi:P.info? e=some i) (hz:i.zero=some z)
 (hlen:(Builtin.lenOf y).run P w=.ok n w) (hf:(Builtin.firstCells i.size n y).run P w.drew=.ok nv.toArray w.drew) (hfo:(Builtin.firstCells i.size sLen (.slice b sLen sCap)).run P w.drew=.ok olds.toArray w.drew)
 (hg:sCap < sLen+n) (h63:((sLen+n:Nat):Int)<=9223372036854775807) (hfit:Builtin.nextslicecap (sLen+n) sCap*i.bytes<=281474976710656) :
 (Builtin.append_ #[t,u] ty #[.slice b sLen sCap,y]).run P w =
  .ok (.slice (some ⟨w.heap.size,0,none⟩) (sLen+n) (grownCap w (sLen+n) sCap e))
   (w.drew.alloc (.cells (olds.toArray++nv.toArray++Builtin.zeroCells z.cells (grownCap w (sLen+n) sCap e - (sLen+n))) e)):=by
 have hn:¬ (sLen+n<=sCap):=by omega
 have h63':¬ (9223372036854775807 < ((sLen:Int)+(n:Int))):=by omega
 have h48':¬ (281474976710656 < Builtin.nextslicecap (sLen+n) sCap*i.bytes):=by omega
 simp[Builtin.append_,run_underlying ht,run_underlying hu,sizeOf,typeInfo,zeroValue,hi,hz,hlen,hn,h63',h48',Question.forced,hf,hfo,newRow,grownCap]
 congr 2
 apply Array.ext';simp[ye]
theorem pc {h:Array Obj} {sz:Nat} {es news:List (List C)} {f:Nat->Value} {olds nv:List Value}
 (hes:∀ (i:Nat) (e:List C),es[i]? = some e->e.length=sz) (hnews:∀ e∈news,e.length=sz)
 (h1:∀ (i:Nat) (e:List C) (j:Nat) (c:C),es[i]? = some e->e[j]? = some c->RepD U h c (olds.getD (i*sz+j) undef)/\(olds.getD (i*sz+j) undef).oneCell'=true)
 (h2:∀ (i:Nat) (e:List C) (j:Nat) (c:C),news[i]? = some e->e[j]? = some c->RepD U h c (nv.getD (i*sz+j) undef)/\(nv.getD (i*sz+j) undef).oneCell'=true)
 (hf1:∀ q,q < es.length*sz->f q=olds.getD q undef) (hf2:∀ q,q < news.length*sz->f (es.length*sz+q)=nv.getD q undef) :
 (∀ (i:Nat) (e:List C),(es++news)[i]? = some e->e.length=sz) /\
 ∀ (i:Nat) (e:List C) (j:Nat) (c:C),(es++news)[i]? = some e->e[j]? = some c->RepD U h c (f (i*sz+j))/\(f (i*sz+j)).oneCell'=true:=by
 have hl:∀ (i:Nat) (e:List C),(es++news)[i]? = some e->e.length=sz:=fun i e he=>by
  rw[zS]at he;split at he
  . exact hes i e he
  . exact hnews e (zp he)
 refine⟨hl,fun i e j c he hj=>?_⟩;have hj':j < sz:=by have:=(zi.1 hj).1;rwa[hl i e he]at this
 rw[zS]at he;split at he
 . rename_i hil;have hm2:(i+1)*sz<=es.length*sz:=zB sz (by omega);rw[zP,z8]at hm2;rw[hf1 _ (by omega)];exact h1 i e j c he hj
 . rename_i hil;have hil2:i - es.length < news.length:=(zi.1 he).1;have hm2:(i - es.length+1)*sz<=news.length*sz:=zB sz (by omega);rw[zP,z8]at hm2;have e1:i*sz+j=es.length*sz+((i - es.length)*sz+j):=by
    have:i=es.length+(i - es.length):=by omega
    rw[this,zP];simp;omega
   rw[e1,hf2 _ (by omega)];exact h2 _ e j c he hj
theorem gg {ρ:Operand->Value} {o:Oper} {b:Builtin} {args:Array Operand} {ts:Array TypeId} {v:Value} {w':World} (ho:o.op=.call { callee:=.builtin b,args:=args,argTypes:=ts })
 (h:∀ consts,(builtin b ts o.type consts (args.map ρ)).run P w=.ok (.value v) w'):(execOp ρ o).run P w=.ok (.value v) w':=by
 simp only[execOp,ho,resolve,invoke,Sem.run_bind,Sem.run_pure,Result.andThen_ok];exact h _
theorem pu {w:World} {need old:Nat} {e:TypeId} {sz:Nat} {olds nv:List Value} {z:Value} (hzs:z.cells.size=sz) (ho:(olds++nv).length=need*sz) :
 grownCap w need old e*sz<=(olds.toArray++nv.toArray++Builtin.zeroCells z.cells (grownCap w need old e - need)).size:=by
 have hge:=grownCap_ge w need old e;have e1:grownCap w need old e=need+(grownCap w need old e - need):=by omega
 simp only[Array.size_append,List.size_toArray,size_zeroCells,hzs];simp only[zK]at ho;have:grownCap w need old e*sz=need*sz+(grownCap w need old e - need)*sz:=by rw[<- zP,<- e1]
 omega
theorem mD {olds nv:List Value} {r:Array Value} {q:Nat} (hq:q < (olds++nv).length):(olds.toArray++nv.toArray++r).getD q undef=(olds++nv).getD q undef:=by
 simp only[zc,zb];rw[yx,qb (by simpa using hq)];simp
theorem oi {a:Act} {t u e e2:TypeId} {i:TypeInfo} {z:Value} {s x:Operand} {o:Oper} {y:KE0} {es news:List (List C)} {c:C} (hi:Inv E U w.heap ch)
 (ho:o.op=.call { callee:=.builtin .append,args:=#[s,x],argTypes:=#[t,u] }) (ht:P.underlying t=some (.slice e)) (hu:P.underlying u=some (.slice e2)) (hie:P.info? e=some i) (hz:i.zero=some z) (hzs:z.cells.size=i.size) (hpos:0 < i.size)
 (hs:a.eval s=slV y) (hrow:fa U w.heap y i.size e es) (hout:y.nil=false->∀ b,U b->b≠y.blk) (hx:Rep E U w.heap c (a.eval x)) (hc:aV ch i.size c=some news)
 (hbytes:(es.length+news.length)*i.bytes<=140737488355328) (h63:es.length+news.length<=9223372036854775807) :
 ∃ y' w1,(execOp a.eval o).run P w=.ok (.value (slV y')) w1/\fa U w1.heap y' i.size e (es++news)/\w1.os=w.os/\w1.tape=w.tape/\w1.output=w.output/\w.heap.size<=w1.heap.size /\
  (∀ b,b < w.heap.size->(y.nil=false->b≠y.blk)->w1.heap[b]? = w.heap[b]?)/\(y'.nil=false->(w.heap.size<=y'.blk/\y'.blk < w1.heap.size)\/(y.nil=false/\y'.blk=y.blk)):=by
 obtain⟨hsz,hlen,nv,hf,hnl,hnv,hn1⟩:=pl (P:=P) hi hx hc hpos;obtain⟨b1,b2,b3,b4⟩:=hrow;have hrun:∀ {v w'},(Builtin.append_ #[t,u] o.type #[a.eval s,a.eval x]).run P w=.ok v w'->(execOp a.eval o).run P w=.ok (.value v) w':=fun h=>
  gg ho (fun consts=>by simp only[builtin,List.map_toArray,zt,zR,Sem.run_bind,h,Result.andThen_ok,Sem.run_pure])
 have moved:∀ (olds:List Value) (bb:Option Addr) (sLen sCap:Nat),a.eval s=.slice bb sLen sCap->sLen=es.length->sCap < sLen+news.length->(∀ w':World,w'.heap=w.heap->(Builtin.firstCells i.size sLen (.slice bb sLen sCap)).run P w'=.ok olds.toArray w') ->
  olds.length=es.length*i.size->(∀ (n:Nat) (el:List C) (j:Nat) (c:C),es[n]? = some el->el[j]? = some c->RepD U w.heap c (olds.getD (n*i.size+j) undef)/\(olds.getD (n*i.size+j) undef).oneCell'=true) ->
  ∃ y' w1,(execOp a.eval o).run P w=.ok (.value (slV y')) w1/\fa U w1.heap y' i.size e (es++news)/\w1.os=w.os/\w1.tape=w.tape/\w1.output=w.output/\w.heap.size<=w1.heap.size /\
  (∀ b,b < w.heap.size->(y.nil=false->b≠y.blk)->w1.heap[b]? = w.heap[b]?)/\(y'.nil=false->(w.heap.size<=y'.blk/\y'.blk < w1.heap.size)\/(y.nil=false/\y'.blk=y.blk)):=by
  intro olds bb sLen sCap hv hsl hcap hfo hol hov;subst hsl;have hr:=jO (P:=P) (w:=w) (t:=t) (u:=u) (ty:=o.type) (z:=z) (b:=bb) ht hu hie hz hlen (hf w.drew rfl) (hfo w.drew rfl) hcap (by omega) (growslice_fits (by omega) hbytes);rw[<- hv]at hr;have hcm:grownCap w (es.length+news.length) sCap e<=maxLen:=grownCap_le_maxLen w _ sCap e (by simp only[maxLen];omega);have hge:=grownCap_ge w (es.length+news.length) sCap e;have hold:∀ b,b < w.heap.size->(w.drew.alloc (.cells (olds.toArray++nv.toArray++Builtin.zeroCells z.cells (grownCap w (es.length+news.length) sCap e - (es.length+news.length))) e)).heap[b]? = w.heap[b]?:=fun b hb=>RowKit.Below.heap_alloc w.drew _ b hb
  refine⟨⟨w.heap.size,0,grownCap w (es.length+news.length) sCap e,es.length+news.length,i.size,false⟩,_,hrun hr,?_,rfl,rfl,rfl,by simp,fun b hb _=>hold b hb,fun _=>.inl ⟨zw _,by simp⟩⟩;obtain⟨q1,q2⟩:=pc (f:=fun q=>(olds.toArray++nv.toArray++Builtin.zeroCells z.cells (grownCap w (es.length+news.length) sCap e - (es.length+news.length))).getD q undef) b3 hsz hov hnv
   (fun q hq=>by
    rw[mD (by simp;omega)];simp only[zb]
    rw[yj (by omega)])
   (fun q hq=>by
    rw[mD (by simp;omega)];simp only[zb];rw[List.getElem?_append_right (by omega)]
    congr 2;omega)
  refine⟨by simp,rfl,q1,.inr ⟨rfl,by simpa using hge,hcm,_,heap_alloc_new w.drew _,?_,fun n el j c0 he hj=>?_⟩⟩
  . simp only[zz];exact pu hzs (by simp only[zK,hol,hnl,<- zP])
  . obtain⟨r1,r2⟩:=q2 n el j c0 he hj;simp only[zz];exact⟨r1.mono (fun b hb=>⟨hb,hold b (hi.lt b hb)⟩),r2⟩
 rcases gh y with⟨hn,hv'⟩ | ⟨hn,hv'⟩
 ·
  have hv:=hs.trans hv';rcases b4 with⟨_,rfl⟩ | ⟨hn',_⟩
  . by_cases hne:news=[]
    . subst hne;have hr:(Builtin.append_ #[t,u] o.type #[a.eval s,a.eval x]).run P w=.ok (.slice none 0 0) w:=by
       have h0:=hf w rfl;rw[hv];simp only[yh]at hlen h0;simp[Builtin.append_,run_underlying ht,run_underlying hu,sizeOf,typeInfo,hie,hlen,h0]
      exact⟨⟨0,0,0,0,i.size,true⟩,w,hrun hr,⟨rfl,rfl,(fun n el h=>by simp at h),.inl ⟨rfl,rfl⟩⟩,rfl,rfl,rfl,zw _,fun _ _ _=>rfl,fun h=>by cases h⟩
    . have hnl0:0 < news.length:=by cases news with | nil=>exact absurd rfl hne | cons _ _=>simp
      exact moved [] none 0 0 hv rfl (by omega) (fun w' _=>by simp[Builtin.firstCells]) (by simp) (fun n el j c h=>by simp at h)
  . rw[hn]at hn';cases hn'
 . have hv:=hs.trans hv';rcases b4 with⟨hn',_⟩ | ⟨_,b5,b6,arr,b7,b8,b9⟩
   . rw[hn]at hn';cases hn'
   . have hcapm:es.length*i.size<=y.cap*i.size:=zB _ b5;by_cases hroom:es.length+news.length<=y.cap
     . have hm2:(es.length+news.length)*i.size<=y.cap*i.size:=zB _ hroom;rw[zP]at hm2;have hfit:y.off+es.length*i.size+nv.length<=arr.size:=by omega
       have hr:=mN (P:=P) (w:=w) (t:=t) (u:=u) (ty:=o.type) (sLen:=es.length) (sCap:=y.cap) (off:=y.off) ht hu hie b7 hlen (hf w rfl) hn1 hroom hfit;rw[b1]at hv;rw[<- hv]at hr;refine⟨⟨y.blk,y.off,y.cap,es.length+news.length,i.size,false⟩,_,hrun hr,?_,rfl,rfl,rfl,by simp[World.setRow],fun b hb hb2=>setRow_other w _ b _ (hb2 hn),fun _=>.inr ⟨hn,rfl⟩⟩;obtain⟨q1,q2⟩:=pc (f:=fun q=>((arr.toList.take (y.off+es.length*i.size)++nv++arr.toList.drop (y.off+es.length*i.size+nv.length)).toArray).getD (y.off+q) undef)
        (olds:=(List.range (es.length*i.size)).map fun q=>arr.getD (y.off+q) undef) b3 hsz
        (fun n el j c0 he hj=>by
         have hil:n < es.length:=(zi.1 he).1;have hj':j < i.size:=by have:=(zi.1 hj).1;rwa[b3 n el he]at this
         have hm3:(n+1)*i.size<=es.length*i.size:=zB _ (by omega);rw[zP,z8]at hm3;have e1:((List.range (es.length*i.size)).map fun q=>arr.getD (y.off+q) undef).getD (n*i.size+j) undef=arr.getD (y.off+n*i.size+j) undef:=by
          rw[zb,zh,yv (by omega)];simp[yG]
         rw[e1];exact b9 n el j c0 he hj) hnv
        (fun q hq=>by
         rw[iL hfit,qa (by omega),zb,zh,yv hq]
         simp)
        (fun q hq=>by
         rw[iL hfit,qb ⟨by omega,by omega⟩]
         congr 1;omega)
       refine⟨by simp,rfl,q1,.inr ⟨rfl,by simpa using hroom,b6,_,setRow_heap w _ arr _ e _ b7,by rw[jQ hfit];exact b8,fun n el j c0 he hj=>?_⟩⟩;obtain⟨r1,r2⟩:=q2 n el j c0 he hj;simp only[yG]at *;exact⟨r1.mono (fun b hb=>⟨hb,setRow_other w _ b _ (hout hn b hb)⟩),r2⟩
     . rw[b1]at hv;refine moved ((List.range (es.length*i.size)).map fun q=>arr.getD (y.off+q) undef) _ es.length y.cap hv rfl (by omega) (fun w' hw'=>?_) (by simp) (fun n el j c0 he hj=>?_)
       . simp only[Builtin.firstCells]
         exact run_loadCells w' ⟨y.blk,y.off,none⟩ (es.length*i.size) (fun q=>arr.getD (y.off+q) undef) (fun q hq=>by
          rw[Addr.add_lit,cell_of_row w' y.blk (y.off+q) arr e (0,0) (by rw[hw'];exact b7)];have hlt:y.off+q < arr.size:=by omega
          simp[zc,zj hlt])
       . have hil:n < es.length:=(zi.1 he).1;have hj':j < i.size:=by have:=(zi.1 hj).1;rwa[b3 n el he]at this
         have hm3:(n+1)*i.size<=es.length*i.size:=zB _ (by omega);rw[zP,z8]at hm3;have e1:((List.range (es.length*i.size)).map fun q=>arr.getD (y.off+q) undef).getD (n*i.size+j) undef=arr.getD (y.off+n*i.size+j) undef:=by
          rw[zb,zh,yv (by omega)];simp[yG]
         rw[e1];exact b9 n el j c0 he hj
theorem uk {a:Act} {t u e e2:TypeId} {i:TypeInfo} {z:Value} {s x:Operand} {o:Oper} {k:Nat} {es news:List (List C)} {c:C} {p:Prop} (hi:Inv E U w.heap ch)
 (ho:o.op=.call { callee:=.builtin .append,args:=#[s,x],argTypes:=#[t,u] }) (ht:P.underlying t=some (.slice e)) (hu:P.underlying u=some (.slice e2)) (hie:P.info? e=some i) (hz:i.zero=some z) (hzs:z.cells.size=i.size) (hpos:0 < i.size)
 (hs:Rep E U w.heap (.own k) (a.eval s)) (hl:lk ch k=some (.row i.size e es)) (hx:Rep E U w.heap c (a.eval x)) (hc:aV ch i.size c=some news)
 (hbytes:(es.length+news.length)*i.bytes<=140737488355328) (h63:es.length+news.length<=9223372036854775807) :
 dN P E U w ch d (execOp a.eval o) ⟨p,.own k,am (ae [(k,.c .any)] ch) k (.row i.size e (es++news)),[(k,.c .any)]⟩:=by
 obtain⟨hrow,hfp⟩:=hi.ok k _ (dH hl);have hown:(E k).nil=false->(E k).fp (E k).blk:=fun hn=>(hfp.fp _).2 (.inl ⟨hn,rfl⟩)
 obtain⟨y',w1,g1,g2,g3,g4,g5,g6,g7,g8⟩:=oi (P:=P) hi ho ht hu hie hz hzs hpos (eS hs) hrow (fun hn b hb e=>hi.out k _ (dH hl) b (e ▸ hown hn) hb) hx hc hbytes h63;refine⟨_,dQ E k (ke0 y'),U,_,.inl g1,?_,Ev.rekey hi hl g3 g4 g5 g6 (fun b hb hb2=>g7 b hb (fun hn e=>hb2 (e ▸ hown hn))) (fun b hb=>?_) (fun cs h=>by cases h) (fun hkeep=>?_) d⟩
 . have:=Rep.own (E:=dQ E k (ke0 y')) (U:=U) (h:=w1.heap) k;rw[updE_same]at this;exact this
 . obtain⟨hb1,rfl⟩:=hb;rcases g8 hb1 with h | ⟨h1,h2⟩
   . exact .inl h
   . exact .inr (by rw[h2];exact hown h1)
 . rw[dM,updE_same];exact⟨g2,gn _⟩
theorem uj {a:Act} {t u e e2:TypeId} {i:TypeInfo} {z:Value} {s x:Operand} {o:Oper} {news:List (List C)} {c:C} {p:Prop} (hi:Inv E U w.heap ch)
 (ho:o.op=.call { callee:=.builtin .append,args:=#[s,x],argTypes:=#[t,u] }) (ht:P.underlying t=some (.slice e)) (hu:P.underlying u=some (.slice e2)) (hie:P.info? e=some i) (hz:i.zero=some z) (hzs:z.cells.size=i.size) (hpos:0 < i.size)
 (hs:a.eval s=.slice none 0 0) (hx:Rep E U w.heap c (a.eval x)) (hc:aV ch i.size c=some news)
 (hbytes:news.length*i.bytes<=140737488355328) (h63:news.length<=9223372036854775807) :
 dN P E U w ch d (execOp a.eval o) ⟨p,.own d,(d,.row i.size e news) :: ae [(d,.c .any)] (af ch d),[(d,.c .any)]⟩:=by
 obtain⟨hsz,hlen,nv,hf,hnl,hnv,hn1⟩:=pl (P:=P) hi hx hc hpos;have hrun:∀ {v w'},(Builtin.append_ #[t,u] o.type #[a.eval s,a.eval x]).run P w=.ok v w'->(execOp a.eval o).run P w=.ok (.value v) w':=fun h=>
  gg ho (fun consts=>by simp only[builtin,List.map_toArray,zt,zR,Sem.run_bind,h,Result.andThen_ok,Sem.run_pure])
 by_cases hne:news=[]
 . subst hne;have hr:(Builtin.append_ #[t,u] o.type #[a.eval s,a.eval x]).run P w=.ok (.slice none 0 0) w:=by
    have h0:=hf w rfl;rw[hs];simp only[yh]at hlen h0;simp[Builtin.append_,run_underlying ht,run_underlying hu,sizeOf,typeInfo,hie,hlen,h0]
   let x':KE:=ke0 ⟨0,0,0,0,i.size,true⟩
   have hxk:dQ E d x' d=x':=updE_same E d x';refine⟨_,dQ E d x',U,_,.inl (hrun hr),by have:=Rep.own (E:=dQ E d x') (U:=U) (h:=w.heap) d;rw[hxk]at this;exact this,Ev.freshNil hi d x' _ (fun b hb=>by cases hb.1) ?_⟩;rw[dM,hxk];exact⟨⟨rfl,rfl,(fun n el h=>by simp at h),.inl ⟨rfl,rfl⟩⟩,gn _⟩
 . have hnl0:0 < news.length:=by cases news with | nil=>exact absurd rfl hne | cons _ _=>simp
   have hr:=jO (P:=P) (w:=w) (t:=t) (u:=u) (ty:=o.type) (z:=z) (b:=none) (sLen:=0) (sCap:=0) (olds:=[]) ht hu hie hz hlen (hf w.drew rfl) (by simp[Builtin.firstCells]) (by omega) (by omega) (growslice_fits (by omega) (by simpa using hbytes));rw[<- hs]at hr;have hcm:grownCap w (0+news.length) 0 e<=maxLen:=grownCap_le_maxLen w _ 0 e (by simp only[maxLen];omega);have hge:=grownCap_ge w (0+news.length) 0 e;refine qZ hi (([]:List Value).toArray++nv.toArray++Builtin.zeroCells z.cells (grownCap w (0+news.length) 0 e - (0+news.length))) e i.size (0+news.length) (grownCap w (0+news.length) 0 e) news _ (hrun hr) rfl rfl rfl rfl rfl (by simp) (by omega) hcm (pu hzs (by simp[hnl])) (fun n el h=>hsz el (zp h)) (fun n el j c0 he hj=>?_);have hil:n < news.length:=(zi.1 he).1;have hj':j < i.size:=by have:=(zi.1 hj).1;rwa[hsz el (zp he)]at this
   have hm3:(n+1)*i.size<=news.length*i.size:=zB _ (by omega);rw[zP,z8]at hm3;rw[mD (by simp;omega),yb];exact hnv n el j c0 he hj
theorem ir {k:IntKind} {n:Int} (h:InR k n):k.wrap n=n:=by
 cases k <;> simp only[InR]at h <;> simp[IntKind.wrap,IntKind.bits,IntKind.signed] <;> (try split) <;> omega
theorem kC {a b:ByteArray}:(a.toList == b.toList)=decide (a=b):=by
 rw[yH];simp only[beq_iff_eq,qf];constructor
 . intro h;rw[Go.ByteArray.toList_eq,Go.ByteArray.toList_eq]at h;exact ByteArray.ext (Array.toList_inj.1 h)
 . rintro rfl;rfl
theorem v6 {op:BinOp} {t:TypeId} {k:IntKind} {a b:Int} {q:Prop} {c:C} (h:bg op k a b=some (q,c)) (hq:q):∃ v,c=.s v/\(binOp op t (.int k a) (.int k b)).run P w=.ok v w:=by
 cases op <;> simp only[bg,zn,zf,reduceCtorEq]at h <;> obtain⟨rfl,rfl⟩:=h
 case add=>exact⟨_,rfl,by simp[binOp_add,Op.intArith,ir hq]⟩
 case sub=>exact⟨_,rfl,by simp[binOp_sub,Op.intArith,ir hq]⟩
 case mul=>exact⟨_,rfl,by simp[binOp_mul,Op.intArith,ir hq]⟩
 case quo=>exact⟨_,rfl,by simp[binOp_quo,Op.intDiv,hq.1,ir hq.2]⟩
 case rem=>exact⟨_,rfl,by simp[binOp_rem,Op.intDiv,hq]⟩
 case and=>exact⟨_,rfl,by simp[binOp_and,Op.intBits,li]⟩
 case or=>exact⟨_,rfl,by simp[binOp_or,Op.intBits,li]⟩
 case xor=>exact⟨_,rfl,by simp[binOp_xor,Op.intBits,li]⟩
 case andNot=>exact⟨_,rfl,by simp[binOp_andNot,Op.intBits,li]⟩
 case eql=>exact⟨_,rfl,by simp[binOp_eql];rfl⟩
 case neq=>exact⟨_,rfl,by simp[binOp_neq];rfl⟩
 case lss=>exact⟨_,rfl,by simp[binOp_lss]⟩
 case leq=>exact⟨_,rfl,by simp[binOp_leq]⟩
 case gtr=>exact⟨_,rfl,by simp[binOp_gtr]⟩
 case geq=>exact⟨_,rfl,by simp[binOp_geq]⟩
theorem j7 {op:BinOp} {t:TypeId} {x y:Operand} {k:IntKind} {a:Int} {v:Value}:eqGuard op t x y (.int k a) v=pure ():=by cases op <;> rfl
theorem rN {op:BinOp} {t:TypeId} {x y:Operand} {s:ByteArray} {v:Value}:eqGuard op t x y (.string s) v=pure ():=by cases op <;> rfl
theorem lA {op:BinOp} {t:TypeId} {x y:Operand} {s:Bool} {v:Value}:eqGuard op t x y (.bool s) v=pure ():=by cases op <;> rfl
theorem op_bin {a:Act} {o:Oper} {op:BinOp} {t yt:TypeId} {x y:Operand} {cx cy c:C} {p q:Prop} (hi:Inv E U w.heap ch) (ho:o.op=.binOp op t x y yt) (hx:Rep E U w.heap cx (a.eval x)) (hy:Rep E U w.heap cy (a.eval y))
 (h:cj op cx cy=some (q,c)) (hq:q):dN P E U w ch d (execOp a.eval o) ⟨p,c,ch,[]⟩:=by
 have fin:∀ (u v r:Value),a.eval x=u->a.eval y=v->(∀ v',eqGuard op t x y u v'=pure ())->c=.s r->(binOp op t u v).run P w=.ok r w->dN P E U w ch d (execOp a.eval o) ⟨p,c,ch,[]⟩:=by
  intro u v r h1 h2 h3 h4 h5;subst h4;refine dF hi ?_ (.d (.s r));simp[execOp,ho,h1,h2,h3,h5]
 unfold cj at h;split at h
 . rename_i k a' k' b';simp only[zn,zf]at h;obtain⟨rfl,rfl⟩:=h;refine fin _ _ _ (dK hx) (dK hy) (fun _=>j7) rfl ?_;have:¬ (b' < 0):=by have:=hq.1;omega
   simp[binOp_shl,Op.shift,this,ir hq.2]
 . rename_i k a' k' b';simp only[zn,zf]at h;obtain⟨rfl,rfl⟩:=h;refine fin _ _ _ (dK hx) (dK hy) (fun _=>j7) rfl ?_;have:¬ (b' < 0):=by omega
   simp[binOp_shr,Op.shift,this]
 . rename_i k a' k' b' _ _;split at h
   . rename_i hk;subst hk;obtain⟨v,rfl,hr⟩:=v6 (P:=P) (w:=w) (t:=t) h hq;exact fin _ _ _ (dK hx) (dK hy) (fun _=>j7) rfl hr
   . cases h
 . rename_i s1 s2;refine fin _ _ (match c with | .s v=>v | _=>undef) (dK hx) (dK hy) (fun _=>rN) ?_ ?_ <;> cases op <;> simp only[cD,zn,zf,reduceCtorEq]at h <;> obtain⟨rfl,rfl⟩:=h <;> try rfl
   . have hq':¬ (((s1.size+s2.size:Nat):Int) > IntKind.i64.max):=by simp only[IntKind.max_i64];omega
     simp only[binOp,Op.stringOp,qa hq',Sem.run_pure]
   . simp[binOp,Op.stringOp,kC]
   . simp[binOp,Op.stringOp,kC]
 . cases h
theorem ul {a:Act} {o:Oper} {neg:Bool} {t yt:TypeId} {x y:Operand} {b1 b2:Bool} {p:Prop} (hi:Inv E U w.heap ch) (ho:o.op=.binOp (if neg then .neq else .eql) t x y yt) (ht:P.underlying t=some .bool)
 (hx:a.eval x=.bool b1) (hy:a.eval y=.bool b2):dN P E U w ch d (execOp a.eval o) ⟨p,.s (.bool (if neg then !(decide (b1=b2))else decide (b1=b2))),ch,[]⟩:=by
 refine dF hi ?_ (.d (.s _));have he:∀ D,(Op.equalIn (D+1) t (.bool b1) (.bool b2)).run P w=.ok (b1 == b2) w:=fun D=>by simp[Op.equalIn,run_underlying ht]
 have hb:(b1 == b2)=decide (b1=b2):=by cases b1 <;> cases b2 <;> rfl
 cases neg with
 | false=>simp[execOp,ho,hx,hy,lA,binOp,Op.equal,Op.maxDepth,he 9999,hb]
 | true=>simp[execOp,ho,hx,hy,lA,binOp,Op.equal,Op.maxDepth,he 9999,hb]
theorem op_neg {a:Act} {o:Oper} {t:TypeId} {x:Operand} {k:IntKind} {n:Int} {p:Prop} (hi:Inv E U w.heap ch) (ho:o.op=.unOp .neg t x) (hx:a.eval x=.int k n) (hr:InR k (-n)):dN P E U w ch d (execOp a.eval o) ⟨p,.s (.int k (-n)),ch,[]⟩:=by
 refine dF hi ?_ (.d (.s _));have:=ir hr;simp[execOp,ho,hx,Op.unary,Op.intArith,this]
theorem op_not {a:Act} {o:Oper} {t:TypeId} {x:Operand} {b:Bool} {p:Prop} (hi:Inv E U w.heap ch) (ho:o.op=.unOp .not t x) (hx:a.eval x=.bool b):dN P E U w ch d (execOp a.eval o) ⟨p,.s (.bool (!b)),ch,[]⟩:=
 dF hi (by simp[execOp,ho,hx,Op.unary]) (.d (.s _))
theorem op_cvi {a:Act} {o:Oper} {src dst:TypeId} {x:Operand} {k0 k k':IntKind} {n:Int} {p:Prop} (hi:Inv E U w.heap ch) (ho:o.op=.convert src dst x) (h1:P.underlying src=some (.int k0)) (h2:P.underlying dst=some (.int k))
 (hx:a.eval x=.int k' n) (hr:InR k n):dN P E U w ch d (execOp a.eval o) ⟨p,.s (.int k n),ch,[]⟩:=
 dF hi (by simp[execOp,ho,hx,convert,run_underlying h1,run_underlying h2,Conv.intToInt,ir hr]) (.d (.s _))
theorem um {a:Act} {o:Oper} {t e:TypeId} {i:TypeInfo} {z:Value} {l c:Operand} {k1 k2:IntKind} {n m:Int} {p:Prop} (hi:Inv E U w.heap ch) (ho:o.op=.makeSlice t l c) (ht:P.underlying t=some (.slice e)) (hie:P.info? e=some i) (hz:i.zero=some z)
 (hzs:z.cells.size=i.size) (hl:a.eval l=.int k1 n) (hc:a.eval c=.int k2 m) (h:0<=n/\n=m/\n*i.bytes<=140737488355328/\n<=9223372036854775807) (h1:z.cells.toList.all (·.oneCell')=true) :
 dN P E U w ch d (execOp a.eval o) ⟨p,.own d,(d,.row i.size e (List.replicate n.toNat (z.cells.toList.map .s))) :: ae [(d,.c .any)] (af ch d),[(d,.c .any)]⟩:=by
 obtain⟨h0,rfl,hb,hm⟩:=h;have hw:IntKind.i64.wrap n=n:=ir (k:=.i64) (by simp only[InR];omega);have hb1:¬ (n < 0):=by omega
 have hb2:¬ ((i.bytes:Int)*n > 2 ^ 48):=by rw[Int.mul_comm];omega
 let zero:Array Value:=if n.toNat*i.size=0 then #[]else z.cells
 have hrow:=iQ (U:=U) (h:=w.heap) z.cells.toList i.size n.toNat (by simpa using hzs) h1 zero (fun h=>by simp[zero,h]);have hrun:(execOp a.eval o).run P w=.ok (.value (.slice (some ⟨w.heap.size,0,none⟩) n.toNat n.toNat)) (w.alloc (.cells ((Array.range (n.toNat*i.size)).map (zero[· % zero.size]!)) e)):=by
  simp only[execOp,ho,hl,hc,Instr.makeSlice,run_underlying ht,asInt,asIntOf,Sem.run_bind,Sem.run_pure,Result.andThen_ok,typeInfo,run_program,hie,hw];have c1:((decide (n < 0) || decide ((i.bytes:Int)*n > 2 ^ 48)) || decide (n < 0) || decide (n > n))=false:=by
   simp[hb1];omega
  rw[qa (by rw[c1];simp)];by_cases hz0:n.toNat*i.size=0
  . simp[zero,hz0,sizeOf,typeInfo,hie,newRow]
  . simp[zero,hz0,sizeOf,typeInfo,hie,newRow,zeroValue,hz]
 exact jV hi hrun hrow (by simp) (by simp only[maxLen];omega)
def mkK (y:KE0) (inn:Nat->KE0) (I:j5):KE:=
 { y with inn:=inn,fp:=fun b=>(y.nil=false/\y.blk=b)\/∃ i q,I i=some q/\(inn i).nil=false/\(inn i).blk=b }
theorem nM {y:KE0} {inn:Nat->KE0} {I:j5} (h1:∀ i q,I i=some q->(inn i).nil=false->y.nil=false->(inn i).blk≠y.blk)
 (h2:∀ i j q q',i≠j->I i=some q->I j=some q'->(inn i).nil=false->(inn j).nil=false->(inn i).blk≠(inn j).blk):FpOk (mkK y inn I) I:=⟨fun b=>Iff.rfl,h1,h2⟩
def eN (i:Nat):Ch->Ch
 |.box cs=>.box (cs.set i .any)
 |.deep n t ty _ rows=>.deep n t ty (some i) rows
 | c=>c
theorem lF {k i n:Nat} {t:TypeId} {es:List (List C)} {p:Prop} {ch':Chs} (h:aN ch k i=some (p,n,t,es)) (hp:p) (hh:aM ch k i=some ch') :
 ∃ c0,lk ch k=some c0/\chI c0 i=some (n,t,es)/\ch'=am ch k (eN i c0)/\(∀ j,chI (eN i c0) j=if j=i then none else chI c0 j)/\(∀ R,c0≠.res R)/\(∀ n t ty hole rows,c0=.deep n t ty hole rows->hole=none):=by
 obtain⟨c0,h1,h2,_,h4⟩:=gL h hp;refine⟨c0,h1,h2,?_,?_,h4,?_⟩
 . unfold aM at hh;rw[h1]at hh;cases c0 with
   | box cs=>
    simp only at hh;split at hh
    . cases hh;rfl
    . cases hh
   | deep n' t' ty hole rows=>
    cases hole with
    | none=>simp at hh;rw[<- hh];rfl
    | some j=>simp at hh
   |_=>cases h2
 . intro j;cases c0 with
   | box cs=>
    simp only[eN,chI,eK,zJ];by_cases hj:j=i
    . subst hj;simp only[qj];split
      . rfl
      . rfl
    . rw[qa (fun e=>hj e.symm),qa hj]
   | deep n' t' ty hole rows=>
    unfold aM at hh;rw[h1]at hh;cases hole with
    | none=>
     simp only[eN,chI,eh];by_cases hj:j=i
     . subst hj;simp
     . have:¬ (some i=some j):=fun e=>hj (by cases e;rfl)
       simp[hj,this]
    | some j=>simp at hh
   |_=>cases h2
 . rintro n' t' ty hole rows rfl
   unfold aM at hh;rw[h1]at hh;cases hole with
   | none=>rfl
   | some j=>simp at hh
theorem iR.of_sub {E':Env} {U':Nat->Prop} {h h':Array Obj} {m:List (Nat×Sb)} (hs:∀ k c',m.lookup k=some (.c c')->∀ v,Rep E U h (.own k) v->Rep E' U' h' c' v):iR m:=fun k x hx=>by
 have:=hs k x hx _ (.own k);cases x <;> first | rfl | exact absurd this gW
theorem dM.hole {k i:Nat} {q:Nat×TypeId×List (List C)} {c0:Ch} {h h':Array Obj} {E':Env} {m:List (Nat×Sb)} (hc:dM E U h k c0) (hI:chI c0 i=some q) (hH:∀ j,chI (eN i c0) j=if j=i then none else chI c0 j)
 (hk:∀ b,U b->U b/\h'[b]? = h[b]?) (hrep:∀ c v,Rep E U h c v->Rep E' U h' (ah m c) v) (hm:iR m) (hx1:(E' k).toKE0=(E k).toKE0) (hx2:(E' k).inn=(E k).inn) (hx3:FpOk (E' k) (chI (eN i c0)))
 (hno:∀ n t ty hole rows,c0=.deep n t ty hole rows->hole=none)
 (hb:∀ b,(E k).fp b->(((E k).inn i).nil=false->b≠((E k).inn i).blk)->h'[b]? = h[b]?):dM E' U h' k (ec m (eN i c0)):=by
 have hr:∀ R,c0≠.res R:=by rintro R rfl;cases hI
 obtain⟨hf,hin⟩:=hc.inns hr;have hin':jB U h' (E' k) (chI (eN i c0)):=fun j n' t' es0 hj=>by
  rw[hH]at hj;split at hj
  . cases hj
  . rename_i hne;rw[hx2];exact (hin j n' t' es0 hj).mono hk (fun hn=>hb _ ((hf.fp _).2 (.inr ⟨j,_,hj,hn,rfl⟩)) (fun hn'=>hf.sep j i _ _ hne hj hI hn hn'))
 have hmain:(E k).nil=false->h'[(E k).blk]? = h[(E k).blk]?:=fun hn=>hb _ ((hf.fp _).2 (.inl ⟨hn,rfl⟩)) (fun hn'=>(hf.ne i _ hI hn' hn).symm)
 have e1:(E' k).nil=(E k).nil:=by rw[hx1]
 have e2:(E' k).blk=(E k).blk:=by rw[hx1]
 cases c0 with
 | box cs=>
  obtain⟨⟨hn,arr,ty,b1,b2,b3⟩,_,_⟩:=hc;simp only[eN,chI]at hx3 hin';simp only[eN,ec,dM,kD hm];refine⟨⟨by rw[e1];exact hn,arr,ty,by rw[e2];exact (hmain hn).trans b1,by simpa using b2,fun j c hj=>?_⟩,hx3,hin'⟩;simp only[zh,za]at hj;obtain⟨c1,hj,rfl⟩:=hj;rw[zJ]at hj;split at hj
  . rename_i e;subst e;split at hj
    . rename_i hlt;cases hj;rcases b3 i _ (ze hlt)with⟨_,r2⟩ | ⟨_,r2⟩
      . exact .inl ⟨.d (.any _),r2⟩
      . exact .inl ⟨.d (.any _),by rw[r2];exact gu _⟩
    . cases hj
  . rcases b3 j c1 hj with⟨r1,r2⟩ | ⟨⟨n,t,es,rfl⟩,r2⟩
    . exact .inl ⟨hrep _ _ r1,r2⟩
    . exact .inr ⟨⟨n,t,es,rfl⟩,by rw[hx2];exact r2⟩
 | deep n' t' ty hole rows=>
  obtain⟨⟨b1,b2,b3⟩,_,_⟩:=hc;simp only[eN,ec,dM]at hx3 hin' ⊢;refine⟨⟨by rw[hx1];exact b1,by rw[hx1];exact b2,?_⟩,hx3,hin'⟩;have hnone:=hno _ _ _ _ _ rfl;subst hnone;rcases b3 with⟨b3,rfl⟩ | ⟨b3,b4,b5,arr,b6,b7,b8⟩
  . exact .inl ⟨by rw[e1];exact b3,rfl⟩
  . have e3:(E' k).cap=(E k).cap:=by rw[hx1]
    have e4:(E' k).off=(E k).off:=by rw[hx1]
    refine .inr ⟨by rw[e1];exact b3,by rw[e3];exact b4,by rw[e3];exact b5,arr,by rw[e2];exact (hmain b3).trans b6,by rw[e3,e4];exact b7,fun j hj=>?_⟩;rw[hx2,e4];exact⟨(b8 j hj).1,fun _=>(b8 j hj).2 (by simp)⟩
 |_=>cases hI
theorem jL {t:Chs} {k k':Nat} {j:Nat} {c:Ch} (hn:(t.map (·.1)).Nodup) (h:(j,c)∈af (af t k) k'):(j,c)∈t/\j≠k/\j≠k':=by
 have hn2:=fq (d:=k) hn;exact⟨eH (eH h),fun e=>dZ hn (e ▸ eH h),fun e=>dZ hn2 (e ▸ h)⟩
theorem ij {t:Chs} {k j:Nat} {c:Ch} (hn:(t.map (·.1)).Nodup) (h:(j,c)∈t) (hne:j≠k):(j,c)∈af t k:=by
 have hm:(j,c)∈am t k c:=dH (by rw[lZ,qa (fun e=>hne e.symm)];exact eR hn h);rcases fk hn hm with g | g
 . exact absurd (congrArg Prod.fst g) hne
 . exact g
end Go.Am
end
