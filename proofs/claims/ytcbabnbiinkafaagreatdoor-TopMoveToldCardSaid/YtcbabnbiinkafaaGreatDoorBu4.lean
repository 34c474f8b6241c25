/- Part 4 of the proof of: the statements about chapter 8 -/
import Derived.RangeFuncLeaves
import Derived.TacticsIn
import Derived.OrdersIn
import Derived.Test.YtcbabnbiinkafaaGreatDoorBu3
set_option linter.all false
set_option maxHeartbeats 8000000
set_option maxRecDepth 100000
section
namespace Go.Am
variable {P : Program} {E : Env} {U : Nat → Prop} {w : World} {ch : Chs} {d : Nat}
theorem vk {cs ds:List C} {b:Bool} (h:aQ [0,0] cs ds=some b):∃ k a b0 k1 a1 b1,cs=[.s (.int k a),.s (.int k1 a1)]/\ds=[.s (.int k b0),.s (.int k1 b1)]/\b=(decide (a=b0) && decide (a1=b1)):=by
 unfold aQ at h;split at h
 . rename_i hk;cases hk
 . rename_i hk;cases hk;split at h
   . rename_i e1;subst e1;simp only[za]at h;obtain⟨b2,h,rfl⟩:=h;unfold aQ at h;split at h
     . rename_i hk;cases hk
     . rename_i hk;cases hk;split at h
       . rename_i e1;subst e1;simp only[za]at h;obtain⟨b3,h,rfl⟩:=h;unfold aQ at h;split at h
         . cases h;exact⟨_,_,_,_,_,_,rfl,rfl,by simp⟩
         . rename_i hk;cases hk
         . rename_i hk;cases hk
         . rename_i hk;cases hk
         . cases h
       . cases h
     . rename_i hk;cases hk
     . rename_i hk;cases hk
     . cases h
   . cases h
 . rename_i hk;cases hk
 . rename_i hk;cases hk
 . cases h
theorem vZ {h:Array Obj} {t e:TypeId} {xs ys:Array Value} {cs ds:List C} {b:Bool} (hu:P.underlying t=some (.array 2 e)) (hk:iD P e=some 0) (hz:eq P e=some 1) (hb:aQ [0,0] cs ds=some b) (hx:xs.size=cs.length) (hy:ys.size=ds.length)
 (h1:∀ (j:Nat) c,cs[j]? = some c->Rep E U h c (xs.getD j undef)) (h2:∀ (j:Nat) c,ds[j]? = some c->Rep E U h c (ys.getD j undef)):(Op.equalIn 10000 t (.agg xs) (.agg ys)).run P w=.ok b w:=by
 obtain⟨i,hi,hsz⟩:∃ i,P.info? e=some i/\i.size=1:=by
  simp only[eq,za]at hz;exact hz
 obtain⟨kk,hui⟩:∃ kk,P.underlying e=some (.int kk):=by
  unfold iD at hk;split at hk
  . exact⟨_,by assumption⟩
  all_goals simp at hk
 have hce:P.cellsOf e=1:=by simp[Program.cellsOf,hi,hsz]
 obtain⟨k,a,b0,k1,a1,b1,rfl,rfl,rfl⟩:=vk hb;have q1:=dK (h1 0 _ rfl);have q2:=dK (h1 1 _ rfl);have q3:=dK (h2 0 _ rfl);have q4:=dK (h2 1 _ rfl);have p1:=iq (P:=P) (w:=w) hk (gq (xs:=xs) (j:=0) (by rw[hx];simp));have p2:=iq (P:=P) (w:=w) hk (gq (xs:=xs) (j:=1) (by rw[hx];simp));have p3:=iq (P:=P) (w:=w) hk (gq (xs:=ys) (j:=0) (by rw[hy];simp));have p4:=iq (P:=P) (w:=w) hk (gq (xs:=ys) (j:=1) (by rw[hy];simp));rw[q1]at p1;rw[q2]at p2;rw[q3]at p3;rw[q4]at p4;rw[run_equalIn_array w 9999 xs ys hu hi,hce];have er:List.range 2=[0,1]:=rfl;have hq:∀ (kq:IntKind) (x y:Int),(Op.equalIn 9999 e (.int kq x) (.int kq y)).run P w=.ok (decide (x=y)) w:=fun kq x y=>by
  unfold Op.equalIn;simp only[Sem.run_bind,run_underlying hui,Result.andThen_ok,qj,Sem.run_pure];rfl
 rw[er];simp only[Op.eqItems,Nat.zero_mul,yA,Sem.run_bind,p1,p2,p3,p4,hq,Result.andThen_ok];by_cases ha:a=b0
 . by_cases hc:a1=b1 <;> simp[ha,hc,hq,p2,p4]
 . simp[ha]
theorem su {m:Bool} {k:IntKind}:∀ (l:List C) (vs:List Value) (a r:Int) {h:Array Obj},cI m k a l=some r->vs.length=l.length->(∀ (j:Nat) c v,l[j]? = some c->vs[j]? = some v->Rep E U h c v) ->
 (vs.foldlM (if m then Builtin.max2 else Builtin.min2) (.int k a)).run P w=.ok (.int k r) w
 |[],vs,a,r,h,hm,hl,_=>by
  have:vs=[]:=by simpa using hl
  subst this;simp[cI]at hm;subst hm;simp
 | c :: l,[],a,r,h,hm,hl,_=>by simp at hl
 | c :: l,v :: vs,a,r,h,hm,hl,hv=>by
  unfold cI at hm;split at hm
  . rename_i hc;cases hc
  . rename_i k' b l' hc;cases hc;split at hm
    . rename_i hk;subst hk;have e:=dK (hv 0 _ v rfl rfl);subst e;have ih:=su l vs (dz m a b) r (h:=h) hm (by simpa using hl) (fun j c v h1 h2=>hv (j+1) c v (by simpa using h1) (by simpa using h2));simp only[List.foldlM_cons,Sem.run_bind];cases m with
      | true=>simp only[qj,Builtin.max2,Sem.run_pure,Result.andThen_ok]at ih ⊢;exact ih
      | false=>simp only[zr,qi,Builtin.min2,Sem.run_pure,Result.andThen_ok]at ih ⊢;exact ih
    . cases hm
  . cases hm
theorem nU {op:BinOp} {a b x:Nat} (h:fy op a b=some x):(Op.floatArith op .f64 a b).run P w=.ok (.float .f64 x) w:=by
 unfold fy at h;split at h
 all_goals first | (cases h;done) | simp[Op.floatArith,h]
theorem gX {op:BinOp} {a b x:Nat} (h:fy op a b=some x):(Op.Complex.arith op .f64 a b).run P w=.ok x w:=by
 simp[Op.Complex.arith,nU h]
theorem sZ {op:BinOp} {a b c d x y:Nat} (h:bJ op a b c d=some (x,y)):(Op.complexOp op .f64 a b c d).run P w=.ok (.complex .f64 x y) w:=by
 unfold bJ at h;split at h
 . simp only[zk,za,zf]at h;obtain⟨x',h1,y',h2,rfl,rfl⟩:=h;simp[Op.complexOp,gX h1,gX h2]
 . simp only[zk,za,zf]at h;obtain⟨x',h1,y',h2,rfl,rfl⟩:=h;simp[Op.complexOp,gX h1,gX h2]
 . simp only[zk,za,zf]at h;obtain⟨ac,h1,bd,h2,ad,h3,bc,h4,x',h5,y',h6,rfl,rfl⟩:=h;simp[Op.complexOp,Op.Complex.conv,Op.Complex.product,Op.Complex.mul,Op.Complex.sub,Op.Complex.add,gX h1,gX h2,gX h3,gX h4,gX h5,gX h6]
 . cases h
theorem mj {t:TypeId} {fs:Array Field} (h:P.underlying t=some (.struct fs)):P.fieldsOf t=fs:=by simp[Program.fieldsOf,h]
theorem args1 {args:Array Operand} {x:Operand} (h:args.toList=[x]):args=#[x]:=by cases args;simp at h;simp[h]
theorem mY : ∀ {es:List (List C)} {xs:List Int},mX es=some xs->xs.length=es.length/\∀ i,i < es.length->es[i]? = some [.s (.int .u8 (xs.getD i 0))]
 |[],xs,h=>by cases h;exact⟨rfl,fun i hi=>(by simp at hi)⟩
 | e :: es,xs,h=>by
  unfold mX at h;split at h
  . rename_i hq;cases hq
  . rename_i n es' hq;cases hq;simp only[za]at h;obtain⟨ys,h1,rfl⟩:=h;obtain⟨g1,g2⟩:=mY h1;refine⟨by simp[g1],fun i hi=>?_⟩;cases i with
    | zero=>rfl
    | succ i=>simpa using g2 i (by simpa using hi)
  . cases h
theorem ext_ok {a:Act} {o:Oper} {e:Ext} {aS:List Operand} {ρ:Operand->C} {q p:Prop} {c:C} (hi:Inv E U w.heap ch) (hρ:∀ x,Rep E U w.heap (ρ x) (a.eval x)) (hc:lT P o.op=some (e,aS)) (he:aA ch e (aS.map ρ)=some (q,c)) (hq:q) :
 dN P E U w ch d (execOp a.eval o) ⟨p,c,ch,[]⟩:=by
 cases ho:o.op <;> rw[ho]at hc <;> simp only[lT,reduceCtorEq]at hc
 case binOp op t x y yt=>
  split at hc
  . rename_i fields hu;split at hc
    . rename_i hg;simp only[zm,yC]at hg;have main:∀ (neg:Bool) ks,gr P 0 fields.toList=some ks->aA ch (.eqs neg ks) [ρ x,ρ y]=some (q,c)->op=(if neg then .neq else .eql)->dN P E U w ch d (execOp a.eval o) ⟨p,c,ch,[]⟩:=by
       intro neg ks hks hx hop;simp only[aA]at hx;split at hx
       rotate_left
       . cases hx
       rename_i cs ds h2;have h2:=List.cons.inj h2;have h3:=(List.cons.inj h2.2).1;simp only[za,zf]at hx;obtain⟨b,hb,rfl,rfl⟩:=hx;obtain⟨xs,e1,e2,e3,_⟩:=il (h2.1 ▸ hρ x);obtain⟨ys,g1,g2,g3,_⟩:=il (h3 ▸ hρ y);have hf:=lM (P:=P) (w:=w) (E:=E) (U:=U) (h:=w.heap) 9998 xs ys fields.toList 0 ks cs ds b hks hb (by rw[e2];simp) (by rw[g2];simp) (fun j c hj=>by simpa using e3 j c hj) (fun j c hj=>by simpa using g3 j c hj);have hs:=run_equalIn_struct (P:=P) w 9999 t xs ys (by rw[mj hu];exact hu) hg.1;rw[mj hu,hf]at hs;have hgd:∀ op,(eqGuard op t x y (.agg xs) (.agg ys)).run P w=.ok () w:=fun op=>run_eqGuard_agg w op t x y xs ys hg.2
       refine dF hi ?_ (.d (.s _));subst hop;cases neg with
       | false=>simp[execOp,ho,e1,g1,hgd,run_eql_struct,hs]
       | true=>simp[execOp,ho,e1,g1,hgd,run_neq_struct,hs]
      split at hc
      . rename_i ks hk;cases hc;exact main false ks hk he rfl
      . rename_i ks hk;cases hc;exact main true ks hk he rfl
      . cases hc
    . cases hc
  . rename_i el hu;unfold tg at hc;split at hc
    . rename_i hg;simp only[zm,yC,beq_iff_eq]at hg;have main:∀ (neg:Bool),aA ch (.eqs neg [0,0]) [ρ x,ρ y]=some (q,c)->op=(if neg then .neq else .eql)->dN P E U w ch d (execOp a.eval o) ⟨p,c,ch,[]⟩:=by
       intro neg hx hop;simp only[aA]at hx;split at hx
       rotate_left
       . cases hx
       rename_i cs ds h2;have h2:=List.cons.inj h2;have h3:=(List.cons.inj h2.2).1;simp only[za,zf]at hx;obtain⟨b,hb,rfl,rfl⟩:=hx;obtain⟨xs,e1,e2,e3,_⟩:=il (h2.1 ▸ hρ x);obtain⟨ys,g1,g2,g3,_⟩:=il (h3 ▸ hρ y);obtain⟨hg1,rfl,hg2,hg3⟩:=hg;have hs:=vZ (w:=w) hu hg2 hg3 hb e2 g2 e3 g3;have hgd:∀ op,(eqGuard op t x y (.agg xs) (.agg ys)).run P w=.ok () w:=fun op=>run_eqGuard_agg w op t x y xs ys hg1
       refine dF hi ?_ (.d (.s _));subst hop;cases neg with
       | false=>simp[execOp,ho,e1,g1,hgd,run_eql_struct,hs]
       | true=>simp[execOp,ho,e1,g1,hgd,run_neq_struct,hs]
      split at hc
      . cases hc;exact main false he rfl
      . cases hc;exact main true he rfl
      . cases hc
    . cases hc
  . rename_i el hu;have main:∀ (neg:Bool),y=.const (.slice none 0 0)->aA ch (.isnil neg) [ρ x]=some (q,c)->op=(if neg then .neq else .eql)->dN P E U w ch d (execOp a.eval o) ⟨p,c,ch,[]⟩:=by
     intro neg hy hx hop;have fin:∀ (ad:Option Addr) (l cap:Nat),a.eval x=.slice ad l cap->c=.s (.bool (if neg then !ad.isNone else ad.isNone))->dN P E U w ch d (execOp a.eval o) ⟨p,c,ch,[]⟩:=by
      intro ad l cap h1 h2;subst h2 hy;have hey:a.eval (.const (.slice none 0 0))=.slice none 0 0:=rfl;have hgd:∀ op,eqGuard op t x (.const (.slice none 0 0)) (.slice ad l cap) (.slice none 0 0)=pure ():=fun op=>by cases op <;> rfl
      refine dF hi ?_ (.d (.s _));subst hop;cases neg with
      | false=>simp[execOp,ho,h1,hey,hgd,binOp,run_equal_slice_nil w t el ad l cap hu]
      | true=>simp[execOp,ho,h1,hey,hgd,run_neq_slice_nil w t el ad l cap hu]
     simp only[aA]at hx;split at hx
     . rename_i h2;have h2:=(List.cons.inj h2).1;cases hx;refine fin none 0 0 (dK (h2 ▸ hρ x)) ?_;cases neg <;> rfl
     . rename_i n e0 es h2;have h2:=(List.cons.inj h2).1;cases hx;have hr:=ji (h2 ▸ hρ x);generalize hv:a.eval x=v at hr;cases hr with
       | sl _ b off cap sz arr ty fz vf hU hb hcap hmax hsz hv hr=>
        refine fin _ _ _ hv ?_;cases neg <;> rfl
     . rename_i k h2;have h2:=(List.cons.inj h2).1;split at hx
       . rename_i n ty e0 es hl;cases hx;have hck:=hi.ok k _ (dH hl);obtain⟨⟨_,_,_,hn | hn⟩,_⟩:=hck
         . exact absurd hn.2 (by simp)
         . rcases iP (h2 ▸ hρ x)with⟨hn2,hv⟩ | ⟨hn2,hv⟩
           . rw[hn.1]at hn2;cases hn2
           . refine fin _ _ _ hv ?_;cases neg <;> rfl
       . cases hx
     . cases hx
    split at hc
    . cases hc;exact main false rfl he rfl
    . cases hc;exact main true rfl he rfl
    . cases hc
  . cases hc;simp only[aA,zt,zR]at he;split at he
    rotate_left
    . cases he
    rename_i a1 b1 c1 d1 h2;have h2:=List.cons.inj h2;have h3:=(List.cons.inj h2.2).1;simp only[za,zf,Prod.exists]at he;obtain⟨x',y',hb,rfl,rfl⟩:=he;have r1:=dK (h2.1 ▸ hρ x);have r2:=dK (h3 ▸ hρ y);have hgd:eqGuard op t x y (.complex .f64 a1 b1) (.complex .f64 c1 d1)=pure ():=by cases op <;> rfl
    have hbin:binOp op t (.complex .f64 a1 b1) (.complex .f64 c1 d1)=Op.complexOp op .f64 a1 b1 c1 d1:=by cases op <;> simp[binOp]
    exact dF hi (by simp[execOp,ho,r1,r2,hgd,hbin,sZ hb]) (.d (.s _))
  . cases hc;simp only[aA,zt,zR]at he;split at he
    rotate_left
    . cases he
    rename_i a1 b1 h2;have h2:=List.cons.inj h2;have h3:=(List.cons.inj h2.2).1;simp only[za,zf]at he;obtain⟨x',hb,rfl,rfl⟩:=he;have r1:=dK (h2.1 ▸ hρ x);have r2:=dK (h3 ▸ hρ y);have hgd:eqGuard op t x y (.float .f64 a1) (.float .f64 b1)=pure ():=by cases op <;> rfl
    have hbin:binOp op t (.float .f64 a1) (.float .f64 b1)=Op.floatArith op .f64 a1 b1:=by
     unfold fy at hb;split at hb <;> simp[binOp]at hb ⊢
    exact dF hi (by simp[execOp,ho,r1,r2,hgd,hbin,nU hb]) (.d (.s _))
  . cases hc
 case convert src dst x=>
  split at hc
  . rename_i k0 h1 h2;cases hc;simp only[aA,zt,zR]at he;split at he
    rotate_left
    . cases he
    rename_i k n g2;have g2:=(List.cons.inj g2).1;cases he;have r1:=dK (g2 ▸ hρ x);exact dF hi (by simp[execOp,ho,r1,convert,run_underlying h1,run_underlying h2,Conv.intToFloat]) (.d (.s _))
  . rename_i k0 h1 h2;cases hc;simp only[aA,zt,zR]at he;split at he
    rotate_left
    . cases he
    rename_i b g2;have g2:=(List.cons.inj g2).1;simp only[za,zf]at he;obtain⟨n,hn,rfl,rfl⟩:=he;have r1:=dK (g2 ▸ hρ x);exact dF hi (by simp[execOp,ho,r1,convert,run_underlying h1,run_underlying h2,Conv.floatToInt,hn,hq]) (.d (.s _))
  . rename_i e0 h1 h2;split at hc
    rotate_left
    . cases hc
    rename_i h3;cases hc;simp only[aA,zt,zR]at he;split at he
    rotate_left
    . cases he
    rename_i e1 es1 g2;have g2:=(List.cons.inj g2).1;simp only[za,zf]at he;obtain⟨xs,hn,rfl,rfl⟩:=he;obtain⟨b1,b2⟩:=mY hn;have r1:Rep E U w.heap (.sl 1 (e1 :: es1)) (a.eval x):=g2 ▸ hρ x;generalize he:e1 :: es1=es at *;generalize hv:a.eval x=v at *;have hlen:0 < es.length:=by rw[<- he];simp
    cases r1 with
    | d hd=>
     cases hd with
     | sl0=>simp at hlen
     | sl _ b off cap _ arr ty fz vf hUb hb hcap hmax hsz hv' hr=>
      refine dF hi ?_ (.d (.s _));have hcell:∀ i,i < es.length->w.cell? ⟨b,off+i,none⟩=some (.int .u8 (xs.getD i 0)):=fun i hi'=>by
       have q1:=b2 i hi';obtain⟨q2,_⟩:=hv' i _ 0 _ q1 rfl;have q3:=hr i _ 0 _ q1 rfl;have q4:vf i 0=.int .u8 (xs.getD i 0):=by generalize vf i 0=qq at q3;cases q3;rfl
       rw[q4]at q2;have e:off+i*1+0=off+i:=by omega
       rw[e]at q2;simp only[World.cell?,hb];simpa using q2
      have:=run_convert_bytes_arg (P:=P) w _ e0 h1 h3 b off es.length cap xs b1 hcell _ h2;simp[execOp,ho,hv,this]
  . rename_i e0 h1 h2;split at hc
    rotate_left
    . cases hc
    rename_i h3;cases hc;simp only[aA,zt,zR]at he;split at he
    rotate_left
    . cases he
    rename_i s g2;have g2:=(List.cons.inj g2).1;cases he;have r1:=dK (g2 ▸ hρ x);have hrun:=run_bytes_of_string (P:=P) w src dst e0 s h1 h2 h3;generalize hcap:grownCap w s.size 0 e0=cap at hrun;have hc1:s.size<=cap:=by rw[<- hcap];exact grownCap_ge w _ _ _
    have hc2:cap<=maxLen:=by rw[<- hcap];exact grownCap_le_maxLen w _ _ _ hq
    have hold:∀ (o:Obj) b,b < w.heap.size->(w.drew.alloc o).heap[b]? = w.heap[b]?:=fun o b hb=>RowKit.Below.heap_alloc w.drew o b hb
    have hev:=Ev.freeze (w1:=w.drew.alloc (.cells (bytesRow s cap) e0 ((bytesRow s cap).size,(bytesRow s cap).size+1))) (m:=[]) hi (fun k c h=>by simp at h) rfl rfl rfl (by show w.heap.size<=(w.heap.push _).size;simp) (hold _) (fun b=>b=w.heap.size) (fun b hb=>by subst hb;show w.heap.size<=w.heap.size/\w.heap.size < (w.heap.push _).size;simp) d;have hdl:aB ch ([]:List (Nat×Sb))=ch:=rfl;rw[hdl,j3]at hev;refine⟨.slice (some ⟨w.heap.size,0,none⟩) s.size cap,E,_,_,.inl (by simp[execOp,ho,r1,hrun,Result.andThen]),?_,hev⟩;have hnew:(w.drew.alloc (.cells (bytesRow s cap) e0 ((bytesRow s cap).size,(bytesRow s cap).size+1))).heap[w.heap.size]? = some (.cells (bytesRow s cap) e0 ((bytesRow s cap).size,(bytesRow s cap).size+1)):=by
     show (w.heap.push _)[w.heap.size]? = _
     simp
    have hbl:(iT s).length=s.size:=by rw[iT,zy,Array.length_toList];rfl
    have hby:∀ (i:Nat) (e:List C),(iT s)[i]? = some e->∃ b:UInt8,s.data.toList[i]? = some b/\e=[.s (.int .u8 (b.toNat:Int))]:=fun i e h=>by
     simp only[iT,zh,za]at h;obtain⟨b,h1,rfl⟩:=h;exact⟨b,h1,rfl⟩
    have hr:=RepD.sl (U:=fun b=>U b\/b=w.heap.size\/∃ k s,(([]:List (Nat×Sb)).lookup k=some s)/\(E k).fp b) (iT s) w.heap.size 0 cap 1 _ e0 _ (fun i _=>.int .u8 ((s.data.toList.getD i 0).toNat:Int)) (.inr (.inl rfl)) hnew (by rw[hbl];exact hc1) hc2
     (fun i e h=>by obtain⟨b,_,rfl⟩:=hby i e h;rfl)
     (fun i e j c h hj=>by
      obtain⟨b,hb,rfl⟩:=hby i e h;cases j with
      | zero=>
       have hlt:i < s.data.toList.length:=(zi.1 hb).1;have hlt2:i < s.data.size:=by simpa using hlt
       refine⟨?_,rfl⟩;have hgb:s.data.toList.getD i 0=b:=by rw[zb,hb];rfl
       simp only[bytesRow,zz,yA,zL,hgb];rw[zX (by simpa using hlt2)];simp;exact⟨b,by simpa using hb,rfl⟩
      | succ j=>simp at hj)
     (fun i e j c h hj=>by
      obtain⟨b,hb,rfl⟩:=hby i e h;cases j with
      | zero=>
       have hgb:s.data.toList.getD i 0=b:=by rw[zb,hb];rfl
       simp only[zD,zn]at hj;subst hj;rw[hgb];exact .s _
      | succ j=>simp at hj)
    rw[hbl]at hr;exact .d hr
  . cases hc
 case call cl=>
  obtain⟨callee,args,argTypes⟩:=cl;have rv:∀ (j:Nat) c v,(args.toList.map ρ)[j]? = some c->(args.toList.map a.eval)[j]? = some v->Rep E U w.heap c v:=fun j c v h1 h2=>by
   simp only[zh,za]at h1 h2;obtain⟨x,g1,rfl⟩:=h1;obtain⟨x',g1',rfl⟩:=h2;rw[g1]at g1';cases g1';exact hρ x
  have arg1:∀ c0,args.toList.map ρ=[c0]->∃ x,args=#[x]/\c0=ρ x:=fun c0 h=>by
   cases args;rename_i l;simp at h
   match l,h with
   |[x],h=>simp at h;exact⟨x,rfl,h.symm⟩
  have mx:∀ m,aA ch (.mx m) (args.toList.map ρ)=some (q,c)->callee=.builtin (if m then .max else .min)->dN P E U w ch d (execOp a.eval o) ⟨p,c,ch,[]⟩:=fun m hx hcal=>by
   simp only[aA]at hx;split at hx
   rotate_left
   . cases hx
   rename_i k n l g;simp only[za,zf]at hx;obtain⟨r,hr,rfl,rfl⟩:=hx;cases args;rename_i al;simp only at g rv
   match al,g,rv with
   | x :: al,g,rv=>
    simp only[zt,List.cons.injEq]at g;have r1:=dK (g.1 ▸ hρ x);have hm:=su (P:=P) (w:=w) (E:=E) (U:=U) (h:=w.heap) (m:=m) (k:=k) l (al.map a.eval) n r hr (by rw[<- g.2];simp) (fun j c v h1 h2=>rv (j+1) c v (by rw[<- g.2]at h1;simpa using h1) (by simpa using h2));refine dF hi ?_ (.d (.s _));refine gg (w':=w) (by rw[ho,hcal]) (fun consts=>?_);cases m with
    | true=>
     simp only[qj]at hm;simp[builtin,Builtin.max_,r1,hm]
    | false=>
     simp only[zr,qi]at hm;simp[builtin,Builtin.min_,r1,hm]
  split at hc
  . rename_i hcal;simp only at hcal;cases hc;exact mx true he hcal
  . rename_i hcal;simp only at hcal;cases hc;exact mx false he hcal
  . rename_i hcal;simp only at hcal;cases hc;simp only[aA]at he;split at he
    rotate_left
    . cases he
    rename_i n m g;cases he;cases args;rename_i al;simp only at g;have hlen:al.length=2:=by have:=congrArg List.length g;simpa using this
    obtain⟨x,y,rfl⟩:∃ x y,al=[x,y]:=by
     match al,hlen with
     |[x,y],_=>exact⟨x,y,rfl⟩
    simp only[zt,zR,List.cons.injEq,and_true]at g;have r1:=dK (g.1 ▸ hρ x);have r2:=dK (g.2 ▸ hρ y);refine dF hi ?_ (.d (.s _));refine gg (w':=w) (by rw[ho,hcal]) (fun consts=>?_);simp[builtin,r1,r2,run_complex]
  . rename_i hcal;simp only at hcal;cases hc;simp only[aA]at he;split at he
    rotate_left
    . cases he
    rename_i n m g;cases he;obtain⟨x,rfl,g'⟩:=arg1 _ g;have r1:=dK (g' ▸ hρ x);refine dF hi ?_ (.d (.s _));refine gg (w':=w) (by rw[ho,hcal]) (fun consts=>?_);simp[builtin,run_real,r1]
  . rename_i hcal;simp only at hcal;cases hc;simp only[aA]at he;split at he
    rotate_left
    . cases he
    rename_i n m g;cases he;obtain⟨x,rfl,g'⟩:=arg1 _ g;have r1:=dK (g' ▸ hρ x);refine dF hi ?_ (.d (.s _));refine gg (w':=w) (by rw[ho,hcal]) (fun consts=>?_);simp[builtin,run_imag,r1]
  . cases hc
theorem ug {own:Bool} {a:Act} {o:Oper} {aop:AOp} {ρ:Operand->C} {ef:Eff} (hi:Inv E U w.heap ch) (hρ:∀ x,Rep E U w.heap (ρ x) (a.eval x)) (hc:gS P own o.op o.type=some aop) (he:ai ρ ch d aop=some ef) (hcond:ef.cond) :
 dN P E U w ch d (execOp a.eval o) ef:=by
 unfold gS at hc;split at hc
 . rename_i e aS hx;cases hc;simp only[ai,za,Prod.exists]at he;obtain⟨q,c,h1,rfl⟩:=he;exact ext_ok hi hρ hx h1 hcond
 . exact sR hi hρ hc he hcond
class Glob (P:Program) where
 gl:List (Nat×List C)
 inv:(Nat->Prop)->Array Obj->Prop:=fun _ _=>True
 mono:∀ (U U':Nat->Prop) (h h':Array Obj),inv U h->(∀ b,U b->U' b/\h'[b]? = h[b]?)->inv U' h':=by intros;trivial
def eT (P:Program) [Glob P] (U:Nat->Prop) (h:Array Obj):Prop:=
 (∀ g cs,lk (Glob.gl P) g=some cs->∀ E,Rep E U h (.ref cs) (.pointer (some ⟨g,0,none⟩)))/\Glob.inv P U h
theorem eT.mono [Glob P] {U U':Nat->Prop} {h h':Array Obj} (hg:eT P U h) (hk:∀ b,U b->U' b/\h'[b]? = h[b]?):eT P U' h':=
 ⟨fun g cs hm E=>(hg.1 g cs hm E).same hk,Glob.mono U U' h h' hg.2 hk⟩
def jo (E:Env) (U:Nat->Prop) (h:Array Obj) (cs:List C) (vs:Array Value):Prop:=
 vs.size=cs.length/\∀ (j:Nat) (c:C),cs[j]? = some c->Rep E U h c (vs.getD j undef)
structure CEv (E:Env) (U:Nat->Prop) (w:World) (ch:Chs) (E':Env) (U':Nat->Prop) (w':World) (ch':Chs):Prop where
 os:w'.os=w.os
 tape:w'.tape=w.tape
 output:w'.output=w.output
 size:w.heap.size<=w'.heap.size
 keep:∀ b,U b->U' b/\w'.heap[b]? = w.heap[b]?
 rest:∀ b,b < w.heap.size->(∀ k c,(k,c)∈ch->¬ (E k).fp b)->w'.heap[b]? = w.heap[b]?
 live:∀ k c,(k,c)∈ch'->∀ b,(E' k).fp b->w.heap.size<=b\/∃ k0 c0,(k0,c0)∈ch/\(E k0).fp b
 newU:∀ b,U' b->U b\/w.heap.size<=b\/∃ k0 c0,(k0,c0)∈ch/\(E k0).fp b
 boxes:∀ k cs,(k,.box cs)∈ch'->(∃ c,(k,c)∈ch)->(∃ cs0,(k,.box cs0)∈ch)/\(E' k).toKE0=(E k).toKE0
 inv:Inv E' U' w'.heap ch'
def FnOk (P:Program) (f:FuncId):Prop:=∃ fn,P.funcs[f]? = some fn/\(fn.name == "runtime.NumGoroutine")=false/\fn.body.isNone=false
def FC (P:Program) [Glob P] (f:FuncId) (args:List C) (chs:Chs) (r:C) (chs':Chs):Prop:=
 FnOk P f/\∀ (E:Env) (U:Nat->Prop) (vs:Array Value) (w:World),eT P U w.heap->jo E U w.heap args vs->Inv E U w.heap chs ->
  Calls P f vs w fun e w'=>∃ v E' U',e=.returned v/\Rep E' U' w'.heap r v/\CEv E U w chs E' U' w' chs'
def rn (m:List (Nat×Nat)) (k:Nat):Nat:=(lk m k).getD k
def ak (m:List (Nat×Nat)):C->C
 |.own k=>.own (rn m k)
 |.ptr k off=>.ptr (rn m k) off
 |.eptr k i j=>.eptr (rn m k) i j
 |.inn k i=>.inn (rn m k) i
 |.iptr k i n j=>.iptr (rn m k) i n j
 |.agg cs=>.agg (renCs m cs)
 |.tup cs=>.tup (renCs m cs)
 |.fn f xs ys=>.fn f (renCs m xs) (renCs m ys)
 | c=>c
where renCs (m:List (Nat×Nat)):List C->List C
 |[]=>[]
 | c :: cs=>ak m c :: renCs m cs
theorem e8 (m:List (Nat×Nat)):∀ cs,ak.renCs m cs=cs.map (ak m)
 |[]=>by simp[ak.renCs]
 | c :: cs=>by simp[ak.renCs,e8 m cs]
def aF (m:List (Nat×Nat)):Ch->Ch
 |.box cs=>.box (cs.map (ak m))
 | x=>x
def ar (m:List (Nat×Nat)):Chs->Chs
 |[]=>[]
 | (k,c) :: r=>(rn m k,aF m c) :: ar m r
theorem fl (m:List (Nat×Nat)):∀ ch,ar m ch=ch.map fun p=>(rn m p.1,aF m p.2)
 |[]=>rfl
 | (k,c) :: r=>by simp[ar,fl m r]
theorem eI {m:List (Nat×Nat)} {ch:Chs} {k:Nat} {c:Ch} (h:(k,c)∈ar m ch):∃ k0 c0,(k0,c0)∈ch/\k=rn m k0/\c=aF m c0:=by
 rw[fl]at h;obtain⟨⟨k0,c0⟩,h1,h2⟩:=zu.1 h;cases h2;exact⟨k0,c0,h1,rfl,rfl⟩
theorem eV {m:List (Nat×Nat)} {ch:Chs} {k:Nat} {c:Ch} (h:(k,c)∈ch):(rn m k,aF m c)∈ar m ch:=by
 rw[fl];exact zu.2 ⟨_,h,rfl⟩
def dG (ks:List Nat):C->Prop
 |.own k=>k∈ks
 |.ptr k _=>k∈ks
 |.eptr k _ _=>k∈ks
 |.inn k _=>k∈ks
 |.iptr k _ _ _=>k∈ks
 |.agg cs=>keysIns ks cs
 |.tup cs=>keysIns ks cs
 |.fn _ xs ys=>keysIns ks xs/\keysIns ks ys
 |_=>True
where keysIns (ks:List Nat):List C->Prop
 |[]=>True
 | c :: cs=>dG ks c/\keysIns ks cs
theorem eF {ks:List Nat}:∀ {cs:List C},dG.keysIns ks cs->∀ c∈cs,dG ks c
 |[],_,c,h=>by simp at h
 | x :: xs,hf,c,h=>by
  simp only[dG.keysIns]at hf;rcases zl.1 h with h | h
  . rw[h];exact hf.1
  . exact eF hf.2 c h
theorem gM {ks:List Nat}:∀ {cs:List C},(∀ c∈cs,dG ks c)->dG.keysIns ks cs
 |[],_=>trivial
 | x :: xs,hf=>⟨hf x zq,gM fun c h=>hf c (zo _ h)⟩
def gd (ks:List Nat):Ch->Prop
 |.box cs=>dG.keysIns ks cs
 |_=>True
theorem Rep.env {E E':Env} {U:Nat->Prop} {h:Array Obj} {c:C} {v:Value} {ks:List Nat} (hr:Rep E U h c v) (hk:dG ks c) (he:∀ k∈ks,E' k=E k):Rep E' U h c v:=by
 induction hr with
 | d hd=>exact .d hd
 | ref cs b off arr ty fz vf hU hb hv hr=>exact .ref cs b off arr ty fz vf hU hb hv hr
 | agg cs vs hl hr h1 ih=>exact .agg cs vs hl (fun j c hj=>ih j c hj (eF (by simpa only[dG]using hk) c (zp hj))) h1
 | tup cs vs hl hr ih=>exact .tup cs vs hl (fun j c hj=>ih j c hj (eF (by simpa only[dG]using hk) c (zp hj)))
 | fn f xs ys vs ws hl hr hl' hr' ih ih'=>
  simp only[dG]at hk;exact .fn f xs ys vs ws hl (fun j c hj=>ih j c hj (eF hk.1 c (zp hj))) hl' (fun j c hj=>ih' j c hj (eF hk.2 c (zp hj)))
 | own k=>simp only[dG]at hk;rw[<- he k hk];exact .own k
 | ptr k off=>simp only[dG]at hk;rw[<- he k hk];exact .ptr k off
 | eptr k i j=>simp only[dG]at hk;rw[<- he k hk];exact .eptr k i j
 | inn k i=>simp only[dG]at hk;rw[<- he k hk];exact .inn k i
 | iptr k i n j=>simp only[dG]at hk;rw[<- he k hk];exact .iptr k i n j
theorem Rep.unren {m:List (Nat×Nat)} {h:Array Obj} {c0:C} {v:Value} (hr:Rep E U h c0 v):∀ c,ak m c=c0->Rep (fun k=>E (rn m k)) U h c v:=by
 induction hr with
 | @d c0 v hd=>
  intro c hc;have:c=c0:=by
   cases hd <;> cases c <;> simp only[ak]at hc <;> first | exact hc | rfl | cases hc
  subst this;exact .d hd
 | ref cs b off arr ty fz vf hU hb hv hr=>
  intro c hc;cases c <;> simp only[ak]at hc <;> cases hc;exact .ref _ b off arr ty fz vf hU hb hv hr
 | agg cs vs hl hr h1 ih=>
  intro c hc;cases c <;> simp only[ak,e8]at hc <;> cases hc;refine .agg _ vs (by simpa using hl) (fun j c hj=>ih j (ak m c) (by simp[hj]) c rfl) h1
 | tup cs vs hl hr ih=>
  intro c hc;cases c <;> simp only[ak,e8]at hc <;> cases hc;exact .tup _ vs (by simpa using hl) (fun j c hj=>ih j (ak m c) (by simp[hj]) c rfl)
 | fn f xs ys vs ws hl hr hl' hr' ih ih'=>
  intro c hc;cases c <;> simp only[ak,e8]at hc <;> cases hc;exact .fn f _ _ vs ws (by simpa using hl) (fun j c hj=>ih j (ak m c) (by simp[hj]) c rfl) (by simpa using hl') (fun j c hj=>ih' j (ak m c) (by simp[hj]) c rfl)
 | own k=>
  intro c hc;cases c <;> simp only[ak]at hc <;> cases hc;exact Rep.own (E:=fun k=>E (rn m k)) _
 | ptr k off=>
  intro c hc;cases c <;> simp only[ak]at hc <;> cases hc;exact Rep.ptr (E:=fun k=>E (rn m k)) _ _
 | eptr k i j=>
  intro c hc;cases c <;> simp only[ak]at hc <;> cases hc;exact Rep.eptr (E:=fun k=>E (rn m k)) _ _ _
 | inn k i=>
  intro c hc;cases c <;> simp only[ak]at hc <;> cases hc;exact Rep.inn (E:=fun k=>E (rn m k)) _ _
 | iptr k i n j=>
  intro c hc;cases c <;> simp only[ak]at hc <;> cases hc;exact Rep.iptr (E:=fun k=>E (rn m k)) _ _ _ _
theorem Rep.ren {m:List (Nat×Nat)} {E1 E':Env} {ks:List Nat} {h:Array Obj} {c:C} {v:Value} (hr:Rep E1 U h c v) (hk:dG ks c) (he:∀ k∈ks,E' (rn m k)=E1 k):Rep E' U h (ak m c) v:=by
 induction hr with
 | d hd=>
  cases hd with
  | any v=>exact .d (.any _)
  | s v=>exact .d (.s _)
  | sl0 sz a cap hc=>exact .d (.sl0 _ _ _ hc)
  | sl es b off cap sz arr ty fz vf hU hb hcap hmax hsz hv hr=>exact .d (.sl es b off cap sz arr ty fz vf hU hb hcap hmax hsz hv hr)
 | ref cs b off arr ty fz vf hU hb hv hr=>exact .ref cs b off arr ty fz vf hU hb hv hr
 | agg cs vs hl hr h1 ih=>
  simp only[ak,e8];refine .agg _ vs (by simpa using hl) (fun j c hj=>?_) h1;simp only[zh,za]at hj;obtain⟨c0,h0,rfl⟩:=hj;exact ih j c0 h0 (eF (by simpa only[dG]using hk) c0 (zp h0))
 | tup cs vs hl hr ih=>
  simp only[ak,e8];refine .tup _ vs (by simpa using hl) (fun j c hj=>?_);simp only[zh,za]at hj;obtain⟨c0,h0,rfl⟩:=hj;exact ih j c0 h0 (eF (by simpa only[dG]using hk) c0 (zp h0))
 | fn f xs ys vs ws hl hr hl' hr' ih ih'=>
  simp only[dG]at hk;simp only[ak,e8];refine .fn f _ _ vs ws (by simpa using hl) (fun j c hj=>?_) (by simpa using hl') (fun j c hj=>?_)
  . simp only[zh,za]at hj;obtain⟨c0,h0,rfl⟩:=hj;exact ih j c0 h0 (eF hk.1 c0 (zp h0))
  . simp only[zh,za]at hj;obtain⟨c0,h0,rfl⟩:=hj;exact ih' j c0 h0 (eF hk.2 c0 (zp h0))
 | own k=>simp only[dG]at hk;rw[<- he k hk];exact .own _
 | ptr k off=>simp only[dG]at hk;rw[<- he k hk];exact .ptr _ off
 | eptr k i j=>simp only[dG]at hk;rw[<- he k hk];exact .eptr _ i j
 | inn k i=>simp only[dG]at hk;rw[<- he k hk];exact .inn _ i
 | iptr k i n j=>simp only[dG]at hk;rw[<- he k hk];exact .iptr _ i n j
theorem vT {m:List (Nat×Nat)} {c:C} {n:Nat} {t:TypeId} {es:List (List C)}:ak m c=.isl n t es↔c=.isl n t es:=by
 constructor
 . intro h;cases c <;> simp only[ak]at h <;> first | exact h | cases h
 . rintro rfl;rfl
theorem qF {m:List (Nat×Nat)} (cs:List C):eK (cs.map (ak m))=eK cs:=by
 funext j
 simp only[eK,zh];cases hc:cs[j]? with
 | none=>rfl
 | some c=>
  simp only[zU];cases c <;> rfl
theorem dM.unren {m:List (Nat×Nat)} {h:Array Obj} {k:Nat} {c:Ch} (hc:dM E U h (rn m k) (aF m c)):dM (fun k=>E (rn m k)) U h k c:=by
 cases c with
 | box cs=>
  simp only[aF,dM,qF]at hc;obtain⟨⟨hn,arr,ty,b1,b2,b3⟩,hf,hin⟩:=hc;refine⟨⟨hn,arr,ty,b1,by simpa using b2,fun j c hj=>?_⟩,hf,hin⟩;rcases b3 j (ak m c) (by simp[hj])with⟨r1,r2⟩ | ⟨⟨n,t,es,he⟩,r2⟩
  . exact .inl ⟨r1.unren c rfl,r2⟩
  . exact .inr ⟨⟨n,t,es,vT.1 he⟩,r2⟩
 | row sz ty es=>exact hc
 | deep isz ity ty hole rows=>exact hc
 | res R=>exact hc
theorem dM.ren {m:List (Nat×Nat)} {E1 E':Env} {ks:List Nat} {h:Array Obj} {k:Nat} {c:Ch} (hc:dM E1 U h k c) (hk:k∈ks) (hkc:gd ks c) (he:∀ k∈ks,E' (rn m k)=E1 k):dM E' U h (rn m k) (aF m c):=by
 cases c with
 | box cs=>
  obtain⟨⟨hn,arr,ty,b1,b2,b3⟩,hf,hin⟩:=hc;simp only[aF,dM,qF];rw[he k hk];refine⟨⟨hn,arr,ty,b1,by simpa using b2,fun j c hj=>?_⟩,hf,hin⟩;simp only[zh,za]at hj;obtain⟨c0,h0,rfl⟩:=hj;rcases b3 j c0 h0 with⟨r1,r2⟩ | ⟨⟨n,t,es,rfl⟩,r2⟩
  . exact .inl ⟨r1.ren (eF hkc c0 (zp h0)) he,r2⟩
  . exact .inr ⟨⟨n,t,es,rfl⟩,r2⟩
 | row sz ty es=>simp only[aF,dM]at hc ⊢;rw[he k hk];exact hc
 | deep isz ity ty hole rows=>simp only[aF,dM]at hc ⊢;rw[he k hk];exact hc
 | res R=>simp only[aF,dM]at hc ⊢;rw[he k hk];exact hc
theorem dM.env {E E':Env} {U:Nat->Prop} {h:Array Obj} {k:Nat} {c:Ch} {ks:List Nat} (hc:dM E U h k c) (hk:k∈ks) (hb:gd ks c) (he:∀ k∈ks,E' k=E k):dM E' U h k c:=by
 cases c with
 | box cs=>
  obtain⟨⟨hn,arr,ty,b1,b2,b3⟩,hf,hin⟩:=hc;simp only[dM];rw[he k hk];refine⟨⟨hn,arr,ty,b1,b2,fun j c hj=>?_⟩,hf,hin⟩;rcases b3 j c hj with⟨r1,r2⟩ | r
  . exact .inl ⟨r1.env (eF hb c (zp hj)) he,r2⟩
  . exact .inr r
 |_=>simp only[dM]at hc ⊢;rw[he k hk];exact hc
theorem pA {α β:Type} {f:α->β}:∀ {l:List α},(l.map f).Nodup->∀ a∈l,∀ b∈l,f a=f b->a=b
 |[],_,a,h,_,_,_=>by simp at h
 | x :: l,hn,a,ha,b,hb,e=>by
  simp only[zt,zI]at hn;rcases zl.1 ha with h1 | h1 <;> rcases zl.1 hb with h2 | h2
  . rw[h1,h2]
  . exact absurd (zu.2 ⟨b,h2,by rw[<- e,h1]⟩) hn.1
  . exact absurd (zu.2 ⟨a,h1,by rw[e,h2]⟩) hn.1
  . exact pA hn.2 a h1 b h2 e
theorem iE {α β:Type} {f:α->β}:∀ {l:List α},l.Nodup->(∀ a∈l,∀ b∈l,f a=f b->a=b)->(l.map f).Nodup
 |[],_,_=>by simp
 | x :: l,hn,hi=>by
  simp only[zI]at hn;simp only[zt,zI];refine⟨fun h=>?_,iE hn.2 (fun a ha b hb=>hi a (zo _ ha) b (zo _ hb))⟩;obtain⟨y,hy,e⟩:=zu.1 h;have:=hi y (zo _ hy) x zq e;exact hn.1 (this ▸ hy)
theorem lL {α β:Type} {f:α->β}:∀ {l:List α},(l.map f).Nodup->l.Nodup
 |[],_=>by simp
 | x :: l,hn=>by
  simp only[zt,zI]at hn;exact zI.2 ⟨fun h=>hn.1 (zu.2 ⟨x,h,rfl⟩),lL hn.2⟩
theorem FC.ren [Glob P] {f:FuncId} {args:List C} {chs:Chs} {r:C} {chs':Chs} (hf:FC P f args chs r chs') (m:List (Nat×Nat)) (ks:List Nat) (hm:(ks.map (rn m)).Nodup)
 (hks:∀ k c,(k,c)∈chs->k∈ks) (hks':∀ k c,(k,c)∈chs'->k∈ks/\gd ks c) (hr:dG ks r):FC P f (args.map (ak m)) (ar m chs) (ak m r) (ar m chs'):=by
 refine⟨hf.1,fun E U vs w hg ha hi=>?_⟩;have inj:=pA hm;have hargs:jo (fun k=>E (rn m k)) U w.heap args vs:=⟨by simpa using ha.1,fun j c hj=>(ha.2 j (ak m c) (by simp[hj])).unren c rfl⟩;have hinv:Inv (fun k=>E (rn m k)) U w.heap chs:=by
  refine⟨?_,fun k c hc=>(hi.ok _ _ (eV hc)).unren,fun k c k' c' hc hc' hne b hb=>?_,fun k c hc=>hi.out _ _ (eV hc),fun k c hc=>hi.fpl _ _ (eV hc),hi.lt⟩
  . have:=hi.nd;rw[fl,zT]at this;have e:((fun x:Nat×Ch=>x.1) ∘ fun p:Nat×Ch=>(rn m p.1,aF m p.2))=(fun k=>rn m k) ∘ (fun x:Nat×Ch=>x.1):=rfl;rw[e,<- zT]at this;exact lL this
  . exact hi.sep _ _ _ _ (eV hc) (eV hc') (fun e=>hne (inj k (hks k c hc) k' (hks k' c' hc') e)) b hb
 refine (hf.2 _ U vs w hg hargs hinv).mono fun e w' h=>?_
 obtain⟨v,E1',U',rfl,hrep,hce⟩:=h
 let E':Env:=fun j=>match ks.find? (fun k=>rn m k == j)with | some k=>E1' k | none=>E j
 have hE:∀ k∈ks,E' (rn m k)=E1' k:=fun k hk=>by
  simp only[E'];cases hfnd:ks.find? (fun k'=>rn m k' == rn m k)with
  | none=>
   have:=List.find?_eq_none.1 hfnd k hk;simp at this
  | some k'=>
   have h1:=List.find?_some hfnd;have h2:=List.mem_of_find?_eq_some hfnd;have:=inj k' h2 k hk (by simpa using h1);rw[this]
 refine⟨v,E',U',rfl,hrep.ren hr hE,hce.os,hce.tape,hce.output,hce.size,hce.keep,fun b hb h=>hce.rest b hb (fun k c hc=>h _ _ (eV hc)),fun k c hc b hb=>?_,fun b hb=>?_,fun k cs hc hex=>?_,?_⟩
 . obtain⟨k0,c0,h0,rfl,rfl⟩:=eI hc;rw[hE k0 (hks' k0 c0 h0).1]at hb;rcases hce.live k0 c0 h0 b hb with g | ⟨k1,c1,g1,g2⟩
   . exact .inl g
   . exact .inr ⟨_,_,eV g1,g2⟩
 . rcases hce.newU b hb with g | g | ⟨k1,c1,g1,g2⟩
   . exact .inl g
   . exact .inr (.inl g)
   . exact .inr (.inr ⟨_,_,eV g1,g2⟩)
 . obtain⟨k0,c0,h0,rfl,hcs⟩:=eI hc;obtain⟨c,hc2⟩:=hex;obtain⟨k1,c1,h1,e1,_⟩:=eI hc2;have:=inj k0 (hks' k0 c0 h0).1 k1 (hks k1 c1 h1) e1;subst this;cases c0 with
   | box cs0=>
    obtain⟨⟨cs1,g1⟩,g2⟩:=hce.boxes k0 cs0 h0 ⟨c1,h1⟩;exact⟨⟨_,eV g1⟩,by rw[hE k0 (hks' k0 _ h0).1];exact g2⟩
   |_=>cases hcs
 . refine⟨?_,fun k c hc=>?_,fun k c k' c' hc hc' hne b hb=>?_,fun k c hc b hb=>?_,fun k c hc b hb=>?_,hce.inv.lt⟩
   . rw[fl,zT];have e:((fun x:Nat×Ch=>x.1) ∘ fun p:Nat×Ch=>(rn m p.1,aF m p.2))=(fun k=>rn m k) ∘ (fun x:Nat×Ch=>x.1):=rfl;rw[e,<- zT];exact iE hce.inv.nd (fun a ha b hb=>inj a (by obtain⟨⟨k,c⟩,h1,rfl⟩:=zu.1 ha;exact (hks' k c h1).1) b (by obtain⟨⟨k,c⟩,h1,rfl⟩:=zu.1 hb;exact (hks' k c h1).1))
   . obtain⟨k0,c0,h0,rfl,rfl⟩:=eI hc;exact (hce.inv.ok k0 c0 h0).ren (hks' k0 c0 h0).1 (hks' k0 c0 h0).2 hE
   . obtain⟨k0,c0,h0,rfl,rfl⟩:=eI hc;obtain⟨k1,c1,h1,rfl,rfl⟩:=eI hc';rw[hE k0 (hks' k0 c0 h0).1]at hb;rw[hE k1 (hks' k1 c1 h1).1];exact hce.inv.sep k0 c0 k1 c1 h0 h1 (fun e=>hne (by rw[e])) b hb
   . obtain⟨k0,c0,h0,rfl,rfl⟩:=eI hc;rw[hE k0 (hks' k0 c0 h0).1]at hb;exact hce.inv.out k0 c0 h0 b hb
   . obtain⟨k0,c0,h0,rfl,rfl⟩:=eI hc;rw[hE k0 (hks' k0 c0 h0).1]at hb;exact hce.inv.fpl k0 c0 h0 b hb
def FW (ro:Option Nat):Fence:={ Fence.wide with round:=ro }
theorem room_FW (ro:Option Nat) (n:Nat):(FW ro).room n:=fun _ h=>by simp[FW,Fence.wide]at h
theorem kE {ro:Option Nat} {n:Nat} {f:FuncId} {args:Array Value} {w:World} {R:Ending->World->Prop} (h:Calls P f args w R):CallsIn (FW ro) n P f args w R:=
 (callsIn_wide (n:=n)).2 h
theorem uU {ro:Option Nat} {n:Nat} {f:FuncId} {args:Array Value} {w:World} {R:Ending->World->Prop} (h:CallsIn (FW ro) n P f args w R):Calls P f args w R:=
 h.calls (fun k=>room_FW ro k)
theorem vN {ro:Option Nat} {a:Act} {o:Oper} {v:Value} {w':World} {K:Act->World->Prop} {Q:Exit->Act->World->Prop} (hnd:∀ c,o.op≠.defer c) (hr:(execOp a.eval o).run P w=.ok (.value v) w') (hK:K (a.put o.dst v) w'):o.wpIn (FW ro) 0 P a w K Q:=
 ⟨fun _ _=>trivial,by rw[Oper.semAt_eq _ _ _ hnd,hr];exact hK⟩
theorem op_skip {ro:Option Nat} {a:Act} {o:Oper} {w':World} {K:Act->World->Prop} {Q:Exit->Act->World->Prop} (hnd:∀ c,o.op≠.defer c) (hr:(execOp a.eval o).run P w=.ok .skip w') (hK:K (a.put o.dst undef) w'):o.wpIn (FW ro) 0 P a w K Q:=
 ⟨fun _ _=>trivial,by rw[Oper.semAt_eq _ _ _ hnd,hr];exact hK⟩
def bk : C->Option (FuncId×List C×List C)
 |.fn (.func f) xs ys=>some (f,xs,ys)
 |.s (.func (.func f) xs ys)=>some (f,xs.toList.map .s,ys.toList.map .s)
 |.s (.func (.via _ _ f _) _ _)=>(fun _=>none) f
 |_=>none
theorem qW {c:C} {f:FuncId} {xs ys:List C} {v:Value} {h:Array Obj} (hc:bk c=some (f,xs,ys)) (hr:Rep E U h c v) :
 ∃ vs ws:Array Value,v=.func (.func f) vs ws/\vs.size=xs.length/\(∀ (j:Nat) c,xs[j]? = some c->Rep E U h c (vs.getD j undef))/\ws.size=ys.length/\(∀ (j:Nat) c,ys[j]? = some c->Rep E U h c (ws.getD j undef)):=by
 unfold bk at hc;split at hc
 . cases hc;exact uy hr
 . rename_i f' vs ws;cases hc;have g:∀ a:Array Value,∀ (j:Nat) c,(a.toList.map C.s)[j]? = some c->Rep E U h c (a.getD j undef):=fun a j c hj=>by
    simp only[zh,za,zM]at hj;obtain⟨v,h1,rfl⟩:=hj;rw[ew h1];exact .d (.s v)
   exact⟨vs,ws,dK hr,by simp,g vs,by simp,g ws⟩
 . cases hc
 . cases hc
def cT (ch:Chs) (k i:Nat):Option (Prop×C):=(aN ch k i).map fun (p,n,_,es)=>(p,.sl n es)
def aD (ch:Chs) (bs:List Nat):C->C
 |.own k=>
  if bs.contains k then
   match (lk ch k).bind bz with
   | some x=>x
   | none=>.own k
  else .own k
 |.inn k i=>
  if bs.contains k then
   match cT ch k i with
   | some (_,x)=>x
   | none=>.inn k i
  else .inn k i
 |.agg cs=>.agg (viewCs ch bs cs)
 | c=>c
where viewCs (ch:Chs) (bs:List Nat):List C->List C
 |[]=>[]
 | c :: cs=>aD ch bs c :: viewCs ch bs cs
def aY (ch:Chs) (bs:List Nat):C->Prop
 |.inn k i=>
  if bs.contains k then
   match cT ch k i with
   | some (p,_)=>p
   | none=>True
  else True
 |.agg cs=>viewOks ch bs cs
 |_=>True
where viewOks (ch:Chs) (bs:List Nat):List C->Prop
 |[]=>True
 | c :: cs=>aY ch bs c/\viewOks ch bs cs
theorem pN (bs:List Nat):∀ cs,aD.viewCs ch bs cs=cs.map (aD ch bs)
 |[]=>by simp[aD.viewCs]
 | c :: cs=>by simp[aD.viewCs,pN bs cs]
theorem kf {bs:List Nat}:∀ {cs:List C},aY.viewOks ch bs cs->∀ c∈cs,aY ch bs c
 |[],_,c,h=>by simp at h
 | x :: xs,hf,c,h=>by
  simp only[aY.viewOks]at hf;rcases zl.1 h with h | h
  . rw[h];exact hf.1
  . exact kf hf.2 c h
def aP : C->Prop
 |.s _=>True
 |.sl _ es=>es=[]
 |.agg cs=>flatCs cs
 |.tup cs=>flatCs cs
 |.own _=>True
 |.ptr _ _=>True
 |_=>False
where flatCs:List C->Prop
 |[]=>True
 | c :: cs=>aP c/\flatCs cs
theorem iB : ∀ {cs:List C},aP.flatCs cs->∀ c∈cs,aP c
 |[],_,c,h=>by simp at h
 | x :: xs,hf,c,h=>by
  simp only[aP.flatCs]at hf;rcases zl.1 h with h | h
  . rw[h];exact hf.1
  . exact iB hf.2 c h
def bD : Ch->Prop
 |.box cs=>aP.flatCs cs
 |.row _ _ es=>∀ e∈es,∀ c∈e,∃ v,c=.s v
 |_=>False
theorem RepD.flat {U U':Nat->Prop} {h:Array Obj} {c:C} {v:Value} (hr:RepD U h c v) (hf:aP c):RepD U' h c v:=by
 cases hr with
 | any=>simp[aP]at hf
 | s v=>exact .s v
 | sl0 sz a cap hc=>exact .sl0 sz a cap hc
 | sl es b off cap sz arr ty fz vf hU hb hcap hmax hsz hv hr=>
  simp only[aP]at hf;subst hf;exact .sl0 sz _ cap hmax
theorem Rep.flat {U U':Nat->Prop} {h:Array Obj} {c:C} {v:Value} (hr:Rep E U h c v) (hf:aP c):Rep E U' h c v:=by
 induction hr with
 | d hd=>exact .d (hd.flat hf)
 | ref=>simp[aP]at hf
 | agg cs vs hl hr h1 ih=>exact .agg cs vs hl (fun j c hj=>ih j c hj (iB (by simpa only[aP]using hf) c (zp hj))) h1
 | tup cs vs hl hr ih=>exact .tup cs vs hl (fun j c hj=>ih j c hj (iB (by simpa only[aP]using hf) c (zp hj)))
 | fn=>simp[aP]at hf
 | own k=>exact .own k
 | ptr k off=>exact .ptr k off
 | eptr k i j=>exact .eptr k i j
 | inn k i=>exact .inn k i
 | iptr k i n j=>exact .iptr k i n j
theorem dM.flat {U U':Nat->Prop} {h:Array Obj} {k:Nat} {c:Ch} (hc:dM E U h k c) (hf:bD c):dM E U' h k c:=by
 cases c with
 | box cs=>
  obtain⟨⟨hn,arr,ty,h1,h2,h3⟩,hfp,hin⟩:=hc;have hno:∀ (j:Nat) c,cs[j]? = some c->aL c=true:=fun j c hj=>by
   have:=iB hf c (zp hj);cases c <;> first | rfl | simp[aP]at this
  refine⟨⟨hn,arr,ty,h1,h2,fun j c hj=>?_⟩,hfp,fun i n t es hi=>by rw[lj hno]at hi;cases hi⟩;rcases h3 j c hj with⟨r1,r2⟩ | r
  . exact .inl ⟨r1.flat (iB hf c (zp hj)),r2⟩
  . exact .inr r
 | row sz ty es=>
  obtain⟨⟨h1,h2,h3,h4⟩,hfp⟩:=hc;refine⟨⟨h1,h2,h3,?_⟩,hfp⟩;rcases h4 with h4 | ⟨h4,h5,h6,arr,h7,h8,h9⟩
  . exact .inl h4
  . refine .inr ⟨h4,h5,h6,arr,h7,h8,fun i e j c he hj=>?_⟩;obtain⟨v,rfl⟩:=hf e (zp he) c (zp hj);exact⟨(h9 i e j _ he hj).1.flat trivial,(h9 i e j _ he hj).2⟩
 |_=>exact hf.elim
def az (nk:List Nat):Chs->List (Nat×Sb)
 |[]=>nk.map fun k=>(k,.c .any)
 | (k,.box _) :: r=>(k,.inner) :: az nk r
 | (k,_) :: r=>(k,.c .any) :: az nk r
theorem iU {nk:List Nat}:∀ {chs:Chs} {k:Nat} {s:Sb},(az nk chs).lookup k=some s->s=.c .any\/(s=.inner/\∃ cs,(k,Ch.box cs)∈chs)
 |[],k,s,h=>by
  simp only[az]at h;left
  induction nk with
  | nil=>simp at h
  | cons x l ih=>
   simp only[zt,z0]at h;split at h
   . cases h;rfl
   . exact ih h
 | (j,.box cs) :: r,k,s,h=>by
  simp only[az,z0]at h;split at h
  . rename_i hb;have:k=j:=by simpa using hb
    subst this;cases h;exact .inr ⟨rfl,cs,zq⟩
  . rcases iU h with g | ⟨g,cs',g'⟩
    . exact .inl g
    . exact .inr ⟨g,cs',zo _ g'⟩
 | (j,.row sz ty es) :: r,k,s,h | (j,.deep _ _ _ _ _) :: r,k,s,h | (j,.res _) :: r,k,s,h=>by
  simp only[az,z0]at h;split at h
  . cases h;exact .inl rfl
  . rcases iU h with g | ⟨g,cs',g'⟩
    . exact .inl g
    . exact .inr ⟨g,cs',zo _ g'⟩
theorem mh {nk:List Nat}:∀ {chs:Chs} {k:Nat},(az nk chs).lookup k=none->k∉nk/\∀ c,(k,c)∉chs
 |[],k,h=>by
  simp only[az]at h;refine⟨fun hm=>?_,fun c h=>by simp at h⟩;rw[List.lookup_eq_none_iff]at h;have:=h (k,.c .any) (zu.2 ⟨k,hm,rfl⟩);simp at this
 | (j,c0) :: r,k,h=>by
  have g:(az nk r).lookup k=none/\k≠j:=by
   cases c0 <;> simp only[az,z0]at h <;> split at h <;> first | cases h | (rename_i hb;exact⟨h,fun e=>by subst e;simp at hb⟩)
  obtain⟨h1,h2⟩:=mh g.1
  exact⟨h1,fun c hm=>by
   rcases zl.1 hm with hm | hm
   . cases hm;exact g.2 rfl
   . exact h2 c hm⟩
def bA {α:Type} (t:List (Nat×α)):List Nat->List (Nat×α)
 |[]=>t
 | k :: ks=>bA (af t k) ks
theorem qQ {α:Type}:∀ (ks:List Nat) (t:List (Nat×α)),(bA t ks).Sublist t
 |[],t=>List.Sublist.refl _
 | k :: ks,t=>(qQ ks _).trans (eu t k)
theorem rk {α:Type}:∀ {ks:List Nat} {t:List (Nat×α)} {k:Nat} {c:α},(t.map (·.1)).Nodup->(k,c)∈bA t ks->(k,c)∈t/\k∉ks
 |[],t,k,c,_,h=>⟨h,by simp⟩
 | x :: ks,t,k,c,hn,h=>by
  obtain⟨h1,h2⟩:=rk (fq hn) h;refine⟨eH h1,fun hm=>?_⟩;rcases zl.1 hm with hm | hm
  . exact dZ hn (hm ▸ h1)
  . exact h2 hm
def a7 (ch chs chs':Chs) (nk:List Nat):Chs:=
 match chs,chs',nk with
 |[],[],[]=>ch
 |_,_,_=>chs'++ae (az nk chs) (bA (aB ch chs) nk)
structure CallR (P:Program) [Glob P] (ρ:Operand->C) (ch:Chs) (d:Nat) (fo:Operand) (aS:List Operand) (r:C) (chs chs':Chs) (nk:List Nat):Prop where
 ex:∃ f first caps bs,bk (ρ fo)=some (f,first,caps)/\FC P f ((first++aS.map ρ++caps).map (aD ch bs)) chs r chs'/\(∀ c∈first++aS.map ρ++caps,aY ch bs c) /\
  (∀ k c,(k,c)∈chs->lk ch k=some c/\k∉bs/\k∉nk)/\(bs=[]\/(aP r/\∀ k c,(k,c)∈chs'->bD c))
 nd:(chs.map (·.1)).Nodup
 hnk:∀ k cs,(k,.box cs)∈chs'->k∈nk->k < 100000
 new:∀ k c,(k,c)∈chs'->k∈nk\/∃ c0,(k,c0)∈chs
 old:∀ k cs,(k,.box cs)∈chs->∃ cs',(k,.box cs')∈chs'
 kr:dG (chs'.map (·.1)) r
 kc:∀ k c,(k,c)∈chs'->gd (chs'.map (·.1)) c
def jX (E:Env) (U:Nat->Prop) (ch:Chs) (bs:List Nat):Nat->Prop:=fun b=>U b\/∃ k c,k∈bs/\lk ch k=some c/\(E k).fp b
theorem we {bs:List Nat} {c:C} {v:Value} (hi:Inv E U w.heap ch) (hr:Rep E U w.heap c v):aY ch bs c->Rep E (jX E U ch bs) w.heap (aD ch bs c) v:=by
 have hk:∀ b,U b->jX E U ch bs b/\w.heap[b]? = w.heap[b]?:=fun b hb=>⟨.inl hb,rfl⟩
 have up:∀ c v,Rep E U w.heap c v->Rep E (jX E U ch bs) w.heap c v:=fun c v h=>h.same hk
 induction hr with
 | d hd=>intro _;cases hd <;> simp only[aD] <;> exact up _ _ (.d (by first | exact .any _ | exact .s _ | exact .sl0 _ _ _ ‹_› | exact .sl _ _ _ _ _ _ _ _ _ ‹_› ‹_› ‹_› ‹_› ‹_› ‹_› ‹_›))
 | ref cs b off arr ty fz vf hU hb hv hr=>intro _;exact up _ _ (.ref cs b off arr ty fz vf hU hb hv hr)
 | agg cs vs hl hr h1 ih=>
  intro ho;simp only[aD,pN];simp only[aY]at ho;refine .agg _ vs (by simpa using hl) (fun j c hj=>?_) h1;simp only[zh,za]at hj;obtain⟨c0,h0,rfl⟩:=hj;exact ih j c0 h0 (kf ho c0 (zp h0))
 | tup cs vs hl hr ih=>intro _;exact up _ _ (.tup cs vs hl hr)
 | fn f xs ys vs ws hl hr hl' hr'=>intro _;exact up _ _ (.fn f xs ys vs ws hl hr hl' hr')
 | own k=>
  intro _;simp only[aD];by_cases hb:bs.contains k=true
  . rw[qb hb];cases hl:(lk ch k).bind bz with
    | none=>exact up _ _ (.own k)
    | some x=>
     simp only[zk]at hl;obtain⟨c0,hl,hx⟩:=hl;exact .d (mJ (hi.ok k _ (dH hl)) hx (Rep.own (E:=E) (U:=U) (h:=w.heap) k) hk (fun b hf=>⟨.inr ⟨k,c0,by simpa using hb,hl,hf⟩,rfl⟩))
  . rw[qa hb];exact up _ _ (.own k)
 | ptr k off=>intro _;exact up _ _ (.ptr k off)
 | eptr k i j=>intro _;exact up _ _ (.eptr k i j)
 | iptr k i n j=>intro _;exact up _ _ (.iptr k i n j)
 | inn k i=>
  intro ho;simp only[aD];simp only[aY]at ho;by_cases hb:bs.contains k=true
  . rw[qb hb]at ho ⊢;cases hl:cT ch k i with
    | none=>exact up _ _ (.inn k i)
    | some q=>
     rw[hl]at ho;obtain⟨p,x⟩:=q;simp only at ho;simp only[cT,za]at hl;obtain⟨⟨p',n,t,es⟩,hl,hq⟩:=hl;simp only[zf]at hq;obtain⟨rfl,rfl⟩:=hq;obtain⟨c0,hl0,hI,_,hres⟩:=gL hl ho;have hck:=hi.ok k _ (dH hl0);obtain⟨hf,hin⟩:=hck.inns hres;exact .d (mM (hin i _ _ _ hI) hk (fun hn=>⟨.inr ⟨k,c0,by simpa using hb,hl0,(hf.fp _).2 (.inr ⟨i,_,hI,hn,rfl⟩)⟩,rfl⟩))
  . rw[qa hb];exact up _ _ (.inn k i)
theorem jP {f:FuncId} {args:Array Value} (hf:FnOk P f):(callFunc f args).run P w=.ok (.enter f args) w:=by
 obtain⟨fn,h1,h2,h3⟩:=hf
 have h2':¬ ((fn.name == "runtime.NumGoroutine")=true):=by rw[h2];simp
 have h3':¬ (fn.body.isNone=true):=by rw[h3];simp
 simp only[callFunc,Sem.run_bind,run_program,Result.andThen_ok,h1];rw[qa h2',qa h3'];rfl
variable [Glob P] in
theorem mf {ro:Option Nat} {a:Act} {o:Oper} {fo:Operand} {aS:Array Operand} {ts:Array TypeId} {ρ:Operand->C} {r:C} {chs chs':Chs} (hi:Inv E U w.heap ch) (hg:eT P U w.heap) (hρ:∀ x,Rep E U w.heap (ρ x) (a.eval x))
 (ho:o.op=.call { callee:=.value fo,args:=aS,argTypes:=ts }) {nk:List Nat} (hc:CallR P ρ ch d fo aS.toList r chs chs' nk) {K:Act->World->Prop} {Q:Exit->Act->World->Prop}
 (hK:∀ v E' U' w',Rep E' U' w'.heap r v->Ev E U w ch (az nk chs) d E' U' w' (a7 ch chs chs' nk)->(∀ k c,(k,c)∈ch->(∀ c0,(k,c0)∉chs)->∀ b,(E k).fp b->w'.heap[b]? = w.heap[b]?)->K (a.put o.dst v) w'):o.wpIn (FW ro) 0 P a w K Q:=by
 obtain⟨⟨f,first,caps,bs,hfo,hFC,hvo,hchs,hflat⟩,hnd,hnkd,hnew,hold,hkr,hkc⟩:=hc;obtain⟨hfn,hFC⟩:=hFC;obtain⟨fv,cv,hev,hl1,hr1,hl2,hr2⟩:=qW hfo (hρ fo);have hargs:jo E (jX E U ch bs) w.heap ((first++aS.toList.map ρ++caps).map (aD ch bs)) (fv++aS.map a.eval++cv):=by
  refine⟨by simp[hl1,hl2],fun j c hj=>?_⟩;simp only[zh,za]at hj;obtain⟨c0,h0,rfl⟩:=hj;refine we hi ?_ (hvo c0 (zp h0));simp only[zc];rw[ye,zS]at h0;rw[Array.append_assoc,yx,hl1];split at h0
  . rename_i hlt;rw[qb hlt];have:=hr1 j c0 h0;simpa[zc]using this
  . rename_i hlt;rw[qa hlt,yx];rw[zS]at h0;simp only[Array.size_map];simp only[zy,Array.length_toList]at h0;split at h0
    . rename_i hlt2;rw[qb hlt2];simp only[zh,za,zM]at h0;obtain⟨x,hx,rfl⟩:=h0;simp[hx,hρ x]
    . rename_i hlt2;rw[qa hlt2];have:=hr2 _ c0 h0;simpa[zc]using this
 have hmem:∀ k c,(k,c)∈chs->(k,c)∈ch:=fun k c h=>dH (hchs k c h).1
 have hi1:=hi.sub hmem hnd;have hlent:∀ b,jX E U ch bs b->b < w.heap.size:=fun b hb=>by
  rcases hb with hb | ⟨k,c,h1,h2,h3⟩
  . exact hi.lt b hb
  . exact hi.fpl k c (dH h2) b h3
 have hup:∀ b,U b->jX E U ch bs b/\w.heap[b]? = w.heap[b]?:=fun b hb=>⟨.inl hb,rfl⟩
 have hi2:Inv E (jX E U ch bs) w.heap chs:=by
  refine⟨hi1.nd,fun k c hc=>(hi1.ok k c hc).same hup (fun _ _=>rfl),hi1.sep,fun k c hc b hb hu=>?_,hi1.fpl,hlent⟩;rcases hu with hu | ⟨k',c',g1,g2,g3⟩
  . exact hi1.out k c hc b hb hu
  . have hne:k≠k':=fun e=>(hchs k c hc).2.1 (e ▸ g1)
    exact hi.sep k c k' _ (hmem k c hc) (dH g2) hne b hb g3
 have hcall:=hFC E (jX E U ch bs) _ w (hg.mono hup) hargs hi2;have hrun:(execOp a.eval o).run P w=.ok (.enter f (fv++aS.map a.eval++cv)) w:=by
  simp only[execOp,ho,resolve,hev,Deferred.ofValue,Sem.run_bind,Sem.run_pure,Result.andThen_ok,invoke,jP hfn]
 refine⟨fun _ _=>trivial,?_⟩;rw[Oper.semAt_eq _ _ _ (by rw[ho];simp),hrun,Oper.uponIn_enter];refine⟨fun h=>by simp[FW,Fence.wide]at h,kE (hcall.mono fun e w' h=>?_)⟩;obtain⟨v,E',U',rfl,hrep,hce⟩:=h;show K (a.put o.dst v) w'
 let ks:=chs'.map (·.1)
 let E2:Env:=fun k=>if k∈ks then E' k else E k
 have hE2in:∀ k∈ks,E2 k=E' k:=fun k hk=>by simp only[E2,qb hk]
 have hE2out:∀ k,k∉ks->E2 k=E k:=fun k hk=>by simp only[E2,qa hk]
 let U2:Nat->Prop:=fun b=>U' b/\¬ ∃ k c,k∈bs/\lk ch k=some c/\(E k).fp b
 have hnotlent:∀ b,U b->¬ ∃ k c,k∈bs/\lk ch k=some c/\(E k).fp b:=fun b hb=>by
  rintro⟨k,c,h1,h2,h3⟩
  exact hi.out k _ (dH h2) b h3 hb
 have hkeep:∀ b,U b->U2 b/\w'.heap[b]? = w.heap[b]?:=fun b hb=>⟨⟨(hce.keep b (.inl hb)).1,hnotlent b hb⟩,(hce.keep b (.inl hb)).2⟩
 have hr2:Rep E2 U2 w'.heap r v:=by
  have h1:=hrep.env hkr hE2in;rcases hflat with hb | hf
  . exact h1.same fun b hb'=>⟨⟨hb',by rintro⟨k,c,h1,_⟩;rw[hb]at h1;cases h1⟩,rfl⟩
  . exact h1.flat hf.1
 have hok2:∀ k c',(k,c')∈chs'->dM E2 U2 w'.heap k c':=fun k c' hm=>by
  have h1:=(hce.inv.ok k c' hm).env (zu.2 ⟨_,hm,rfl⟩) (hkc k c' hm) hE2in;rcases hflat with hb | hf
  . exact h1.same (fun b hb'=>⟨⟨hb',by rintro⟨k,c,h1,_⟩;rw[hb]at h1;cases h1⟩,rfl⟩) (fun _ _=>rfl)
  . exact h1.flat (hf.2 k c' hm)
 have hkeyOld:∀ k∈ks,k∉nk->∃ c0,(k,c0)∈chs:=fun k hk hd=>by
  obtain⟨⟨k',c'⟩,h1,h2⟩:=zu.1 hk;simp only at h2;subst h2;rcases hnew k' c' h1 with h | h
  . exact absurd h hd
  . exact h
 have henv:∀ k,(az nk chs).lookup k=none->E2 k=E k:=fun k hk=>by
  obtain⟨h1,h2⟩:=mh hk;refine hE2out k fun hm=>?_
  obtain⟨c0,hc0⟩:=hkeyOld k hm h1;exact h2 c0 hc0
 have henvI:∀ k,(az nk chs).lookup k=some .inner->(E2 k).toKE0=(E k).toKE0:=fun k hk=>by
  rcases iU hk with h | ⟨_,cs,h⟩
  . cases h
  . obtain⟨cs',hc'⟩:=hold k cs h;rw[hE2in k (zu.2 ⟨_,hc',rfl⟩)];exact (hce.boxes k cs' hc' ⟨_,h⟩).2
 have hsubv:∀ k c',(az nk chs).lookup k=some (.c c')->∀ v,Rep E U w.heap (.own k) v->Rep E2 U2 w'.heap c' v:=fun k c' h v _=>by
  rcases iU h with h | ⟨h,_⟩
  . cases h;exact .d (.any v)
  . cases h
 have hnd2:((aB ch chs).map (·.1)).Nodup:=hi.nd.sublist ((jr chs ch).map _);have hdos:(bA (aB ch chs) nk).Sublist ch:=(qQ nk _).trans (jr chs ch);have hrestm:∀ k c,(k,c)∈bA (aB ch chs) nk->(k,c)∈ch/\k∉nk/\∀ c0,(k,c0)∉chs:=fun k c hm=>by
  obtain⟨h1,h1'⟩:=rk hnd2 hm;obtain⟨h2,h3⟩:=kR hi.nd h1;refine⟨h2,h1',fun c0 hc0=>?_⟩;have:=List.lookup_eq_none_iff.1 h3 (k,c0) hc0;simp at this
 have hE2rest:∀ k c,(k,c)∈bA (aB ch chs) nk->E2 k=E k:=fun k c hm=>by
  obtain⟨h1,h2,h3⟩:=hrestm k c hm;refine hE2out k fun hk=>?_
  obtain⟨c0,hc0⟩:=hkeyOld k hk h2;exact h3 c0 hc0
 have hks:∀ k c,(k,c)∈chs'->k∈ks:=fun k c h=>zu.2 ⟨_,h,rfl⟩
 have hnotin:∀ k c,(k,c)∈chs->∀ c',(k,c')∉bA (aB ch chs) nk:=fun k c h c' h'=>(hrestm k c' h').2.2 c h
 have hcc:∀ k c,(k,c)∈a7 ch chs chs' nk↔(k,c)∈chs'++ae (az nk chs) (bA (aB ch chs) nk):=fun k c=>by
  unfold a7;split
  . simp only[yb,az,aB,bA,zR];rw[j3]
  . exact Iff.rfl
 have hccn:((a7 ch chs chs' nk).map (·.1)).Nodup\/True:=.inr trivial;have hgen:=Ev.gen (news:=chs') (old:=bA (aB ch chs) nk) (m:=az nk chs) (d:=d) (E':=E2) (U':=U2) (w1:=w') hi hce.os hce.tape hce.output hce.size hdos hkeep henv henvI hsubv hE2rest
  (fun k c hm b hb=>by
   obtain⟨h1,h2,h3⟩:=hrestm k c hm
   exact hce.rest b (hi.fpl k c h1 b hb) (fun k' c' h' hb'=>hi.sep k' c' k c (hmem k' c' h') h1 (fun e2=>h3 c' (e2 ▸ h')) b hb' hb))
  (fun b hb1 hb2=>hce.rest b hb1 (fun k c h=>hb2 k c (hmem k c h))) hce.inv.nd
  (fun k c h c' h'=>by
   obtain⟨h1,h2,h3⟩:=hrestm k c' h';obtain⟨c0,hc0⟩:=hkeyOld k (hks k c h) h2
   exact h3 c0 hc0) hok2
  (fun k c h b hb=>by
   rw[hE2in k (hks k c h)]at hb;rcases hce.live k c h b hb with g | ⟨k0,c0,g1,g2⟩
   . exact .inl g
   . exact .inr ⟨k0,c0,hmem k0 c0 g1,hnotin k0 c0 g1,g2⟩)
  (fun k c h b hb=>by rw[hE2in k (hks k c h)]at hb;exact hce.inv.fpl k c h b hb)
  (fun k c k' c' h h' hne b hb=>by
   rw[hE2in k (hks k c h)]at hb;rw[hE2in k' (hks k' c' h')]
   exact hce.inv.sep k c k' c' h h' hne b hb)
  (fun b hb=>by
   rcases hce.newU b hb.1 with h | h | ⟨k0,c0,g1,g2⟩
   . rcases h with h | ⟨k',c',g1,g2,g3⟩
     . exact .inl h
     . exact absurd ⟨k',c',g1,g2,g3⟩ hb.2
   . exact .inr (.inl h)
   . exact .inr (.inr ⟨k0,c0,hmem k0 c0 g1,hnotin k0 c0 g1,g2⟩))
  (fun k c h b hb hu=>by
   rw[hE2in k (hks k c h)]at hb
   exact hce.inv.out k c h b hb hu.1) (fun b hb=>hce.inv.lt b hb.1)
  (fun k cs h=>by
   by_cases hk:k∈nk
   . exact .inl (.inr (hnkd k cs h hk))
   . right;obtain⟨c0,hc0⟩:=hkeyOld k (hks k _ h) hk;obtain⟨⟨cs0,h1⟩,h2⟩:=hce.boxes k cs h ⟨c0,hc0⟩
     exact⟨⟨cs0,hmem k _ h1⟩,by rw[hE2in k (hks k _ h)];exact h2⟩)
 refine hK v E2 U2 w' hr2 (hgen.chs (fun k c h=>(hcc k c).1 h) ?_) (fun k c h1 h3 b hb=>hce.rest b (hi.fpl k c h1 b hb) (fun k' c' h' hb'=>hi.sep k' c' k c (hmem k' c' h') h1 (fun e2=>h3 c' (e2 ▸ h')) b hb' hb));have hn:=hgen.inv.nd;unfold a7;split
 . exact hi.nd
 . exact hn
variable [Glob P] in
theorem sB {ro:Option Nat} {a:Act} {o:Oper} {fo:Operand} {aS:Array Operand} {ts:Array TypeId} {ρ:Operand->C} {r:C} {chs chs':Chs} (hi:Inv E U w.heap ch) (hg:eT P U w.heap) (hρ:∀ x,Rep E U w.heap (ρ x) (a.eval x))
 (ho:o.op=.call { callee:=.value fo,args:=aS,argTypes:=ts }) {nk:List Nat} (hc:CallR P ρ ch d fo aS.toList r chs chs' nk) {K:Act->World->Prop} {Q:Exit->Act->World->Prop}
 (hK:∀ v E' U' w',Rep E' U' w'.heap r v->Ev E U w ch (az nk chs) d E' U' w' (a7 ch chs chs' nk)->K (a.put o.dst v) w'):o.wpIn (FW ro) 0 P a w K Q:=
 mf hi hg hρ ho hc fun v E' U' w' h1 h2 _=>hK v E' U' w' h1 h2
def kw : C->Bool
 |.s _=>true
 |.sl _ _=>true
 |.ref _=>true
 |.fn _ [] []=>true
 |_=>false
def eZ : Chs->Bool
 |[]=>true
 | (_,.box cs) :: r=>cs.all kw && eZ r
 |_ :: _=>false
theorem j9 {c:C} (h:kw c=true):dG [] c/\aL c=true:=by
 cases c with
 | fn f xs ys=>
  cases xs with
  | nil=>cases ys with
   | nil=>exact⟨⟨trivial,trivial⟩,rfl⟩
   | cons=>cases h
  | cons=>cases h
 |_=>first | exact⟨trivial,rfl⟩ | cases h
theorem jM : ∀ {chs:Chs} {k:Nat} {c:Ch},eZ chs=true->(k,c)∈chs->∃ cs,c=.box cs/\∀ x∈cs,kw x=true
 |[],_,_,_,h=>by simp at h
 | (j,c0) :: r,k,c,h,hm=>by
  cases c0 with
  | box cs=>
   simp only[eZ,zm]at h;rcases zl.1 hm with hm | hm
   . cases hm;exact⟨cs,rfl,zx.1 h.1⟩
   . exact jM h.2 hm
  |_=>cases h
theorem mW {cs:List C} (h:∀ x∈cs,kw x=true):eK cs=noI:=lj fun j c hj=>(j9 (h c (zp hj))).2
variable [Glob P] in
theorem rJ {ro:Option Nat} {a:Act} {o:Oper} {fo:Operand} {aS:Array Operand} {ts:Array TypeId} {ρ:Operand->C} {r:C} {chs:Chs} (hi:Inv E U w.heap ch) (hg:eT P U w.heap) (hρ:∀ x,Rep E U w.heap (ρ x) (a.eval x))
 (ho:o.op=.call { callee:=.value fo,args:=aS,argTypes:=ts }) (hc:CallR P ρ ch d fo aS.toList r chs chs []) (hp:eZ chs=true) (hr:dG [] r) {K:Act->World->Prop} {Q:Exit->Act->World->Prop}
 (hK:∀ v E' U' w',Rep E' U' w'.heap r v->Ev E U w ch [] d E' U' w' ch->K (a.put o.dst v) w'):o.wpIn (FW ro) 0 P a w K Q:=
 mf hi hg hρ ho hc fun v E' U' w' hrep he hsame=>by
  have hmem:∀ k c,(k,c)∈chs->(k,c)∈ch:=by
   obtain⟨⟨f,first,caps,bs,hfo,hFC,hvo,hchs,hflat⟩,_⟩:=hc;exact fun k c h=>dH (hchs k c h).1
  have hcc:∀ k c,(k,c)∈chs->(k,c)∈a7 ch chs chs []:=fun k c h=>by
   unfold a7;split
   . simp at h
   . exact zW.2 (.inl h)
  have hsub:∀ k c,(k,c)∈chs->∃ cs,c=.box cs/\(∀ x∈cs,kw x=true)/\(E' k).toKE0=(E k).toKE0:=fun k c h=>by
   obtain⟨cs,rfl,h2⟩:=jM hp h;refine⟨cs,rfl,h2,?_⟩;rcases he.boxes k cs (hcc k _ h)with _ | ⟨_,h3⟩
   . refine he.envI k ?_;have:∀ {l:Chs},eZ l=true->(k,.box cs)∈l->(az [] l).lookup k=some .inner:=by
      intro l
      induction l with
      | nil=>intro _ h;simp at h
      | cons q l ih=>
       intro hl hm;obtain⟨j,c0⟩:=q;cases c0 with
       | box cs0=>
        simp only[eZ,zm]at hl;simp only[az,z0];split
        . rfl
        . rename_i hb;rcases zl.1 hm with hm | hm
          . cases hm;simp at hb
          . exact ih hl.2 hm
       |_=>cases hl
     exact this hp h
   . exact h3
  refine hK v E U' w' (hrep.env hr (fun k hk=>by simp at hk)) ⟨he.os,he.tape,he.output,he.size,he.keep,fun _ _=>rfl,fun _ _=>rfl,fun k c' h=>by simp at h,he.rest,fun k c h b hb=>.inr ⟨k,c,h,hb⟩,he.newU,fun k cs h=>.inr ⟨⟨cs,h⟩,rfl⟩,hi.nd,fun k c h=>?_,hi.sep,fun k c h b hb hu=>?_,fun k c h b hb=>yJ (hi.fpl k c h b hb) he.size,he.inv.lt⟩
  . by_cases hk:∃ c0,(k,c0)∈chs
    . obtain⟨c0,hc0⟩:=hk;have e0:c0=c:=by
       have h1:=eR hi.nd (hmem k c0 hc0);have h2:=eR hi.nd h;rw[h1]at h2;exact Option.some.inj h2
      subst e0;obtain⟨cs,rfl,hpl,hke⟩:=hsub k c0 hc0;obtain⟨⟨b1,arr,ty,b2,b3,b4⟩,_,_⟩:=he.inv.ok k _ (hcc k _ hc0);obtain⟨_,f1,_⟩:=hi.ok k _ h;have hbI:=mW hpl;simp only[dM];refine⟨⟨by rw[<- hke];exact b1,arr,ty,by rw[<- hke];exact b2,b3,fun j c hj=>?_⟩,f1,fun i n t es h=>by rw[hbI]at h;cases h⟩;have hx:=j9 (hpl c (zp hj));rcases b4 j c hj with b4 | ⟨⟨n,t,es,rfl⟩,_⟩
      . exact .inl ⟨b4.1.env hx.1 (fun k hk=>by simp at hk),b4.2⟩
      . cases hx.2
    . exact (hi.ok k c h).same he.keep (hsame k c h (fun c0 h0=>hk ⟨c0,h0⟩))
  . by_cases hk:∃ c0,(k,c0)∈chs
    . obtain⟨c0,hc0⟩:=hk;obtain⟨cs,rfl,hpl,hke⟩:=hsub k c0 hc0;have hbI:=mW hpl;have g1:=(hi.ok k _ (hmem k _ hc0)).2.1;have g2:=(he.inv.ok k _ (hcc k _ hc0)).2.1;rw[hbI]at g1 g2;refine he.inv.out k _ (hcc k _ hc0) b ((g2.fp b).2 ?_) hu;rcases (g1.fp b).1 hb with⟨x1,x2⟩ | ⟨i,q,x,_⟩
      . left;rw[hke];exact⟨x1,x2⟩
      . cases x
    . rcases he.newU b hu with g | g | ⟨k0,c0,g1,g2⟩
      . exact hi.out k c h b hb g
      . have:=hi.fpl k c h b hb;omega
      . have mdA:∀ {l t:Chs},(t.map (·.1)).Nodup->(k,c)∈t->(∀ c0,(k,c0)∉l)->(k,c)∈aB t l:=by
         intro l
         induction l with
         | nil=>intro t _ h _;exact h
         | cons q l ih=>
          intro t hn ht hl;obtain⟨j,c1⟩:=q;exact ih (fq hn) (ij hn ht (fun e=>hl c1 (e ▸ zq))) (fun c0 h0=>hl c0 (zo _ h0))
        have hk':∀ c0,(k,c0)∉chs:=fun c0 h0=>hk ⟨c0,h0⟩
        have hnone:(az [] chs).lookup k=none:=by
         have:∀ {l:Chs},(∀ c0,(k,c0)∉l)->(az [] l).lookup k=none:=by
          intro l
          induction l with
          | nil=>intro _;rfl
          | cons q l ih=>
           intro hl;obtain⟨j,c1⟩:=q;have hb:(k == j)=false:=by
            simp only[beq_eq_false_iff_ne];intro e;exact hl c1 (e ▸ zq)
           have:=ih (fun c0 h0=>hl c0 (zo _ h0));cases c1 <;> simp only[az,z0,hb] <;> exact this
         exact this hk'
        have hm2:∃ c',(k,c')∈a7 ch chs chs []:=by
         unfold a7;split
         . exact⟨c,h⟩
         . refine⟨_,zW.2 (.inr (fS _ _ ▸ zu.2 ⟨(k,c),mdA hi.nd h hk',rfl⟩))⟩
        obtain⟨c',hm2⟩:=hm2;exact he.inv.out k c' hm2 b (by rw[he.env k hnone];exact hb) hu
def bM (ch':Chs) (k d n:Nat) (e:TypeId) (es:List (List C)):Chs:=(d,.row n e es) :: ae [(d,.c .any),(k,.inner)] (af ch' d)
theorem Ev.take {k j n:Nat} {e:TypeId} {es:List (List C)} {q:Prop} {ch':Chs} (hi:Inv E U w.heap ch) (hl:aN ch k j=some (q,n,e,es)) (hq:q) (hh:aM ch k j=some ch') (hkd:k≠d) :
 ∃ E',(∀ k',[(d,Sb.c .any),(k,.inner)].lookup k'=some .inner->(E' k').toKE0=(E k').toKE0)/\E' d=ke0 ((E k).inn j)/\Ev E U w ch [(d,.c .any),(k,.inner)] d E' U w (bM ch' k d n e es):=by
 obtain⟨c0,hlk,hI,rfl,hH,hres,hno⟩:=lF hl hq hh;have hkm:=dH hlk;have hck:=hi.ok k _ hkm;obtain⟨hf,hin⟩:=hck.inns hres;have hrow:=hin j _ _ _ hI;have hown:((E k).inn j).nil=false->(E k).fp ((E k).inn j).blk:=fun hn=>(hf.fp _).2 (.inr ⟨j,_,hI,hn,rfl⟩)
 let y':KE0:=(E k).inn j
 have g2:fa U w.heap y' n e es:=hrow;have g7:∀ b,b < w.heap.size->(((E k).inn j).nil=false->b≠((E k).inn j).blk)->w.heap[b]? = w.heap[b]?:=fun _ _ _=>rfl
 have g8:y'.nil=false->(w.heap.size<=y'.blk/\y'.blk < w.heap.size)\/(((E k).inn j).nil=false/\y'.blk=((E k).inn j).blk):=fun h=>.inr ⟨h,rfl⟩
 let xk:KE:={ E k with fp:=fun b=>(E k).fp b/\(((E k).inn j).nil=false->b≠((E k).inn j).blk) }
 have hfx:FpOk xk (chI (eN j c0)):=by
  refine⟨fun b=>⟨fun⟨h1,h2⟩=>?_,fun h=>?_⟩,fun i' q' h1=>?_,fun i1 i2 q1 q2 hne h1 h2=>?_⟩
  . rcases (hf.fp b).1 h1 with h | ⟨i',q',k1,k2,k3⟩
    . exact .inl h
    . refine .inr ⟨i',q',?_,k2,k3⟩;rw[hH,qa]
      . exact k1
      . rintro rfl;exact h2 k2 k3.symm
  . rcases h with h | ⟨i',q',k1,k2,k3⟩
    . exact⟨(hf.fp b).2 (.inl h),fun hn e=>hf.ne j _ hI hn h.1 (by rw[<- e];exact h.2.symm)⟩
    . rw[hH]at k1;split at k1
      . cases k1
      . rename_i hne;refine⟨(hf.fp b).2 (.inr ⟨i',q',k1,k2,k3⟩),fun hn e=>hf.sep i' j _ _ hne k1 hI k2 hn (k3.trans e)⟩
  . rw[hH]at h1;split at h1
    . cases h1
    . exact hf.ne i' q' h1
  . rw[hH]at h1 h2;split at h1
    . cases h1
    . split at h2
      . cases h2
      . exact hf.sep i1 i2 q1 q2 hne h1 h2
 let E':Env:=dQ (dQ E k xk) d (ke0 y')
 have hEd:E' d=ke0 y':=updE_same _ _ _;have hEk:E' k=xk:=by simp only[E'];rw[d0 _ _ hkd,updE_same]
 have hEo:∀ k',k'≠k->k'≠d->E' k'=E k':=fun k' h1 h2=>by simp only[E'];rw[d0 _ _ h2,d0 _ _ h1]
 have hkeep:∀ b,U b->U b/\w.heap[b]? = w.heap[b]?:=fun b hb=>⟨hb,g7 b (hi.lt b hb) (fun hn e=>hi.out k _ hkm b (e ▸ hown hn) hb)⟩
 have henv:∀ k',[(d,Sb.c .any),(k,.inner)].lookup k'=none->E' k'=E k':=fun k' h=>by
  rw[gj]at h;split at h
  . cases h
  . split at h
    . cases h
    . exact hEo k' (by assumption) (by assumption)
 have henvI:∀ k',[(d,Sb.c .any),(k,.inner)].lookup k'=some .inner->(E' k').toKE0=(E k').toKE0:=fun k' h=>by
  rw[gj]at h;split at h
  . cases h
  . split at h
    . rename_i e;subst e;rw[hEk]
    . cases h
 have hsub:∀ k' c',[(d,Sb.c .any),(k,.inner)].lookup k'=some (.c c')->∀ v,Rep E U w.heap (.own k') v->Rep E' U w.heap c' v:=fun k' c' h v _=>by
  rw[gj]at h;split at h
  . cases h;exact .d (.any v)
  . split at h <;> cases h
 have hrep:∀ c v,Rep E U w.heap c v->Rep E' U w.heap (ah [(d,.c .any),(k,.inner)] c) v:=fun c v hr=>hr.mono hkeep henv henvI hsub
 have hnoI:=iR.of_sub hsub;have hold2:∀ k' c',(k',c')∈af (af ch k) d->(k',c')∈ch/\k'≠k/\k'≠d:=fun k' c' h=>jL hi.nd h
 have hsame:∀ b,b < w.heap.size->¬ (E k).fp b->w.heap[b]? = w.heap[b]?:=fun b hb hn=>g7 b hb (fun h e=>hn (e ▸ hown h))
 have hy:∀ b,(ke0 y').fp b->(w.heap.size<=b/\b < w.heap.size)\/(((E k).inn j).nil=false/\b=((E k).inn j).blk):=fun b hb=>by
  obtain⟨hb1,rfl⟩:=hb;exact g8 hb1
 have hev:=Ev.gen (news:=[(d,.row n e es),(k,ec [(d,.c .any),(k,.inner)] (eN j c0))]) (old:=af (af ch k) d) (m:=[(d,.c .any),(k,.inner)]) (d:=d) (E':=E') (U':=U) (w1:=w) hi rfl rfl rfl (zw _)
  ((eu _ d).trans (eu ch k)) hkeep henv henvI hsub (fun k' c' h=>hEo k' (hold2 k' c' h).2.1 (hold2 k' c' h).2.2)
  (fun k' c' h b hb=>hsame b (hi.fpl k' c' (hold2 k' c' h).1 b hb) (fun hb'=>hi.sep k' c' k c0 (hold2 k' c' h).1 hkm (hold2 k' c' h).2.1 b hb hb'))
  (fun b hb1 hb2=>hsame b hb1 (hb2 k c0 hkm)) (by simp;exact fun e=>hkd e.symm) (fun k' c' h c2 h2=>?_) (fun k' c' h=>?_) (fun k' c' h b hb=>?_) (fun k' c' h b hb=>?_) (fun k1 x1 k2 x2 h1 h2 hne b hb1 hb2=>?_) (fun b hb=>.inl hb) (fun k' c' h b hb hu=>?_) (fun b hb=>by have:=hi.lt b hb;omega) (fun k' cs h=>?_)
 . refine⟨E',fun k' h=>henvI k' h,hEd,hev.chs (fun k' c' hm=>?_) ?_⟩
   . rcases zl.1 hm with h | h
     . rw[h];simp
     . obtain⟨c2,h2,rfl⟩:=ik h;have hndk:((am ch k (eN j c0)).map (·.1)).Nodup:=by rw[fb hlk];exact hi.nd
       rcases fk hi.nd (eH h2)with h3 | h3
       . cases h3;simp
       . exact zW.2 (.inr (jk (ij (fq hi.nd) h3 (fun e=>dZ hndk (e ▸ h2)))))
   . have hndk:((am ch k (eN j c0)).map (·.1)).Nodup:=by rw[fb hlk];exact hi.nd
     simp only[bM,zt,zI,fj];exact⟨fun hm=>by obtain⟨⟨k',c'⟩,h1,h2⟩:=zu.1 hm;cases h2;exact dZ hndk h1,fq hndk⟩
 . simp only[zl,zA,qk,zf]at h;rcases h with⟨rfl,_⟩ | ⟨rfl,_⟩
   . exact (hold2 _ _ h2).2.2 rfl
   . exact (hold2 _ _ h2).2.1 rfl
 . simp only[zl,zA,qk,zf]at h;rcases h with⟨rfl,rfl⟩ | ⟨rfl,rfl⟩
   . rw[dM,hEd];exact⟨g2,gn _⟩
   . refine hck.hole hI hH hkeep hrep hnoI (by rw[hEk]) (by rw[hEk]) (by rw[hEk];exact hfx) hno (fun b hb hb2=>?_);rcases yu b w.heap.size with hlt | hge
     . exact g7 b hlt hb2
     . have:=hi.fpl _ c0 hkm b hb;omega
 . simp only[zl,zA,qk,zf]at h;rcases h with⟨rfl,rfl⟩ | ⟨rfl,rfl⟩
   . rw[hEd]at hb;rcases hy b hb with g | ⟨ga,gb⟩
     . exact .inl g.1
     . exact .inr ⟨k,c0,hkm,(fun c' h'=>(hold2 _ _ h').2.1 rfl),gb ▸ hown ga⟩
   . rw[hEk]at hb;exact .inr ⟨_,c0,hkm,(fun c' h'=>(hold2 _ _ h').2.1 rfl),hb.1⟩
 . simp only[zl,zA,qk,zf]at h;rcases h with⟨rfl,rfl⟩ | ⟨rfl,rfl⟩
   . rw[hEd]at hb;rcases hy b hb with g | ⟨ga,gb⟩
     . exact g.2
     . have:=hi.fpl k c0 hkm b (gb ▸ hown ga);omega
   . rw[hEk]at hb;have:=hi.fpl _ c0 hkm b hb.1;omega
 . have cross:∀ b,(ke0 y').fp b->¬ xk.fp b:=fun b hb1 hb2=>by
    rcases hy b hb1 with g | ⟨ga,gb⟩
    . have:=hi.fpl k c0 hkm b hb2.1;omega
    . exact hb2.2 ga gb
   simp only[zl,zA,qk,zf]at h1 h2;rcases h1 with⟨rfl,_⟩ | ⟨rfl,_⟩ <;> rcases h2 with⟨rfl,_⟩ | ⟨rfl,_⟩
   . exact hne rfl
   . rw[hEd]at hb1;rw[hEk]at hb2;exact cross b hb1 hb2
   . rw[hEd]at hb2;rw[hEk]at hb1;exact cross b hb2 hb1
   . exact hne rfl
 . simp only[zl,zA,qk,zf]at h;rcases h with⟨rfl,rfl⟩ | ⟨rfl,rfl⟩
   . rw[hEd]at hb;rcases hy b hb with g | ⟨ga,gb⟩
     . have:=hi.lt b hu;omega
     . exact hi.out k c0 hkm b (gb ▸ hown ga) hu
   . rw[hEk]at hb;exact hi.out _ c0 hkm b hb.1 hu
 . simp only[zl,zA,qk,zf]at h;rcases h with⟨rfl,h⟩ | ⟨rfl,h⟩
   . exact .inl (.inl rfl)
   . right;refine⟨?_,by rw[hEk]⟩;cases c0 with
     | box cs0=>exact⟨cs0,hkm⟩
     | deep=>simp[eN,ec]at h
     |_=>cases hI
def bF (m2:List (Nat×Sb)) (k:Nat):Sb->Sb
 |.c x=>.c (ah m2 x)
 |.inner=>match m2.lookup k with | some (.c x)=>.c x | _=>.inner
def a6 (m1 m2:List (Nat×Sb)):List (Nat×Sb):=m1.map (fun q=>(q.1,bF m2 q.1 q.2))++m2
theorem jK (m1 m2:List (Nat×Sb)) (k:Nat):(a6 m1 m2).lookup k=match m1.lookup k with | some s=>some (bF m2 k s) | none=>m2.lookup k:=by
 unfold a6
 induction m1 with
 | nil=>rfl
 | cons q m1 ih=>
  obtain⟨j,s⟩:=q;simp only[zt,yq,z0];by_cases hj:k=j
  . subst hj;simp
  . have hb:(k == j)=false:=by simp[hj]
    rw[hb];exact ih
theorem Ev.trans {E E1 E2:Env} {U U1 U2:Nat->Prop} {w w1 w2:World} {ch ch1 ch2:Chs} {m1 m2:List (Nat×Sb)} {d1 d:Nat} (h1:Ev E U w ch m1 d1 E1 U1 w1 ch1) (h2:Ev E1 U1 w1 ch1 m2 d E2 U2 w2 ch2) (hd:d1 < 100000) :
 Ev E U w ch (a6 m1 m2) d E2 U2 w2 ch2 where
 os:=h2.os.trans h1.os
 tape:=h2.tape.trans h1.tape
 output:=h2.output.trans h1.output
 size:=z6 h1.size h2.size
 keep:=fun b hb=>⟨(h2.keep b (h1.keep b hb).1).1,(h2.keep b (h1.keep b hb).1).2.trans (h1.keep b hb).2⟩
 env:=fun k hk=>by
  rw[jK]at hk;cases hm:m1.lookup k with
  | none=>rw[hm]at hk;exact (h2.env k hk).trans (h1.env k hm)
  | some s=>rw[hm]at hk;cases hk
 envI:=fun k hk=>by
  rw[jK]at hk;cases hm:m1.lookup k with
  | none=>
   rw[hm]at hk;rw[h2.envI k hk,h1.env k hm]
  | some s=>
   rw[hm]at hk;simp only[zn]at hk;cases s with
   | c x=>cases hk
   | inner=>
    simp only[bF]at hk;cases h2m:m2.lookup k with
    | none=>rw[h2.env k h2m,h1.envI k hm]
    | some s2=>
     rw[h2m]at hk;cases s2 with
     | c x=>cases hk
     | inner=>rw[h2.envI k h2m,h1.envI k hm]
 sub:=fun k c' hk v hr=>by
  rw[jK]at hk;cases hm:m1.lookup k with
  | none=>
   rw[hm]at hk;have:=h1.rep hr;simp only[ah,hm]at this;exact h2.sub k c' hk v this
  | some s=>
   rw[hm]at hk;simp only[zn]at hk;cases s with
   | c x=>
    simp only[bF,Sb.c.injEq]at hk;subst hk;exact h2.rep (h1.sub k x hm v hr)
   | inner=>
    simp only[bF]at hk;have:=h1.rep hr;simp only[ah,hm]at this;cases h2m:m2.lookup k with
    | none=>rw[h2m]at hk;cases hk
    | some s2=>
     rw[h2m]at hk;cases s2 with
     | c y=>cases hk;exact h2.sub k _ h2m v this
     | inner=>cases hk
 rest:=fun b hb hn=>(h2.rest b (yJ hb h1.size) (fun k c hm hf=>by
  rcases h1.live k c hm b hf with g | ⟨k0,c0,g1,g2⟩
  . omega
  . exact hn k0 c0 g1 g2)).trans (h1.rest b hb hn)
 live:=fun k c hm b hf=>by
  rcases h2.live k c hm b hf with g | ⟨k0,c0,g1,g2⟩
  . exact .inl (z6 h1.size g)
  . exact h1.live k0 c0 g1 b g2
 newU:=fun b hb=>by
  rcases h2.newU b hb with g | g | ⟨k0,c0,g1,g2⟩
  . exact h1.newU b g
  . exact .inr (.inl (z6 h1.size g))
  . rcases h1.live k0 c0 g1 b g2 with g | g
    . exact .inr (.inl g)
    . exact .inr (.inr g)
 boxes:=fun k cs hm=>by
  rcases h2.boxes k cs hm with g | ⟨⟨cs1,g1⟩,g2⟩
  . exact .inl g
  . rcases h1.boxes k cs1 g1 with g | ⟨g3,g4⟩
    . rcases g with g | g
      . exact .inl (.inr (by omega))
      . exact .inl (.inr g)
    . exact .inr ⟨g3,g2.trans g4⟩
 inv:=h2.inv
def aq (P:Program) [Glob P] (t:dJ):Operand->C
 |.tmp i=>gt t i
 |.const v=>.s v
 |.global g=>match lk (Glob.gl P) g with | some cs=>.ref cs | none=>.s (.pointer (some ⟨g,0,none⟩))
 |.func f=>.fn (.func f) [] []
def AOp.reads : AOp->List Operand
 |.ext _ aS=>aS
 |.mv x | .mvs x | .box x | .nilc x | .un _ x | .cvi _ x | .cvs x | .conv _ _ x | .faddr _ x | .field _ _ _ x | .extr x _ | .len _ x | .load _ _ x=>[x]
 |.alloc _=>[]
 |.pick c a b=>[c,a,b]
 |.build _ ps=>ps.map (·.2.2)
 |.mkSl _ _ _ _ _ ps=>ps.map (·.2)
 |.store _ _ a x | .bin _ _ a x | .beq _ _ a x | .makeSl _ _ _ _ a x | .iaddr _ _ a x | .iarr _ _ a x | .istr a x | .app _ _ _ _ _ a x=>[a,x]
 |.mkFn _ xs ys=>xs++ys
 |.ssl _ x lo hi mx=>[x]++lo.toList++hi.toList++mx.toList
 |.sstr x lo hi=>[x]++lo.toList++hi.toList
 |.call f aS=>f :: aS
 |.bi _ _ _ aS=>aS
 |.opq o _=>o.operands.toList
theorem i6 {ρ ρ':Operand->C} {o:Option Operand} {n:Int} (h:∀ x∈o.toList,ρ x=ρ' x):aZ ρ o n=aZ ρ' o n:=by
 cases o with
 | none=>rfl
 | some x=>simp only[aZ];rw[h x (by simp)]
theorem pB {ρ ρ':Operand->C} {op:AOp} (h:∀ x∈op.reads,ρ x=ρ' x):ai ρ ch d op=ai ρ' ch d op:=by
 cases op <;> simp only[AOp.reads,zl,zA,qk,forall_eq_or_imp,forall_eq,zW,yq,yb]at h
 case build z ps=>
  simp only[ai];have:(ps.map fun (a,b,x)=>(a,b,ρ x))=ps.map fun (a,b,x)=>(a,b,ρ' x):=zH fun p hp=>by
   obtain⟨a,b,x⟩:=p;simp only[h x (zu.2 ⟨_,hp,rfl⟩)]
  rw[this]
 case mkSl own ty sz z len ps=>
  simp only[ai];have:(ps.map fun (i,x)=>(i,ρ x))=ps.map fun (i,x)=>(i,ρ' x):=zH fun p hp=>by
   obtain⟨i,x⟩:=p;simp only[h x (zu.2 ⟨_,hp,rfl⟩)]
  simp only at this;rw[this]
 case ext e aS=>
  simp only[ai];rw[zH h]
 case mkFn f xs ys=>
  simp only[ai];rw[zH (fun x hx=>h x (.inl hx)),zH (fun x hx=>h x (.inr hx))]
 case ssl sz x lo hi mx=>
  simp only[ai];have h1:∀ n,aZ ρ lo n=aZ ρ' lo n:=fun n=>i6 fun y hy=>h.2 y (.inl (.inl hy))
  have h2:∀ n,aZ ρ hi n=aZ ρ' hi n:=fun n=>i6 fun y hy=>h.2 y (.inl (.inr hy))
  have h3:∀ n,aZ ρ mx n=aZ ρ' mx n:=fun n=>i6 fun y hy=>h.2 y (.inr hy)
  simp only[h.1,h1,h2,h3]
 case sstr x lo hi=>
  simp only[ai];have h1:∀ n,aZ ρ lo n=aZ ρ' lo n:=fun n=>i6 fun y hy=>h.2 y (.inl hy)
  have h2:∀ n,aZ ρ hi n=aZ ρ' hi n:=fun n=>i6 fun y hy=>h.2 y (.inr hy)
  simp only[h.1,h1,h2]
 all_goals first | rfl | (simp only[ai,h])
inductive OpR (P:Program) [Glob P]:(Operand->C)->Chs->Nat->AOp->Eff->Prop
 | f {ρ:Operand->C} {ch:Chs} {d:Nat} {op:AOp} {ef:Eff} (h:ai ρ ch d op=some ef) (hc:ef.cond):OpR P ρ ch d op ef
 | call {ρ:Operand->C} {ch:Chs} {d:Nat} {fo:Operand} {aS:List Operand} {r:C} {chs chs':Chs} {nk:List Nat} (h:CallR P ρ ch d fo aS r chs chs' nk):OpR P ρ ch d (.call fo aS) ⟨True,r,a7 ch chs chs' nk,az nk chs⟩
 | callK {ρ:Operand->C} {ch:Chs} {d:Nat} {fo:Operand} {aS:List Operand} {r:C} {chs:Chs} (h:CallR P ρ ch d fo aS r chs chs []) (hp:eZ chs=true) (hr:dG [] r):OpR P ρ ch d (.call fo aS) ⟨True,r,ch,[]⟩
 | take {ρ ρ1:Operand->C} {ch:Chs} {d:Nat} {op:AOp} {ef:Eff} {s k j n:Nat} {e:TypeId} {es:List (List C)} {q:Prop} {ch':Chs} (hmv:∀ x,op≠.mvs x) (hs:ρ (.tmp s)=.inn k j) (hr:.tmp s∈op.reads) (hl:aN ch k j=some (q,n,e,es)) (hq:q) (hh:aM ch k j=some ch') (hks:k≠s) (hsm:s < 100000)
  (h1:ρ1 (.tmp s)=.own s) (h2:∀ x∈op.reads,x≠.tmp s->ρ1 x=ah [(s,.c .any),(k,.inner)] (ρ x)) (h:OpR P ρ1 (bM ch' k s n e es) d op ef):OpR P ρ ch d op ⟨ef.cond,ef.v,ef.ch,a6 [(s,.c .any),(k,.inner)] ef.sub⟩
def OpM (P:Program) [Glob P] (ro:Option Nat) (ρ:Operand->C) (ch:Chs) (d:Nat) (op:AOp) (outs:Eff->Prop):Prop:=
 ∀ (own:Bool) (o:Oper) (a:Act) (E:Env) (U:Nat->Prop) (w:World),gS P own o.op o.type=some op->Inv E U w.heap ch->eT P U w.heap->(∀ x∈op.reads,Rep E U w.heap (ρ x) (a.eval x)) ->
  ∀ (K:Act->World->Prop) (Q:Exit->Act->World->Prop),(∀ ef,outs ef->∀ v E' U' w',Rep E' U' w'.heap ef.v v->Ev E U w ch ef.sub d E' U' w' ef.ch->K (a.put o.dst v) w')->o.wpIn (FW ro) 0 P a w K Q
theorem dN.wp {ro:Option Nat} {a:Act} {o:Oper} {ef:Eff} (hnd:∀ c,o.op≠.defer c) (hg:dN P E U w ch d (execOp a.eval o) ef) {K:Act->World->Prop} {Q:Exit->Act->World->Prop}
 (hK:∀ v E' U' w',Rep E' U' w'.heap ef.v v->Ev E U w ch ef.sub d E' U' w' ef.ch->K (a.put o.dst v) w'):o.wpIn (FW ro) 0 P a w K Q:=by
 obtain⟨v,E',U',w',hr,h1,h2⟩:=hg;rcases hr with hr | ⟨hr,rfl⟩
 . exact vN hnd hr (hK v E' U' w' h1 h2)
 . exact op_skip hnd hr (hK _ E' U' w' h1 h2)
theorem pQ {own:Bool} {op:Op} {ty:TypeId} {fo:Operand} {aS:List Operand} (h:eA P own op ty=some (.call fo aS)):∃ args ts,op=.call { callee:=.value fo,args:=args,argTypes:=ts }/\args.toList=aS:=by
 cases op with
 | call c=>
  obtain⟨callee,args,argTypes⟩:=c;cases callee with
  | value f=>simp only[eA,zn,AOp.call.injEq]at h;obtain⟨rfl,rfl⟩:=h;exact⟨args,argTypes,rfl,rfl⟩
  | invoke r m=>simp[eA]at h
  | builtin b=>
   exfalso
   cases b <;> simp only[eA]at h
   case append=>
    split at h
    . split at h
      . simp only[zk]at h;obtain⟨i,_,z,_,h⟩:=h;split at h <;> cases h
      . cases h
    . cases h
   case len=>
    split at h
    . split at h <;> cases h
    . cases h
   all_goals cases h
 | buildSlice t len parts=>
  simp only[eA]at h;split at h
  . simp only[zk]at h;obtain⟨i,_,z,_,h⟩:=h;split at h <;> cases h
  . cases h
 | build t parts=>simp[eA,zk]at h
 | load t x=>simp[eA,zk]at h
 | binOp b t x y yt=>
  simp only[eA]at h;split at h <;> cases h
 | convert s t x=>
  simp only[eA]at h;split at h <;> cases h
 | makeSlice t l c=>
  simp only[eA]at h;split at h
  . simp only[zk]at h;obtain⟨i,_,z,_,h⟩:=h;split at h <;> cases h
  . cases h
 | slice t x lo hi mx=>
  simp only[eA]at h;split at h <;> simp at h
 | fieldAddr t x f=>
  simp only[eA]at h;split at h
  . simp only[zk]at h;obtain⟨i,_,z,_,h⟩:=h;split at h <;> cases h
  . cases h
 | field t x f=>
  simp only[eA]at h;split at h
  . simp[zk]at h
  . cases h
 | indexAddr t x i=>
  simp only[eA]at h;split at h
  . simp[zk]at h
  . simp at h
  . cases h
 | index t x i=>
  simp only[eA]at h;split at h <;> cases h
 | move x=>cases own <;> simp[eA]at h
 | assign x=>cases own <;> simp[eA]at h
 |_=>simp[eA]at h
theorem iw {own:Bool} {op:Op} {ty:TypeId} {fo:Operand} {aS:List Operand} (h:gS P own op ty=some (.call fo aS)):∃ args ts,op=.call { callee:=.value fo,args:=args,argTypes:=ts }/\args.toList=aS:=by
 unfold gS at h;split at h
 . cases h
 . exact pQ h
theorem vI {own:Bool} {op:Op} {ty:TypeId} {aop:AOp} {ρ:Operand->C} {ef:Eff} (h:gS P own op ty=some aop) (hf:ai ρ ch d aop=some ef):∀ c,op≠.defer c:=by
 rintro c rfl
 simp only[gS,lT,eA,zn]at h;subst h;simp[ai]at hf
open Classical in
noncomputable def only (ρ:Operand->C) (ts:List Operand) (x:Operand):C:=if x∈ts then ρ x else .any
theorem kv {ρ:Operand->C} {ts:List Operand} {x:Operand} (hx:x∈ts):only ρ ts x=ρ x:=qb hx
theorem mH {ρ:Operand->C} {ts:List Operand} {a:Act} {h:Array Obj} (hρ:∀ x∈ts,Rep E U h (ρ x) (a.eval x)) (x:Operand):Rep E U h (only ρ ts x) (a.eval x):=by
 unfold only;split
 . rename_i hx;exact hρ x hx
 . exact .d (.any _)
end Go.Am
end
section
namespace Go.Am
variable {P : Program} {E : Env} {U : Nat → Prop} {w : World} {ch : Chs} {d : Nat}
variable [Glob P]
theorem vq {U:Nat->Prop} {h:Array Obj} (hg:eT P U h) (t:dJ) (g:Nat):Rep E U h (aq P t (.global g)) (.pointer (some ⟨g,0,none⟩)):=by
 simp only[aq];cases hl:lk (Glob.gl P) g with
 | none=>exact .d (.s _)
 | some cs=>exact hg.1 g cs hl E
theorem OpR.sound {ro:Option Nat} {ρ:Operand->C} {op:AOp} {ef:Eff} (h:OpR P ρ ch d op ef) {own:Bool} {o:Oper} {a:Act} (hc:gS P own o.op o.type=some op) (hi:Inv E U w.heap ch) (hg:eT P U w.heap) (hρ:∀ x∈op.reads,Rep E U w.heap (ρ x) (a.eval x))
 {K:Act->World->Prop} {Q:Exit->Act->World->Prop} (hK:∀ v E' U' w',Rep E' U' w'.heap ef.v v->Ev E U w ch ef.sub d E' U' w' ef.ch->K (a.put o.dst v) w'):o.wpIn (FW ro) 0 P a w K Q:=by
 induction h generalizing E U w with
 | @f ρ ch d op ef h hcond=>
  have e:ai (only ρ op.reads) ch d op=some ef:=by rw[<- h];exact pB fun x hx=>kv hx
  exact (ug hi (mH hρ) hc e hcond).wp (vI hc h) hK
 | @call ρ ch d fo aS r chs chs' nk h=>
  obtain⟨args,ts,ho,ha⟩:=iw hc;subst ha;have e1:only ρ (AOp.call fo args.toList).reads fo=ρ fo:=kv (by simp[AOp.reads]);have e2:args.toList.map (only ρ (AOp.call fo args.toList).reads)=args.toList.map ρ:=zH fun x hx=>kv (by simp only[AOp.reads];exact zo _ hx)
  refine sB (ρ:=only ρ (AOp.call fo args.toList).reads) (r:=r) (chs:=chs) (chs':=chs') (nk:=nk) hi hg (mH hρ) ho ⟨?_,h.nd,h.hnk,h.new,h.old,h.kr,h.kc⟩ hK;rw[e1,e2];exact h.ex
 | @callK ρ ch d fo aS r chs h hp hr=>
  obtain⟨args,ts,ho,ha⟩:=iw hc;subst ha;have e1:only ρ (AOp.call fo args.toList).reads fo=ρ fo:=kv (by simp[AOp.reads]);have e2:args.toList.map (only ρ (AOp.call fo args.toList).reads)=args.toList.map ρ:=zH fun x hx=>kv (by simp only[AOp.reads];exact zo _ hx)
  refine rJ (ρ:=only ρ (AOp.call fo args.toList).reads) (r:=r) (chs:=chs) hi hg (mH hρ) ho ⟨?_,h.nd,h.hnk,h.new,h.old,h.kr,h.kc⟩ hp hr hK;rw[e1,e2];exact h.ex
 | @take ρ ρ1 ch d op ef s k j n e es q ch' _ hs hr hl hq hh hks hsm h1 h2 h ih=>
  obtain⟨E1,_,hd,he⟩:=Ev.take (d:=s) hi hl hq hh hks;refine ih hc he.inv hg (fun x hx=>?_) (fun v E' U' w' g1 g2=>hK v E' U' w' g1 (he.trans g2 hsm));by_cases hxs:x=.tmp s
  . subst hxs;have hv:=kx (hs ▸ hρ _ hr);rw[h1,hv];have:=Rep.own (E:=E1) (U:=U) (h:=w.heap) s;rw[hd]at this;exact this
  . rw[h2 x hx hxs];exact he.rep (hρ x hx)
end Go.Am
end
section
namespace Go.Am
variable {P : Program} [Glob P] {E : Env} {U : Nat → Prop} {w : World}
structure Cx where
 n:Nat
 A0:Nat->Prop
 w0:World
 X:Nat->Prop
 E0:Env
 hn:n<=100000
 ro:Option Nat
 hid:List (Nat×Obj)
 lo:Nat
 hi:Nat
 hlo:100000<=lo
def Cx.fx (cx:Cx) (k:Nat):Prop:=cx.lo<=k/\k < cx.hi
theorem Cx.fx_ge {cx:Cx} {k:Nat} (h:cx.fx k):100000<=k:=z6 cx.hlo h.1
def gv (E:Env) (U:Nat->Prop) (h:Array Obj) (ch:Chs) (b:Nat) (o:Obj):Prop:=h[b]? = some o/\¬ U b/\∀ k c,(k,c)∈ch->¬ (E k).fp b
theorem gv.ev {E E':Env} {U U':Nat->Prop} {w w':World} {ch ch':Chs} {m:List (Nat×Sb)} {d b:Nat} {o:Obj} (hh:gv E U w.heap ch b o) (he:Ev E U w ch m d E' U' w' ch'):gv E' U' w'.heap ch' b o:=by
 obtain⟨h1,h2,h3⟩:=hh;have hlt:=lt_of_getElem? h1;refine⟨(he.rest b hlt h3).trans h1,fun hu=>?_,fun k c hm hf=>?_⟩
 . rcases he.newU b hu with g | g | ⟨k0,c0,g1,g2⟩
   . exact h2 g
   . omega
   . exact h3 k0 c0 g1 g2
 . rcases he.live k c hm b hf with g | ⟨k0,c0,g1,g2⟩
   . omega
   . exact h3 k0 c0 g1 g2
def gz (D:Nat):Deferred:={ target:=.collected D,args:=#[] }
def bq (m:List (Nat×Sb)) (t:dJ):dJ:=
 match m with
 |[]=>t
 | m=>t.map fun p=>(p.1,ah m p.2)
def aU (dst:Option Nat) (m:List (Nat×Sb)) (v:C) (t:dJ):dJ:=
 match dst with
 | some d=>am (bq m t) d v
 | none=>bq m t
theorem ie (m:List (Nat×Sb)) (t:dJ) (i:Nat):gt (bq m t) i=ah m (gt t i):=by
 cases m with
 | nil=>simp only[bq,eC]
 | cons x m=>
  simp only[bq]
  induction t with
  | nil=>rfl
  | cons p t ih=>
   obtain⟨j,c⟩:=p;simp only[zt,gt,lk]at ih ⊢;split
   . rfl
   . exact ih
theorem fF (t:dJ) (i:Nat) (c:C) (j:Nat):gt (am t i c) j=if i=j then c else gt t j:=by
 simp only[gt,lZ];split <;> rfl
structure Holds (P:Program) [Glob P] (cx:Cx) (E:Env) (U:Nat->Prop) (a:Act) (w:World) (st:ASt):Prop where
 sz:a.tmps.size=cx.n
 df:∃ Ds:List Nat,a.defers=Ds.map gz/\Ds.Nodup/\∀ D∈Ds,cx.w0.heap.size<=D/\gv E U w.heap st.ch D (.deferred (some []))
 tok:∀ i,Rep E U w.heap (gt st.t i) (a.tmps.getD i undef)
 inv:Inv E U w.heap st.ch
 os:w.os=cx.w0.os
 tape:w.tape=cx.w0.tape
 output:w.output=cx.w0.output
 size:cx.w0.heap.size<=w.heap.size
 fr:∀ b,b < cx.w0.heap.size->¬ cx.X b->w.heap[b]? = cx.w0.heap[b]?
 keepA:∀ b,cx.A0 b->U b/\w.heap[b]? = cx.w0.heap[b]?
 live:∀ k c,(k,c)∈st.ch->∀ b,(E k).fp b->cx.w0.heap.size<=b\/cx.X b
 base:∀ b,U b->cx.A0 b\/cx.w0.heap.size<=b\/cx.X b
 fix:∀ k cs,cx.fx k->(k,.box cs)∈st.ch->(E k).toKE0=(cx.E0 k).toKE0
 hid:∀ p∈cx.hid,gv E U w.heap st.ch p.1 p.2
 gok:eT P U w.heap
def aw (dst:Option Nat) (ef:Eff) (st:ASt):ASt:=⟨aU dst ef.sub ef.v st.t,ef.ch⟩
theorem Holds.ev {cx:Cx} {a:Act} {st:ASt} (hh:Holds P cx E U a w st) (x:Operand):Rep E U w.heap (aq P st.t x) (a.eval x):=by
 cases x with
 | tmp i=>exact hh.tok i
 | const v=>exact .d (.s v)
 | global g=>exact vq hh.gok st.t g
 | func f=>exact .fn _ _ _ _ _ rfl (fun j c h=>by simp at h) rfl (fun j c h=>by simp at h)
theorem Holds.onDf {cx:Cx} {a:Act} {st:ASt} (hh:Holds P cx E U a w st) {m:List (Nat×Sb)} {d:Nat} {E':Env} {U':Nat->Prop} {w':World} {ch':Chs} (he:Ev E U w st.ch m d E' U' w' ch') :
 ∃ Ds:List Nat,a.defers=Ds.map gz/\Ds.Nodup/\∀ D∈Ds,cx.w0.heap.size<=D/\gv E' U' w'.heap ch' D (.deferred (some [])):=by
 obtain⟨Ds,h1,h2,h3⟩:=hh.df;exact⟨Ds,h1,h2,fun D hD=>⟨(h3 D hD).1,(h3 D hD).2.ev he⟩⟩
theorem Holds.step {cx:Cx} {a:Act} {st:ASt} {dst:Option Nat} {ef:Eff} {vc:Value} {E':Env} {U':Nat->Prop} {w':World} (hh:Holds P cx E U a w st) (hd:∀ d,dst=some d->d < cx.n)
 (hr:Rep E' U' w'.heap ef.v vc) (he:Ev E U w st.ch ef.sub (dst.getD 0) E' U' w' ef.ch):Holds P cx E' U' (a.put dst vc) w' (aw dst ef st) where
 sz:=by cases dst <;> simp[Act.put,hh.sz]
 df:=by
  have:=hh.onDf he;cases dst <;> exact this
 tok:=fun i=>by
  cases dst with
  | none=>simp only[aw,aU,Act.put,ie];exact he.rep (hh.tok i)
  | some d=>
   simp only[aw,aU,Act.put,fF,ie];have hdn:=hd d rfl;by_cases hi:d=i
   . subst hi;rw[qb rfl,ew (v:=vc) (by rw[yl];simp[hh.sz,hdn])];exact hr
   . rw[qa hi];have:(a.tmps.setIfInBounds d vc).getD i undef=a.tmps.getD i undef:=by simp[zc,Array.getElem?_setIfInBounds_ne hi]
     rw[this];exact he.rep (hh.tok i)
 inv:=he.inv
 os:=he.os.trans hh.os
 tape:=he.tape.trans hh.tape
 output:=he.output.trans hh.output
 size:=z6 hh.size he.size
 fr:=fun b hb hx=>(he.rest b (yJ hb hh.size) (fun k c hm e=>by
  rcases hh.live k c hm b e with h | h
  . omega
  . exact hx h)).trans (hh.fr b hb hx)
 keepA:=fun b hb=>⟨(he.keep b (hh.keepA b hb).1).1,(he.keep b (hh.keepA b hb).1).2.trans (hh.keepA b hb).2⟩
 live:=fun k c hm b hn=>by
  rcases he.live k c hm b hn with h | ⟨k0,c0,h1,h2⟩
  . exact .inl (z6 hh.size h)
  . exact hh.live k0 c0 h1 b h2
 base:=fun b hb=>by
  rcases he.newU b hb with h | h | ⟨k0,c0,h1,h2⟩
  . exact hh.base b h
  . exact .inr (.inl (z6 hh.size h))
  . rcases hh.live k0 c0 h1 b h2 with h | h
    . exact .inr (.inl h)
    . exact .inr (.inr h)
 fix:=fun k cs hk hm=>by
  rcases he.boxes k cs hm with h | ⟨⟨cs0,h1⟩,h2⟩
  . have:dst.getD 0 < 100000:=by
     cases dst with
     | none=>simp
     | some d=>have:=hd d rfl;have:=cx.hn;simp;omega
    have:=Cx.fx_ge hk;omega
  . exact h2.trans (hh.fix k cs0 hk h1)
 hid:=fun p hp=>(hh.hid p hp).ev he
 gok:=hh.gok.mono he.keep
def fe (t:dJ):Option (Nat×Bool)->Option Bool
 | none=>some true
 | some (s,want)=>
  match gt t s with
  |.s (.bool b)=>some (b == want)
  |.s _=>some false
  |_=>none
inductive StepE (P:Program) [Glob P] (o:AO) (st:ASt):Eff->Prop
 | yes (ef:Eff) (h:fe st.t o.guard=some true) (hr:OpR P (aq P st.t) st.ch (o.dst.getD 0) o.op ef):StepE P o st ef
 | no (h:fe st.t o.guard=some false):StepE P o st ⟨True,.s undef,st.ch,[]⟩
def iu (P:Program) [Glob P] (dr:Bool):List AO->ASt->ASt->Prop
 |[],s,s'=>s'=s
 | o :: os,s,s'=>∃ ef,StepE P o s ef/\(dr=true->o.tot=true\/(ef.ch=s.ch/\ef.sub=[]))/\iu P dr os (aw o.dst ef s) s'
theorem j4 {ops:Array Oper} {o:Oper} {ao:AO} {own tot:Bool} {t:dJ} {tmps:Array Value} {h:Array Obj} {n:Nat} {b:Bool} (hc:lU P own tot ops o=some ao) (hsz:tmps.size=n) (hg:∀ d want,ao.guard=some (d,want)->d < n)
 (htok:∀ d want,ao.guard=some (d,want)->Rep E U h (gt t d) (tmps.getD d undef)) (hw:fe t ao.guard=some b):Region.wanted o (yielded ops tmps)=b:=by
 simp only[lU,zk]at hc;obtain⟨aop,h1,h2⟩:=hc;cases hgd:o.guard with
 | none=>
  simp only[hgd,zn]at h2;subst h2;simp only[fe,zn]at hw;simp[Region.wanted,hgd,<- hw]
 | some jw=>
  obtain⟨j,want⟩:=jw;simp only[hgd,za]at h2;obtain⟨d,hd,rfl⟩:=h2;have hdn:=hg d want rfl;have hr:=htok d want rfl;simp only[Region.wanted,hgd,yielded,hd,Option.bind_some];have ht:tmps[d]? = some (tmps.getD d undef):=by
   have hlt:d < tmps.size:=by omega
   simp[zc,zj hlt]
  rw[ht];simp only[fe]at hw;split at hw
  . rename_i b' hb;cases hw;rw[hb]at hr;rw[dK hr];cases b' <;> cases want <;> rfl
  . rename_i v hnb hv;cases hw;rw[hv]at hr;rw[dK hr];cases v <;> first | rfl | exact (hnb _ rfl).elim
  . cases hw
end Go.Am
end
