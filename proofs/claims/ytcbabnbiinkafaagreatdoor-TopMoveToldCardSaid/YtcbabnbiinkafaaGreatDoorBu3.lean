/- Part 3 of the proof of: the statements about chapter 8 -/
import Derived.Laws.StructEq
import Derived.Laws.IdiomStrings
import Derived.ChangeKeysEq
import Derived.Laws.Cover3
import Derived.Test.YtcbabnbiinkafaaGreatDoorBu2
set_option linter.all false
set_option maxHeartbeats 8000000
set_option maxRecDepth 100000
section
namespace Go.Am
variable {P : Program} {E : Env} {U : Nat → Prop} {w : World} {ch : Chs} {d : Nat}
theorem ui {a:Act} {t u e e2:TypeId} {i:TypeInfo} {z:Value} {s x:Operand} {o:Oper} {k j:Nat} {es news:List (List C)} {c:C} {p q:Prop} {ch':Chs} (hi:Inv E U w.heap ch)
 (ho:o.op=.call { callee:=.builtin .append,args:=#[s,x],argTypes:=#[t,u] }) (ht:P.underlying t=some (.slice e)) (hu:P.underlying u=some (.slice e2)) (hie:P.info? e=some i) (hz:i.zero=some z) (hzs:z.cells.size=i.size) (hpos:0 < i.size)
 (hs:Rep E U w.heap (.inn k j) (a.eval s)) (hl:aN ch k j=some (q,i.size,e,es)) (hq:q) (hh:aM ch k j=some ch') (hkd:k≠d) (hx:Rep E U w.heap c (a.eval x)) (hc:aV ch i.size c=some news)
 (hbytes:(es.length+news.length)*i.bytes<=140737488355328) (h63:es.length+news.length<=9223372036854775807) :
 dN P E U w ch d (execOp a.eval o) ⟨p,.own d,(d,.row i.size e (es++news)) :: ae [(d,.c .any),(k,.inner)] (af ch' d),[(d,.c .any),(k,.inner)]⟩:=by
 obtain⟨c0,hlk,hI,rfl,hH,hres,hno⟩:=lF hl hq hh;have hkm:=dH hlk;have hck:=hi.ok k _ hkm;obtain⟨hf,hin⟩:=hck.inns hres;have hrow:=hin j _ _ _ hI;have hown:((E k).inn j).nil=false->(E k).fp ((E k).inn j).blk:=fun hn=>(hf.fp _).2 (.inr ⟨j,_,hI,hn,rfl⟩)
 obtain⟨y',w1,g1,g2,g3,g4,g5,g6,g7,g8⟩:=oi (P:=P) hi ho ht hu hie hz hzs hpos (kx hs) hrow (fun hn b hb e=>hi.out k _ hkm b (e ▸ hown hn) hb) hx hc hbytes h63
 let xk:KE:={ E k with fp:=fun b=>(E k).fp b/\(((E k).inn j).nil=false->b≠((E k).inn j).blk) }
 have hfx:FpOk xk (chI (eN j c0)):=by
  refine⟨fun b=>⟨fun⟨h1,h2⟩=>?_,fun h=>?_⟩,fun i' q' h1=>?_,fun i1 i2 q1 q2 hne h1 h2=>?_⟩
  . rcases (hf.fp b).1 h1 with h | ⟨i',q',k1,k2,k3⟩
    . exact .inl h
    . refine .inr ⟨i',q',?_,k2,k3⟩;rw[hH,qa]
      . exact k1
      . rintro rfl;exact h2 k2 k3.symm
  . rcases h with h | ⟨i',q',k1,k2,k3⟩
    . exact⟨(hf.fp b).2 (.inl h),fun hn e=>hf.ne j _ hI hn h.1 (by rw[<- e];exact h.2.symm)⟩
    . rw[hH]at k1;split at k1
      . cases k1
      . rename_i hne;refine⟨(hf.fp b).2 (.inr ⟨i',q',k1,k2,k3⟩),fun hn e=>hf.sep i' j _ _ hne k1 hI k2 hn (k3.trans e)⟩
  . rw[hH]at h1;split at h1
    . cases h1
    . exact hf.ne i' q' h1
  . rw[hH]at h1 h2;split at h1
    . cases h1
    . split at h2
      . cases h2
      . exact hf.sep i1 i2 q1 q2 hne h1 h2
 let E':Env:=dQ (dQ E k xk) d (ke0 y')
 have hEd:E' d=ke0 y':=updE_same _ _ _;have hEk:E' k=xk:=by simp only[E'];rw[d0 _ _ hkd,updE_same]
 have hEo:∀ k',k'≠k->k'≠d->E' k'=E k':=fun k' h1 h2=>by simp only[E'];rw[d0 _ _ h2,d0 _ _ h1]
 have hkeep:∀ b,U b->U b/\w1.heap[b]? = w.heap[b]?:=fun b hb=>⟨hb,g7 b (hi.lt b hb) (fun hn e=>hi.out k _ hkm b (e ▸ hown hn) hb)⟩
 have henv:∀ k',[(d,Sb.c .any),(k,.inner)].lookup k'=none->E' k'=E k':=fun k' h=>by
  rw[gj]at h;split at h
  . cases h
  . split at h
    . cases h
    . exact hEo k' (by assumption) (by assumption)
 have henvI:∀ k',[(d,Sb.c .any),(k,.inner)].lookup k'=some .inner->(E' k').toKE0=(E k').toKE0:=fun k' h=>by
  rw[gj]at h;split at h
  . cases h
  . split at h
    . rename_i e;subst e;rw[hEk]
    . cases h
 have hsub:∀ k' c',[(d,Sb.c .any),(k,.inner)].lookup k'=some (.c c')->∀ v,Rep E U w.heap (.own k') v->Rep E' U w1.heap c' v:=fun k' c' h v _=>by
  rw[gj]at h;split at h
  . cases h;exact .d (.any v)
  . split at h <;> cases h
 have hrep:∀ c v,Rep E U w.heap c v->Rep E' U w1.heap (ah [(d,.c .any),(k,.inner)] c) v:=fun c v hr=>hr.mono hkeep henv henvI hsub
 have hnoI:=iR.of_sub hsub;have hold2:∀ k' c',(k',c')∈af (af ch k) d->(k',c')∈ch/\k'≠k/\k'≠d:=fun k' c' h=>jL hi.nd h
 have hsame:∀ b,b < w.heap.size->¬ (E k).fp b->w1.heap[b]? = w.heap[b]?:=fun b hb hn=>g7 b hb (fun h e=>hn (e ▸ hown h))
 have hy:∀ b,(ke0 y').fp b->(w.heap.size<=b/\b < w1.heap.size)\/(((E k).inn j).nil=false/\b=((E k).inn j).blk):=fun b hb=>by
  obtain⟨hb1,rfl⟩:=hb;exact g8 hb1
 have hev:=Ev.gen (news:=[(d,.row i.size e (es++news)),(k,ec [(d,.c .any),(k,.inner)] (eN j c0))]) (old:=af (af ch k) d) (m:=[(d,.c .any),(k,.inner)]) (d:=d) (E':=E') (U':=U) (w1:=w1) hi g3 g4 g5 g6
  ((eu _ d).trans (eu ch k)) hkeep henv henvI hsub (fun k' c' h=>hEo k' (hold2 k' c' h).2.1 (hold2 k' c' h).2.2)
  (fun k' c' h b hb=>hsame b (hi.fpl k' c' (hold2 k' c' h).1 b hb) (fun hb'=>hi.sep k' c' k c0 (hold2 k' c' h).1 hkm (hold2 k' c' h).2.1 b hb hb'))
  (fun b hb1 hb2=>hsame b hb1 (hb2 k c0 hkm)) (by simp;exact fun e=>hkd e.symm) (fun k' c' h c2 h2=>?_) (fun k' c' h=>?_) (fun k' c' h b hb=>?_) (fun k' c' h b hb=>?_) (fun k1 x1 k2 x2 h1 h2 hne b hb1 hb2=>?_) (fun b hb=>.inl hb) (fun k' c' h b hb hu=>?_) (fun b hb=>by have:=hi.lt b hb;omega) (fun k' cs h=>?_)
 . refine⟨_,E',U,w1,.inl g1,?_,hev.chs (fun k' c' hm=>?_) ?_⟩
   . have:=Rep.own (E:=E') (U:=U) (h:=w1.heap) d;rw[hEd]at this;exact this
   . rcases zl.1 hm with h | h
     . rw[h];simp
     . obtain⟨c2,h2,rfl⟩:=ik h;have hndk:((am ch k (eN j c0)).map (·.1)).Nodup:=by rw[fb hlk];exact hi.nd
       rcases fk hi.nd (eH h2)with h3 | h3
       . cases h3;simp
       . exact zW.2 (.inr (jk (ij (fq hi.nd) h3 (fun e=>dZ hndk (e ▸ h2)))))
   . have hndk:((am ch k (eN j c0)).map (·.1)).Nodup:=by rw[fb hlk];exact hi.nd
     simp only[zt,zI,fj];exact⟨fun hm=>by obtain⟨⟨k',c'⟩,h1,h2⟩:=zu.1 hm;cases h2;exact dZ hndk h1,fq hndk⟩
 . simp only[zl,zA,qk,zf]at h;rcases h with⟨rfl,_⟩ | ⟨rfl,_⟩
   . exact (hold2 _ _ h2).2.2 rfl
   . exact (hold2 _ _ h2).2.1 rfl
 . simp only[zl,zA,qk,zf]at h;rcases h with⟨rfl,rfl⟩ | ⟨rfl,rfl⟩
   . rw[dM,hEd];exact⟨g2,gn _⟩
   . refine hck.hole hI hH hkeep hrep hnoI (by rw[hEk]) (by rw[hEk]) (by rw[hEk];exact hfx) hno (fun b hb hb2=>?_);rcases yu b w.heap.size with hlt | hge
     . exact g7 b hlt hb2
     . have:=hi.fpl _ c0 hkm b hb;omega
 . simp only[zl,zA,qk,zf]at h;rcases h with⟨rfl,rfl⟩ | ⟨rfl,rfl⟩
   . rw[hEd]at hb;rcases hy b hb with g | ⟨ga,gb⟩
     . exact .inl g.1
     . exact .inr ⟨k,c0,hkm,(fun c' h'=>(hold2 _ _ h').2.1 rfl),gb ▸ hown ga⟩
   . rw[hEk]at hb;exact .inr ⟨_,c0,hkm,(fun c' h'=>(hold2 _ _ h').2.1 rfl),hb.1⟩
 . simp only[zl,zA,qk,zf]at h;rcases h with⟨rfl,rfl⟩ | ⟨rfl,rfl⟩
   . rw[hEd]at hb;rcases hy b hb with g | ⟨ga,gb⟩
     . exact g.2
     . have:=hi.fpl k c0 hkm b (gb ▸ hown ga);omega
   . rw[hEk]at hb;have:=hi.fpl _ c0 hkm b hb.1;omega
 . have cross:∀ b,(ke0 y').fp b->¬ xk.fp b:=fun b hb1 hb2=>by
    rcases hy b hb1 with g | ⟨ga,gb⟩
    . have:=hi.fpl k c0 hkm b hb2.1;omega
    . exact hb2.2 ga gb
   simp only[zl,zA,qk,zf]at h1 h2;rcases h1 with⟨rfl,_⟩ | ⟨rfl,_⟩ <;> rcases h2 with⟨rfl,_⟩ | ⟨rfl,_⟩
   . exact hne rfl
   . rw[hEd]at hb1;rw[hEk]at hb2;exact cross b hb1 hb2
   . rw[hEd]at hb2;rw[hEk]at hb1;exact cross b hb2 hb1
   . exact hne rfl
 . simp only[zl,zA,qk,zf]at h;rcases h with⟨rfl,rfl⟩ | ⟨rfl,rfl⟩
   . rw[hEd]at hb;rcases hy b hb with g | ⟨ga,gb⟩
     . have:=hi.lt b hu;omega
     . exact hi.out k c0 hkm b (gb ▸ hown ga) hu
   . rw[hEk]at hb;exact hi.out _ c0 hkm b hb.1 hu
 . simp only[zl,zA,qk,zf]at h;rcases h with⟨rfl,h⟩ | ⟨rfl,h⟩
   . exact .inl (.inl rfl)
   . right;refine⟨?_,by rw[hEk]⟩;cases c0 with
     | box cs0=>exact⟨cs0,hkm⟩
     | deep=>simp[eN,ec]at h
     |_=>cases hI
theorem Ev.absorb {w1:World} {k t:Nat} {c0 c1 ct:Ch} {xk:KE} (hi:Inv E U w.heap ch) (hl:lk ch k=some c0) (hlt:lk ch t=some ct) (hkt:k≠t)
 (hos:w1.os=w.os) (htp:w1.tape=w.tape) (hou:w1.output=w.output) (hsz:w.heap.size<=w1.heap.size) (hold:∀ b,b < w.heap.size->¬ (E k).fp b->¬ (E t).fp b->w1.heap[b]? = w.heap[b]?)
 (hke:xk.toKE0=(E k).toKE0) (hx:∀ b,xk.fp b->(E k).fp b\/(E t).fp b) (hbox:(∃ cs,c1=.box cs)->∃ cs,c0=.box cs)
 (hok:(∀ b,U b->U b/\w1.heap[b]? = w.heap[b]?)->(∀ c v,Rep E U w.heap c v->Rep (dQ E k xk) U w1.heap (ah [(t,.c .any),(k,.inner)] c) v)->iR [(t,.c .any),(k,.inner)]->dM (dQ E k xk) U w1.heap k (ec [(t,.c .any),(k,.inner)] c1)) (d:Nat) :
 Ev E U w ch [(t,.c .any),(k,.inner)] d (dQ E k xk) U w1 (ae [(t,.c .any),(k,.inner)] (af (am ch k c1) t)):=by
 have hkm:=dH hl;have htm:=dH hlt;have hkeep:∀ b,U b->U b/\w1.heap[b]? = w.heap[b]?:=fun b hb=>⟨hb,hold b (hi.lt b hb) (fun e=>hi.out k _ hkm b e hb) (fun e=>hi.out t _ htm b e hb)⟩
 have hE:∀ k',k'≠k->dQ E k xk k'=E k':=fun k' h=>d0 E xk h
 have henv:∀ k',[(t,Sb.c .any),(k,.inner)].lookup k'=none->dQ E k xk k'=E k':=fun k' h=>by
  rw[gj]at h;split at h
  . cases h
  . split at h
    . cases h
    . exact hE k' (by assumption)
 have henvI:∀ k',[(t,Sb.c .any),(k,.inner)].lookup k'=some .inner->(dQ E k xk k').toKE0=(E k').toKE0:=fun k' h=>by
  rw[gj]at h;split at h
  . cases h
  . split at h
    . rename_i e;subst e;rw[updE_same];exact hke
    . cases h
 have hsub:∀ k' c',[(t,Sb.c .any),(k,.inner)].lookup k'=some (.c c')->∀ v,Rep E U w.heap (.own k') v->Rep (dQ E k xk) U w1.heap c' v:=fun k' c' h v _=>by
  rw[gj]at h;split at h
  . cases h;exact .d (.any v)
  . split at h <;> cases h
 have hrep:∀ c v,Rep E U w.heap c v->Rep (dQ E k xk) U w1.heap (ah [(t,.c .any),(k,.inner)] c) v:=fun c v hr=>hr.mono hkeep henv henvI hsub
 have hold2:∀ k' c',(k',c')∈af (af ch k) t->(k',c')∈ch/\k'≠k/\k'≠t:=fun k' c' h=>jL hi.nd h
 have hev:=Ev.gen (news:=[(k,ec [(t,.c .any),(k,.inner)] c1)]) (old:=af (af ch k) t) (m:=[(t,.c .any),(k,.inner)]) (d:=d) (E':=dQ E k xk) (U':=U) (w1:=w1) hi hos htp hou hsz
  ((eu _ t).trans (eu ch k)) hkeep henv henvI hsub (fun k' c' h=>hE k' (hold2 k' c' h).2.1)
  (fun k' c' h b hb=>hold b (hi.fpl k' c' (hold2 k' c' h).1 b hb) (fun hb'=>hi.sep k' c' k c0 (hold2 k' c' h).1 hkm (hold2 k' c' h).2.1 b hb hb') (fun hb'=>hi.sep k' c' t ct (hold2 k' c' h).1 htm (hold2 k' c' h).2.2 b hb hb'))
  (fun b hb1 hb2=>hold b hb1 (hb2 k c0 hkm) (hb2 t ct htm)) (by simp) (fun k' c' h c2 h2=>by
   simp only[zg,zf]at h;obtain⟨rfl,_⟩:=h;exact (hold2 _ _ h2).2.1 rfl) (fun k' c' h=>by
   simp only[zg,zf]at h;obtain⟨rfl,rfl⟩:=h;exact hok hkeep hrep (iR.of_sub hsub)) (fun k' c' h b hb=>by
   simp only[zg,zf]at h;obtain⟨rfl,rfl⟩:=h;rw[updE_same]at hb;rcases hx b hb with g | g
   . exact .inr ⟨_,c0,hkm,(fun c' h'=>(hold2 _ _ h').2.1 rfl),g⟩
   . exact .inr ⟨t,ct,htm,(fun c' h'=>(hold2 _ _ h').2.2 rfl),g⟩) (fun k' c' h b hb=>by
   simp only[zg,zf]at h;obtain⟨rfl,rfl⟩:=h;rw[updE_same]at hb;rcases hx b hb with g | g
   . have:=hi.fpl _ c0 hkm b g;omega
   . have:=hi.fpl _ ct htm b g;omega)
  (fun k1 x1 k2 x2 h1 h2 hne=>by simp only[zg,zf]at h1 h2;exact absurd (h1.1.trans h2.1.symm) hne) (fun b hb=>.inl hb) (fun k' c' h b hb hu=>by
   simp only[zg,zf]at h;obtain⟨rfl,rfl⟩:=h;rw[updE_same]at hb;rcases hx b hb with g | g
   . exact hi.out _ c0 hkm b g hu
   . exact hi.out _ ct htm b g hu) (fun b hb=>by have:=hi.lt b hb;omega) (fun k' cs h=>by
   simp only[zg,zf]at h;obtain⟨rfl,h⟩:=h;refine .inr ⟨?_,by rw[updE_same];exact hke⟩;cases c1 with
   | box cs1=>obtain⟨cs0,rfl⟩:=hbox ⟨cs1,rfl⟩;exact⟨cs0,hkm⟩
   |_=>simp[ec]at h)
 have hndk:((am ch k c1).map (·.1)).Nodup:=by rw[fb hl];exact hi.nd
 refine hev.chs (fun k' c' hm=>?_) (by rw[fj];exact fq hndk);obtain⟨c2,h2,rfl⟩:=ik hm;rcases fk hi.nd (eH h2)with h3 | h3
 . cases h3;simp
 . exact zW.2 (.inr (jk (ij (fq hi.nd) h3 (fun e=>dZ hndk (e ▸ h2)))))
theorem lh {x:KE} {I I':j5} {y:KE0} {i:Nat} (hf:FpOk x I) (hI:∀ j,j≠i->∀ q,I' j=some q->I j=some q) (hy:∀ b,y.nil=false->y.blk=b->¬ x.fp b) :
 FpOk (mkK x.toKE0 (fun j=>if j=i then y else x.inn j) I') I'/\∀ b,(mkK x.toKE0 (fun j=>if j=i then y else x.inn j) I').fp b->x.fp b\/(y.nil=false/\y.blk=b):=by
 refine⟨nM (fun j q hj hn hx=>?_) (fun j j' q q' hne hj hj' hn hn'=>?_),fun b hb=>?_⟩
 . split at hn
   . rename_i e;rw[qb e];exact fun e2=>hy _ hn rfl ((hf.fp _).2 (.inl ⟨hx,e2.symm⟩))
   . rename_i e;rw[qa e];exact hf.ne j q (hI j e q hj) hn hx
 . split at hn <;> split at hn'
   . rename_i e e';exact absurd (e.trans e'.symm) hne
   . rename_i e e';rw[qb e,qa e'];exact fun e2=>hy _ hn e2 ((hf.fp _).2 (.inr ⟨j',q',hI j' e' q' hj',hn',rfl⟩))
   . rename_i e e';rw[qa e,qb e'];exact fun e2=>hy _ hn' e2.symm ((hf.fp _).2 (.inr ⟨j,q,hI j e q hj,hn,rfl⟩))
   . rename_i e e';rw[qa e,qa e'];exact hf.sep j j' q q' hne (hI j e q hj) (hI j' e' q' hj') hn hn'
 . rcases hb with⟨h1,h2⟩ | ⟨j,q,h1,h2,h3⟩
   . exact .inl ((hf.fp _).2 (.inl ⟨h1,h2⟩))
   . simp only at h2 h3;split at h2
     . rename_i e;rw[qb e]at h3;exact .inr ⟨h2,h3⟩
     . rename_i e;rw[qa e]at h3;exact .inl ((hf.fp _).2 (.inr ⟨j,q,hI j e q h1,h2,h3⟩))
theorem uh {a:Act} {tt:TypeId} {x y:Operand} {o:Oper} {k t off n:Nat} {ty:TypeId} {es:List (List C)} {cs:List C} {p:Prop} (hi:Inv E U w.heap ch) (ho:o.op=.store tt x y) (hs:eq P tt=some 1)
 (hx:a.eval x=.pointer (some ⟨(E k).blk,off,none⟩)) (hl:lk ch k=some (.box cs)) (hlt:lk ch t=some (.row n ty es)) (hr:Rep E U w.heap (.own t) (a.eval y)) (h2:off < cs.length) (hkt:k≠t) :
 dN P E U w ch d (execOp a.eval o) ⟨p,.s undef,ae [(t,.c .any),(k,.inner)] (af (am ch k (.box (cs.set off (.isl n ty es)))) t),[(t,.c .any),(k,.inner)]⟩:=by
 have hkm:=dH hl;have htm:=dH hlt;obtain⟨⟨hn,arr,tya,b1,b2,b3⟩,hf,hin⟩:=hi.ok k _ hkm;obtain⟨hrow,hft⟩:=hi.ok t _ htm;have hv:=eS hr;have hcl:(a.eval y).cells=#[slV (E t).toKE0]:=by rw[hv];exact j2 _
 have hrun:=gY (P:=P) (t:=tt) (x:=a.eval y) (off:=off) hs b1 (by rw[hcl];rfl) (by omega) (fun j hj=>by
  rw[hcl]at hj ⊢;have:j=0:=by simpa using hj
  subst this;exact gu _)
 rw[hcl]at hrun;have hownk:(E k).fp (E k).blk:=(hf.fp _).2 (.inl ⟨hn,rfl⟩);have hownt:(E t).nil=false->(E t).fp (E t).blk:=fun h=>(hft.fp _).2 (.inl ⟨h,rfl⟩)
 obtain⟨f1,f2⟩:=lh (i:=off) (I':=eK (cs.set off (.isl n ty es))) (y:=(E t).toKE0) hf (fun j hj q hq=>by
  simp only[eK,zJ]at hq ⊢
  rwa[qa (fun e=>hj e.symm)]at hq) (fun b h1 h2 h3=>hi.sep k _ t _ hkm htm hkt b h3 (h2 ▸ hownt h1))
 have hold:∀ b,b≠(E k).blk->(w.setRow (E k).blk (arr.toList.take off++[slV (E t).toKE0]++arr.toList.drop (off+1)).toArray).heap[b]? = w.heap[b]?:=fun b hb=>setRow_other w _ b _ hb
 refine⟨undef,_,U,w.setRow (E k).blk (arr.toList.take off++[slV (E t).toKE0]++arr.toList.drop (off+1)).toArray,.inr ⟨?_,rfl⟩,.d (.s undef),Ev.absorb (w1:=w.setRow (E k).blk (arr.toList.take off++[slV (E t).toKE0]++arr.toList.drop (off+1)).toArray) (xk:=mkK (E k).toKE0 (fun j=>if j=off then (E t).toKE0 else (E k).inn j) (eK (cs.set off (.isl n ty es)))) hi hl hlt hkt rfl rfl rfl (by simp[World.setRow]) (fun b _ hb _=>hold b (fun e=>hb (e ▸ hownk))) rfl
  (fun b hb=>by
   rcases f2 b hb with g | g
   . exact .inl g
   . exact .inr (g.2 ▸ hownt g.1)) (fun _=>⟨cs,rfl⟩) (fun hkeep hrep hno=>?_) d⟩
 . simp only[execOp,ho,hx,Sem.run_bind,Result.andThen_ok,Sem.run_pure]at hrun ⊢;rw[hrun];rfl
 . have hsz:((arr.toList.take off++[slV (E t).toKE0]++arr.toList.drop (off+1)).toArray).size=arr.size:=jQ (xs:=[slV (E t).toKE0]) (by simp;omega);have hget:∀ j,((arr.toList.take off++[slV (E t).toKE0]++arr.toList.drop (off+1)).toArray).getD j undef=if j=off then slV (E t).toKE0 else arr.getD j undef:=fun j=>by
    have:=iL (arr:=arr) (xs:=[slV (E t).toKE0]) (off:=off) (k:=j) (by simp;omega);simp only[List.length_singleton]at this;rw[this];by_cases hj:j=off
    . subst hj;simp
    . rw[qa hj,qa (by omega)]
   simp only[ec,dM,kD hno,updE_same];refine⟨⟨hn,_,tya,setRow_heap w _ arr _ tya _ b1,by rw[hsz];simpa using b2,fun j c hj=>?_⟩,f1,fun j n' t' es' hj=>?_⟩
   . rw[hget];simp only[zh,za]at hj;obtain⟨c1,hj,rfl⟩:=hj;rw[zJ,qb h2]at hj;split at hj
     . rename_i e;subst e;rw[qb rfl];cases hj;exact .inr ⟨⟨_,_,_,rfl⟩,by simp[mkK]⟩
     . rename_i e;rw[qa (fun e'=>e e'.symm)];rcases b3 j c1 hj with⟨r1,r2⟩ | ⟨⟨n',t',es',rfl⟩,r2⟩
       . exact .inl ⟨hrep _ _ r1,r2⟩
       . exact .inr ⟨⟨n',t',es',rfl⟩,by rw[r2];simp only[mkK];rw[qa (fun e'=>e e'.symm)]⟩
   . simp only[eK,zJ]at hj;simp only[mkK];split at hj
     . rename_i e;subst e;cases hj;rw[qb rfl];exact hrow.mono hkeep (fun h=>hold _ (fun e=>hi.sep k _ t _ hkm htm hkt _ (e ▸ hownk) (hownt h)))
     . rename_i e;rw[qa (fun e'=>e e'.symm)];exact (hin j n' t' es' hj).mono hkeep (fun h=>hold _ (hf.ne j _ hj h hn))
theorem nQ {a:Act} {tt:TypeId} {x y:Operand} {o:Oper} {k t i n:Nat} {ty ty0:TypeId} {es:List (List C)} {hole:Option Nat} {rows:List (List (List C))} {p:Prop} (hi:Inv E U w.heap ch) (ho:o.op=.store tt x y) (hs:eq P tt=some 1)
 (hx:a.eval x=.pointer (some ⟨(E k).blk,(E k).off+i*(E k).sz+0,none⟩)) (hl:lk ch k=some (.deep n ty ty0 hole rows)) (hlt:lk ch t=some (.row n ty es)) (hr:Rep E U w.heap (.own t) (a.eval y)) (h2:i < rows.length) (hh:hole=none\/hole=some i) (hkt:k≠t) :
 dN P E U w ch d (execOp a.eval o) ⟨p,.s undef,ae [(t,.c .any),(k,.inner)] (af (am ch k (.deep n ty ty0 none (rows.set i es))) t),[(t,.c .any),(k,.inner)]⟩:=by
 have hkm:=dH hl;have htm:=dH hlt;obtain⟨⟨d1,d2,d3⟩,hf,hin⟩:=hi.ok k _ hkm;rcases d3 with⟨_,rfl⟩ | ⟨hn,d4,d5,arr,b1,d6,d7⟩
 . simp at h2
 obtain⟨hrow,hft⟩:=hi.ok t _ htm;have hv:=eS hr;rw[d2,yA,zL]at hx;have hcl:(a.eval y).cells=#[slV (E t).toKE0]:=by rw[hv];exact j2 _
 have hrun:=gY (P:=P) (t:=tt) (x:=a.eval y) (off:=(E k).off+i) hs b1 (by rw[hcl];rfl) (by omega) (fun j hj=>by
  rw[hcl]at hj ⊢;have:j=0:=by simpa using hj
  subst this;exact gu _)
 rw[hcl]at hrun;have hownk:(E k).fp (E k).blk:=(hf.fp _).2 (.inl ⟨hn,rfl⟩);have hownt:(E t).nil=false->(E t).fp (E t).blk:=fun h=>(hft.fp _).2 (.inl ⟨h,rfl⟩)
 have hI:∀ j,j≠i->∀ q,eh n ty none (rows.set i es) j=some q->eh n ty hole rows j=some q:=fun j hj q hq=>by
  simp only[eh,zJ]at hq ⊢;rw[qa (by simp),qa (fun e=>hj e.symm)]at hq;rw[qa (by rcases hh with h | h <;> rw[h] <;> simp;exact fun e=>hj e.symm)];exact hq
 obtain⟨f1,f2⟩:=lh (i:=i) (I':=eh n ty none (rows.set i es)) (y:=(E t).toKE0) hf hI (fun b h1 h2 h3=>hi.sep k _ t _ hkm htm hkt b h3 (h2 ▸ hownt h1));have hold:∀ b,b≠(E k).blk->(w.setRow (E k).blk (arr.toList.take ((E k).off+i)++[slV (E t).toKE0]++arr.toList.drop ((E k).off+i+1)).toArray).heap[b]? = w.heap[b]?:=fun b hb=>setRow_other w _ b _ hb
 refine⟨undef,_,U,w.setRow (E k).blk (arr.toList.take ((E k).off+i)++[slV (E t).toKE0]++arr.toList.drop ((E k).off+i+1)).toArray,.inr ⟨?_,rfl⟩,.d (.s undef),Ev.absorb (w1:=w.setRow (E k).blk (arr.toList.take ((E k).off+i)++[slV (E t).toKE0]++arr.toList.drop (((E k).off+i)+1)).toArray) (xk:=mkK (E k).toKE0 (fun j=>if j=i then (E t).toKE0 else (E k).inn j) (eh n ty none (rows.set i es))) hi hl hlt hkt rfl rfl rfl (by simp[World.setRow]) (fun b _ hb _=>hold b (fun e=>hb (e ▸ hownk))) rfl
  (fun b hb=>by
   rcases f2 b hb with g | g
   . exact .inl g
   . exact .inr (g.2 ▸ hownt g.1)) (fun⟨cs,h⟩=>by cases h) (fun hkeep hrep hno=>?_) d⟩
 . simp only[execOp,ho,hx,Sem.run_bind,Result.andThen_ok,Sem.run_pure]at hrun ⊢;rw[hrun];rfl
 . have hsz:((arr.toList.take ((E k).off+i)++[slV (E t).toKE0]++arr.toList.drop ((E k).off+i+1)).toArray).size=arr.size:=jQ (xs:=[slV (E t).toKE0]) (by simp;omega);have hget:∀ j,((arr.toList.take ((E k).off+i)++[slV (E t).toKE0]++arr.toList.drop ((E k).off+i+1)).toArray).getD ((E k).off+j) undef=if j=i then slV (E t).toKE0 else arr.getD ((E k).off+j) undef:=fun j=>by
    have:=iL (arr:=arr) (xs:=[slV (E t).toKE0]) (off:=(E k).off+i) (k:=(E k).off+j) (by simp;omega);simp only[List.length_singleton]at this;rw[this];by_cases hj:j=i
    . subst hj;simp
    . rw[qa hj,qa (by omega)]
   simp only[ec,dM,updE_same];refine⟨⟨by simp only[List.length_set];exact d1,d2,.inr ⟨hn,by simp only[List.length_set];exact d4,d5,_,setRow_heap w _ arr _ ty0 _ b1,by rw[hsz];exact d6,fun j hj=>?_⟩⟩,f1,fun j n' t' es' hj=>?_⟩
   . have hj':j < rows.length:=by simpa using hj
     have key:(if j=i then slV (E t).toKE0 else arr.getD ((E k).off+j) undef).oneCell'=true/\(if j=i then slV (E t).toKE0 else arr.getD ((E k).off+j) undef)=slV (if j=i then (E t).toKE0 else (E k).inn j):=by
      by_cases hji:j=i
      . rw[qb hji,qb hji];exact⟨gu _,rfl⟩
      . rw[qa hji,qa hji];exact⟨(d7 j hj').1,(d7 j hj').2 (by rcases hh with h | h <;> rw[h] <;> simp;exact fun e=>hji e.symm)⟩
     have h0:=hget j;exact⟨(congrArg Value.oneCell' h0).trans key.1,fun _=>h0.trans key.2⟩
   . simp only[mkK];by_cases hji:j=i
     . rw[qb hji];subst hji;simp only[eh,zJ,h2,qj,reduceCtorEq,qi,zU,zn,zf]at hj;obtain⟨rfl,rfl,rfl⟩:=hj;exact hrow.mono hkeep (fun h=>hold _ (fun e=>hi.sep k _ t _ hkm htm hkt _ (e ▸ hownk) (hownt h)))
     . rw[qa hji];have:=hI j hji _ hj;exact (hin j n' t' es' this).mono hkeep (fun h=>hold _ (hf.ne j _ this h hn))
theorem nS {h:Array Obj} {v v0:Value} (hr:RepD U h (.s v0) v):v=v0:=by cases hr;rfl
def gK (x:KE) (n:Nat):List (List C):=(List.range n).map fun i=>[.s (slV (x.inn i))]
theorem qP {h:Array Obj} {x:KE} {ty:TypeId} {rows:List (List (List C))} (hd:qz h x ty none rows):fa U h x.toKE0 1 ty (gK x rows.length):=by
 obtain⟨h1,h2,h3⟩:=hd;have hl:(gK x rows.length).length=rows.length:=by simp[gK]
 refine⟨by rw[hl];exact h1,h2,fun i e he=>?_,?_⟩
 . simp only[gK,zh,za]at he;obtain⟨j,_,rfl⟩:=he;rfl
 . rcases h3 with⟨h3,rfl⟩ | ⟨h3,h4,h5,arr,h6,h7,h8⟩
   . exact .inl ⟨h3,rfl⟩
   . refine .inr ⟨h3,by rw[hl];exact h4,h5,arr,h6,by rw[yA];exact h7,fun i e j c he hj=>?_⟩;simp only[gK,zh,za]at he;obtain⟨i',hi',rfl⟩:=he;have hi:=(zi.1 hi').1;simp only[List.length_range]at hi;rw[yv hi]at hi';cases hi';have hj0:j=0:=by have:=(zi.1 hj).1;simp at this;exact this
     subst hj0;simp only[zD,zn]at hj;subst hj;rw[yA,zL];have:=(h8 i hi).2 (by simp);rw[this];exact⟨.s _,gu _⟩
theorem vX {h:Array Obj} {x:KE} {ty:TypeId} {rows:List (List (List C))} {L:List Value} (hr:fa U h x.toKE0 1 ty (L.map fun v=>[.s v])) (hl:L.length=rows.length) (hv:∀ i,i < rows.length->L[i]? = some (slV (x.inn i))):qz h x ty none rows:=by
 obtain⟨h1,h2,_,h4⟩:=hr;refine⟨by rw[h1];simpa using hl,h2,?_⟩;rcases h4 with⟨h3,h4⟩ | ⟨h3,h4,h5,arr,h6,h7,h8⟩
 . refine .inl ⟨h3,List.eq_nil_of_length_eq_zero ?_⟩;have:L=[]:=by simpa using h4
   rw[<- hl,this];rfl
 . refine .inr ⟨h3,by rw[<- hl];simpa using h4,h5,arr,h6,by rw[yA]at h7;exact h7,fun i hi=>?_⟩;have he:(L.map fun v=>[C.s v])[i]? = some [.s (slV (x.inn i))]:=by rw[zh,hv i hi];rfl
   obtain⟨g1,g2⟩:=h8 i _ 0 _ he rfl;rw[yA,zL]at g1 g2;exact⟨g2,fun _=>nS g1⟩
theorem Ev.take1 {w1:World} {k:Nat} {c0 c1:Ch} {x:KE} (hi:Inv E U w.heap ch) (hl:lk ch k=some c0) (hkd:k≠d)
 (hos:w1.os=w.os) (htp:w1.tape=w.tape) (hou:w1.output=w.output) (hsz:w.heap.size<=w1.heap.size) (hold:∀ b,b < w.heap.size->w1.heap[b]? = w.heap[b]?)
 (hx:∀ b,x.fp b->(w.heap.size<=b/\b < w1.heap.size)\/(E k).fp b) (hbox:∀ cs,c1≠.box cs) (hok:(∀ b,U b->U b/\w1.heap[b]? = w.heap[b]?)->dM (dQ E d x) U w1.heap d c1) :
 Ev E U w ch [(d,.c .any),(k,.c .any)] d (dQ E d x) U w1 ((d,c1) :: ae [(d,.c .any),(k,.c .any)] (af (af ch k) d)):=by
 have hkm:=dH hl;have hkeep:∀ b,U b->U b/\w1.heap[b]? = w.heap[b]?:=fun b hb=>⟨hb,hold b (hi.lt b hb)⟩
 have hold2:∀ k' c',(k',c')∈af (af ch k) d->(k',c')∈ch/\k'≠k/\k'≠d:=fun k' c' h=>jL hi.nd h
 refine Ev.gen (news:=[(d,c1)]) (old:=af (af ch k) d) hi hos htp hou hsz ((eu _ d).trans (eu ch k)) hkeep (fun k' hk=>?_) (fun k' hk=>?_) (fun k' c' hk v _=>?_) (fun k' c' h=>d0 E x (hold2 k' c' h).2.2)
  (fun k' c' h b hb=>hold b (hi.fpl k' c' (hold2 k' c' h).1 b hb)) (fun b hb _=>hold b hb) (by simp) (fun k' c' h c2 h2=>?_) (fun k' c' h=>?_) (fun k' c' h b hb=>?_) (fun k' c' h b hb=>?_) (fun k1 x1 k2 x2 h1 h2 hne=>?_) (fun b hb=>.inl hb) (fun k' c' h b hb hu=>?_) (fun b hb=>by have:=hi.lt b hb;omega) (fun k' cs h=>?_)
 . rw[gj]at hk;split at hk
   . cases hk
   . exact d0 E x (by assumption)
 . rw[gj]at hk;split at hk
   . cases hk
   . split at hk <;> cases hk
 . rw[gj]at hk;split at hk
   . cases hk;exact .d (.any v)
   . split at hk
     . cases hk;exact .d (.any v)
     . cases hk
 . simp only[zg,zf]at h;obtain⟨rfl,_⟩:=h;exact (hold2 _ _ h2).2.2 rfl
 . simp only[zg,zf]at h;obtain⟨rfl,rfl⟩:=h;exact hok hkeep
 . simp only[zg,zf]at h;obtain⟨rfl,rfl⟩:=h;rw[updE_same]at hb;rcases hx b hb with g | g
   . exact .inl g.1
   . exact .inr ⟨k,c0,hkm,(fun c' h'=>(hold2 _ _ h').2.1 rfl),g⟩
 . simp only[zg,zf]at h;obtain⟨rfl,rfl⟩:=h;rw[updE_same]at hb;rcases hx b hb with g | g
   . exact g.2
   . have:=hi.fpl k c0 hkm b g;omega
 . simp only[zg,zf]at h1 h2;exact absurd (h1.1.trans h2.1.symm) hne
 . simp only[zg,zf]at h;obtain⟨rfl,rfl⟩:=h;rw[updE_same]at hb;rcases hx b hb with g | g
   . have:=hi.lt b hu;omega
   . exact hi.out k c0 hkm b g hu
 . simp only[zg,zf]at h;exact absurd h.2.symm (hbox cs)
theorem uo {a:Act} {t e:TypeId} {n k:Nat} {parts:Array (Nat×Operand)} {x:Operand} {z:List Value} {ty:TypeId} {es:List (List C)} {o:Oper} {p:Prop} (hi:Inv E U w.heap ch) (ho:o.op=.buildSlice t 1 parts)
 (hu:P.underlying t=some (.slice e)) (hz:gf P e=some z) (hs:eq P e=some 1) (hzl:z.length=1) (h1:z.all (·.oneCell')=true) (hp:parts.toList=[(0,x)]) (hr:Rep E U w.heap (.own k) (a.eval x)) (hl:lk ch k=some (.row n ty es)) (hkd:k≠d) :
 dN P E U w ch d (execOp a.eval o) ⟨p,.own d,(d,.deep n ty e none [es]) :: ae [(d,.c .any),(k,.c .any)] (af (af ch k) d),[(d,.c .any),(k,.c .any)]⟩:=by
 have hkm:=dH hl;obtain⟨hrow,hf⟩:=hi.ok k _ hkm;have hv:=eS hr;have key:∀ zero:Array Value,(1*1≠0->zero=z.toArray)->∃ cells',Instr.fill (fun i=>some (i*1,1)) ((Array.range (1*1)).map (zero[· % zero.size]!)) (parts.toList.map fun (i,x)=>(i,a.eval x))=some cells'/\jA U w.heap 1 [[.s (slV (E k).toKE0)]] cells':=fun zero h2=>by
  rw[hp];refine kJ (E:=E) 1 [(0,x)] [(0,.s (slV (E k).toKE0))] _ _ [[.s (slV (E k).toKE0)]] (iQ z 1 1 hzl h1 zero h2) rfl (fun j pp q hp' hq'=>?_) ?_
  . cases j with
    | zero=>simp at hp' hq';subst hp' hq';exact⟨rfl,by rw[hv];exact .d (.s _)⟩
    | succ j=>simp at hp'
  . simp[bl,aj,a8,gu]
 obtain⟨cells,g1,q1,q2,q3⟩:=key z.toArray (fun _=>rfl);have hmap:(parts.map fun (i,x)=>(i,a.eval x)).toList=parts.toList.map fun (i,x)=>(i,a.eval x):=by simp
 have hrun:=e9 (P:=P) (w:=w) (parts:=parts.map fun (i,x)=>(i,a.eval x)) (cells:=cells) (len:=1) hu hz hs (by decide) (fun zero h=>by rw[hmap,h (by simp)];exact g1);have hrun2:(execOp a.eval o).run P w=.ok (.value (.slice (some ⟨w.heap.size,0,none⟩) 1 1)) (w.alloc (.cells cells e)):=by
  simp only[execOp,ho,Sem.run_bind,hrun,Result.andThen_ok,Sem.run_pure]
 let xd:KE:=mkK ⟨w.heap.size,0,1,1,1,false⟩ (fun _=>(E k).toKE0) (eh n ty none [es])
 have hown:(E k).nil=false->(E k).fp (E k).blk:=fun h=>(hf.fp _).2 (.inl ⟨h,rfl⟩)
 have hI:∀ i q,eh n ty none [es] i=some q->i=0:=fun i q h=>by
  simp only[eh,reduceCtorEq,qi,za]at h;obtain⟨es',h,_⟩:=h;have:=(zi.1 h).1;simpa using this
 have hxd:FpOk xd (eh n ty none [es]):=nM (fun i q h hn _ e=>by
  have:=hi.fpl k _ hkm _ (hown hn);simp only at e;omega) (fun i j q q' hne h h'=>absurd ((hI i q h).trans (hI j q' h').symm) hne)
 have hold:∀ b,b < w.heap.size->(w.alloc (.cells cells e)).heap[b]? = w.heap[b]?:=fun b hb=>RowKit.Below.heap_alloc w _ b hb
 refine⟨_,dQ E d xd,U,_,.inl hrun2,?_,Ev.take1 hi hl hkd rfl rfl rfl (by simp) hold (fun b hb=>?_) (fun cs h=>by cases h) (fun hkeep=>?_)⟩
 . have:=Rep.own (E:=dQ E d xd) (U:=U) (h:=(w.alloc (.cells cells e)).heap) d;rw[updE_same]at this;exact this
 . rcases hb with⟨_,h2⟩ | ⟨i,q,_,h2,h3⟩
   . simp only at h2;subst h2;exact .inl ⟨zw _,by simp⟩
   . exact .inr (h3 ▸ hown h2)
 . rw[dM,updE_same];refine⟨⟨rfl,rfl,.inr ⟨rfl,zw _,(by decide:(1:Nat)<=maxLen),cells,heap_alloc_new w _,by rw[q1];exact zw 1,fun i hi'=>?_⟩⟩,hxd,fun i n' t' es' h=>?_⟩
   . have hi0:i=0:=by simpa using hi'
     subst hi0;have:=q3 0 _ 0 _ rfl rfl;simp only[xd,mkK,zz];rw[Nat.zero_mul,zz]at this;obtain⟨r1,r2⟩:=this;exact⟨r2,fun _=>nS r1⟩
   . have:=hI i _ h;subst this;simp[eh]at h;obtain⟨rfl,rfl,rfl⟩:=h;exact hrow.mono hkeep (fun h=>hold _ (hi.fpl k _ hkm _ (hown h)))
theorem sS {a:Act} {tt u e e2:TypeId} {i:TypeInfo} {z:Value} {s x:Operand} {o:Oper} {k t n:Nat} {t0 ty0':TypeId} {rows news:List (List (List C))} {p:Prop} (hi:Inv E U w.heap ch)
 (ho:o.op=.call { callee:=.builtin .append,args:=#[s,x],argTypes:=#[tt,u] }) (ht:P.underlying tt=some (.slice e)) (hu:P.underlying u=some (.slice e2)) (hie:P.info? e=some i) (hz:i.zero=some z) (hzs:z.cells.size=i.size) (hsz1:i.size=1)
 (hs:Rep E U w.heap (.own k) (a.eval s)) (hl:lk ch k=some (.deep n t0 e none rows)) (hx:Rep E U w.heap (.own t) (a.eval x)) (hlt:lk ch t=some (.deep n t0 ty0' none news)) (hkt:k≠t)
 (hbytes:(rows.length+news.length)*i.bytes<=140737488355328) (h63:rows.length+news.length<=9223372036854775807) :
 dN P E U w ch d (execOp a.eval o) ⟨p,.own k,am (ae [(k,.c .any),(t,.c .any)] (af ch t)) k (.deep n t0 e none (rows++news)),[(k,.c .any),(t,.c .any)]⟩:=by
 have hkm:=dH hl;have htm:=dH hlt;obtain⟨hdk,hfk,hik⟩:=hi.ok k _ hkm;obtain⟨hdt,hft,hit⟩:=hi.ok t _ htm;have hownk:(E k).nil=false->(E k).fp (E k).blk:=fun h=>(hfk.fp _).2 (.inl ⟨h,rfl⟩)
 have hownt:(E t).nil=false->(E t).fp (E t).blk:=fun h=>(hft.fp _).2 (.inl ⟨h,rfl⟩)
 let E2:Env:=dQ E t (ke0 (E t).toKE0)
 have hi2:Inv E2 U w.heap [(t,.row 1 ty0' (gK (E t) news.length))]:=by
  refine⟨by simp,fun k' c' h=>?_,fun k1 c1 k2 c2 h1 h2 hne=>?_,fun k' c' h b hb=>?_,fun k' c' h b hb=>?_,hi.lt⟩
  . simp only[zg,zf]at h;obtain⟨rfl,rfl⟩:=h;simp only[dM,E2,updE_same];exact⟨qP hdt,gn _⟩
  . simp only[zg,zf]at h1 h2;exact absurd (h1.1.trans h2.1.symm) hne
  . simp only[zg,zf]at h;obtain⟨rfl,rfl⟩:=h;simp only[E2,updE_same]at hb;exact hi.out _ _ htm b (hb.2 ▸ hownt hb.1)
  . simp only[zg,zf]at h;obtain⟨rfl,rfl⟩:=h;simp only[E2,updE_same]at hb;exact hi.fpl _ _ htm b (hb.2 ▸ hownt hb.1)
 have hx2:Rep E2 U w.heap (.own t) (a.eval x):=by
  have:=Rep.own (E:=E2) (U:=U) (h:=w.heap) t;simp only[E2,updE_same,ke0_to]at this;rw[eS hx];exact this
 have hlh:∀ (x:KE) m,(gK x m).length=m:=fun x m=>by simp[gK]
 obtain⟨y',w1,g1,g2,g3,g4,g5,g6,g7,g8⟩:=oi (P:=P) (y:=(E k).toKE0) (es:=gK (E k) rows.length) (news:=gK (E t) news.length) (c:=.own t) hi2 ho ht hu hie hz hzs (by omega) (eS hs) (by rw[hsz1];exact qP hdk) (fun hn b hb e=>hi.out k _ hkm b (e ▸ hownk hn) hb) hx2
  (by simp[aV,lk,hsz1]) (by rw[hlh,hlh];exact hbytes) (by rw[hlh,hlh];exact h63)
 rw[hsz1]at g2;have hnI:∀ j q,eh n t0 none (rows++news) j=some q->(j < rows.length/\eh n t0 none rows j=some q)\/(rows.length<=j/\eh n t0 none news (j - rows.length)=some q):=fun j q h=>by
  simp only[eh,reduceCtorEq,qi,zS]at h ⊢;split at h
  . exact .inl ⟨by assumption,h⟩
  . exact .inr ⟨by omega,h⟩
 let inn':Nat->KE0:=fun j=>if j < rows.length then (E k).inn j else (E t).inn (j - rows.length)
 let xk:KE:=mkK y' inn' (eh n t0 none (rows++news))
 have hy:y'.nil=false->(w.heap.size<=y'.blk/\y'.blk < w1.heap.size)\/((E k).nil=false/\y'.blk=(E k).blk):=g8;have hinn:∀ j q,eh n t0 none (rows++news) j=some q->(inn' j).nil=false->((E k).fp (inn' j).blk/\j < rows.length/\inn' j=(E k).inn j/\eh n t0 none rows j=some q)\/((E t).fp (inn' j).blk/\rows.length<=j/\inn' j=(E t).inn (j - rows.length)/\eh n t0 none news (j - rows.length)=some q):=fun j q h hn=>by
  rcases hnI j q h with⟨h1,h2⟩ | ⟨h1,h2⟩
  . left;have e:inn' j=(E k).inn j:=by simp only[inn'];rw[qb h1]
    rw[e]at hn ⊢;exact⟨(hfk.fp _).2 (.inr ⟨j,q,h2,hn,rfl⟩),h1,rfl,h2⟩
  . right;have e:inn' j=(E t).inn (j - rows.length):=by simp only[inn'];rw[qa (by omega)]
    rw[e]at hn ⊢;exact⟨(hft.fp _).2 (.inr ⟨_,q,h2,hn,rfl⟩),h1,rfl,h2⟩
 have hne:∀ b,(E k).fp b->(E t).fp b->False:=fun b h1 h2=>hi.sep k _ t _ hkm htm hkt b h1 h2
 have hxk:FpOk xk (eh n t0 none (rows++news)):=nM (fun j q h hn hny e=>by
  rcases hinn j q h hn with⟨f1,f2,f3,f4⟩ | ⟨f1,f2,f3,f4⟩
  . rcases hy hny with g | ⟨ga,gb⟩
    . have:=hi.fpl k _ hkm _ f1;omega
    . rw[f3]at hn e;exact hfk.ne j q f4 hn ga (e.trans gb)
  . rcases hy hny with g | ⟨ga,gb⟩
    . have:=hi.fpl t _ htm _ f1;omega
    . exact hne _ (hownk ga) (by rw[<- gb,<- e];exact f1)) (fun j j' q q' hjj h h' hn hn' e=>by
  rcases hinn j q h hn with⟨f1,f2,f3,f4⟩ | ⟨f1,f2,f3,f4⟩ <;> rcases hinn j' q' h' hn' with⟨f1',f2',f3',f4'⟩ | ⟨f1',f2',f3',f4'⟩
  . rw[f3]at hn e;rw[f3']at hn' e;exact hfk.sep j j' q q' hjj f4 f4' hn hn' e
  . exact hne _ f1 (e ▸ f1')
  . exact hne _ (e ▸ f1') f1
  . rw[f3]at hn e;rw[f3']at hn' e;exact hft.sep _ _ q q' (by omega) f4 f4' hn hn' e)
 have hxf:∀ b,xk.fp b->(w.heap.size<=b/\b < w1.heap.size)\/(E k).fp b\/(E t).fp b:=fun b hb=>by
  rcases hb with⟨h1,h2⟩ | ⟨j,q,h1,h2,h3⟩
  . rcases hy h1 with g | ⟨ga,gb⟩
    . exact .inl (h2 ▸ g)
    . exact .inr (.inl (by rw[<- h2,gb];exact hownk ga))
  . rcases hinn j q h1 h2 with f | f
    . exact .inr (.inl (h3 ▸ f.1))
    . exact .inr (.inr (h3 ▸ f.1))
 have hkeep:∀ b,U b->U b/\w1.heap[b]? = w.heap[b]?:=fun b hb=>⟨hb,g7 b (hi.lt b hb) (fun hn e=>hi.out k _ hkm b (e ▸ hownk hn) hb)⟩
 have hsame:∀ b,b < w.heap.size->¬ (E k).fp b->w1.heap[b]? = w.heap[b]?:=fun b hb hn=>g7 b hb (fun h e=>hn (e ▸ hownk h))
 have hold2:∀ k' c',(k',c')∈af (af ch t) k->(k',c')∈ch/\k'≠t/\k'≠k:=fun k' c' h=>jL hi.nd h
 have hok:dM (dQ E k xk) U w1.heap k (.deep n t0 e none (rows++news)):=by
  simp only[dM,updE_same];refine⟨?_,hxk,fun j n' t' es' h=>?_⟩
  . have hL:(gK (E k) rows.length++gK (E t) news.length)=((List.range rows.length).map (fun i=>slV ((E k).inn i))++(List.range news.length).map (fun i=>slV ((E t).inn i))).map fun v=>[C.s v]:=by
     simp[gK,Function.comp_def]
    rw[hL]at g2;refine vX g2 (by simp) (fun j hj=>?_);simp only[xk,mkK,inn'];simp only[zK]at hj;rw[zS];simp only[zy,List.length_range];split
    . rename_i h;rw[zh,yv h];rfl
    . rename_i h;rw[zh,yv (by omega)];rfl
  . simp only[xk,mkK];rcases hnI j _ h with⟨h1,h2⟩ | ⟨h1,h2⟩
    . have e:inn' j=(E k).inn j:=by simp only[inn'];rw[qb h1]
      rw[e];exact (hik j _ _ _ h2).mono hkeep (fun hn=>g7 _ (hi.fpl k _ hkm _ ((hfk.fp _).2 (.inr ⟨j,_,h2,hn,rfl⟩))) (fun hn'=>hfk.ne j _ h2 hn hn'))
    . have e:inn' j=(E t).inn (j - rows.length):=by simp only[inn'];rw[qa (by omega)]
      rw[e];refine (hit _ _ _ _ h2).mono hkeep (fun hn=>?_);have hfp:(E t).fp ((E t).inn (j - rows.length)).blk:=(hft.fp _).2 (.inr ⟨_,_,h2,hn,rfl⟩);exact hsame _ (hi.fpl t _ htm _ hfp) (fun h=>hne _ h hfp)
 have hev:=Ev.gen (news:=[(k,Ch.deep n t0 e none (rows++news))]) (old:=af (af ch t) k) (m:=[(k,.c .any),(t,.c .any)]) (d:=d) (E':=dQ E k xk) (U':=U) (w1:=w1) hi g3 g4 g5 g6
  ((eu _ k).trans (eu ch t)) hkeep (fun k' hk=>by
   rw[gj]at hk;split at hk
   . cases hk
   . exact d0 E xk (by assumption)) (fun k' hk=>by
   rw[gj]at hk;split at hk
   . cases hk
   . split at hk <;> cases hk) (fun k' c' hk v _=>by
   rw[gj]at hk;split at hk
   . cases hk;exact .d (.any v)
   . split at hk
     . cases hk;exact .d (.any v)
     . cases hk) (fun k' c' h=>d0 E xk (hold2 k' c' h).2.2)
  (fun k' c' h b hb=>hsame b (hi.fpl k' c' (hold2 k' c' h).1 b hb) (fun hb'=>hi.sep k' c' k _ (hold2 k' c' h).1 hkm (hold2 k' c' h).2.2 b hb hb'))
  (fun b hb1 hb2=>hsame b hb1 (hb2 k _ hkm)) (by simp) (fun k' c' h c2 h2=>by
   simp only[zg,zf]at h;obtain⟨rfl,_⟩:=h;exact (hold2 _ _ h2).2.2 rfl) (fun k' c' h=>by
   simp only[zg,zf]at h;obtain⟨rfl,rfl⟩:=h;exact hok) (fun k' c' h b hb=>by
   simp only[zg,zf]at h;obtain⟨rfl,rfl⟩:=h;rw[updE_same]at hb;rcases hxf b hb with g | g | g
   . exact .inl g.1
   . exact .inr ⟨_,_,hkm,(fun c' h'=>(hold2 _ _ h').2.2 rfl),g⟩
   . exact .inr ⟨t,_,htm,(fun c' h'=>(hold2 _ _ h').2.1 rfl),g⟩) (fun k' c' h b hb=>by
   simp only[zg,zf]at h;obtain⟨rfl,rfl⟩:=h;rw[updE_same]at hb;rcases hxf b hb with g | g | g
   . exact g.2
   . have:=hi.fpl _ _ hkm b g;omega
   . have:=hi.fpl _ _ htm b g;omega)
  (fun k1 x1 k2 x2 h1 h2 hne=>by simp only[zg,zf]at h1 h2;exact absurd (h1.1.trans h2.1.symm) hne) (fun b hb=>.inl hb) (fun k' c' h b hb hu=>by
   simp only[zg,zf]at h;obtain⟨rfl,rfl⟩:=h;rw[updE_same]at hb;rcases hxf b hb with g | g | g
   . have:=hi.lt b hu;omega
   . exact hi.out _ _ hkm b g hu
   . exact hi.out _ _ htm b g hu) (fun b hb=>by have:=hi.lt b hb;omega) (fun k' cs h=>by
   simp only[zg,zf]at h;cases h.2)
 refine⟨_,dQ E k xk,U,w1,.inl g1,?_,hev.chs (fun k' c' hm=>?_) ?_⟩
 . have:=Rep.own (E:=dQ E k xk) (U:=U) (h:=w1.heap) k;rw[updE_same]at this;exact this
 . have hnd2:=fq (d:=t) hi.nd;have hndm:((ae [(k,Sb.c .any),(t,.c .any)] (af ch t)).map (·.1)).Nodup:=by rw[fj];exact hnd2
   rcases fk hndm hm with h | h
   . rw[h];simp
   . have hne':k'≠k:=fun e=>dZ hndm (e ▸ h)
     obtain⟨c2,h2,rfl⟩:=ik (eH h);exact zW.2 (.inr (jk (ij hnd2 h2 hne')))
 . rw[fb (c0:=ec [(k,Sb.c .any),(t,.c .any)] (.deep n t0 e none rows)),fj]
   . exact fq hi.nd
   . rw[rj];have:lk (af ch t) k=some (.deep n t0 e none rows):=eR (fq hi.nd) (ij hi.nd hkm hkt);rw[this];rfl
def it (v:Option Value) (dflt l:Int):Prop:=(v=none/\l=dflt)\/∃ k,v=some (.int k l)
theorem iv {ρ:Operand->C} {a:Act} {h:Array Obj} {o:Option Operand} {dflt l:Int} (hρ:∀ x,Rep E U h (ρ x) (a.eval x)) (hb:aZ ρ o dflt=some l):it (o.map a.eval) dflt l:=by
 cases o with
 | none=>simp only[aZ,zn]at hb;exact .inl ⟨rfl,hb.symm⟩
 | some x=>
  simp only[aZ]at hb;have hr:=hρ x;generalize hc:ρ x=c at hb hr;unfold cC at hb;split at hb
  . rename_i k n;cases hb;exact .inr ⟨k,by simp[dK hr]⟩
  . cases hb
theorem ip {k:IntKind} {l:Int} {y:Nat} {code:BoundsCode} (h:0<=l/\l<=y):(Instr.sliceBound (.int k l) y code).run P w=.ok l.toNat w:=by
 simp[Instr.sliceBound,asIntOf,h]
theorem nT {isSlice:Bool} {len cap:Nat} {lo hi:Option Value} {l h:Int} (hlo:it lo 0 l) (hhi:it hi len h) (hb:0<=l/\l<=h/\h<=len) (hc:len<=cap) :
 (Instr.sliceBounds isSlice len cap lo hi none).run P w=.ok (l.toNat,h.toNat,cap) w:=by
 obtain⟨h1,h2,h3⟩:=hb;have hh:h.toNat<=cap:=by omega
 rcases hhi with⟨rfl,rfl⟩ | ⟨k,rfl⟩
 . rcases hlo with⟨rfl,rfl⟩ | ⟨k2,rfl⟩
   . simp[Instr.sliceBounds]
   . have:=ip (P:=P) (w:=w) (k:=k2) (l:=l) (y:=len) (code:=.sliceB) (by omega);simp[Instr.sliceBounds,this]
 . have e1:=fun code=>ip (P:=P) (w:=w) (k:=k) (l:=h) (y:=cap) (code:=code) (by omega)
   rcases hlo with⟨rfl,rfl⟩ | ⟨k2,rfl⟩
   . simp[Instr.sliceBounds,e1]
   . have:=ip (P:=P) (w:=w) (k:=k2) (l:=l) (y:=h.toNat) (code:=.sliceB) (by omega);simp[Instr.sliceBounds,e1,this]
theorem rW {isSlice:Bool} {len cap:Nat} {lo:Option Value} {k1 k2:IntKind} {l h m:Int} (hlo:it lo 0 l) (hb:0<=l/\l<=h/\h<=m/\m<=cap) :
 (Instr.sliceBounds isSlice len cap lo (some (.int k1 h)) (some (.int k2 m))).run P w=.ok (l.toNat,h.toNat,m.toNat) w:=by
 obtain⟨h1,h2,h3,h4⟩:=hb;have e1:=fun code=>ip (P:=P) (w:=w) (k:=k2) (l:=m) (y:=cap) (code:=code) (by omega)
 have e2:=fun code=>ip (P:=P) (w:=w) (k:=k1) (l:=h) (y:=m.toNat) (code:=code) (by omega)
 rcases hlo with⟨rfl,rfl⟩ | ⟨k3,rfl⟩
 . simp[Instr.sliceBounds,e1,e2]
 . have e3:=fun code=>ip (P:=P) (w:=w) (k:=k3) (l:=l) (y:=h.toNat) (code:=code) (by omega)
   simp[Instr.sliceBounds,e1,e2,e3]
theorem rx {t e:TypeId} {sz:Nat} {ad:Option Addr} {len cap:Nat} {lo:Option Value} {k1 k2:IntKind} {l h m:Int} (ht:P.underlying t=some (.slice e)) (hs:eq P e=some sz) (hlo:it lo 0 l) (hb:0<=l/\l<=h/\h<=m/\m<=cap) :
 (Instr.sliceAt t (.slice ad len cap) lo (some (.int k1 h)) (some (.int k2 m))).run P w=.ok (.slice (if m.toNat=l.toNat then ad else ad.map (·.add (l.toNat*sz))) (h.toNat - l.toNat) (m.toNat - l.toNat)) w:=by
 simp only[Instr.sliceAt,Instr.slice,Sem.run_bind,run_underlying ht,Result.andThen_ok,rW hlo hb,eB hs,Sem.run_pure]
theorem kb {t e:TypeId} {sz:Nat} {ad:Option Addr} {len cap:Nat} {lo hi:Option Value} {l h:Int} (ht:P.underlying t=some (.slice e)) (hs:eq P e=some sz) (hlo:it lo 0 l) (hhi:it hi len h) (hb:0<=l/\l<=h/\h<=len) (hc:len<=cap) :
 (Instr.sliceAt t (.slice ad len cap) lo hi none).run P w=.ok (.slice (if cap=l.toNat then ad else ad.map (·.add (l.toNat*sz))) (h.toNat - l.toNat) (cap - l.toNat)) w:=by
 simp only[Instr.sliceAt,Instr.slice,Sem.run_bind,run_underlying ht,Result.andThen_ok,nT hlo hhi hb hc,eB hs,Sem.run_pure]
theorem ku {es:List (List C)} {l h i:Nat} {e:List C} (he:((es.take h).drop l)[i]? = some e):es[l+i]? = some e/\l+i < h:=by
 rw[zO,ya]at he;split at he
 . rename_i hlt;exact⟨he,hlt⟩
 . cases he
theorem ry {ad:Option Addr} {sz:Nat} {es:List (List C)} {v:Value} {l h m:Int} (hx:Rep E U w.heap (.sl sz es) v) (hb:0<=l/\l<=h/\h<=es.length) (hm:h<=m) {cap:Nat} (hv:v=.slice ad es.length cap) (hmc:m<=cap) :
 Rep E U w.heap (.sl sz ((es.take h.toNat).drop l.toNat)) (.slice (if m.toNat=l.toNat then ad else ad.map (·.add (l.toNat*sz))) (h.toNat - l.toNat) (m.toNat - l.toNat)):=by
 have hlen:((es.take h.toNat).drop l.toNat).length=h.toNat - l.toNat:=by simp;omega
 generalize hes:(es.take h.toNat).drop l.toNat=es2 at *;cases ji hx with
 | sl0 _ ad' cap' hc=>
  cases hv;have e0:es2=[]:=by rw[<- hes];simp
  have hl0:h.toNat - l.toNat=0:=by rw[<- hlen,e0];rfl
  rw[e0,hl0];exact .d (.sl0 sz _ _ (by omega))
 | sl _ b off cap' _ arr ty fz vf hU hbk hcap hmax hsz hvf hr=>
  cases hv;by_cases h0:h.toNat - l.toNat=0
  . have e0:es2=[]:=List.eq_nil_of_length_eq_zero (by omega);rw[h0,e0];exact .d (.sl0 sz _ _ (by omega))
  . rw[qa (by omega)];simp only[zU,Addr.add_lit];rw[<- hlen];refine .d (.sl es2 b (off+l.toNat*sz) _ sz arr ty fz (fun i j=>vf (l.toNat+i) j) hU hbk (by omega) (by omega) (fun i el he=>?_) (fun i el j c he hj=>?_) (fun i el j c he hj=>?_))
    . rw[<- hes]at he;exact hsz _ _ (ku he).1
    . rw[<- hes]at he;have:=hvf _ _ j c (ku he).1 hj;rw[zP,<- yG]at this;exact this
    . rw[<- hes]at he;exact hr _ _ j c (ku he).1 hj
theorem wa {sz:Nat} {es:List (List C)} {v:Value} (hx:Rep E U w.heap (.sl sz es) v):∃ ad cap,v=.slice ad es.length cap/\es.length<=cap:=by
 cases ji hx with
 | sl0 _ ad cap hc=>exact⟨ad,cap,rfl,yF _⟩
 | sl _ b off cap _ arr ty fz vf hU hbk hcap=>exact⟨_,cap,rfl,hcap⟩
theorem sU {a:Act} {o:Oper} {t e:TypeId} {sz:Nat} {x:Operand} {lo hi mx:Option Operand} {es:List (List C)} {l h m:Int} {p:Prop} (hi0:Inv E U w.heap ch) (ho:o.op=.slice t x lo hi mx) (ht:P.underlying t=some (.slice e)) (hs:eq P e=some sz)
 (hx:Rep E U w.heap (.sl sz es) (a.eval x)) (hlo:it (lo.map a.eval) 0 l) (hhi:it (hi.map a.eval) es.length h) (hmx:it (mx.map a.eval) es.length m) (hb:0<=l/\l<=h/\h<=es.length/\(mx.isSome=true->hi.isSome=true/\h<=m/\m<=es.length)) :
 dN P E U w ch d (execOp a.eval o) ⟨p,.sl sz ((es.take h.toNat).drop l.toNat),ch,[]⟩:=by
 obtain⟨ad,cap,hv,hc⟩:=wa hx;obtain⟨h1,h2,h3,h4⟩:=hb;cases mx with
 | none=>
  have hrun:(execOp a.eval o).run P w=.ok (.value (.slice (if cap=l.toNat then ad else ad.map (·.add (l.toNat*sz))) (h.toNat - l.toNat) (cap - l.toNat))) w:=by
   simp only[execOp,ho,hv,Sem.run_bind,Option.map_none,kb ht hs hlo hhi ⟨h1,h2,h3⟩ hc,Result.andThen_ok,Sem.run_pure]
  have:=ry (m:=(cap:Int)) hx ⟨h1,h2,h3⟩ (by omega) hv (Int.le_refl _);rw[z5]at this;exact dF hi0 hrun this
 | some mo=>
  obtain⟨g1,g2,g3⟩:=h4 rfl;cases hi with
  | none=>cases g1
  | some hio=>
   rcases hhi with⟨hh,_⟩ | ⟨k1,hh⟩
   . cases hh
   rcases hmx with⟨hm,_⟩ | ⟨k2,hm⟩
   . cases hm
   have hrun:(execOp a.eval o).run P w=.ok (.value (.slice (if m.toNat=l.toNat then ad else ad.map (·.add (l.toNat*sz))) (h.toNat - l.toNat) (m.toNat - l.toNat))) w:=by
    have hr:=rx (P:=P) (w:=w) (ad:=ad) (len:=es.length) (cap:=cap) (k1:=k1) (k2:=k2) ht hs hlo ⟨h1,h2,g2,by omega⟩;rw[<- hh,<- hm]at hr;simp only[execOp,ho,hv,Sem.run_bind,hr,Result.andThen_ok,Sem.run_pure]
   exact dF hi0 hrun (ry hx ⟨h1,h2,h3⟩ g2 hv (by omega))
theorem ur {a:Act} {o:Oper} {t e ty:TypeId} {sz k:Nat} {x:Operand} {lo hi:Option Operand} {es:List (List C)} {l h:Int} {p:Prop} (hi0:Inv E U w.heap ch) (ho:o.op=.slice t x lo hi none) (ht:P.underlying t=some (.slice e)) (hs:eq P e=some sz)
 (hx:Rep E U w.heap (.own k) (a.eval x)) (hl:lk ch k=some (.row sz ty es)) (hlo:it (lo.map a.eval) 0 l) (hhi:it (hi.map a.eval) es.length h) (hb:0<=l/\l<=h/\h<=es.length) :
 dN P E U w ch d (execOp a.eval o) ⟨p,.own k,am (ae [(k,.c .any)] ch) k (.row sz ty ((es.take h.toNat).drop l.toNat)),[(k,.c .any)]⟩:=by
 have hrun:∀ (ad:Option Addr) (cap:Nat),a.eval x=.slice ad es.length cap->es.length<=cap->(execOp a.eval o).run P w=.ok (.value (.slice (if cap=l.toNat then ad else ad.map (·.add (l.toNat*sz))) (h.toNat - l.toNat) (cap - l.toNat))) w:=fun ad cap hv hc=>by
  simp only[execOp,ho,hv,Sem.run_bind,Option.map_none,kb ht hs hlo hhi hb hc,Result.andThen_ok,Sem.run_pure]
 have hlen:((es.take h.toNat).drop l.toNat).length=h.toNat - l.toNat:=by simp;omega
 obtain⟨⟨b1,b2,b3,b4⟩,hfp⟩:=hi0.ok k _ (dH hl);have hnone:∀ cs,Ch.row sz ty ((es.take h.toNat).drop l.toNat)≠.box cs:=fun cs h=>by cases h
 have hes:∀ (i:Nat) (el:List C),((es.take h.toNat).drop l.toNat)[i]? = some el->el.length=sz:=fun i el he=>b3 _ _ (ku he).1
 rcases iP hx with⟨hn,hv⟩ | ⟨hn,hv⟩
 . rcases b4 with⟨_,rfl⟩ | ⟨hn',_⟩
   . have hr:=hrun none 0 (by rw[hv];rfl) (zw _);have hl0:h.toNat - l.toNat=0:=by simp at hb;omega
     have e1:(if 0=l.toNat then (none:Option Addr)else (none:Option Addr).map (·.add (l.toNat*sz)))=none:=by split <;> rfl
     rw[hl0,e1,Nat.zero_sub]at hr
     let x':KE:=ke0 ⟨0,0,0,0,sz,true⟩
     have hxk:dQ E k x' k=x':=updE_same E k x';refine⟨_,dQ E k x',U,_,.inl hr,by have:=Rep.own (E:=dQ E k x') (U:=U) (h:=w.heap) k;rw[hxk]at this;exact this,Ev.rekey (x:=x') hi0 hl rfl rfl rfl (zw _) (fun b hb _=>rfl) (fun b hb=>by cases hb.1) hnone (fun hkeep=>?_) d⟩;rw[dM,hxk];exact⟨⟨by simp[x',ke0],rfl,hes,.inl ⟨rfl,by simp⟩⟩,gn _⟩
   . rw[hn]at hn';cases hn'
 . rcases b4 with⟨hn',_⟩ | ⟨_,b5,b6,arr,b7,b8,b9⟩
   . rw[hn]at hn';cases hn'
   . rw[b1]at hv;have hr:=hrun _ _ hv b5
     let off':=if (E k).cap=l.toNat then (E k).off else (E k).off+l.toNat*sz
     let x':KE:=ke0 ⟨(E k).blk,off',(E k).cap - l.toNat,h.toNat - l.toNat,sz,false⟩
     have hxk:dQ E k x' k=x':=updE_same E k x';have e1:(if (E k).cap=l.toNat then some (⟨(E k).blk,(E k).off,none⟩:Addr)else (some (⟨(E k).blk,(E k).off,none⟩:Addr)).map (·.add (l.toNat*sz)))=some ⟨(E k).blk,off',none⟩:=by
      simp only[off'];split
      . rfl
      . simp[Addr.add_lit]
     rw[e1]at hr;refine⟨_,dQ E k x',U,_,.inl hr,?_,Ev.rekey (x:=x') hi0 hl rfl rfl rfl (zw _) (fun b hb _=>rfl) (fun b hb=>.inr ((hfp.fp b).2 (.inl ⟨hn,hb.2⟩))) hnone (fun hkeep=>?_) d⟩
     . have:=Rep.own (E:=dQ E k x') (U:=U) (h:=w.heap) k;rw[hxk]at this;exact this
     . rw[dM,hxk];refine⟨⟨hlen.symm,rfl,hes,.inr ⟨rfl,by simp only[x',ke0,hlen];omega,by simp only[x',ke0];omega,arr,b7,?_,fun i el j c he hj=>?_⟩⟩,gn _⟩
       . simp only[x',ke0,off'];by_cases hcl:(E k).cap=l.toNat
         . rw[qb hcl,hcl,Nat.sub_self,Nat.zero_mul];omega
         . rw[qa hcl];have:(E k).cap*sz=l.toNat*sz+((E k).cap - l.toNat)*sz:=by rw[<- zP];congr 1;omega
           omega
       . obtain⟨g1,g2⟩:=ku he;obtain⟨r1,r2⟩:=b9 _ el j c g1 hj;have e2:off'+i*sz+j=(E k).off+(l.toNat+i)*sz+j:=by
          simp only[off'];rw[qa (by omega),zP];omega
         simp only[x',ke0,e2];exact⟨r1.mono hkeep,r2⟩
theorem op_sstr {a:Act} {o:Oper} {t:TypeId} {x:Operand} {lo hi:Option Operand} {s:ByteArray} {l h:Int} {p:Prop} (hi0:Inv E U w.heap ch) (ho:o.op=.slice t x lo hi none) (ht:P.underlying t=some .string)
 (hx:a.eval x=.string s) (hlo:it (lo.map a.eval) 0 l) (hhi:it (hi.map a.eval) s.size h) (hb:0<=l/\l<=h/\h<=s.size) :
 dN P E U w ch d (execOp a.eval o) ⟨p,.s (.string (s.extract l.toNat h.toNat)),ch,[]⟩:=
 dF hi0 (by simp[execOp,ho,hx,Instr.sliceAt,Instr.slice,run_underlying ht,nT hlo hhi hb (zw _)]) (.d (.s _))
theorem qS {cs:List C} {off:Nat} {v:Value} {h:Array Obj} (hr:Rep E U h (.ref cs) v):∃ b o,v=.pointer (some ⟨b,o,none⟩)/\Rep E U h (.ref (cs.drop off)) (.pointer (some ⟨b,o+off,none⟩)):=by
 obtain⟨b,o,arr,ty,fz,vf,rfl,hU,hb,hv,hd⟩:=ow hr;refine⟨b,o,rfl,.ref _ b (o+off) arr ty fz (fun j=>vf (off+j)) hU hb (fun j c hj=>?_) (fun j c hj=>?_)⟩
 . rw[zO]at hj;have:=hv _ c hj;rw[<- yG]at this;exact this
 . rw[zO]at hj;exact hd _ c hj
theorem kT {a:Act} {o:Oper} {t:TypeId} {fields:Array Field} {f:Nat} {g:Field} {n:Nat} {x:Operand} {c:C} {b off:Nat} {p:Prop} (hi:Inv E U w.heap ch) (ho:o.op=.fieldAddr t x f) (ht:P.underlying t=some (.struct fields)) (hf:fields[f]? = some g) (hn:eq P g.type=some n) (h0:n≠0)
 (hx:a.eval x=.pointer (some ⟨b,off,none⟩)) (hr:Rep E U w.heap c (.pointer (some ⟨b,off+g.offset,none⟩))):dN P E U w ch d (execOp a.eval o) ⟨p,c,ch,[]⟩:=by
 refine dF hi ?_ hr;simp[execOp,ho,hx,Instr.fieldAt,Instr.sureAddr,fieldPlace,run_underlying ht,hf,eB hn,h0,Addr.add_lit]
theorem vM {a:Act} {o:Oper} {t:TypeId} {fields:Array Field} {f:Nat} {g:Field} {n:Nat} {agg:Bool} {x:Operand} {cs:List C} {p:Prop} (hi:Inv E U w.heap ch) (ho:o.op=.field t x f) (ht:P.underlying t=some (.struct fields)) (hf:fields[f]? = some g) (hb:je P g.type=some agg) (hn:eq P g.type=some n)
 (hx:Rep E U w.heap (.agg cs) (a.eval x)) (h1:g.offset+n<=cs.length) (h2:agg=false->n=1):dN P E U w ch d (execOp a.eval o) ⟨p,au agg n cs g.offset,ch,[]⟩:=by
 obtain⟨vs,hv,hl,hr,h1c⟩:=il hx;cases agg with
 | true=>
  refine dF (v:=.agg (vs.extract g.offset (g.offset+n))) hi ?_ ?_
  . simp[execOp,ho,hv,Instr.field,run_underlying ht,hf,asAgg,part,j0 hb,eB hn]
  . have hget:∀ j,j < n->(vs.extract g.offset (g.offset+n)).getD j undef=vs.getD (g.offset+j) undef:=fun j hj=>by
     simp only[zc,Array.getElem?_extract];rw[qb (by omega)]
    simp only[au,qj];refine .agg _ _ (by simp;omega) (fun j c hj=>?_) (fun j hj=>?_)
    . obtain⟨hj1,hj2⟩:=jc hj;rw[zO]at hj1;rw[hget j hj2];exact hr _ c hj1
    . have hj2:j < n:=by simp at hj;omega
      rw[hget j hj2];exact h1c _ (by omega)
 | false=>
  have hn1:=h2 rfl;subst hn1;have hlt:g.offset < cs.length:=by omega
  have hvl:g.offset < vs.size:=by omega
  obtain⟨u,hu⟩:∃ u,vs[g.offset]? = some u:=⟨_,zj hvl⟩;refine dF (v:=u) hi ?_ ?_
  . simp[execOp,ho,hv,Instr.field,run_underlying ht,hf,asAgg,part,j0 hb,hu]
  . simp only[au,zr,qi];rw[z9 hlt,<- ew hu];exact hr _ _ (ze hlt)
theorem kK {es:List (List C)} {i:Nat} (h:i < es.length) (dflt:List C):es[i]? = some (es.getD i dflt):=by
 simp[zb,ze h]
theorem rq {a:Act} {o:Oper} {t e:TypeId} {sz:Nat} {x i:Operand} {k:IntKind} {n:Int} {es:List (List C)} {dflt:List C} {p:Prop} (hi:Inv E U w.heap ch) (ho:o.op=.indexAddr t x i) (ht:P.underlying t=some (.slice e)) (hs:eq P e=some sz)
 (hx:Rep E U w.heap (.sl sz es) (a.eval x)) (hn:a.eval i=.int k n) (hb:0<=n/\n < es.length):dN P E U w ch d (execOp a.eval o) ⟨p,.ref (es.getD n.toNat dflt),ch,[]⟩:=by
 have hlt:n.toNat < es.length:=by omega
 generalize hv:a.eval x=v at *;cases ji hx with
 | sl0=>simp at hlt
 | sl _ b off cap _ arr ty fz vf hU hbk hcap hmax hsz hvf hr=>
  have he:=kK hlt dflt;refine dF (v:=.pointer (some ⟨b,off+n.toNat*sz,none⟩)) hi ?_ (.ref _ b _ arr ty fz (fun j=>vf n.toNat j) hU hbk (fun j c hj=>hvf _ _ j c he hj) (fun j c hj=>hr _ _ j c he hj));simp[execOp,ho,hv,hn,Instr.indexAt,asIntOf,run_underlying ht,hb,eB hs,Addr.add_lit]
theorem rS {a:Act} {o:Oper} {t e ty:TypeId} {sz kk:Nat} {x i:Operand} {k:IntKind} {n:Int} {es:List (List C)} {p:Prop} (hi:Inv E U w.heap ch) (ho:o.op=.indexAddr t x i) (ht:P.underlying t=some (.slice e)) (hs:eq P e=some sz)
 (hx:Rep E U w.heap (.own kk) (a.eval x)) (hl:lk ch kk=some (.row sz ty es)) (hn:a.eval i=.int k n) (hb:0<=n/\n < es.length):dN P E U w ch d (execOp a.eval o) ⟨p,.eptr kk n.toNat 0,ch,[]⟩:=by
 obtain⟨⟨b1,b2,b3,b4⟩,hfp⟩:=hi.ok kk _ (dH hl);rcases iP hx with⟨hnil,hv⟩ | ⟨hnil,hv⟩
 . rcases b4 with⟨_,rfl⟩ | ⟨hn',_⟩
   . simp at hb;omega
   . rw[hnil]at hn';cases hn'
 . have:=Rep.eptr (E:=E) (U:=U) (h:=w.heap) kk n.toNat 0;rw[b2,zL]at this;refine dF hi ?_ this;have hb':0<=n/\n < ((E kk).len:Int):=by rw[b1];exact hb
   simp[execOp,ho,hv,hn,Instr.indexAt,asIntOf,run_underlying ht,hb',eB hs,Addr.add_lit]
theorem rr {a:Act} {o:Oper} {t e ty0 ty:TypeId} {m kk:Nat} {x i:Operand} {k:IntKind} {n:Int} {hole:Option Nat} {rows:List (List (List C))} {p:Prop} (hi:Inv E U w.heap ch) (ho:o.op=.indexAddr t x i) (ht:P.underlying t=some (.slice e)) (hs:eq P e=some 1)
 (hx:Rep E U w.heap (.own kk) (a.eval x)) (hl:lk ch kk=some (.deep m ty0 ty hole rows)) (hn:a.eval i=.int k n) (hb:0<=n/\n < rows.length):dN P E U w ch d (execOp a.eval o) ⟨p,.eptr kk n.toNat 0,ch,[]⟩:=by
 obtain⟨⟨b1,b2,b3⟩,_⟩:=hi.ok kk _ (dH hl);rcases iP hx with⟨hnil,hv⟩ | ⟨hnil,hv⟩
 . rcases b3 with⟨_,rfl⟩ | ⟨hn',_⟩
   . simp at hb;omega
   . rw[hnil]at hn';cases hn'
 . have:=Rep.eptr (E:=E) (U:=U) (h:=w.heap) kk n.toNat 0;rw[b2,zL]at this;refine dF hi ?_ this;have hb':0<=n/\n < ((E kk).len:Int):=by rw[b1];exact hb
   simp[execOp,ho,hv,hn,Instr.indexAt,asIntOf,run_underlying ht,hb',eB hs,Addr.add_lit]
theorem rR {a:Act} {o:Oper} {t e ty:TypeId} {sz kk j:Nat} {x i:Operand} {k:IntKind} {n:Int} {es:List (List C)} {p q:Prop} (hi:Inv E U w.heap ch) (ho:o.op=.indexAddr t x i) (ht:P.underlying t=some (.slice e)) (hs:eq P e=some sz)
 (hx:Rep E U w.heap (.inn kk j) (a.eval x)) (hl:aN ch kk j=some (q,sz,ty,es)) (hq:q) (hn:a.eval i=.int k n) (hb:0<=n/\n < es.length):dN P E U w ch d (execOp a.eval o) ⟨p,.iptr kk j n.toNat 0,ch,[]⟩:=by
 obtain⟨c0,hlk,hI,_,hres⟩:=gL hl hq;obtain⟨b1,b2,b3,b4⟩:=((hi.ok kk _ (dH hlk)).inns hres).2 j _ _ _ hI;have hv0:=kx hx;rcases gh ((E kk).inn j)with⟨hnil,hv⟩ | ⟨hnil,hv⟩ <;> rw[hv]at hv0
 . rcases b4 with⟨_,rfl⟩ | ⟨hn',_⟩
   . simp at hb;omega
   . rw[hnil]at hn';cases hn'
 . have:=Rep.iptr (E:=E) (U:=U) (h:=w.heap) kk j n.toNat 0;rw[b2,zL]at this;refine dF hi ?_ this;have hb':0<=n/\n < (((E kk).inn j).len:Int):=by rw[b1];exact hb
   simp[execOp,ho,hv0,hn,Instr.indexAt,asIntOf,run_underlying ht,hb',eB hs,Addr.add_lit]
theorem uq {a:Act} {ρ:Operand->C} {t e:TypeId} {len sz:Nat} {ps:Array (Nat×Operand)} {z:List Value} {o:Oper} {es:List (List C)} {p:Prop} (hi:Inv E U w.heap ch) (ho:o.op=.buildSlice t len ps)
 (hu:P.underlying t=some (.slice e)) (hz:gf P e=some z) (hs:eq P e=some sz) (hbig:len*sz<=2 ^ 24) (hzl:z.length=sz) (hmax:len<=maxLen) (hρ:∀ x,Rep E U w.heap (ρ x) (a.eval x)) (h1:z.all (·.oneCell')=true)
 (hf:bl sz (List.replicate len (z.map .s)) (ps.toList.map fun (i,x)=>(i,ρ x))=some es) (hlen:es.length=len) :
 dN P E U w ch d (execOp a.eval o) ⟨p,.own d,(d,.row sz e es) :: ae [(d,.c .any)] (af ch d),[(d,.c .any)]⟩:=by
 have key:∀ (zero:Array Value),(len*sz≠0->zero=z.toArray) ->
  ∃ cells',Instr.fill (fun i=>some (i*sz,sz)) ((Array.range (len*sz)).map (zero[· % zero.size]!)) (ps.toList.map fun (i,x)=>(i,a.eval x))=some cells'/\jA U w.heap sz es cells':=by
  intro zero h2;refine kJ (E:=E) sz ps.toList _ _ _ es (iQ z sz len hzl h1 zero h2) (by simp) (fun j pp q hp hq'=>?_) hf;rw[zh,hp]at hq';cases hq';exact⟨rfl,hρ pp.2⟩
 have hrun:∃ cells',(execOp a.eval o).run P w=.ok (.value (.slice (some ⟨w.heap.size,0,none⟩) len len)) (w.alloc (.cells cells' e))/\jA U w.heap sz es cells':=by
  have hmap:(ps.map fun (i,x)=>(i,a.eval x)).toList=ps.toList.map fun (i,x)=>(i,a.eval x):=by simp
  by_cases h0:len*sz=0
  . obtain⟨c1,g1,g2⟩:=key #[] (fun h=>absurd h0 h);refine⟨c1,?_,g2⟩
    have:=e9 (P:=P) (w:=w) (parts:=ps.map fun (i,x)=>(i,a.eval x)) (cells:=c1) hu hz hs hbig (fun zero h=>by
     rw[hmap];have:(Array.range (len*sz)).map (zero[· % zero.size]!)=(Array.range (len*sz)).map ((#[]:Array Value)[· % (#[]:Array Value).size]!):=by rw[h0,Array.range_zero'];simp
     rw[this];exact g1)
    simp only[execOp,ho,Sem.run_bind,this,Result.andThen_ok,Sem.run_pure]
  . obtain⟨c1,g1,g2⟩:=key z.toArray (fun _=>rfl);refine⟨c1,?_,g2⟩;have:=e9 (P:=P) (w:=w) (parts:=ps.map fun (i,x)=>(i,a.eval x)) (cells:=c1) hu hz hs hbig (fun zero h=>by rw[hmap,h h0];exact g1);simp only[execOp,ho,Sem.run_bind,this,Result.andThen_ok,Sem.run_pure]
 obtain⟨cells',r1,r2⟩:=hrun;exact jV (P:=P) (d:=d) (ch:=ch) (p:=p) (ty:=e) hi r1 r2 hlen.symm hmax
theorem jJ {ρ:Operand->C} {a:Act} {h:Array Obj} {x:Operand} {n:Int} (hρ:∀ x,Rep E U h (ρ x) (a.eval x)) (hi:cC (ρ x)=some n):∃ k,a.eval x=.int k n:=by
 have hr:=hρ x;generalize ρ x=c at hi hr;unfold cC at hi;split at hi
 . rename_i k m;cases hi;exact⟨k,dK hr⟩
 . cases hi
theorem ua {a:Act} {o:Oper} {t:TypeId} {x:Operand} {c:C} {str:Bool} {n:Nat} {p:Prop} (hi:Inv E U w.heap ch) (ho:o.op=.call { callee:=.builtin .len,args:=#[x],argTypes:=#[t] })
 (ht:if str then P.underlying t=some .string else ∃ e,P.underlying t=some (.slice e)) (hx:Rep E U w.heap c (a.eval x)) (hl:cb ch str c=some n):dN P E U w ch d (execOp a.eval o) ⟨p,.s (.int .i64 n),ch,[]⟩:=by
 have fin:(Builtin.len_ #[t] o.type #[a.eval x]).run P w=.ok (.int .i64 n) w->dN P E U w ch d (execOp a.eval o) ⟨p,.s (.int .i64 n),ch,[]⟩:=fun h=>
  dF hi (gg ho (fun consts=>by simp only[builtin,List.map_toArray,zt,zR,Sem.run_bind,h,Result.andThen_ok,Sem.run_pure])) (.d (.s _))
 have slice:∀ (ad:Option Addr) (m cap:Nat),str=false->a.eval x=.slice ad m cap->m=n->dN P E U w ch d (execOp a.eval o) ⟨p,.s (.int .i64 n),ch,[]⟩:=fun ad m cap hs hv hm=>by
  subst hm hs;obtain⟨e,he⟩:=by simpa using ht
  exact fin (by rw[hv];simp[Builtin.len_,run_underlying he,goInt])
 unfold cb at hl;split at hl
 . rename_i s;cases str with
   | false=>simp at hl
   | true=>
    simp at hl;subst hl;refine fin ?_;rw[dK hx];simp at ht;simp[Builtin.len_,run_underlying ht,goInt]
 . rename_i sz es;cases str with
   | true=>simp at hl
   | false=>
    simp at hl;generalize hv:a.eval x=v at *;cases ji hx with
    | sl0 _ ad cap _=>exact slice ad 0 cap rfl rfl (by simpa using hl)
    | sl _ b off cap=>exact slice _ _ cap rfl rfl hl
 . cases str with
   | true=>simp at hl
   | false=>simp at hl;exact slice none 0 0 rfl (dK hx) hl
 . rename_i k;cases str with
   | true=>simp at hl
   | false=>
    simp only[zr,qi]at hl;split at hl
    . rename_i n' ty es hlk;cases hl;obtain⟨⟨b1,b2,b3,b4⟩,_⟩:=hi.ok k _ (dH hlk);rcases iP hx with⟨hn,hv⟩ | ⟨hn,hv⟩
      . rcases b4 with⟨_,rfl⟩ | ⟨hn',_⟩
        . exact slice none 0 0 rfl hv rfl
        . rw[hn]at hn';cases hn'
      . exact slice _ _ _ rfl hv b1
    . rename_i rows hlk;cases hl;obtain⟨⟨b1,b2,b3⟩,_⟩:=hi.ok k _ (dH hlk);rcases iP hx with⟨hn,hv⟩ | ⟨hn,hv⟩
      . rcases b3 with⟨_,rfl⟩ | ⟨hn',_⟩
        . exact slice none 0 0 rfl hv rfl
        . rw[hn]at hn';cases hn'
      . exact slice _ _ _ rfl hv b1
    . cases hl
 . cases hl
theorem t8 {a:Act} {o:Oper} {t e ty:TypeId} {x:Operand} {k i m:Nat} {es:List (List C)} {p q:Prop} (hi:Inv E U w.heap ch) (ho:o.op=.call { callee:=.builtin .len,args:=#[x],argTypes:=#[t] })
 (ht:P.underlying t=some (.slice e)) (hx:Rep E U w.heap (.inn k i) (a.eval x)) (hl:aN ch k i=some (q,m,ty,es)) (hq:q):dN P E U w ch d (execOp a.eval o) ⟨p,.s (.int .i64 es.length),ch,[]⟩:=by
 have slice:∀ (ad:Option Addr) (n cap:Nat),a.eval x=.slice ad n cap->n=es.length->dN P E U w ch d (execOp a.eval o) ⟨p,.s (.int .i64 es.length),ch,[]⟩:=fun ad n cap hv hm=>by
  subst hm;have h:(Builtin.len_ #[t] o.type #[a.eval x]).run P w=.ok (.int .i64 es.length) w:=by rw[hv];simp[Builtin.len_,run_underlying ht,goInt]
  exact dF hi (gg ho (fun consts=>by simp only[builtin,List.map_toArray,zt,zR,Sem.run_bind,h,Result.andThen_ok,Sem.run_pure])) (.d (.s _))
 obtain⟨c0,hlk,hI,_,hres⟩:=gL hl hq;obtain⟨b1,b2,b3,b4⟩:=((hi.ok k _ (dH hlk)).inns hres).2 i _ _ _ hI;have hv0:=kx hx;rcases gh ((E k).inn i)with⟨hnil,hv⟩ | ⟨hnil,hv⟩ <;> rw[hv]at hv0
 . rcases b4 with⟨_,rfl⟩ | ⟨hn',_⟩
   . exact slice _ _ _ hv0 rfl
   . rw[hnil]at hn';cases hn'
 . exact slice _ _ _ hv0 b1
theorem app_ok {a:Act} {o:Oper} {t u e e2:TypeId} {i:TypeInfo} {z:Value} {s x:Operand} {ρ:Operand->C} {ef:Eff} (hi:Inv E U w.heap ch) (hρ:∀ x,Rep E U w.heap (ρ x) (a.eval x))
 (ho:o.op=.call { callee:=.builtin .append,args:=#[s,x],argTypes:=#[t,u] }) (ht:P.underlying t=some (.slice e)) (hu:P.underlying u=some (.slice e2)) (hie:P.info? e=some i) (hz:i.zero=some z) (hzs:z.cells.size=i.size) (hpos:0 < i.size)
 (he:ai ρ ch d (.app t e i.size i.bytes z.cells.toList s x)=some ef) (hcond:ef.cond):dN P E U w ch d (execOp a.eval o) ef:=by
 simp only[ai]at he;split at he
 . split at he
   . rename_i k t' h1 h2;split at he
     . rename_i n t0 ty0 rows n' t0' ty0' news hl hlt;cases he;obtain⟨rfl,rfl,rfl,c1,c2,c3,c4⟩:=hcond;exact sS hi ho ht hu hie hz hzs c1 (h1 ▸ hρ s) hl (h2 ▸ hρ x) hlt c2 c3 c4
     . cases he
   . cases he
 . rename_i news hel;split at he
   . rename_i k hs;split at he
     . rename_i n ty' es hlk;split at he
       . rename_i hc;obtain⟨rfl,rfl,_⟩:=hc;cases he;exact uk hi ho ht hu hie hz hzs hpos (hs ▸ hρ s) hlk (hρ x) hel hcond.1 hcond.2
       . cases he
     . cases he
   . rename_i k j hs;split at he
     . rename_i q n ty' es ch' hlk hh;cases he;obtain⟨hq,rfl,rfl,c1,c2,c3⟩:=hcond;exact ui hi ho ht hu hie hz hzs hpos (hs ▸ hρ s) hlk hq hh c1 (hρ x) hel c2 c3
     . cases he
   . rename_i hs;cases he;exact uj hi ho ht hu hie hz hzs hpos (dK (hs ▸ hρ s)) (hρ x) hel hcond.1 hcond.2
   . cases he
theorem sR {own:Bool} {a:Act} {o:Oper} {aop:AOp} {ρ:Operand->C} {ef:Eff} (hi:Inv E U w.heap ch) (hρ:∀ x,Rep E U w.heap (ρ x) (a.eval x)) (hc:eA P own o.op o.type=some aop) (he:ai ρ ch d aop=some ef) (hcond:ef.cond) :
 dN P E U w ch d (execOp a.eval o) ef:=by
 cases ho:o.op <;> rw[ho]at hc <;> simp only[eA]at hc
 case move x=>
  cases own with
  | false=>
   cases hc;simp only[ai]at he;cases he;exact dF hi (by simp[execOp,ho]) (hρ x)
  | true=>
   cases hc;simp only[ai]at he;split at he
   . rename_i v hv;cases he;exact dF hi (by simp[execOp,ho]) (hv ▸ hρ x)
   . cases he
 case assign x=>
  cases own with
  | false=>
   cases hc;simp only[ai]at he;cases he;exact dF hi (by simp[execOp,ho]) (hρ x)
  | true=>
   cases hc;simp only[ai]at he;split at he
   . rename_i v hv;cases he;exact dF hi (by simp[execOp,ho]) (hv ▸ hρ x)
   . cases he
 case pick c x y=>
  cases hc;simp only[ai]at he;split at he
  . rename_i h;cases he;exact dF hi (by simp[execOp,ho,dK (h ▸ hρ c),asBool]) (hρ x)
  . rename_i h;cases he;exact dF hi (by simp[execOp,ho,dK (h ▸ hρ c),asBool]) (hρ y)
  . cases he
 case alloc t=>
  simp only[za]at hc;obtain⟨z,hz,rfl⟩:=hc;simp only[ai]at he;cases he;exact vJ hi ho hz hcond
 case box t x=>
  cases hc;simp only[ai]at he;cases he;exact op_box hi ho (hρ x) hcond
 case build t parts=>
  simp only[zk,za]at hc;obtain⟨z,hz,ps,hp,rfl⟩:=hc;simp only[ai,za]at he;obtain⟨cs,hf,rfl⟩:=he;exact vK hi ho hz hp hρ hf hcond
 case buildSlice t len parts=>
  split at hc
  . rename_i e hu;simp only[zk]at hc;obtain⟨z,hz,n,hn,hc⟩:=hc;split at hc
    . rename_i hlen;cases hc;simp only[ai]at he;have hmax:len<=maxLen:=z6 hlen.2.2 (by decide);cases own with
      | true=>
       simp only[qj]at he;split at he
       . rename_i hp;cases he;exact sT hi ho hu hz hn hlen.1 hmax hlen.2.1 (by simpa using hp) hcond
       . split at he
         . rename_i k hps;split at he
           . rename_i m ty es hlk;cases he;obtain⟨rfl,rfl,c1,c2⟩:=hcond;obtain⟨x,hx,hk⟩:∃ x,parts.toList=[(0,x)]/\ρ x=.own k:=by
              cases hpl:parts.toList with
              | nil=>rw[hpl]at hps;cases hps
              | cons q r=>
               rw[hpl]at hps;cases r with
               | nil=>obtain⟨i,x⟩:=q;simp at hps;exact⟨x,by rw[hps.1],hps.2⟩
               | cons _ _=>simp at hps
             exact uo hi ho hu hz hn hlen.2.1 c2 hx (hk ▸ hρ x) hlk c1
           . cases he
         . rw[za]at he;obtain⟨es,hf,rfl⟩:=he;exact uq hi ho hu hz hn hlen.1 hlen.2.1 hmax hρ hcond.1 hf hcond.2
      | false=>
       simp only[zr,qi,za]at he;obtain⟨es,hf,rfl⟩:=he;have hg:=rT (d:=d) (p:=z.all (·.oneCell')=true) hi ho hu hz hn hlen.1 hlen.2.1 hmax hρ hcond hf;have e:(if (ay ch (List.map (fun (x:Nat×Operand)=>(x.1,ρ x.2)) parts.toList)).2.isEmpty=true then ch else ae (ay ch (List.map (fun (x:Nat×Operand)=>(x.1,ρ x.2)) parts.toList)).2 (aB ch (ay ch (List.map (fun (x:Nat×Operand)=>(x.1,ρ x.2)) parts.toList)).2)) =
        ae (ay ch (List.map (fun (x:Nat×Operand)=>(x.1,ρ x.2)) parts.toList)).2 (aB ch (ay ch (List.map (fun (x:Nat×Operand)=>(x.1,ρ x.2)) parts.toList)).2):=by
        split
        . rename_i h;rw[List.isEmpty_iff.1 h,j3];rfl
        . rfl
       rw[e];exact hg
    . cases hc
  . cases hc
 case load t x=>
  simp only[zk,za]at hc;obtain⟨b,hb,n,hn,rfl⟩:=hc;simp only[ai]at he;have hr:=hρ x;split at he
  . rename_i k off hx;split at he
    . rename_i cs hlk;cases he;obtain⟨c1,c2,c3⟩:=hcond;rw[hx]at hr;have hck:=hi.ok k _ (dH hlk);by_cases hisl:∃ n' t' es',au b n cs off=.isl n' t' es'
      . obtain⟨n',t',es',hisl⟩:=hisl;have hbf:b=false:=by
         cases b with
         | false=>rfl
         | true=>simp[au]at hisl
        subst hbf;have hn1:=c2 rfl;subst hn1;obtain⟨⟨hnil,arr,ty,b1,b2,b3⟩,_⟩:=hck;have hlt:off < cs.length:=by omega
        have hcell:cs[off]? = some (.isl n' t' es'):=by
         simp only[au,zr,qi]at hisl;rw[z9 hlt]at hisl;simp only[yc]at hisl;rw[ze hlt,hisl]
        have hld:cZ k false 1 cs off=.inn k off:=by simp[cZ,hisl]
        rw[hld];rcases b3 off _ hcell with⟨r1,_⟩ | ⟨_,r2⟩
        . exact absurd r1 gW
        . have hm:MemR E U w.heap (E k).blk off [.s (slV ((E k).inn off))]:=fun j c hj=>by
           cases j with
           | zero=>
            simp at hj;subst hj;have hlt2:off < arr.size:=by omega
            refine⟨arr,ty,(0,0),slV ((E k).inn off),b1,?_,.d (.s _),gu _⟩;rw[zL,<- r2];simp[zc,zj hlt2]
           | succ j=>simp at hj
          obtain⟨v,g1,g2⟩:=iF hb hn hm 0 (by simp) (fun _=>rfl);have hv:=dK (v0:=slV ((E k).inn off)) (by simpa[au]using g2);subst hv;refine dF hi ?_ (.inn k off);have hx':=ft hr;simp only[zL]at g1;simp only[execOp,ho,hx',Sem.run_bind,g1,Result.andThen_ok,Sem.run_pure]
      . have hld:cZ k b n cs off=au b n cs off:=by
         unfold cZ;split
         . rename_i h;exact absurd ⟨_,_,_,h⟩ hisl
         . rfl
        rw[hld];have hcells:au b n cs off=au b n ((cs.drop off).take n) 0:=by
         cases b with
         | true=>simp[au,List.take_take]
         | false=>
          have hn1:=c2 rfl;subst hn1;have hlt:off < cs.length:=by omega
          simp only[au,zr,qi];rw[z9 hlt];rfl
        rw[hcells];refine l5 (off:=off) (j:=0) hi ho hb hn (by rw[ft hr];rfl) (rY hck off n (fun j c hj=>?_)) (by simp;omega) c2;cases hbb:b with
        | true=>exact jy (c3 hbb) hj
        | false=>
         have hn1:=c2 hbb;subst hn1;have hlt:off < cs.length:=by omega
         obtain⟨hj1,hj2⟩:=jc hj;have hj0:j=0:=by omega
         subst hj0;rw[z9 hlt]at hj1;simp only[zD,zn]at hj1;subst hj1;subst hbb;simp only[au,zr,qi]at hisl;rw[z9 hlt]at hisl;simp only[yc]at hisl;generalize cs[off]=c at hisl;cases c <;> first | rfl | exact absurd ⟨_,_,_,rfl⟩ hisl
    . cases he
  . rename_i cs hx;cases he;rw[hx]at hr;obtain⟨bb,off,arr,ty,fz,vf,hv,hU,hbk,h1,h2⟩:=ow hr;exact l5 (off:=off) (j:=0) hi ho hb hn (by rw[hv];rfl) (fun j c hj=>⟨arr,ty,fz,vf j,hbk,(h1 j c hj).1,.d (h2 j c hj),(h1 j c hj).2⟩) (by simpa using hcond.1) hcond.2
  . rename_i k i j hx;split at he
    . rename_i m ty es hlk;cases he;rw[hx]at hr;have hck:=(hi.ok k _ (dH hlk)).1;have hel:=kK hcond.1 [];have hlen:=hck.2.2.1 i _ hel;have hv:=gI hr;rw[hck.2.1]at hv;exact l5 hi ho hb hn hv (pH hck hel) (by rw[hlen];exact hcond.2.1) hcond.2.2
    . rename_i hole rows hlk;cases he;obtain⟨c1,c2,rfl,rfl,rfl⟩:=hcond;rw[hx]at hr;have hv:=gI hr;obtain⟨⟨d1,d2,d3⟩,_⟩:=hi.ok k _ (dH hlk);rw[d2,yA]at hv;rcases d3 with⟨_,rfl⟩ | ⟨_,_,_,arr,b1,b2,b3⟩
      . simp at c1
      . have hlt2:(E k).off+i < arr.size:=by omega
        have r2:=(b3 i c1).2 c2;have hm:MemR E U w.heap (E k).blk ((E k).off+i) [.s (slV ((E k).inn i))]:=fun j c hj=>by
         cases j with
         | zero=>
          simp at hj;subst hj;refine⟨arr,_,(0,0),slV ((E k).inn i),b1,?_,.d (.s _),gu _⟩;rw[zL,<- r2];simp[zc,zj hlt2]
         | succ j=>simp at hj
        obtain⟨v,g1,g2⟩:=iF hb hn hm 0 (by simp) (fun _=>rfl);have hv':=dK (v0:=slV ((E k).inn i)) (by simpa[au]using g2);subst hv';refine dF hi ?_ (.inn k i);simp only[execOp,ho,hv,Sem.run_bind,g1,Result.andThen_ok,Sem.run_pure]
    . cases he
  . rename_i k i m j hx;split at he
    . rename_i q n' ty es hlk;cases he;obtain⟨hq,c1,c2,c3⟩:=hcond;rw[hx]at hr;obtain⟨c0,hl0,hI,_,hres⟩:=gL hlk hq;have hrow:=((hi.ok k _ (dH hl0)).inns hres).2 i _ _ _ hI;have hel:=kK c1 [];have hlen:=hrow.2.2.1 m _ hel;have hv:=jN hr;rw[hrow.2.1]at hv;exact l5 hi ho hb hn hv (pH hrow hel) (by rw[hlen];exact c2) c3
    . cases he
  . cases he
 case store t x y=>
  simp only[za]at hc;obtain⟨n,hn,rfl⟩:=hc;simp only[ai]at he;have hr:=hρ x;split at he
  . split at he
    . rename_i k off t' hx hy;split at he
      . rename_i m ty es cs h1 h2;cases he;obtain⟨rfl,c1,c2⟩:=hcond;exact uh hi ho hn (ft (hx ▸ hr)) h2 h1 (hy ▸ hρ y) c1 c2
      . rename_i cs h1 h2;cases he;obtain⟨rfl,c1,c2⟩:=hcond;exact mr hi ho hn (ft (hx ▸ hr)) h2 (hy ▸ hρ y) rfl c1 rfl c2
      . cases he
    . rename_i k i j t' hx hy;split at he
      . rename_i m ty es n' ty' ty0 hole rows h1 h2;cases he;obtain⟨rfl,rfl,c1,c2,rfl,rfl,c3⟩:=hcond;exact nQ hi ho hn (gI (hx ▸ hr)) h2 h1 (hy ▸ hρ y) c1 c2 c3
      . cases he
    . cases he
  . split at he
    . rename_i k off hx;split at he
      . rename_i cs hlk;cases he;rw[hx]at hr;exact mr hi ho hn (ft hr) hlk (hρ y) hcond.1 hcond.2.1 hcond.2.2.1 hcond.2.2.2
      . cases he
    . rename_i k i j hx;split at he
      . rename_i m ty es hlk;cases he;rw[hx]at hr;exact rV hi ho hn (gI hr) hlk (hρ y) hcond.1 hcond.2.1 hcond.2.2.1 hcond.2.2.2
      . rename_i n' ty' ty0 hole rows hlk;split at he
        . rename_i t' hy;split at he
          . rename_i m ty es h1;cases he;obtain⟨rfl,rfl,c1,c2,rfl,rfl,c3⟩:=hcond;exact nQ hi ho hn (gI (hx ▸ hr)) hlk h1 (hy ▸ hρ y) c1 c2 c3
          . cases he
        . cases he
      . cases he
    . rename_i k i m j hx;split at he
      . rename_i q n' ty es hlk;cases he;obtain⟨hq,c1,c2,c3,c4⟩:=hcond;rw[hx]at hr;exact rU hi ho hn (jN hr) hlk hq (hρ y) c1 c2 c3 c4
      . cases he
    . cases he
 case nilCheck x=>
  cases hc;simp only[ai]at he;have hr:=hρ x;split at he
  . rename_i k off hx;cases he;rw[hx]at hr;exact dF hi (by simp[execOp,ho,ft hr]) (ft hr ▸ hr)
  . rename_i k i j hx;cases he;rw[hx]at hr;exact dF hi (by simp[execOp,ho,gI hr]) (gI hr ▸ hr)
  . rename_i k i m j hx;cases he;rw[hx]at hr;exact dF hi (by simp[execOp,ho,jN hr]) (jN hr ▸ hr)
  . rename_i cs hx;cases he;rw[hx]at hr;obtain⟨bb,off,arr,ty,fz,vf,hv,_⟩:=ow hr;exact dF hi (by simp[execOp,ho,hv]) (hv ▸ hr)
  . rename_i aa hx;cases he;rw[hx]at hr;exact dF hi (by simp[execOp,ho,dK hr]) (dK hr ▸ hr)
  . rename_i f xs ys hx;cases he;rw[hx]at hr;obtain⟨vs,ws,hv,_⟩:=uy hr;exact dF hi (by simp[execOp,ho,hv]) (hv ▸ hr)
  . cases he
 case binOp op t x y yt=>
  have gen:ai ρ ch d (.bin op t x y)=some ef->dN P E U w ch d (execOp a.eval o) ef:=fun he=>by
   simp only[ai,za]at he;obtain⟨⟨q,c⟩,hb,rfl⟩:=he;exact op_bin hi ho (hρ x) (hρ y) hb hcond
  split at hc
  . rename_i ht;cases hc;simp only[ai]at he;split at he
    . rename_i b1 b2 h1 h2;cases he;exact ul (neg:=false) hi ho ht (dK (h1 ▸ hρ x)) (dK (h2 ▸ hρ y))
    . cases he
  . rename_i ht;cases hc;simp only[ai]at he;split at he
    . rename_i b1 b2 h1 h2;cases he;exact ul (neg:=true) hi ho ht (dK (h1 ▸ hρ x)) (dK (h2 ▸ hρ y))
    . cases he
  . cases hc;exact gen he
 case unOp op t x=>
  cases hc;simp only[ai]at he;split at he
  . rename_i k n hx;cases he;exact op_neg hi ho (dK (hx ▸ hρ x)) hcond
  . rename_i b hx;cases he;exact op_not hi ho (dK (hx ▸ hρ x))
  . cases he
 case convert src dst x=>
  split at hc
  . rename_i k0 k h1 h2;cases hc;simp only[ai]at he;split at he
    . rename_i k' n hx;cases he;exact op_cvi hi ho h1 h2 (dK (hx ▸ hρ x)) hcond
    . cases he
  . rename_i h1 h2;cases hc;simp only[ai]at he;split at he
    . rename_i s hx;cases he;have hv:=dK (hx ▸ hρ x);exact dF hi (by simp[execOp,ho,hv,convert,run_underlying h1,run_underlying h2]) (.d (.s _))
    . cases he
  . cases hc;simp only[ai]at he;cases he
 case makeFunc f first caps=>
  cases hc;simp only[ai]at he;cases he;have hm:∀ l:Array Operand,(l.map a.eval).size=(l.toList.map ρ).length/\∀ (j:Nat) c,(l.toList.map ρ)[j]? = some c->Rep E U w.heap c ((l.map a.eval).getD j undef):=fun l=>by
   refine⟨by simp,fun j c hj=>?_⟩;simp only[zh,za]at hj;obtain⟨y,hy,rfl⟩:=hj;have:(l.map a.eval).getD j undef=a.eval y:=by
    apply ew;simp only[zM]at hy;simp[hy]
   rw[this];exact hρ y
  exact dF hi (by simp[execOp,ho,Instr.makeFunc]) (.fn f _ _ _ _ (hm first).1 (hm first).2 (hm caps).1 (hm caps).2)
 case makeSlice t l c=>
  split at hc
  . rename_i e hu;simp only[zk]at hc;obtain⟨i,hie,z,hz,hc⟩:=hc;split at hc
    . rename_i hzs;cases hc;simp only[ai]at he;split at he
      . rename_i k1 n k2 m h1 h2;cases he;obtain⟨c1,c2,c3,c4,c5⟩:=hcond;exact um hi ho hu hie hz hzs (dK (h1 ▸ hρ l)) (dK (h2 ▸ hρ c)) ⟨c1,c2,c3,c4⟩ c5
      . cases he
    . cases hc
  . cases hc
 case slice t x lo hi' mx=>
  split at hc
  . rename_i e hu;simp only[za]at hc;obtain⟨n,hn,rfl⟩:=hc;simp only[ai]at he;split at he
    . rename_i m es hx;split at he
      . rename_i hm;subst hm;split at he
        . rename_i l h m' hl hh hm';cases he;exact sU hi ho hu hn (hx ▸ hρ x) (iv hρ hl) (iv hρ hh) (iv hρ hm') hcond
        . cases he
      . cases he
    . rename_i k hx;split at he
      . rename_i m ty es hlk;split at he
        . rename_i hm;subst hm;split at he
          . rename_i l h hl hh;cases he;exact ur hi ho hu hn (hx ▸ hρ x) hlk (iv hρ hl) (iv hρ hh) hcond
          . cases he
        . cases he
      . cases he
    . rename_i hx;split at he
      . rename_i l h hl hh;cases he;have hv:=dK (hx ▸ hρ x);have hrun:=kb (P:=P) (w:=w) (ad:=none) (len:=0) (cap:=0) hu hn (iv hρ hl) (iv hρ hh) hcond (zw _);have h0:l.toNat=0/\h.toNat=0:=by have:=hcond.1;have:=hcond.2.1;have:=hcond.2.2;simp at *;omega
        rw[h0.1,h0.2]at hrun;simp only[qj,Nat.sub_self]at hrun;exact dF hi (by simp only[execOp,ho,hv,Sem.run_bind,Option.map_none,hrun,Result.andThen_ok,Sem.run_pure]) (.d (.s _))
      . cases he
    . cases he
  . rename_i hu;cases hc;simp only[ai]at he;split at he
    . rename_i s hx;split at he
      . rename_i l h hl hh;cases he;exact op_sstr hi ho hu (dK (hx ▸ hρ x)) (iv hρ hl) (iv hρ hh) hcond
      . cases he
    . cases he
  . cases hc;simp only[ai]at he;cases he
 case fieldAddr t x f=>
  split at hc
  . rename_i fields hu;simp only[zk]at hc;obtain⟨g,hg,n,hn,hc⟩:=hc;split at hc
    . cases hc
    . rename_i h0;cases hc;simp only[ai]at he;have hr:=hρ x;split at he
      . rename_i k off hx;cases he;rw[hx]at hr;exact kT hi ho hu hg hn h0 (ft hr) (.ptr k (off+g.offset))
      . rename_i k i j hx;cases he;rw[hx]at hr;have:=Rep.eptr (E:=E) (U:=U) (h:=w.heap) k i (j+g.offset);rw[<- yG]at this;exact kT hi ho hu hg hn h0 (gI hr) this
      . rename_i k i m j hx;cases he;rw[hx]at hr;have:=Rep.iptr (E:=E) (U:=U) (h:=w.heap) k i m (j+g.offset);rw[<- yG]at this;exact kT hi ho hu hg hn h0 (jN hr) this
      . rename_i cs hx;cases he;rw[hx]at hr;obtain⟨bb,off,hv,hd⟩:=qS (off:=g.offset) hr;exact kT hi ho hu hg hn h0 hv hd
      . cases he
  . cases hc
 case field t x f=>
  split at hc
  . rename_i fields hu;simp only[zk,za]at hc;obtain⟨g,hg,b,hb,n,hn,rfl⟩:=hc;simp only[ai]at he;split at he
    . rename_i cs hx;cases he;exact vM hi ho hu hg hb hn (hx ▸ hρ x) hcond.1 hcond.2
    . cases he
  . cases hc
 case indexAddr t x i=>
  split at hc
  . rename_i e hu;simp only[zk,za]at hc;obtain⟨n,hn,z,hz,rfl⟩:=hc;simp only[ai]at he;split at he
    . rename_i m es q hx hq;split at he
      . rename_i hm;subst hm;cases he;obtain⟨k,hk⟩:=jJ hρ hq;exact rq hi ho hu hn (hx ▸ hρ x) hk hcond
      . cases he
    . rename_i kk q hx hq;split at he
      . rename_i m ty es hlk;split at he
        . rename_i hm;subst hm;cases he;obtain⟨k,hk⟩:=jJ hρ hq;exact rS hi ho hu hn (hx ▸ hρ x) hlk hk hcond
        . cases he
      . rename_i rows hlk;split at he
        . rename_i hm;subst hm;cases he;obtain⟨k,hk⟩:=jJ hρ hq;exact rr hi ho hu hn (hx ▸ hρ x) hlk hk hcond
        . cases he
      . cases he
    . rename_i kk j q hx hq;split at he
      . rename_i pp m ty es hlk;split at he
        . rename_i hm;subst hm;cases he;obtain⟨k,hk⟩:=jJ hρ hq;exact rR hi ho hu hn (hx ▸ hρ x) hlk hcond.1 hk hcond.2
        . cases he
      . cases he
    . cases he
  . rename_i len e hu;simp only[za]at hc;obtain⟨n,hn,rfl⟩:=hc;simp only[ai]at he;split at he
    . rename_i k off q hx hq;cases he;obtain⟨kk,hk⟩:=jJ hρ hq;have hv:=ft (hx ▸ hρ x);have hc':0<=q/\q < (len:Int):=hcond;refine dF hi ?_ (.ptr k (off+q.toNat*n));simp[execOp,ho,hv,hk,Instr.indexAt,Instr.sureAddr,asIntOf,run_underlying hu,hc',eB hn,Addr.add_lit]
    . rename_i cs q hx hq;cases he;obtain⟨kk,hk⟩:=jJ hρ hq;obtain⟨bb,off,hv,hd⟩:=qS (off:=q.toNat*n) (hx ▸ hρ x);have hc':0<=q/\q < (len:Int):=hcond;refine dF hi ?_ hd;simp[execOp,ho,hv,hk,Instr.indexAt,Instr.sureAddr,asIntOf,run_underlying hu,hc',eB hn,Addr.add_lit]
    . cases he
  . cases hc
 case index t x i=>
  split at hc
  . rename_i hu;cases hc;simp only[ai]at he;split at he
    . rename_i s q hx hq;cases he;obtain⟨kk,hk⟩:=jJ hρ hq;have hv:=dK (hx ▸ hρ x);have hlt:q.toNat < s.size:=by have:=hcond.1;have:=hcond.2;omega
      refine dF hi ?_ (.d (.s _));have hget:(if 0<=q then s[q.toNat]? else none)=some (s.data.toList.getD q.toNat 0):=by
       rw[qb hcond.1];have hlt2:q.toNat < s.data.size:=hlt;have e1:s[q.toNat]? = some s[q.toNat]:=by simp[hlt]
       rw[e1];have e2:s.data.toList.getD q.toNat 0=s.data[q.toNat]:=by rw[zb,zM,zj hlt2];rfl
       rw[e2];rfl
      simp only[execOp,ho,hv,hk,Instr.index,asIntOf,run_underlying hu,Sem.run_bind,Sem.run_pure,Result.andThen_ok];rw[hget];rfl
    . cases he
  . cases hc;simp only[ai]at he;cases he
 case extract x i=>
  cases hc;simp only[ai]at he;split at he
  . rename_i cs hx;cases he;obtain⟨vs,hv,hl,hr⟩:=sr (hx ▸ hρ x);have hlt:i < vs.size:=by rw[hl];exact hcond
    obtain⟨u,hu⟩:∃ u,vs[i]? = some u:=⟨_,zj hlt⟩;have hcl:cs[i]? = some (cs.getD i .any):=by
     have:i < cs.length:=hcond;simp[zb,ze this]
    refine dF (v:=u) hi (by simp[execOp,ho,hv,Instr.extract,hu]) ?_;rw[<- ew hu];exact hr i _ hcl
  . cases he
 case call c=>
  obtain⟨callee,args,argTypes⟩:=c;cases callee with
  | value f=>simp only at hc;cases hc;simp only[ai]at he;cases he
  | invoke r m=>simp only at hc;cases hc;simp only[ai]at he;cases he
  | builtin b=>
   have other:∀ b' ts ty aS,aop=.bi b' ts ty aS->dN P E U w ch d (execOp a.eval o) ef:=fun b' ts ty aS h=>by
    subst h;simp only[ai]at he;cases he
   cases b <;> simp only at hc
   case append=>
    split at hc
    . rename_i s x t u h1 h2;have ha:args=#[s,x]:=by cases args;simp at h1;simp[h1]
      have ht:argTypes=#[t,u]:=by cases argTypes;simp at h2;simp[h2]
      subst ha ht;split at hc
      . rename_i e e2 g1 g2;simp only[zk]at hc;obtain⟨i,hie,z,hz,hc⟩:=hc;split at hc
        . rename_i hsz;cases hc;exact app_ok hi hρ ho g1 g2 hie hz hsz.1 hsz.2 he hcond
        . cases hc
      . cases hc;exact other _ _ _ _ rfl
    . cases hc
   case len=>
    split at hc
    . rename_i x t h1 h2;have ha:args=#[x]:=by cases args;simp at h1;simp[h1]
      have ht:argTypes=#[t]:=by cases argTypes;simp at h2;simp[h2]
      subst ha ht;split at hc
      . rename_i g1;cases hc;simp only[ai,za]at he;split at he
        . rename_i heq;cases heq
        . simp only[za]at he;obtain⟨n,hl,rfl⟩:=he;exact ua (str:=true) hi ho (by simpa using g1) (hρ x) hl
      . rename_i e g1;cases hc;simp only[ai]at he;split at he
        . rename_i k i hx _;split at he
          . rename_i q m ty es hlk;cases he;exact t8 hi ho g1 (hx ▸ hρ x) hlk hcond
          . cases he
        . simp only[za]at he;obtain⟨n,hl,rfl⟩:=he;exact ua (str:=false) hi ho (by simpa using⟨e,g1⟩) (hρ x) hl
      . cases hc;exact other _ _ _ _ rfl
    . cases hc
   all_goals (cases hc;exact other _ _ _ _ rfl)
 all_goals (cases hc;simp only[ai]at he;cases he)
theorem iq {t:TypeId} {xs:Array Value} {off k:Nat} (hu:iD P t=some k) {v:Value} (hx:xs[off]? = some v):(part t xs off).run P w=.ok v w:=by
 unfold iD at hu;cases h:P.underlying t with
 | none=>rw[h]at hu;cases hu
 | some u=>rw[h]at hu;cases u <;> simp at hu <;> simp[part,isAgg,run_underlying h,hx]
theorem gq {xs:Array Value} {j:Nat} (h:j < xs.size):xs[j]? = some (xs.getD j undef):=by simp[zc,h]
theorem lM {h:Array Obj} (D:Nat) (xs ys:Array Value):∀ (fs:List Field) (off:Nat) (ks:List Nat) (cs ds:List C) (b:Bool),gr P off fs=some ks->aQ ks cs ds=some b->off+cs.length=xs.size->off+ds.length=ys.size ->
 (∀ (j:Nat) c,cs[j]? = some c->Rep E U h c (xs.getD (off+j) undef))->(∀ (j:Nat) c,ds[j]? = some c->Rep E U h c (ys.getD (off+j) undef))->(Op.eqFields (D+1) xs ys fs).run P w=.ok b w
 |[],off,ks,cs,ds,b,hp,he,_,_,_,_=>by
  simp only[gr,zn]at hp;subst hp;unfold aQ at he;split at he <;> simp_all [Op.eqFields]
 | f :: fs,off,ks,cs,ds,b,hp,he,hx,hy,h1,h2=>by
  simp only[gr]at hp;split at hp
  . rename_i hno;obtain⟨hn,ho⟩:=hno;simp only[zk,za]at hp;obtain⟨k,hu,ks',hp,rfl⟩:=hp;have fin:∀ (c d:C) (cs' ds':List C) (q:Bool),cs=c :: cs'->ds=d :: ds'->(Rep E U h c (xs.getD off undef)->Rep E U h d (ys.getD off undef)->(Op.equalIn (D+1) f.type (xs.getD off undef) (ys.getD off undef)).run P w=.ok q w)->(aQ ks' cs' ds').map (q && ·)=some b ->
     (Op.eqFields (D+1) xs ys (f :: fs)).run P w=.ok b w:=by
     intro c d cs' ds' q hcs hds hq hb;subst hcs hds;simp only[zQ]at hx hy;have e1:=iq (P:=P) (w:=w) hu (gq (xs:=xs) (j:=off) (by omega));have e2:=iq (P:=P) (w:=w) hu (gq (xs:=ys) (j:=off) (by omega));simp only[za]at hb;obtain⟨b',hb',rfl⟩:=hb;have hq':=hq (h1 0 c rfl) (h2 0 d rfl);simp only[Op.eqFields,ho];rw[qb hn];simp only[Sem.run_bind,e1,e2,hq',Result.andThen_ok];cases q with
     | false=>simp
     | true=>
      simpa using lM D xs ys fs (off+1) ks' cs' ds' b' hp hb' (by omega) (by omega)
       (fun j c hj=>by have:=h1 (j+1) c (by simpa using hj);rwa[show off+1+j=off+(j+1) by omega])
       (fun j c hj=>by have:=h2 (j+1) c (by simpa using hj);rwa[show off+1+j=off+(j+1) by omega])
    unfold aQ at he;split at he
    . rename_i hk;cases hk
    . rename_i hk;cases hk;split at he
      . rename_i hkk;subst hkk;refine fin _ _ _ _ _ rfl rfl (fun r1 r2=>?_) he;rw[dK r1,dK r2];unfold iD at hu;split at hu <;> simp at hu;rename_i kk hh;simp[Op.equalIn,run_underlying hh];rfl
      . cases he
    . rename_i a _ a' _ hk;cases hk;refine fin _ _ _ _ _ rfl rfl (fun r1 r2=>?_) he;rw[dK r1,dK r2];unfold iD at hu;split at hu <;> simp at hu;rename_i hh;have hb:(a == a')=decide (a=a'):=by cases a <;> cases a' <;> rfl
      simp[Op.equalIn,run_underlying hh,hb]
    . rename_i a _ a' _ hk;cases hk;refine fin _ _ _ _ _ rfl rfl (fun r1 r2=>?_) he;rw[dK r1,dK r2];unfold iD at hu;split at hu <;> simp at hu;rename_i hh;simp[Op.equalIn,run_underlying hh,beq_toListBytes,kC]
    . cases he
  . cases hp
end Go.Am
end
