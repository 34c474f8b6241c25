/- Part 2 of the proof of: TopMoveOnceInOrder returns true for every input and never panics: behind any log the phone can get all packets that wait, once and in order; conditions: those of the given statement, that the package variables it lists hold what their initialisers lay. -/
import Derived.Test.YtcbabnbiinkafaaGreatDoorTopMoveOnceInOrder1
set_option linter.all false
section
open Go Go.Am
open Go.Am.Dat (cells)
namespace Go.Proofs.YtcbabnbiinkafaaGreatDoor
set_option maxHeartbeats 4000000
set_option maxRecDepth 100000
theorem xl (n:Nw) (a b:Int) (h:NwS n):FC Tryz.prog 115 [enc n,enc a,enc b] [] (enc (nbr n a b)) []:=by
 have hb:=h.b;generalize hB:nbr n a b=B;refine dD [] is115 (by simp) trivial trivial trivial trivial (fun cx _ hl _=>dC [] 800 ?_);delta c115 oS oK oV oX o7 o9;simp (maxSteps:=9^7) -implicitDefEqProofs only[xU,eO,WU,Ent.of0,Ent.of1,Ent.of2,Ent.of3,Ent.of4,V,W3,↓reduceIte,seval,reduceCtorEq];refine fI n.nb.length (fun i=>[(7,.s (.int .i64 (i:Int)))]) (fun _=>[]) (fun i=>B=(n.nb.drop i).any fun x=>decide (x=⟨min a b,max a b⟩)) (by rw[<- hB];rfl) ?_ (fun i hi hv=>dC [] 800 ?_)
 . simp (maxSteps:=9^7) -implicitDefEqProofs only[Ent.of0,Ent.of1,Ent.of2,Ent.of3,Ent.of4,V,W3,↓reduceIte,seval,reduceCtorEq]
   all_goals simp
 . by_cases h5:i < n.nb.length
   . have hi2:(i:Int) < (n.nb.length:Int):=by omega
     have hi0:(0:Int)<=i:=by omega
     have hgd:=tH (n.nb.getD i ⟨0,0⟩) ⟨min a b,max a b⟩;rw[fJ ⟨0,0⟩ h5,List.any_cons]at hv;cases hx:decide (n.nb.getD i ⟨0,0⟩=(⟨min a b,max a b⟩:Gs))
     all_goals
      rw[hx]at hgd hv;simp only[yz,zF]at hv;delta x5 oO oN oA oM oR oS oK oF oL oI oX oB o2 o4 o5 o9;simp (maxSteps:=9^7) -implicitDefEqProofs only[xU,hi2,hi0,h5,hgd,InR,not_true_eq_false,WU,Ent.of0,Ent.of1,Ent.of2,Ent.of3,Ent.of4,V,W3,↓reduceIte,seval,reduceCtorEq];rw[show (if b < a then b else a)=min a b by omega,show (if b > a then b else a)=max a b by omega,hgd];simp only[if_true,zr,if_false]
      first | exact hv.symm | exact⟨by omega,hv,by omega⟩
   . have hi2:¬ (i:Int) < (n.nb.length:Int):=by omega
     rw[zv (by omega)]at hv;delta x5 oO oN oA oM oR oS oK oF oL oI oX oB o2 o4 o5 o9;simp (maxSteps:=9^7) -implicitDefEqProofs only[xU,hi2,WU,Ent.of0,Ent.of1,Ent.of2,Ent.of3,Ent.of4,V,W3,↓reduceIte,seval,reduceCtorEq]
     try simp[hv]
def wc : Ent Tryz.prog:=.of3 115 (fun n _ _=>NwS n) (fun (n:Nw) (a b:Int)=>enc (nbr n a b)) (fun _ _ _=>trivial) (fun n a b h=>xl n a b h)
def btr (r:Rul) (s n:List Int) (k:Nat):Bool:=wD r (s.getD k 0) (n.getD k 0)
def ovk (r:Rul) (s n:List Int) (k:Nat):Bool:=over r (s.getD k 0) (n.getD k 0)
def GoodT (r:Rul) (s n:List Int):Option Int->List Int->Prop
 |_,[]=>True
 | prev,v :: l=>(r.trig<=v/\v<=(s.length:Int) - 1)/\(∀ k:Nat,v - r.trig<=(k:Int)->(k:Int)<=v->btr r s n k=true)/\(∀ u,prev=some u->u < v/\∃ k:Nat,u<=(k:Int)/\(k:Int) < v/\ovk r s n k=true)/\GoodT r s n (some v) l
theorem cnt_gt {r:Rul} {s n:List Int} {t:Nat} {run:Int} (ht:0<=r.trig) (hrun:run=(cnt (btr r s n) (t+1):Int)) (h:r.trig < run):r.trig<=t/\∀ k:Nat,(t:Int) - r.trig<=k->(k:Int)<=t->btr r s n k=true:=by
 obtain⟨T,hT⟩:∃ T:Nat,r.trig=(T:Int):=⟨r.trig.toNat,by omega⟩;rw[hT]at h ⊢;have h2:T < cnt (btr r s n) (t+1):=by omega
 rw[xb]at h2;exact⟨by omega,fun k h3 h4=>h2.2 k (by omega) (by omega)⟩
theorem goodT (r:Rul) (s n:List Int) (hl:n.length=s.length) (ht:0<=r.trig) (hh:0<=r.hyst):∀ (m t:Nat) (armed:Bool) (prev:Option Int),s.length - t=m ->
 (∀ u,prev=some u->u < (t:Int)/\(armed=true->∃ k:Nat,u<=(k:Int)/\(k:Int) < t/\ovk r s n k=true))->GoodT r s n prev (trg r (s.drop t) (n.drop t) t (cnt (btr r s n) t) armed)
 | 0,t,armed,prev,hm,hp=>by
  rw[zv (by omega:s.length<=t),trg_nil];trivial
 | m+1,t,armed,prev,hm,hp=>by
  have h1:t < s.length:=by omega
  have h2:t < n.length:=by omega
  rw[fJ 0 h1,fJ 0 h2,trg];have hc:(if wD r (s.getD t 0) (n.getD t 0)then (cnt (btr r s n) t:Int)+1 else 0)=(cnt (btr r s n) (t+1):Int):=(x9 (btr r s n) t).symm;simp only[hc];by_cases hg:((armed || over r (s.getD t 0) (n.getD t 0)) && decide (r.trig < (cnt (btr r s n) (t+1):Int)))=true
  . rw[if_pos hg];simp only[zm,zV,decide_eq_true_eq]at hg;obtain⟨g1,g2⟩:=hg;obtain⟨g3,g4⟩:=cnt_gt ht rfl g2;have g5:=g4 t (by omega) (by omega);refine⟨⟨g3,by omega⟩,g4,fun u hu=>?_,goodT r s n hl ht hh m (t+1) false (some t) (by omega) (fun u hu=>?_)⟩
    . obtain⟨q1,q2⟩:=hp u hu;refine⟨q1,?_⟩;rcases g1 with g1 | g1
      . exact q2 g1
      . exfalso
        simp only[btr,wD,decide_eq_true_eq]at g5;simp only[over,decide_eq_true_eq]at g1;omega
    . cases hu;exact⟨by omega,fun h=>by cases h⟩
  . rw[if_neg hg];refine goodT r s n hl ht hh m (t+1) _ prev (by omega) (fun u hu=>?_);obtain⟨q1,q2⟩:=hp u hu;refine⟨by omega,fun ha=>?_⟩;simp only[zV]at ha;rcases ha with ha | ha
    . obtain⟨k,k1,k2,k3⟩:=q2 ha;exact⟨k,k1,by omega,k3⟩
    . exact⟨t,by omega,by omega,ha⟩
theorem goodT0 {r:Rul} {s n:List Int} (h:TrgOk r s n):GoodT r s n none (wB r s n):=by
 have h2:=h.hr;simp only[um,zm,decide_eq_true_eq]at h2;have:=goodT r s n h.hln h2.2.1 h2.1.2.1 s.length 0 true none (by omega) (fun u hu=>by cases hu);simpa[cnt,wB]using this
theorem xJ (r:Rul) (s n:List Int) (hl:n.length=s.length):∀ (m t v:Nat),s.length - t=m->t<=v->v < s.length->r.trig < (cnt (btr r s n) (v+1):Int) ->
 ∃ u l,trg r (s.drop t) (n.drop t) t (cnt (btr r s n) t) true=u :: l/\u<=(v:Int)
 | 0,t,v,hm,h1,h2,h3=>by omega
 | m+1,t,v,hm,h1,h2,h3=>by
  have g1:t < s.length:=by omega
  have g2:t < n.length:=by omega
  rw[fJ 0 g1,fJ 0 g2,trg];have hc:(if wD r (s.getD t 0) (n.getD t 0)then (cnt (btr r s n) t:Int)+1 else 0)=(cnt (btr r s n) (t+1):Int):=(x9 (btr r s n) t).symm;simp only[hc,yz,zY,decide_eq_true_eq];by_cases hg:r.trig < (cnt (btr r s n) (t+1):Int)
  . rw[if_pos hg];exact⟨_,_,rfl,by omega⟩
  . rw[if_neg hg];have:t≠v:=fun e=>hg (e ▸ h3)
    exact xJ r s n hl m (t+1) v (by omega) (by omega) h2 h3
theorem x8 {p q:Nat->Bool} (h:∀ k,p k=true->q k=true):∀ t,cnt p t<=cnt q t
 | 0=>zw _
 | t+1=>by
  have:=x8 h t;rw[cnt,cnt];cases hp:p t with
  | false=>simp
  | true=>rw[h t hp];simp;omega
theorem later {r r':Rul} {s n:List Int} (h:TrgOk r s n) (h':TrgOk r' s n) (h1:r.trig<=r'.trig) (h2:r.off<=r'.off) (h3:r.hyst=r'.hyst) (hne:wB r' s n≠[]) :
 wB r s n≠[]/\(wB r s n).getD 0 0<=(wB r' s n).getD 0 0:=by
 cases hL:wB r' s n with
 | nil=>exact absurd hL hne
 | cons v l=>
  have hg:=goodT0 h';rw[hL]at hg;obtain⟨⟨g1,g2⟩,g3,_,_⟩:=hg;have hr':=h'.hr;simp only[um,zm,decide_eq_true_eq]at hr';obtain⟨V,rfl⟩:∃ V:Nat,v=(V:Int):=⟨v.toNat,by omega⟩;obtain⟨T,hT⟩:∃ T:Nat,r'.trig=(T:Int):=⟨r'.trig.toNat,by omega⟩;have hc':T < cnt (btr r' s n) (V+1):=by
   rw[xb];exact⟨by omega,fun k q1 q2=>g3 k (by omega) (by omega)⟩
  have hm:=x8 (p:=btr r' s n) (q:=btr r s n) (fun k hk=>by
   simp only[btr,wD,decide_eq_true_eq]at hk ⊢
   omega) (V+1)
  obtain⟨u,l',e1,e2⟩:=xJ r s n h.hln s.length 0 V (by omega) (by omega) (by omega) (by omega);have e3:wB r s n=u :: l':=by simpa[cnt,wB]using e1
  rw[e3];exact⟨by simp,by simpa using e2⟩
def lawRule : C:=.agg [.s (.int .i64 30),.s (.int .i64 10),.s (.int .i64 2)]
theorem Net_c : FC Tryz.prog 89 [] [] (enc gW) []:=by
 refine eP is89 (by simp) (fun cx hl=>dC [] 800 ?_);delta c89 oO oN oA oW oX o2;simp (maxSteps:=9^7) -implicitDefEqProofs only[rv89,eO,gW,zt,zR,uH,Ent.of0,Ent.of1,Ent.of2,Ent.of3,Ent.of4,V,W3,↓reduceIte,seval,reduceCtorEq]
def ent89 : Ent Tryz.prog:=.of0 89 (enc gW) (by simp[eO,dG,dG.keysIns]) Net_c
theorem Log_c : FC Tryz.prog 90 [] [] (enc jh) []:=by
 refine eP is90 (by simp) (fun cx hl=>dC [] 1200 ?_);delta c90 oO oN oA oM oX o3;simp (maxSteps:=9^7) -implicitDefEqProofs only[rv90,qf,jh,zt,zR,qt,Ent.of0,Ent.of1,Ent.of2,Ent.of3,Ent.of4,V,W3,↓reduceIte,seval,reduceCtorEq]
def ent90 : Ent Tryz.prog:=.of0 90 (enc jh) trivial Log_c
theorem vV (m:Ms):fD (.agg [C.s (.int .i64 m.at_),.s (.int .i64 m.phase),.s (.int .i64 m.since),.s (.int .i64 m.serving),.s (.int .i64 m.target),.s (.int .i64 m.source),.s (.int .i64 m.path),.s (.int .i64 m.fresh),.s (.int .i64 m.got),.sl 1 (m.buf.map Dat.cells)])=some m:=by
 unfold fD;have:Dat.dec (α:=Ms) [C.s (.int .i64 m.at_),.s (.int .i64 m.phase),.s (.int .i64 m.since),.s (.int .i64 m.serving),.s (.int .i64 m.target),.s (.int .i64 m.source),.s (.int .i64 m.path),.s (.int .i64 m.fresh),.s (.int .i64 m.got),.sl 1 (m.buf.map Dat.cells)]=(fC (m.buf.map Dat.cells)).map fun r'=>(⟨m.at_,m.phase,m.since,m.serving,m.target,m.source,m.path,m.fresh,m.got,r'⟩:Ms):=rfl
 simp only[this,fN];rw[if_pos (show (Dat.agg Ms)=true from rfl)];rfl
theorem Has_c (l:List Int) (v:Int):FC Tryz.prog 75 [enc l,enc v] [] (enc (l.any fun x=>decide (x=v))) []:=by
 refine eP is75 (by simp) (fun cx hl=>dC [] 800 ?_);simp only[V,W3,↓reduceIte,seval,reduceCtorEq]at hl;have hl1:=hl.list;generalize hB:(l.any fun x=>decide (x=v))=B;delta c75 oS oK oV oX o9;simp (maxSteps:=9^7) -implicitDefEqProofs only[rv75,Ent.of0,Ent.of1,Ent.of2,Ent.of3,Ent.of4,V,W3,↓reduceIte,seval,reduceCtorEq];refine fI l.length (fun i=>[(5,.s (.int .i64 (i:Int)))]) (fun _=>[]) (fun i=>B=(l.drop i).any fun x=>decide (x=v)) (by simp[hB]) ?_ (fun i hi hv=>dC [] 800 ?_)
 . simp (maxSteps:=9^7) -implicitDefEqProofs only[Ent.of0,Ent.of1,Ent.of2,Ent.of3,Ent.of4,V,W3,↓reduceIte,seval,reduceCtorEq]
   all_goals simp
 . by_cases h:i < l.length
   . have hi2:(i:Int) < (l.length:Int):=by omega
     rw[fJ 0 h,List.any_cons]at hv;generalize hg:l.getD i 0=g at hv;cases hx:decide (g=v)
     all_goals
      rw[hx]at hv;have hx2:=hx;simp only[decide_eq_true_eq,decide_eq_false_iff_not]at hx2;delta c75l1 oO oN oA oM oR oS oK oL oI oX oB o1 o4 o9;simp (maxSteps:=9^7) -implicitDefEqProofs only[rv75,hi2,h,hg,hx2,InR,WU,Ent.of0,Ent.of1,Ent.of2,Ent.of3,Ent.of4,V,W3,↓reduceIte,seval,reduceCtorEq];simp at hv;simp[hv]
      try omega
   . have hi2:¬ (i:Int) < (l.length:Int):=by omega
     rw[zv (by omega)]at hv;delta c75l1 oO oN oA oM oR oS oK oL oI oX oB o1 o4 o9;simp (maxSteps:=9^7) -implicitDefEqProofs only[rv75,hi2,WU,Ent.of0,Ent.of1,Ent.of2,Ent.of3,Ent.of4,V,W3,↓reduceIte,seval,reduceCtorEq];simp[hv]
def ent75 : Ent Tryz.prog:=.of2 75 (fun _ _=>True) (fun (l:List Int) (v:Int)=>enc (l.any fun x=>decide (x=v))) (fun _ _=>trivial) (fun l v _=>Has_c l v)
theorem AL (m:Ms) (h1:m.buf.length<=1000000) (h2:fc m.buf<=1000000000):FC Tryz.prog 116 [enc m] [] (enc (fc m.buf)) []:=by
 refine dD [] is116 (by simp) trivial trivial trivial trivial (fun cx _ hl _=>dC [] 800 ?_);generalize hT:fc m.buf=T at *;delta c116 oM oS oK oV oX o7;simp (maxSteps:=9^7) -implicitDefEqProofs only[xV,qD,WU,Ent.of0,Ent.of1,Ent.of2,Ent.of3,Ent.of4,V,W3,↓reduceIte,seval,reduceCtorEq];refine fI m.buf.length (fun i=>[(3,.s (.int .i64 (T - fc (m.buf.drop i)))),(4,.s (.int .i64 (i:Int)))]) (fun _=>[]) (fun i=>0<=T - fc (m.buf.drop i)) (by simp[hT]) ?_ (fun i hi hv=>dC [] 800 ?_)
 . simp (maxSteps:=9^7) -implicitDefEqProofs only[Ent.of0,Ent.of1,Ent.of2,Ent.of3,Ent.of4,V,W3,↓reduceIte,seval,reduceCtorEq]
   all_goals simp[hT]
 . by_cases h:i < m.buf.length
   . have hi2:(i:Int) < (m.buf.length:Int):=by omega
     have hi0:(0:Int)<=i:=by omega
     have hgx:List.getD (m.buf.map Dat.cells) i [C.sl 0 []]=[C.sl 1 ((m.buf.getD i []).map Dat.cells)]:=by
      rw[zb,zb,zh,ze h];rfl
     have hd:=fJ (d:=[]) h;have hnn:=rZ (m.buf.drop (i+1));rw[hd,fc]at hv;generalize m.buf.getD i []=p at *;delta x6 oO oN oA oM oR oS oK oF oL oX oB o0 o4;simp (maxSteps:=9^7) -implicitDefEqProofs only[xV,hi0,hi2,h,hgx,hd,fc,InR,WU,Ent.of0,Ent.of1,Ent.of2,Ent.of3,Ent.of4,V,W3,↓reduceIte,seval,reduceCtorEq];omega
   . have hi2:¬ (i:Int) < (m.buf.length:Int):=by omega
     have hd:m.buf.drop i=[]:=zv (by omega);delta x6 oO oN oA oM oR oS oK oF oL oX oB o0 o4;simp (maxSteps:=9^7) -implicitDefEqProofs only[xV,hi2,hd,fc,WU,Ent.of0,Ent.of1,Ent.of2,Ent.of3,Ent.of4,V,W3,↓reduceIte,seval,reduceCtorEq];omega
def wI : Ent Tryz.prog:=.of1 116 (fun m:Ms=>m.buf.length<=1000000/\fc m.buf<=1000000000) (fun m=>enc (fc m.buf)) (fun _=>trivial) (fun m h=>AL m h.1 h.2)
def v6 (v:Int):Nat->List (List Int)->Int
 |_,[]=>-1
 | i,r :: l=>if (r.any fun x=>decide (x=v))=true then (i:Int)else v6 v (i+1) l
theorem where_c (m:Ms) (k:Nat) (v:Int) (h1:m.buf.length<=1000000) (h2:k<=m.buf.length):FC Tryz.prog 117 [enc m,.s (.int .i64 (k:Int)),enc v] [] (enc (v6 v 0 (m.buf.take k))) []:=by
 refine dD [] is117 (by simp) trivial trivial trivial trivial (fun cx _ hl _=>dC [] 800 ?_);have hLl:(m.buf.take k).length=k:=by rw[List.length_take];omega
 have hLg:∀ i,i < k->(m.buf.take k).getD i []=m.buf.getD i []:=fun i hi=>by
  rw[zb,zb,ya,if_pos hi]
 generalize hT:v6 v 0 (m.buf.take k)=T at *;generalize m.buf.take k=L at *;delta c117 oS oK oV oX o7;simp (maxSteps:=9^7) -implicitDefEqProofs only[xW,qD,WU,Ent.of0,Ent.of1,Ent.of2,Ent.of3,Ent.of4,V,W3,↓reduceIte,seval,reduceCtorEq];refine fI k (fun i=>[(7,.s (.int .i64 (i:Int)))]) (fun _=>[]) (fun i=>T=v6 v i (L.drop i)) (by simp[hT]) ?_ (fun i hi hv=>dC [ent75] 800 ?_)
 . simp (maxSteps:=9^7) -implicitDefEqProofs only[Ent.of0,Ent.of1,Ent.of2,Ent.of3,Ent.of4,V,W3,↓reduceIte,seval,reduceCtorEq]
   all_goals simp
 . by_cases h:i < k
   . have hi2:(i:Int) < (k:Int):=by omega
     have hi3:(i:Int) < (m.buf.length:Int):=by omega
     have h':i < m.buf.length:=by omega
     have hi0:(0:Int)<=i:=by omega
     have hgx:List.getD (m.buf.map Dat.cells) i [C.sl 0 []]=[C.sl 1 ((m.buf.getD i []).map Dat.cells)]:=by
      rw[zb,zb,zh,ze h'];rfl
     have hd:=fJ (d:=[]) (show i < L.length by omega);rw[hd,hLg i h,v6]at hv;generalize m.buf.getD i []=p at *;cases hx:p.any fun x=>decide (x=v)
     all_goals
      rw[hx]at hv;simp only[if_true,if_false,zr]at hv;delta x7 oO oN oA oM oR oS oK oF oL oC oI oX oB o0;simp (maxSteps:=9^7) -implicitDefEqProofs only[xW,ent75,hi0,hi2,hi3,h,h',hgx,hx,InR,WU,Ent.of0,Ent.of1,Ent.of2,Ent.of3,Ent.of4,V,W3,↓reduceIte,seval,reduceCtorEq]
      first | exact hv.symm | exact⟨by omega,h,hv,by omega⟩ | exact⟨by omega,hv,by omega⟩
   . have hi2:¬ (i:Int) < (k:Int):=by omega
     have hd:L.drop i=[]:=zv (by omega);rw[hd,v6]at hv;delta x7 oO oN oA oM oR oS oK oF oL oC oI oX oB o0;simp (maxSteps:=9^7) -implicitDefEqProofs only[xW,ent75,hi2,WU,Ent.of0,Ent.of1,Ent.of2,Ent.of3,Ent.of4,V,W3,↓reduceIte,seval,reduceCtorEq];exact hv.symm
def wk (n:Nw) (m:Ms) (e:T3):Ms:=if fZ n m e≠0 then ms0 else qm n m e
theorem dN.gap60 {n:Nw} {m:Ms} (g:dN n m):m.fresh - m.got<=60:=by
 have key:∀ (k:Nat) (l:List Int) (a:Int),(∀ x,a<=x->x < a+k->x∈l)->k<=l.length:=by
  intro k
  induction k with
  | zero=>intros;omega
  | succ k ih=>
   intro l a h;have h0:a∈l:=h a (by omega) (by omega);have h1:=ih (l.erase a) (a+1) (fun x h1 h2=>(List.mem_erase_of_ne (by omega)).2 (h x (by omega) (by push_cast;omega)));have h2:=List.length_erase_of_mem h0;have h3:=List.length_pos_of_mem h0;omega
 have:=key (m.fresh - m.got).toNat m.buf.flatten m.got (fun x h1 h2=>g.gap x h1 (by omega));have:=g.large;have:=g.got;omega
def msC (m:Ms) (kB:Nat):List C:=[.s (.int .i64 m.at_),.s (.int .i64 m.phase),.s (.int .i64 m.since),.s (.int .i64 m.serving),.s (.int .i64 m.target),.s (.int .i64 m.source),.s (.int .i64 m.path),.s (.int .i64 m.fresh),.s (.int .i64 m.got),.own kB]
def v7 (f:FuncId) (as0:List C) (r:C) (h:FC Tryz.prog f as0 [] r []) (hr:dG [] r):Ent Tryz.prog:=.mk3 f (fun args chs=>some (args=as0/\chs=[],r,[],[])) (by
 intro args chs pp r' chs' nk hs hq;simp only[zn,zf]at hs;obtain⟨rfl,rfl,rfl,rfl⟩:=hs;obtain⟨rfl,rfl⟩:=hq
 exact⟨h,⟨fun k c hm=>(by simp at hm),fun k cs hm=>(by simp at hm),hr,fun k c hm=>(by simp at hm)⟩⟩)
def wL (n:Nw) (m:Ms):List T3->List Int
 |[]=>[]
 | e :: l=>(if m.got < (qm n m e).got then [m.got]else [])++wL n (qm n m e) l
theorem xn (m:Ms):(settle m).got=m.got:=by
 unfold Go.Proofs.YtcbabnbiinkafaaGreatDoor.settle;split <;> rfl
theorem xA (n:Nw) (m:Ms) (t:Int):(p7 n m t).got=m.got:=by unfold p7;split <;> rfl
theorem Ae (m:Ms) (e:T3):(eG m e).got=if e.x=1/\(dO m m.serving).headD 0=m.got then m.got+1 else m.got:=by
 unfold eG;by_cases h:e.x=1
 . simp only[h,Int.reduceEq,if_true,if_false,true_and];split <;> rfl
 . simp only[h,false_and,if_false]
   repeat' split
   all_goals rfl
theorem Aq (n:Nw) (p:Ph) (e:T3):(km n p e).recv=p.recv++(if p.m.got < (qm n p.m e).got then [p.m.got]else []):=by
 have hg:(eJ n p e.y).m.got=p.m.got:=by rw[ot,xA]
 have hr:=(pB n p e.y).2.1;have hA:(qm n p.m e).got=(doP (eJ n p e.y) e).m.got:=by
  rw[<- ql];rfl
 rw[hA];show (doP (eJ n p e.y) e).recv=_
 rw[<- hr,<- hg];generalize eJ n p e.y=q;unfold doP;by_cases h10:e.x=10
 . simp only[if_pos h10];show q.recv=q.recv++(if q.m.got < q.m.got then [q.m.got]else [])
   simp
 . simp only[if_neg h10,xn,Ae];split
   . rw[if_pos (by omega)]
   . simp
theorem xo (n:Nw):∀ (l:List T3) (p:Ph),(jk n p l).recv=p.recv++wL n p.m l
 |[],p=>by simp[jk,wL]
 | e :: l,p=>by
  rw[jk,xo n l,Aq,ql,wL,ye]
structure Rw where
 m:Ms
 st:List T3
 ouw:List Gs
def hiTo (l:List Gs) (t:Int):List Gs:=l.set (l.length - 1) ⟨(l.getD (l.length - 1) ⟨0,0⟩).re,t⟩
def yY (n:Nw) (w:Rw) (t:Int):Rw:=
 if ju n w.m t=true then ⟨p7 n w.m t,chg w.st w.m.serving (p7 n w.m t).serving (w.m.since+n.limit),hiTo w.ouw (w.m.since+n.limit)⟩else w
def wv (b:Rw) (x:Ms) (t:Int):Rw:=
 ⟨x,chg b.st b.m.serving x.serving t,
  let o:=if ed b.m=false/\ed x=true then b.ouw++[⟨t,0⟩]else b.ouw
  if ed b.m=true/\ed x=false then hiTo o t else o⟩
def AN (n:Nw) (w:Rw) (e:T3):Rw:=wv (yY n w e.y) (qm n w.m e) e.y
def Ai (n:Nw) (w:Rw):List T3->Rw
 |[]=>w
 | e :: l=>Ai n (AN n w e) l
def xx (n:Nw) (c:Int):Rw:=⟨eM n c,[⟨c,0,0⟩],[]⟩
def wA (l:List Gs):Int:=l.foldl (fun a o=>max a (o.im - o.re)) 0
theorem xD (l:List Gs) (o:Gs):wA (l++[o])=max (wA l) (o.im - o.re):=by simp[wA]
theorem xB (l:List Gs) (o:Gs) (t:Int):hiTo (l++[o]) t=l++[⟨o.re,t⟩]:=by
 unfold hiTo;have h1:(l++[o]).length - 1=l.length:=by simp
 rw[h1];have h2:(l++[o]).getD l.length ⟨0,0⟩=o:=by simp[zb]
 rw[h2,List.set_append_right _ _ (zw _)];simp
structure RwOk (n:Nw) (p:Ph) (w:Rw):Prop where
 m:w.m=p.m
 st:w.st=p.stays
 no:ed p.m=false->p.out=-1/\wA w.ouw=p.longest
 yes:ed p.m=true->p.out=p.m.since/\∃ l,w.ouw=l++[⟨p.out,0⟩]/\wA l=p.longest
 lim:p.longest<=n.limit
 nnw:0<=p.longest
theorem RwOk.begin {n:Nw} (hn:NetOk n) (c:Int):RwOk n (gm n c) (xx n c):=by
 have:=hn.lim;refine⟨rfl,rfl,fun _=>⟨rfl,rfl⟩,fun h=>by simp[ed,gm,eM]at h,?_,?_⟩
 . show (0:Int)<=n.limit;omega
 . exact Int.le_refl 0
theorem xZ {o l t:Int} (h:0<=o):kz o l t=max l (t - o):=by unfold kz;rw[if_neg (by omega)]
theorem RwOk.pass {n:Nw} {p:Ph} {w:Rw} (hn:NetOk n) (r:RwOk n p w) (hs:0<=p.m.since) (t:Int):RwOk n (eJ n p t) (yY n w t):=by
 unfold eJ yY;rw[r.m];by_cases h:ju n p.m t=true
 . rw[if_pos h,if_pos h];have ha:ed p.m=true:=by simp only[ju,zm]at h;exact h.1
   obtain⟨ho,l,hl,hL⟩:=r.yes ha;have hbk:=xZ (o:=p.out) (l:=p.longest) (t:=p.m.since+n.limit) (by omega);have hP:p7 n p.m t=iB p.m 0 (p.m.since+n.limit):=by unfold p7;rw[if_pos h]
   have h1:=r.lim;have h2:=r.nnw;refine⟨hP,by rw[hP,r.st];rfl,fun _=>⟨rfl,?_⟩,fun q=>by simp[ed,kH,iB]at q,?_,?_⟩
   . show wA (hiTo w.ouw _)=kz _ _ _
     rw[hl,xB,xD,hL,hbk]
   . show kz _ _ _<=_
     rw[hbk];omega
   . show 0<=kz _ _ _
     rw[hbk];omega
 . rw[if_neg h,if_neg h];exact r
theorem vY (l:List T3) (a t:Int):chg l a a t=l:=by unfold chg;rw[if_pos rfl]
theorem wj (m:Ms):(settle m).serving=m.serving/\(settle m).phase=m.phase/\(settle m).since=m.since:=by
 unfold Go.Proofs.YtcbabnbiinkafaaGreatDoor.settle;split <;> exact⟨rfl,rfl,rfl⟩
theorem away_eq {m k:Ms} (h:m.phase=k.phase):ed m=ed k:=by unfold ed;rw[h]
theorem y6 (m:Ms):ed (settle m)=ed m:=away_eq (wj m).2.1
theorem RwOk.act {n:Nw} {p:Ph} {w:Rw} {e:T3} (hn:NetOk n) (r:RwOk n p w) (hk:0<=e.x/\e.x<=11) (hy:0<=e.y) (hs:0<=p.m.since) (hdue:ed p.m=true->e.y < p.m.since+n.limit) (hd:et n p.m e=0) {x:Ms} (hx:x=(atP (doP p e) e.y).m) :
 RwOk n (atP (doP p e) e.y) (wv w x e.y):=by
 obtain⟨wm,ws,wo⟩:=w;obtain⟨r1,r2,r3,r4,r5,r6⟩:=r;simp only at r1 r2 r3 r4 r5 r6;subst r1 r2;have hA:ed x=ed (doP p e).m:=by rw[hx];rfl
 have hS:x.serving=(doP p e).m.serving:=by rw[hx];rfl
 have hI:(atP (doP p e) e.y).m.since=(doP p e).m.since:=rfl;have hW:ed (atP (doP p e) e.y).m=ed (doP p e).m:=rfl;have key:(chg p.stays p.m.serving x.serving e.y=(doP p e).stays) ->
  (ed p.m=false->ed (doP p e).m=false->(doP p e).out=p.out/\(doP p e).longest=p.longest) ->
  (ed p.m=false->ed (doP p e).m=true->(doP p e).out=e.y/\(doP p e).m.since=e.y/\(doP p e).longest=p.longest) ->
  (ed p.m=true->ed (doP p e).m=true->(doP p e).out=p.out/\(doP p e).m.since=p.m.since/\(doP p e).longest=p.longest) ->
  (ed p.m=true->ed (doP p e).m=false->(doP p e).out=-1/\(doP p e).longest=kz p.out p.longest e.y) ->
  RwOk n (atP (doP p e) e.y) (wv ⟨p.m,p.stays,wo⟩ x e.y):=by
  intro k0 k1 k2 k3 k4;cases ha:ed p.m <;> cases hb:ed (doP p e).m
  . obtain⟨q1,q2⟩:=k1 ha hb;obtain⟨s1,s2⟩:=r3 ha;refine⟨hx,k0,fun _=>⟨q1.trans s1,?_⟩,fun q=>(by rw[hW,hb]at q;cases q),?_,?_⟩
    . show wA (wv _ _ _).ouw=(doP p e).longest
      simp only[wv,ha,hA,hb,zr,and_false,false_and,if_false];rw[s2,q2]
    . show (doP p e).longest<=_;omega
    . show 0<=(doP p e).longest;omega
  . obtain⟨q1,q2,q3⟩:=k2 ha hb;obtain⟨s1,s2⟩:=r3 ha;refine⟨hx,k0,fun q=>(by rw[hW,hb]at q;cases q),fun _=>⟨?_,wo,?_,?_⟩,?_,?_⟩
    . show (doP p e).out=(doP p e).m.since;omega
    . show (wv _ _ _).ouw=wo++[⟨(doP p e).out,0⟩]
      simp only[wv,ha,hA,hb,zr,ym,and_false,and_true,false_and,and_self,if_false,if_true];rw[q1]
    . show wA wo=(doP p e).longest
      rw[s2,q3]
    . show (doP p e).longest<=_;omega
    . show 0<=(doP p e).longest;omega
  . obtain⟨q1,q2⟩:=k4 ha hb;obtain⟨s1,l,s2,s3⟩:=r4 ha;have hbk:=xZ (o:=p.out) (l:=p.longest) (t:=e.y) (by omega);have hdd:=hdue ha;refine⟨hx,k0,fun _=>⟨q1,?_⟩,fun q=>(by rw[hW,hb]at q;cases q),?_,?_⟩
    . show wA (wv _ _ _).ouw=(doP p e).longest
      simp only[wv,ha,hA,hb,zr,ym,and_false,and_true,false_and,and_self,if_false,if_true];rw[s2,xB,xD,s3,q2,hbk]
    . show (doP p e).longest<=_;rw[q2,hbk];omega
    . show 0<=(doP p e).longest;rw[q2,hbk];omega
  . obtain⟨q1,q2,q3⟩:=k3 ha hb;obtain⟨s1,l,s2,s3⟩:=r4 ha;refine⟨hx,k0,fun q=>(by rw[hW,hb]at q;cases q),fun _=>⟨?_,l,?_,?_⟩,?_,?_⟩
    . show (doP p e).out=(doP p e).m.since;omega
    . show (wv _ _ _).ouw=l++[⟨(doP p e).out,0⟩]
      simp only[wv,ha,hA,hb,zr,ym,and_false,and_true,false_and,and_self,if_false,if_true];rw[s2,q1]
    . show wA l=(doP p e).longest
      rw[s3,q3]
    . show (doP p e).longest<=_;omega
    . show 0<=(doP p e).longest;omega
 by_cases h10:e.x=10
 . have h3:p.m.phase=3:=by
    unfold et at hd;simp only[h10,Int.reduceEq,if_true,if_false]at hd;rcases Classical.em (p.m.phase=3)with q | q
    . exact q
    . rw[if_pos q]at hd;cases hd
   have hD:doP p e=kH p e.z e.y:=by unfold doP;rw[if_pos h10]
   have ha:ed p.m=true:=by simp[ed,h3]
   refine key (by rw[hS,hD];rfl) (fun q=>(by rw[ha]at q;cases q)) (fun q=>(by rw[ha]at q;cases q)) (fun _ q=>(by rw[hD]at q;simp[ed,kH,iB]at q)) (fun _ _=>by rw[hD];exact⟨rfl,rfl⟩)
 . have hD:doP p e={ m:=settle (eG p.m e),recv:=if e.x=1/\(dO p.m p.m.serving).headD 0=p.m.got then p.recv++[p.m.got]else p.recv,stays:=if e.x=6 then chg p.stays p.m.serving p.m.target e.y else p.stays,out:=if e.x=5\/e.x=9 then (if p.out=-1 then e.y else p.out)else if e.x=6 then -1 else p.out,longest:=if e.x=6 then kz p.out p.longest e.y else p.longest }:=by
    unfold doP;rw[if_neg h10]
   have hm:(doP p e).m=settle (eG p.m e):=by rw[hD]
   have hsv:(doP p e).m.serving=(eG p.m e).serving:=by rw[hm];exact (wj _).1
   have haw:ed (doP p e).m=ed (eG p.m e):=by rw[hm];exact y6 _
   have hsi:(doP p e).m.since=(eG p.m e).since:=by rw[hm];exact (wj _).2.2
   have hst:(doP p e).stays=if e.x=6 then chg p.stays p.m.serving p.m.target e.y else p.stays:=by rw[hD]
   have hou:(doP p e).out=if e.x=5\/e.x=9 then (if p.out=-1 then e.y else p.out)else if e.x=6 then -1 else p.out:=by rw[hD]
   have hlo:(doP p e).longest=if e.x=6 then kz p.out p.longest e.y else p.longest:=by rw[hD]
   rw[hS,hst,hou,hlo,haw,hsi,hsv]at key;clear hD hm hst hou hlo hS hA hI hW hsv haw hsi;unfold eG at key;unfold et at hd;have hph:ed p.m=true↔p.m.phase=2\/p.m.phase=3:=by simp[ed]
   have hpf:ed p.m=false↔¬ (p.m.phase=2\/p.m.phase=3):=by rw[<- hph];simp
   have k:e.x=0\/e.x=1\/e.x=2\/e.x=3\/e.x=4\/e.x=5\/e.x=6\/e.x=7\/e.x=8\/e.x=9\/e.x=11:=by omega
   rcases k with k | k | k | k | k | k | k | k | k | k | k <;> rw[k]at hd key <;> simp only[Int.reduceEq,if_true,if_false,or_false,false_or,or_true,or_self]at hd key
   ·
    refine key (vY _ _ _) (fun _ _=>⟨by trivial,by trivial⟩) (fun q1 q2=>absurd (q1.symm.trans q2) (by decide)) (fun _ _=>⟨by trivial,by trivial,by trivial⟩) (fun q1 q2=>absurd (q2.symm.trans q1) (by decide))
   ·
    by_cases hq:(dO p.m p.m.serving).headD 0=p.m.got
    . rw[if_pos hq]at key;refine key (vY _ _ _) (fun _ _=>⟨by trivial,by trivial⟩) (fun q1 q2=>absurd (q1.symm.trans q2) (by decide)) (fun _ _=>⟨by trivial,by trivial,by trivial⟩) (fun q1 q2=>absurd (q2.symm.trans q1) (by decide))
    . rw[if_neg hq]at key;refine key (vY _ _ _) (fun _ _=>⟨by trivial,by trivial⟩) (fun q1 q2=>absurd (q1.symm.trans q2) (by decide)) (fun _ _=>⟨by trivial,by trivial,by trivial⟩) (fun q1 q2=>absurd (q2.symm.trans q1) (by decide))
   ·
    refine key (vY _ _ _) (fun _ _=>⟨by trivial,by trivial⟩) (fun q1 q2=>absurd (q1.symm.trans q2) (by decide)) (fun _ _=>⟨by trivial,by trivial,by trivial⟩) (fun q1 q2=>absurd (q2.symm.trans q1) (by decide))
   ·
    have h0:p.m.phase=0:=by
     rcases Classical.em (p.m.phase=0)with q | q
     . exact q
     . rw[if_pos q]at hd;cases hd
    refine key (vY _ _ _) (fun _ _=>⟨by trivial,by trivial⟩) (fun _ q2=>by simp[ed]at q2) (fun q=>(by rw[hph]at q;omega)) (fun q=>(by rw[hph]at q;omega))
   ·
    have h0:p.m.phase=1:=by
     rcases Classical.em (p.m.phase=1)with q | q
     . exact q
     . rw[if_pos q]at hd;cases hd
    refine key (vY _ _ _) (fun _ _=>⟨by trivial,by trivial⟩) (fun _ q2=>by simp[ed]at q2) (fun q=>(by rw[hph]at q;omega)) (fun q=>(by rw[hph]at q;omega))
   ·
    have h0:p.m.phase=1:=by
     rcases Classical.em (p.m.phase=1)with q | q
     . exact q
     . rw[if_pos q]at hd;cases hd
    refine key (vY _ _ _) (fun _ q=>by simp[ed]at q) (fun q _=>⟨by rw[if_pos (r3 q).1],by trivial,by trivial⟩) (fun q=>(by rw[hph]at q;omega)) (fun q=>(by rw[hph]at q;omega))
   ·
    have h0:p.m.phase=2:=by
     rcases Classical.em (p.m.phase=2)with q | q
     . exact q
     . rw[if_pos q]at hd;cases hd
    refine key (by trivial) (fun q=>(by rw[hpf]at q;omega)) (fun q=>(by rw[hpf]at q;omega)) (fun _ q=>by simp[ed]at q) (fun _ _=>⟨by trivial,by trivial⟩)
   ·
    refine key (vY _ _ _) (fun _ _=>⟨by trivial,by trivial⟩) (fun q1 q2=>absurd (q1.symm.trans q2) (by decide)) (fun _ _=>⟨by trivial,by trivial,by trivial⟩) (fun q1 q2=>absurd (q2.symm.trans q1) (by decide))
   ·
    refine key (vY _ _ _) (fun _ _=>⟨by trivial,by trivial⟩) (fun q1 q2=>absurd (q1.symm.trans q2) (by decide)) (fun _ _=>⟨by trivial,by trivial,by trivial⟩) (fun q1 q2=>absurd (q2.symm.trans q1) (by decide))
   ·
    have h3:p.m.phase≠3:=fun q=>by rw[if_pos q]at hd;cases hd
    refine key (vY _ _ _) (fun _ q=>by simp[ed]at q) (fun q _=>⟨by rw[if_pos (r3 q).1],?_,by trivial⟩) (fun q _=>⟨?_,?_,by trivial⟩) (fun _ q=>by simp[ed]at q)
    . rw[hpf]at q;show (if p.m.phase=2 then p.m.since else e.y)=e.y
      rw[if_neg (by omega)]
    . have:=(r4 q).1;rw[if_neg (by omega)]
    . rw[hph]at q;show (if p.m.phase=2 then p.m.since else e.y)=p.m.since
      rw[if_pos (by omega)]
   ·
    refine key (vY _ _ _) (fun _ _=>⟨by trivial,by trivial⟩) (fun q1 q2=>absurd (q1.symm.trans q2) (by decide)) (fun _ _=>⟨by trivial,by trivial,by trivial⟩) (fun q1 q2=>absurd (q2.symm.trans q1) (by decide))
abbrev t0 : T3:=⟨0,0,0⟩
structure Chn (n:Nw) (l:List T3) (c t:Int):Prop where
 ne:0 < l.length
 last:(l.getD (l.length - 1) t0).x=c/\(l.getD (l.length - 1) t0).y<=t
 cell:∀ i,i < l.length->isC n (l.getD i t0).x=true/\0<=(l.getD i t0).y/\(l.getD i t0).y<=t
 nxw:∀ i,i+1 < l.length->(l.getD i t0).y<=(l.getD i t0).z/\(l.getD i t0).z=(l.getD (i+1) t0).y/\(l.getD (i+1) t0).x≠(l.getD i t0).x
theorem Chn.later {n:Nw} {l:List T3} {c t u:Int} (h:Chn n l c t) (hu:t<=u):Chn n l c u:=
 ⟨h.ne,⟨h.last.1,by have:=h.last.2;omega⟩,fun i hi=>by have:=h.cell i hi;exact⟨this.1,this.2.1,by omega⟩,h.nxw⟩
theorem AH (l:List T3) (i j:Nat) (v:T3):(l.set i v).getD j t0=if i=j/\j < l.length then v else l.getD j t0:=by
 rw[zb,zb,zJ];by_cases h:i=j
 . subst h;by_cases h2:i < l.length
   . simp[h2]
   . simp[h2]
 . simp[h]
theorem Ap (l:List T3) (j:Nat) (v:T3):(l++[v]).getD j t0=if j < l.length then l.getD j t0 else if j=l.length then v else t0:=by
 rw[zb,zb,zS];by_cases h:j < l.length
 . rw[if_pos h,if_pos h]
 . rw[if_neg h,if_neg h];by_cases h2:j=l.length
   . subst h2;simp
   . rw[if_neg h2];have:j - l.length=(j - l.length - 1)+1:=by omega
     rw[this];simp
theorem Ar (l:List T3) (t:Int) (j:Nat):(jx l t).getD j t0=if j=l.length - 1/\j < l.length then ⟨(l.getD j t0).x,(l.getD j t0).y,t⟩else l.getD j t0:=by
 unfold jx;rw[AH];by_cases h:l.length - 1=j/\j < l.length
 . rw[if_pos h,if_pos ⟨h.1.symm,h.2⟩,<- h.1]
 . rw[if_neg h,if_neg (fun q=>h ⟨q.1.symm,q.2⟩)]
theorem Chn.chg {n:Nw} {l:List T3} {c d t:Int} (h:Chn n l c t) (ht:0<=t) (hd:isC n d=true):Chn n (chg l c d t) d t:=by
 unfold Go.Proofs.YtcbabnbiinkafaaGreatDoor.chg;by_cases hcd:c=d
 . rw[if_pos hcd];subst hcd;exact h
 rw[if_neg hcd];have hne:=h.ne;have hl:(jx l t).length=l.length:=uo l t;have hg:∀ j,(jx l t++[(⟨d,t,0⟩:T3)]).getD j t0=if j < l.length then (if j=l.length - 1 then ⟨(l.getD j t0).x,(l.getD j t0).y,t⟩else l.getD j t0)else if j=l.length then (⟨d,t,0⟩:T3)else t0:=fun j=>by
  rw[Ap,hl,Ar];by_cases h1:j < l.length
  . rw[if_pos h1,if_pos h1];by_cases h2:j=l.length - 1
    . rw[if_pos ⟨h2,h1⟩,if_pos h2]
    . rw[if_neg (fun q=>h2 q.1),if_neg h2]
  . rw[if_neg h1,if_neg h1]
 have hlen:(jx l t++[(⟨d,t,0⟩:T3)]).length=l.length+1:=by simp[hl]
 refine⟨by omega,?_,fun i hi=>?_,fun i hi=>?_⟩
 . rw[hlen,hg,Nat.add_sub_cancel,if_neg (by omega),if_pos rfl];exact⟨rfl,Int.le_refl _⟩
 . rw[hg];by_cases h1:i < l.length
   . rw[if_pos h1];have hc:=h.cell i h1;by_cases h2:i=l.length - 1
     . rw[if_pos h2];exact hc
     . rw[if_neg h2];exact hc
   . rw[if_neg h1,if_pos (by omega)];exact⟨hd,ht,Int.le_refl _⟩
 . rw[hg,hg];by_cases h2:i=l.length - 1
   . have h1:i < l.length:=by omega
     rw[if_pos h1,if_pos h2,if_neg (by omega),if_pos (by omega)];have hla:=h.last;rw[<- h2]at hla;refine⟨hla.2,rfl,?_⟩;show d≠(l.getD i t0).x
     rw[hla.1];exact fun q=>hcd q.symm
   . have h1:i < l.length:=by omega
     have h3:i+1 < l.length:=by omega
     have hn:=h.nxw i h3;rw[if_pos h1,if_neg h2,if_pos h3];by_cases h4:i+1=l.length - 1
     . rw[if_pos h4];exact hn
     . rw[if_neg h4];exact hn
theorem Chn.begin {n:Nw} {c:Int} (hc:isC n c=true):Chn n [⟨c,0,0⟩] c 0:=
 ⟨by simp,⟨rfl,Int.le_refl _⟩,fun i hi=>by
  have:i=0:=by simpa using hi
  subst this;exact⟨hc,Int.le_refl _,Int.le_refl _⟩,fun i hi=>by simp at hi⟩
theorem Chn.pass {n:Nw} {p:Ph} (hn:NetOk n) (g:dN n p.m) (h:Chn n p.stays p.m.serving p.m.at_) {t:Int} (ht:p.m.at_<=t):Chn n (eJ n p t).stays (eJ n p t).m.serving t:=by
 unfold eJ;by_cases hp:ju n p.m t=true
 . rw[if_pos hp];have hq:=hp;simp only[ju,zm,decide_eq_true_eq]at hq;have hdue:=g.due hq.1;have hsi:=g.since;have hli:=hn.lim;have hz:isC n 0=true:=by simp only[isC,decide_eq_true_eq];have:=hn.len;omega
   exact ((h.later (u:=p.m.since+n.limit) (by omega)).chg (by omega) hz).later hq.2
 . rw[if_neg hp];exact h.later ht
theorem Chn.doP {n:Nw} {p:Ph} {e:T3} (g:p.m.phase=2->isC n p.m.target=true) (h:Chn n p.stays p.m.serving e.y) (h0:0<=e.y) (hev:evE n e=0) (hd:et n p.m e=0):Chn n (doP p e).stays (doP p e).m.serving e.y:=by
 obtain⟨hx,hy,hcz⟩:=ev_ok hev;unfold Go.Proofs.YtcbabnbiinkafaaGreatDoor.doP;by_cases h10:e.x=10
 . rw[if_pos h10];exact h.chg h0 (hcz (by simp[iz,h10]))
 rw[if_neg h10];have hs:(settle (eG p.m e)).serving=(eG p.m e).serving:=(wj _).1;by_cases h6:e.x=6
 . have h2:p.m.phase=2:=by
    unfold et at hd;simp only[h6,Int.reduceEq,if_true,if_false]at hd;rcases Classical.em (p.m.phase=2)with q | q
    . exact q
    . rw[if_pos q]at hd;cases hd
   have e1:(eG p.m e).serving=p.m.target:=by unfold eG;simp only[h6,Int.reduceEq,if_true,if_false]
   show Chn n (if e.x=6 then _ else _) (settle (eG p.m e)).serving e.y
   rw[if_pos h6,hs,e1];exact h.chg h0 (g h2)
 . have e1:(eG p.m e).serving=p.m.serving:=by
    unfold eG;simp only[h6,if_false]
    repeat' split
    all_goals rfl
   show Chn n (if e.x=6 then _ else _) (settle (eG p.m e)).serving e.y
   rw[if_neg h6,hs,e1];exact h
structure All (n:Nw) (p:Ph) (w:Rw):Prop where
 g:dN n p.m
 r:RwOk n p w
 c:Chn n p.stays p.m.serving p.m.at_
theorem All.begin {n:Nw} (hn:NetOk n) {c:Int} (hc:isC n c=true):All n (gm n c) (xx n c):=⟨dN.begin hn hc,.begin hn c,.begin hc⟩
theorem All.apply {n:Nw} {p:Ph} {w:Rw} {e:T3} (hn:NetOk n) (a:All n p w) (h:fZ n p.m e=0):All n (km n p e) (AN n w e):=by
 have hev:=ry h;obtain⟨hx,hy,hcz⟩:=ev_ok hev;have hE:=h;rw[fZ,if_neg (by simp[hev]),qd]at hE;have hat:p.m.at_<=e.y:=by
  rcases Classical.em (e.y < p.m.at_)with q | q
  . rw[if_pos q]at hE;cases hE
  . omega
 rw[if_neg (by omega)]at hE;have G:dN n (kW n p.m e.y):=a.g.pass hn hat hy.2;have hq:kW n p.m e.y=(atP (eJ n p e.y) e.y).m:=by
  show _=({ (eJ n p e.y).m with at_:=e.y }:Ms)
  rw[ot];rfl
 have hd:et n (eJ n p e.y).m e=0:=by
  rw[<- hE,hq];rfl
 have r1:=a.r.pass hn a.g.since.1 e.y;have c1:=a.c.pass hn a.g hat;have G':dN n (atP (eJ n p e.y) e.y).m:=hq ▸ G;refine⟨by rw[ql];exact a.g.apply hn h,?_,?_⟩
 . refine RwOk.act hn r1 hx hy.1 G'.since.1 (fun q=>?_) hd ?_
   . exact G'.due q
   . rw[a.r.m];exact (ql n p e).symm
 . exact Chn.doP (p:=eJ n p e.y) (fun h2=>G'.tgt (fun q=>(G'.f2 q).2 h2)) c1 hy.1 hev hd
theorem All.steps {n:Nw} (hn:NetOk n):∀ (l:List T3) (p:Ph) (w:Rw) (i:Int),All n p w->(iH n p.m l i).2=0->All n (jk n p l) (Ai n w l)
 |[],p,w,i,a,_=>a
 | e :: l,p,w,i,a,h=>by
  rw[iH]at h;by_cases h0:fZ n p.m e=0
  . rw[if_pos h0,<- ql]at h;exact All.steps hn l _ _ (i+1) (a.apply hn h0) h
  . rw[if_neg h0]at h;exact absurd h h0
theorem PhK.steps {n:Nw}:∀ (l:List T3) (p:Ph) (i:Int) (k:Nat),PhK k p->(iH n p.m l i).2=0->PhK (k+l.length) (jk n p l)
 |[],p,i,k,a,_=>a
 | e :: l,p,i,k,a,h=>by
  rw[iH]at h;by_cases h0:fZ n p.m e=0
  . rw[if_pos h0,<- ql]at h;have:=PhK.steps l _ (i+1) (k+1) (a.apply (n:=n) (e:=e) (ev_ok (ry h0)).2.1) h;rw[zQ];rwa[yG,Nat.add_comm 1]at this
  . rw[if_neg h0]at h;exact absurd h h0
theorem xI (n:Nw):∀ (l:List T3) (m:Ms) (i j:Int),(iH n m l i).2=0->(iH n m l j).2=0
 |[],m,i,j,h=>h
 | e :: l,m,i,j,h=>by
  rw[iH]at h ⊢;by_cases h0:fZ n m e=0
  . rw[if_pos h0]at h ⊢;exact xI n l _ _ _ h
  . rw[if_neg h0]at h;exact absurd h h0
theorem wX (n:Nw):∀ (l:List T3) (m:Ms) (i:Int),(iH n m l i).2=0->iH n m l i=(0,0)
 |[],m,i,h=>rfl
 | e :: l,m,i,h=>by
  rw[iH]at h ⊢;by_cases h0:fZ n m e=0
  . rw[if_pos h0]at h ⊢;exact wX n l _ _ h
  . rw[if_neg h0]at h;exact absurd h h0
def upL (a:Int):Nat->List Int
 | 0=>[]
 | k+1=>a :: upL (a+1) k
theorem upL_len (k:Nat):∀ a,(upL a k).length=k:=by
 induction k with
 | zero=>intro a;rfl
 | succ k ih=>intro a;simp[upL,ih]
theorem Bo (k:Nat):∀ (a:Int) (i:Nat),i < k->(upL a k).getD i 0=a+i:=by
 induction k with
 | zero=>intro a i h;omega
 | succ k ih=>
  intro a i h;cases i with
  | zero=>simp[upL]
  | succ i=>
   show (upL (a+1) k).getD i 0=_
   rw[ih _ _ (by omega)];push_cast;omega
theorem yP (m:Ms):(settle m).fresh=m.fresh:=by
 unfold Go.Proofs.YtcbabnbiinkafaaGreatDoor.settle;split <;> rfl
theorem y5 (n:Nw) (m:Ms) (t:Int):(p7 n m t).fresh=m.fresh:=by unfold p7;split <;> rfl
theorem y4 (n:Nw) (m:Ms) (e:T3):(qm n m e).fresh=m.fresh+(if e.x=0 then 1 else 0):=by
 unfold qm;have h1:(kW n m e.y).fresh=m.fresh:=y5 n m e.y;generalize kW n m e.y=q at *;rw[<- h1];unfold jT;by_cases h10:e.x=10
 . rw[if_pos h10,h10];simp[iB]
 . rw[if_neg h10,yP];unfold eG;by_cases h:e.x=0
   . simp only[h,if_true]
   . simp only[h,if_false]
     repeat' split
     all_goals simp
theorem AI (n:Nw) (m:Ms) (e:T3):(qm n m e).got=m.got\/(qm n m e).got=m.got+1:=by
 unfold qm;have h1:(kW n m e.y).got=m.got:=xA n m e.y;generalize kW n m e.y=q at *;rw[<- h1];unfold jT;by_cases h10:e.x=10
 . rw[if_pos h10];exact .inl rfl
 . rw[if_neg h10,xn,Ae];split
   . exact .inr rfl
   . exact .inl rfl
def wN : List T3->Int
 |[]=>0
 | e :: l=>(if e.x=0 then 1 else 0)+wN l
theorem Ah (n:Nw):∀ (l:List T3) (m:Ms),∃ k:Nat,wL n m l=upL m.got k/\(l.foldl (qm n) m).got=m.got+k/\(l.foldl (qm n) m).fresh=m.fresh+wN l
 |[],m=>⟨0,rfl,by simp,by simp[wN]⟩
 | e :: l,m=>by
  obtain⟨k,h1,h2,h3⟩:=Ah n l (qm n m e);have hf:=y4 n m e;rcases AI n m e with h | h
  . refine⟨k,?_,?_,?_⟩
    . rw[wL,h1,h,if_neg (by omega)];rfl
    . rw[List.foldl_cons,h2,h]
    . rw[List.foldl_cons,h3,hf,wN];omega
  . refine⟨k+1,?_,?_,?_⟩
    . rw[wL,h1,h,if_pos (by omega)];rfl
    . rw[List.foldl_cons,h2,h];push_cast;omega
    . rw[List.foldl_cons,h3,hf,wN];omega
theorem wH (n:Nw) (c:Int) (l:List T3):(lu n c l).m=l.foldl (qm n) (eM n c):=by
 have key:∀ (l:List T3) (p:Ph),(jk n p l).m=l.foldl (qm n) p.m:=by
  intro l
  induction l with
  | nil=>intro p;rfl
  | cons e l ih=>intro p;rw[jk,ih,ql];rfl
 exact key l _
theorem xe {n:Nw} (hn:NetOk n) {c:Int} (hc:isC n c=true) (l:List T3) (h:(iH n (eM n c) l 0).2=0) :
 dN n (lu n c l).m/\(lu n c l).recv=upL 0 (lu n c l).m.got.toNat/\(lu n c l).m.fresh=wN l:=by
 have a:=All.steps hn l (gm n c) (xx n c) 0 (All.begin hn hc) h;have hr:(lu n c l).recv=wL n (eM n c) l:=by
  show (jk n (gm n c) l).recv=_
  rw[xo];simp[gm]
 obtain⟨k,h1,h2,h3⟩:=Ah n l (eM n c);have e0:(eM n c).got=0:=rfl;have e1:(eM n c).fresh=0:=rfl;refine⟨a.g,?_,?_⟩
 . rw[hr,h1,wH,h2,e0]
   congr 1;omega
 . rw[wH,h3,e1];omega
def vX (f:FuncId) (as0:List C) (r:C) (k:Nat) (c:Ch) (hr:dG [k] r) (hc:ge [k] c) (h:FC Tryz.prog f as0 [] r [(k,c)]):Ent Tryz.prog:=.mk3 f (fun args chs=>some (args=as0/\chs=[],r,[(k,c)],[k])) (by
 intro args chs pp r' chs' nk hs hq;simp only[zn,zf]at hs;obtain⟨rfl,rfl,rfl,rfl⟩:=hs;obtain⟨rfl,rfl⟩:=hq;refine⟨h,⟨fun k' c' hm=>.inl ?_,fun k cs hm=>(by simp at hm),hr,fun k' c' hm=>?_⟩⟩
 . simp only[zg,zf]at hm ⊢;exact hm.1
 . simp only[zg,zf]at hm;obtain⟨rfl,rfl⟩:=hm
   exact hc)
theorem Ak (l:List Int) (h:l.length<=1000000):FC Tryz.prog 24 [enc l] [] (.own 3) [(3,.row 1 3 (l.map Dat.cells))]:=by
 refine dD [3] is24 (by simp) (by simp[bn]) (by simp[ap,ag]) (by simp[ap,ag,av]) (by simp[aC,lk]) (fun cx _ hl _=>dC [] 800 ?_);delta c24 oO oA oM oX o1;simp (maxSteps:=9^7) -implicitDefEqProofs only[rv24,InR,WU,V,W3,↓reduceIte,seval,reduceCtorEq];omega
def xm (l:List Int) (h:l.length<=1000000):Ent Tryz.prog:=vX 24 [enc l] (.own 3) 3 (.row 1 3 (l.map Dat.cells)) (by simp[dG]) (by simp[ge]) (Ak l h)
structure BufS (b:List (List Int)):Prop where
 l:b.length<=1000000
 r:∀ x∈b,x.length<=1000000
theorem y3 (b:List (List Int)) (h:BufS b):FC Tryz.prog 60 [enc b] [] (.own 3) [(3,.deep 1 3 24 none (fB b))]:=by
 have h1:=h.l;refine dD [3] D7.is60 (by simp) (by simp[bn]) (by simp[ap,ag]) (by simp[ap,ag,av]) (by simp[aC,lk]) (fun cx _ hl _=>dC [] 800 ?_);delta D7.c60 oA oM oS oK oV oX;simp (maxSteps:=9^7) -implicitDefEqProofs only[D7.rv60,InR,WU,V,W3,↓reduceIte,seval,reduceCtorEq];refine⟨by simp,?_⟩;refine fI b.length (fun i=>[(4,.s (.int .i64 (i:Int)))]) (fun i=>[(3,.deep 1 3 24 none (fB (b.take i)))]) (fun _=>True) trivial ?_ (fun i hi _=>?_)
 . simp (maxSteps:=9^7) -implicitDefEqProofs only[V,W3,↓reduceIte,seval,reduceCtorEq]
   all_goals rfl
 . by_cases hlt:i < b.length
   . have hi2:(i:Int) < (b.length:Int):=by omega
     have hi0:(0:Int)<=i:=by omega
     have hgx:List.getD (b.map Dat.cells) i [C.sl 0 []]=[C.sl 1 ((b.getD i []).map Dat.cells)]:=by
      rw[zb,zb,zh,ze hlt];rfl
     have hx:=h.r _ (yy hlt);have hgd:b.getD i []=b[i]:=by rw[zb,ze hlt];rfl
     have hap:fB (b.take i)++[(b.getD i []).map Dat.cells]=fB (b.take (i+1)):=by
      rw[hgd,yI hlt,fB,fB,yg];rfl
     have hlen:(b.take i).length=i:=by rw[List.length_take];omega
     rw[<- hgd]at hx;refine dC [xm (b.getD i []) hx] 800 ?_;delta D7.c60l1 oO oN oA oM oR oS oK oL oC oX oB o0 o4;simp (maxSteps:=9^7) -implicitDefEqProofs only[xm,vX,hi0,hi2,hlt,hgx,hap,eo,hlen,InR,WU,V,W3,↓reduceIte,seval,reduceCtorEq];omega
   . have hi2:¬ (i:Int) < (b.length:Int):=by omega
     have htk:b.take i=b:=List.take_of_length_le (by omega);refine dC [] 800 ?_;delta D7.c60l1 oO oN oA oM oR oS oK oL oC oX oB o0 o4;simp (maxSteps:=9^7) -implicitDefEqProofs only[D7.rv60,hi2,htk,WU,V,W3,↓reduceIte,seval,reduceCtorEq]
def AD (b:List (List Int)) (h:BufS b):Ent Tryz.prog:=vX 60 [enc b] (.own 3) 3 (.deep 1 3 24 none (fB b)) (by simp[dG]) (by simp[ge]) (y3 b h)
def msA (m:Ms) (k:Nat):C:=.agg (msC m k)
theorem xc (m:Ms) (k:Nat):dG [k] (msA m k):=by simp[msA,msC,dG,dG.keysIns]
theorem Copy_o (m:Ms) (h:BufS m.buf):FC Tryz.prog 65 [enc m] [] (msA m 5) [(5,.deep 1 3 24 none (fB m.buf))]:=by
 refine dD [5] D7.is65 (by simp) (by simp[bn]) (by simp[ap,ag]) (by simp[ap,ag,av]) (by simp[aC,lk]) (fun cx _ hl _=>dC [AD m.buf h] 800 ?_);delta D7.c65 oO oA oF oL oC oW oX oZ o5 o7;simp (maxSteps:=9^7) -implicitDefEqProofs only[D7.rv65,AD,vX,qD,msA,msC,InR,WU,V,W3,↓reduceIte,seval,reduceCtorEq]
def wJ (m:Ms) (h:BufS m.buf):Ent Tryz.prog:=vX 65 [enc m] (msA m 5) 5 (.deep 1 3 24 none (fB m.buf)) (xc m 5) (by simp[ge]) (Copy_o m h)
theorem Raway_c (m:Ms):FC Tryz.prog 112 [enc m] [] (enc (ed m)) []:=by
 refine dD [] is112 (by simp) trivial trivial trivial trivial (fun cx _ hl _=>dC [] 800 ?_);by_cases h1:m.phase=2 <;> by_cases h2:m.phase=3
 all_goals
  delta c112 oO oN oM oG oF oL oX oH oB oE oJ o7 o9;simp (maxSteps:=9^7) -implicitDefEqProofs only[rv112,qD,ed,h1,h2,WU,V,W3,↓reduceIte,seval,reduceCtorEq]
def vP : Ent Tryz.prog:=.of1 112 (fun _=>True) (fun m:Ms=>enc (ed m)) (fun _=>trivial) (fun m _=>Raway_c m)
theorem AS (l:List Int) (g:Int) (h:l.length<=1000000):FC Tryz.prog 164 [enc l,enc g] [] (.own 5) [(5,.row 1 3 ((frm l g).map Dat.cells))]:=by
 refine dD [5] D7.is164 (by simp) (by simp[bn]) (by simp[ap,ag]) (by simp[ap,ag,av]) (by simp[aC,lk]) (fun cx _ hl _=>dC [] 800 ?_);delta D7.c164 oA oM oS oK oV oX;simp (maxSteps:=9^7) -implicitDefEqProofs only[D7.rv164,InR,WU,V,W3,↓reduceIte,seval,reduceCtorEq];refine fI l.length (fun i=>[(6,.s (.int .i64 (i:Int)))]) (fun i=>[(5,.row 1 3 ((frm (l.take i) g).map Dat.cells))]) (fun _=>True) trivial ?_ (fun i hi _=>?_)
 . simp (maxSteps:=9^7) -implicitDefEqProofs only[V,W3,↓reduceIte,seval,reduceCtorEq]
   all_goals rfl
 . by_cases hlt:i < l.length
   . have hi2:(i:Int) < (l.length:Int):=by omega
     have hi0:(0:Int)<=i:=by omega
     have hgd:l.getD i 0=l[i]:=by rw[zb,ze hlt];rfl
     have hf:frm (l.take (i+1)) g=frm (l.take i) g++(if g<=l.getD i 0 then [l.getD i 0]else []):=by
      rw[hgd,yI hlt,frm,frm,List.filter_append];by_cases hg:g<=l[i] <;> simp[hg]
     have hfl:(frm (l.take i) g).length<=i:=by
      refine z6 (List.length_filter_le _ _) ?_;rw[List.length_take];omega
     refine dC [] 800 ?_;delta D7.c164l1 oO oN oA oM oR oS oK oL oI oX oB o1 o4;simp (maxSteps:=9^7) -implicitDefEqProofs only[hi0,hi2,hlt,hf,yg,zy,InR,WU,V,W3,↓reduceIte,seval,reduceCtorEq];generalize l.getD i 0=y at *;by_cases hg:g<=y
     . rw[if_pos hg,if_pos hg];exact⟨by omega,by omega,by omega,rfl⟩
     . rw[if_neg hg,if_neg hg,zR,z4];exact⟨by omega,by omega,rfl⟩
   . have hi2:¬ (i:Int) < (l.length:Int):=by omega
     have htk:l.take i=l:=List.take_of_length_le (by omega);refine dC [] 800 ?_;delta D7.c164l1 oO oN oA oM oR oS oK oL oI oX oB o1 o4;simp (maxSteps:=9^7) -implicitDefEqProofs only[D7.rv164,hi2,htk,WU,V,W3,↓reduceIte,seval,reduceCtorEq]
def wO (l:List Int) (g:Int) (h:l.length<=1000000):Ent Tryz.prog:=vX 164 [enc l,enc g] (.own 5) 5 (.row 1 3 ((frm l g).map Dat.cells)) (by simp[dG]) (by simp[ge]) (AS l g h)
theorem AM (l:List Int) (n:Int) (i:Nat) (h:i < l.length->¬ l.getD i 0 < n):fS (l.drop i) n=n :: l.drop i:=by
 by_cases hi:i < l.length
 . rw[fJ 0 hi,fS,if_neg (h hi)]
 . rw[zv (by omega)];rfl
theorem put_o (l:List Int) (n:Int) (h:l.length<=1000000):FC Tryz.prog 163 [enc l,enc n] [] (.own 5) [(5,.row 1 3 ((fS l n).map Dat.cells))]:=by
 generalize hR:fS l n=R;refine dD [5,31,35] D7.is163 (by simp) (by simp[bn]) (by simp[ap,ag]) (by simp[ap,ag,av]) (by simp[aC,lk]) (fun cx _ hl _=>dC [] 800 ?_);delta D7.c163 oO oA oM oT oS oK oV oX o1;simp (maxSteps:=9^7) -implicitDefEqProofs only[D7.rv163,InR,WU,V,W3,↓reduceIte,seval,reduceCtorEq];refine fI l.length (fun i=>[(6,.s (.int .i64 (i:Int)))]) (fun i=>[(5,.row 1 3 ((l.take i).map Dat.cells))]) (fun i=>R=l.take i++fS (l.drop i) n) (by rw[<- hR];rfl) ?_ (fun i hi hv=>?_)
 . simp (maxSteps:=9^7) -implicitDefEqProofs only[V,W3,↓reduceIte,seval,reduceCtorEq]
   all_goals rfl
 . have hlt0:(l.take i).length=i:=by rw[List.length_take];omega
   have hi0:(0:Int)<=i:=by omega
   have hi4:(i:Int)<=(l.length:Int):=by omega
   have htl:List.take l.length (List.map Dat.cells l)=List.map Dat.cells l:=List.take_of_length_le (by simp);by_cases hc:i < l.length/\l.getD i 0 < n
   . obtain⟨hlt,hg⟩:=hc;have hi2:(i:Int) < (l.length:Int):=by omega
     have hd:=fJ (d:=(0:Int)) hlt;have hgd:l.getD i 0=l[i]:=by rw[zb,ze hlt];rfl
     have htk:l.take (i+1)=l.take i++[l.getD i 0]:=by rw[hgd,yI hlt]
     rw[hd,fS,if_pos hg]at hv;refine dC [] 800 ?_;delta D7.c163l1 oO oN oA oM oG oR oS oK oL oX oP oB oD oJ o1 o4;simp (maxSteps:=9^7) -implicitDefEqProofs only[hi0,hi2,hlt,hg,htk,hlt0,yg,zy,InR,WU,V,W3,↓reduceIte,seval,reduceCtorEq];exact⟨by omega,by omega,by rw[hv];simp,by omega⟩
   . rw[AM l n i (fun q q2=>hc ⟨q,q2⟩)]at hv;have hcc:(((i:Int) < (l.length:Int))=True/\(i < l.length)=True/\(l.getD i 0 < n)=False)\/(((i:Int) < (l.length:Int))=False/\True/\True):=by
      by_cases hlt:i < l.length
      . exact .inl ⟨eq_true (by omega),eq_true hlt,eq_false fun q=>hc ⟨hlt,q⟩⟩
      . exact .inr ⟨eq_false (by omega),trivial,trivial⟩
     refine dC [] 800 ?_;rcases hcc with⟨h1,h2,h3⟩ | ⟨h1,h2,h3⟩
     all_goals
      delta D7.c163l1 oO oN oA oM oG oR oS oK oL oX oP oB oD oJ o1 o4;simp (maxSteps:=9^7) -implicitDefEqProofs only[hi0,h1,h2,h3,hlt0,zy,not_false_eq_true,not_true_eq_false,InR,WU,V,W3,↓reduceIte,seval,reduceCtorEq];refine mT [] 800 ?_;simp (maxSteps:=9^7) -implicitDefEqProofs only[drS,kX,robC,reC,fixS,eL,AOp.reads,ke,true_or,or_true,false_or,hi0,hi4,hlt0,htl,zy,Option.toList_some,Option.toList_none,z4,yq,yb,InR,WU,V,W3,↓reduceIte,seval,reduceCtorEq];refine⟨by omega,by omega,by simp;omega,by omega,dC [] 400 ?_⟩;simp (maxSteps:=9^7) -implicitDefEqProofs only[V,W3,↓reduceIte,seval,reduceCtorEq];rw[hv];simp;rfl
theorem put_c (l:List Int) (n:Int) (h:l.length<=1000000):FC Tryz.prog 163 [enc l,enc n] [] (enc (fS l n)) []:=FC.frz (put_o l n h) (x:=.sl 1 ((fS l n).map Dat.cells)) rfl
def AB : Ent Tryz.prog:=.of2 163 (fun l _=>l.length<=1000000) (fun (l:List Int) (n:Int)=>enc (fS l n)) (fun _ _=>trivial) (fun l n h=>put_c l n h)
theorem xz (b:List (List Int)):xq (.deep 1 3 24 none (fB b)):=fun es hes e he c hc=>by
 simp only[fB,zu]at hes;obtain⟨l,_,rfl⟩:=hes;obtain⟨x,_,rfl⟩:=zu.1 he;exact⟨_,zg.1 hc⟩
structure MsS (m:Ms):Prop where
 b:BufS m.buf
 f:m.buf.flatten.length<=1000000
def wq (bs:List (List Int)) (i:Nat):List Int:=(bs.take i).flatten.foldl fS []
def wn (bs:List (List Int)) (i:Nat):List (List Int):=(bs.take i).map (fun _=>[])++bs.drop i
theorem wT (l acc:List Int):(l.foldl fS acc).length=acc.length+l.length:=by
 rw[(lE l acc).length_eq,zK]
theorem xM (bs:List (List Int)) (i:Nat) (h:i < bs.length):(bs.take i).flatten.length+(bs.getD i []).length<=bs.flatten.length:=by
 have e:bs.flatten=(bs.take i).flatten++((bs.getD i [])++(bs.drop (i+1)).flatten):=by
  conv=>lhs;rw[<- List.take_append_drop i bs,fJ [] h]
  rw[List.flatten_append,List.flatten_cons]
 rw[e,zK,zK];omega
theorem Ax (bs:List (List Int)) (i:Nat) (h:i < bs.length):wq bs (i+1)=(bs.getD i []).foldl fS (wq bs i):=by
 have hgd:bs.getD i []=bs[i]:=by rw[zb,ze h];rfl
 rw[wq,wq,yI h,hgd,List.flatten_append,List.foldl_append,List.flatten_cons,List.flatten_nil,z4]
theorem AA (bs:List (List Int)) (i:Nat) (h:i < bs.length):(wn bs i).set i []=wn bs (i+1):=by
 have hl:((bs.take i).map fun _=>([]:List Int)).length=i:=by simp;omega
 rw[wn,wn,fJ [] h,List.set_append_right _ _ (by omega),hl,Nat.sub_self,List.set_cons_zero,yI h,yg,ye];rfl
theorem xa (bs:List (List Int)) (i:Nat):(wn bs i).length=bs.length:=by simp[wn];omega
theorem Ba (bs:List (List Int)):wn bs bs.length=bs.map fun _=>[]:=by simp[wn]
theorem wS (m:Ms) (c t:Int) (h:MsS m) (hc:0<=c/\c.toNat < m.buf.length):FC Tryz.prog 142 [enc m,enc c,enc t] [] (msA (iB m c t) 12) [(12,.deep 1 3 24 none (fB (iB m c t).buf))]:=by
 have h1:=h.b.l;refine dD [12] D7.is142 (by simp) (by simp[bn]) (by simp[ap,ag]) (by simp[ap,ag,av]) (by simp[aC,lk]) (fun cx _ hl _=>dC [wJ m h.b] 800 ?_);delta D7.c142 oO oN oA oM oT oS oK oF oL oV oC oW oY oX o0 oZ o5 o7;simp (maxSteps:=9^7) -implicitDefEqProofs only[D7.rv142,wJ,vX,qD,msA,msC,InR,WU,V,W3,↓reduceIte,seval,reduceCtorEq];have hcl:c < (m.buf.length:Int):=by omega
 refine fI m.buf.length (fun i=>[(8,enc (wq m.buf i)),(9,.s (.int .i64 (i:Int)))]) (fun i=>[(12,.deep 1 3 24 none (fB (wn m.buf i)))]) (fun _=>True) trivial ?_ (fun i hi _=>dC [] 800 ?_)
 . simp (maxSteps:=9^7) -implicitDefEqProofs only[wn,wq,List.take_zero,yB,zR,yb,List.flatten_nil,List.foldl_nil,V,W3,↓reduceIte,seval,reduceCtorEq]
   all_goals rfl
 . by_cases hlt:i < m.buf.length
   . have hi2:(i:Int) < (m.buf.length:Int):=by omega
     have hi0:(0:Int)<=i:=by omega
     have hgx:List.getD (m.buf.map Dat.cells) i [C.sl 0 []]=[C.sl 1 ((m.buf.getD i []).map Dat.cells)]:=by
      rw[zb,zb,zh,ze hlt];rfl
     have hfl:=xM m.buf i hlt;have hA:(wq m.buf i).length=(m.buf.take i).flatten.length:=by rw[wq,wT];simp
     have hff:=h.f;have has:=Ax m.buf i hlt;have hcs:=AA m.buf i hlt;have hst:(fB (wn m.buf i)).set i []=fB (wn m.buf (i+1)):=by rw[<- hcs];exact jD _ i []
     delta D7.c142l2 oO oN oA oM oR oS oK oF oL oV oY oX oB o0 o4;simp (maxSteps:=9^7) -implicitDefEqProofs only[hi0,hi2,hlt,hgx,InR,WU,V,W3,↓reduceIte,seval,reduceCtorEq];generalize wq m.buf i=A at *;generalize hL:m.buf.getD i []=L at *;refine fI L.length (fun k=>[(8,enc ((L.take k).foldl fS A)),(10,.s (.int .i64 (k:Int)))]) (fun k=>[]) (fun _=>True) trivial ?_ (fun k hk _=>dC [AB] 800 ?_)
     . simp (maxSteps:=9^7) -implicitDefEqProofs only[List.take_zero,List.foldl_nil,V,W3,↓reduceIte,seval,reduceCtorEq]
       all_goals rfl
     . by_cases hkl:k < L.length
       . have hk2:(k:Int) < (L.length:Int):=by omega
         have hk0:(0:Int)<=k:=by omega
         have hle:((L.take k).foldl fS A).length<=1000000:=by rw[wT,List.length_take];omega
         have hgd:L.getD k 0=L[k]:=by rw[zb,ze hkl];rfl
         have hnx:(L.take (k+1)).foldl fS A=fS ((L.take k).foldl fS A) (L.getD k 0):=by
          rw[hgd,yI hkl,List.foldl_append];rfl
         delta D7.c142l1 oO oN oA oM oR oS oK oF oL oC oX oB o0 o1 o4;simp (maxSteps:=9^7) -implicitDefEqProofs only[AB,hi0,hi2,hlt,hgx,hk0,hk2,hkl,hle,hnx,InR,WU,Ent.of2,V,W3,↓reduceIte,seval,reduceCtorEq];omega
       . have hke:k=L.length:=by omega
         subst hke;have hk2:¬ ((L.length:Nat):Int) < (L.length:Int):=by omega
         delta D7.c142l1 oO oN oA oM oR oS oK oF oL oC oX oB o0 o1 o4;simp (maxSteps:=9^7) -implicitDefEqProofs only[hi0,hi2,hlt,hgx,hk2,eo,xa,hst,yo,has,InR,WU,V,W3,↓reduceIte,seval,reduceCtorEq];refine og rfl (OpM.nilled 99 1 3 (by decide) (.f (by simp[ai,yT,yS,aq,gt,lk,af,ae,ah,bF];rfl) (by simp[eo,xa];omega))) (fun ef he=>?_);subst he;refine pV [] 800 ?_;simp (maxSteps:=9^7) -implicitDefEqProofs only[a6,bF,eo,xa,hst,has,hlt,InR,WU,V,W3,↓reduceIte,seval,reduceCtorEq];omega
   . have hie:i=m.buf.length:=by omega
     subst hie;have hi2:¬ ((m.buf.length:Nat):Int) < (m.buf.length:Int):=by omega
     have hall:wq m.buf m.buf.length=mrg m.buf:=by rw[wq,yo];rfl
     have hml:(mrg m.buf).length<=1000000:=by rw[(kS m.buf).length_eq];exact h.f
     have hst:=jD (m.buf.map fun _=>[]) c.toNat (frm (mrg m.buf) m.got);have hbl:(fB (m.buf.map fun _=>[])).length=m.buf.length:=by rw[eo,zy]
     rw[Ba,hall];obtain⟨hc0,hc2⟩:=hc;delta D7.c142l2 oO oN oA oM oR oS oK oF oL oV oY oX oB o0 o4;simp (maxSteps:=9^7) -implicitDefEqProofs only[hi2,InR,WU,V,W3,↓reduceIte,seval,reduceCtorEq];refine mT [wO (mrg m.buf) m.got hml] 800 ?_;simp (maxSteps:=9^7) -implicitDefEqProofs only[drS,kX,robC,reC,fixS,eL,AOp.reads,ke,true_or,or_true,false_or,wO,vX,hc0,hc2,hcl,hbl,InR,WU,V,W3,↓reduceIte,seval,reduceCtorEq];refine dC [] 600 ?_;simp (maxSteps:=9^7) -implicitDefEqProofs only[D7.rv142,hst,iB,InR,WU,V,W3,↓reduceIte,seval,reduceCtorEq]
def Aa (m:Ms) (c t:Int) (h:MsS m) (hc:0<=c/\c.toNat < m.buf.length):Ent Tryz.prog:=vX 142 [enc m,enc c,enc t] (msA (iB m c t) 12) 12 (.deep 1 3 24 none (fB (iB m c t).buf)) (xc _ 12) (by simp[ge]) (wS m c t h hc)
def wC (n:Nw) (m:Ms) (t:Int):Int:=if ju n m t=true then m.since+n.limit else -1
theorem Pass_o (n:Nw) (m:Ms) (t:Int) (hn:NwS n) (h:MsS m) (hl:0 < m.buf.length) (hi:ed m=true->InR .i64 (m.since+n.limit)):FC Tryz.prog 110 [enc n,enc m,enc t] [] (.tup [msA (p7 n m t) 25,enc (wC n m t)]) [(25,.deep 1 3 24 none (fB (p7 n m t).buf))]:=by
 have hdm:=vV m;by_cases hp:ju n m t=true
 . have hq:=hp;simp only[ju,zm,decide_eq_true_eq]at hq;have hI:=hi hq.1;simp only[InR]at hI;have hP:p7 n m t=iB m 0 (m.since+n.limit):=by unfold p7;rw[if_pos hp]
   have hA:wC n m t=m.since+n.limit:=by unfold wC;rw[if_pos hp]
   rw[hP,hA];refine dD [25] D7.is110 (by simp) (by simp[bn]) (by simp[ap,ag]) (by simp[ap,ag,av]) (by simp[aC,lk]) (fun cx _ _ _=>dC [vP] 800 ?_);delta D7.c110 oO oN oA oM oT oG oS oK oF oL oV oC oW oI oX oP oB oD oE oJ oZ o5 o7;simp (maxSteps:=9^7) -implicitDefEqProofs only[D7.rv110,eO,qD,hdm,vP,hq,hI,InR,WU,Ent.of1,V,W3,↓reduceIte,seval,reduceCtorEq];refine qk [Aa m 0 (m.since+n.limit) h ⟨by decide,by simpa using hl⟩] 800 ?_;simp (maxSteps:=9^7) -implicitDefEqProofs only[gC,mFin2,lP,oq,ops2,jb,reM2,nQ,p8,p9,l6,finM,kd,gQ,hJ,fY,ff,fO,fO.fixBs,fM,ndE2,ap,ag,av,aU,aE,ke,eL,a6,bF,Aa,vX,msA,msC,qD,hI,InR,WU,V,W3,↓reduceIte,seval,reduceCtorEq];refine⟨rfl,dC [] 600 ?_⟩;simp (maxSteps:=9^7) -implicitDefEqProofs only[D7.rv110,InR,WU,V,W3,↓reduceIte,seval,reduceCtorEq]
 . have hP:p7 n m t=m:=by unfold p7;rw[if_neg hp]
   have hA:wC n m t=-1:=by unfold wC;rw[if_neg hp]
   rw[hP,hA];have key:FC Tryz.prog 110 [enc n,enc m,enc t] [] (.tup [msA m 32,enc (-1:Int)]) [(32,.deep 1 3 24 none (fB m.buf))]:=by
    refine dD [32] D7.is110 (by simp) (by simp[bn]) (by simp[ap,ag]) (by simp[ap,ag,av]) (by simp[aC,lk]) (fun cx _ _ _=>dC [vP,wJ m h.b] 800 ?_);cases ha:ed m
    . delta D7.c110 oO oN oA oM oT oG oS oK oF oL oV oC oW oI oX oP oB oD oE oJ oZ o5 o7;simp (maxSteps:=9^7) -implicitDefEqProofs only[D7.rv110,eO,qD,hdm,vP,wJ,vX,msA,msC,ha,InR,WU,Ent.of1,V,W3,↓reduceIte,seval,reduceCtorEq]
    . have hI:=hi ha;simp only[InR]at hI;have hq:¬ m.since+n.limit<=t:=fun q=>hp (by simp[ju,ha,q])
      delta D7.c110 oO oN oA oM oT oG oS oK oF oL oV oC oW oI oX oP oB oD oE oJ oZ o5 o7;simp (maxSteps:=9^7) -implicitDefEqProofs only[D7.rv110,eO,qD,hdm,vP,wJ,vX,msA,msC,ha,hI,hq,InR,WU,Ent.of1,V,W3,↓reduceIte,seval,reduceCtorEq]
   exact FC.rekey key 25 rfl (xz m.buf)
theorem RevE_c (n:Nw) (e:T3) (h:NwS n):FC Tryz.prog 68 [enc n,enc e] [] (enc (evE n e)) []:=by
 have hdn:=je n;generalize hE:evE n e=E;unfold evE at hE;refine dD [] is68 (by simp) trivial trivial trivial trivial (fun cx _ hl _=>dC [vW,vZ] 800 ?_);have htk:gd e.y=decide (0<=e.y/\e.y<=1000000000):=rfl;rw[htk]at hE;unfold iz at hE;rcases Classical.propComplete (0<=e.x/\e.x<=11)with h1 | h1
 rotate_left
 . simp[h1]at hE;subst hE;delta c68 oO oN oA oM oG oS oK oF oL oV oC oI oX oH oB oE oJ o5 o7;simp (maxSteps:=9^7) -implicitDefEqProofs only[rv68,vW,eO,dV,h1,WU,Ent.of3,V,W3,↓reduceIte,seval,reduceCtorEq]
 rcases Classical.propComplete (0<=e.y/\e.y<=1000000000)with h2 | h2
 rotate_left
 . simp[h1,h2]at hE;subst hE;delta c68 oO oN oA oM oG oS oK oF oL oV oC oI oX oH oB oE oJ o5 o7;simp (maxSteps:=9^7) -implicitDefEqProofs only[rv68,vW,eO,dV,h1,h2,WU,Ent.of3,V,W3,↓reduceIte,seval,reduceCtorEq]
 have h34:((e.x=3)=True/\True)\/((e.x=3)=False/\(e.x=10)=True)\/((e.x=3)=False/\(e.x=10)=False):=by
  by_cases q:e.x=3
  . exact .inl ⟨eq_true q,trivial⟩
  . by_cases q2:e.x=10
    . exact .inr (.inl ⟨eq_false q,eq_true q2⟩)
    . exact .inr (.inr ⟨eq_false q,eq_false q2⟩)
 rcases h34 with⟨h3,h4⟩ | ⟨h3,h4⟩ | ⟨h3,h4⟩
 rotate_left 2
 . rcases Classical.propComplete (e.z=0)with h6 | h6
   all_goals
    simp[h1,h2,h3,h4,h6]at hE;subst hE;delta c68 oO oN oA oM oG oS oK oF oL oV oC oI oX oH oB oE oJ o5 o7;simp (maxSteps:=9^7) -implicitDefEqProofs only[rv68,vW,eO,dV,h1,h2,h3,h4,h6,not_true_eq_false,not_false_eq_true,WU,Ent.of3,V,W3,↓reduceIte,seval,reduceCtorEq]
 all_goals
  cases h5:isC n e.z
  all_goals
   simp[h1,h2,h3,h4,h5]at hE;subst hE;delta c68 oO oN oA oM oG oS oK oF oL oV oC oI oX oH oB oE oJ o5 o7;simp (maxSteps:=9^7) -implicitDefEqProofs only[rv68,vW,vZ,eO,dV,hdn,h,h1,h2,h3,h4,h5,not_true_eq_false,WU,Ent.of2,Ent.of3,V,W3,↓reduceIte,seval,reduceCtorEq]
def xR : Ent Tryz.prog:=.of2 68 (fun n _=>NwS n) (fun (n:Nw) (e:T3)=>enc (evE n e)) (fun _ _=>trivial) (fun n e h=>RevE_c n e h)
theorem Rways_c (m:Ms):FC Tryz.prog 167 [enc m] [] (.tup [enc (dU m),enc (toC m)]) []:=by
 unfold dU toC;refine dD [] is167 (by simp) trivial trivial trivial trivial (fun cx _ hl _=>dC [] 800 ?_);by_cases h1:m.phase=2
 . rw[if_pos h1,if_pos h1];delta c167 oO oN oM oT oQ oS oK oF oL oV oI oX oB o7;simp (maxSteps:=9^7) -implicitDefEqProofs only[rv167,qD,h1,WU,V,W3,↓reduceIte,seval,reduceCtorEq]
 . rw[if_neg h1,if_neg h1];delta c167 oO oN oM oT oQ oS oK oF oL oV oI oX oB o7;simp (maxSteps:=9^7) -implicitDefEqProofs only[rv167,qD,h1,WU,V,W3,↓reduceIte,seval,reduceCtorEq]
def wt : Ent Tryz.prog:=.of1 167 (fun _=>True) (fun m:Ms=>.tup [enc (dU m),enc (toC m)]) (fun _=>⟨trivial,trivial,trivial⟩) (fun m _=>Rways_c m)
def InB (m:Ms) (c:Int):Prop:=0<=c/\c.toNat < m.buf.length
theorem wZ (m:Ms) (c:Int) (h:c.toNat < m.buf.length):List.getD (m.buf.map Dat.cells) c.toNat [C.sl 0 []]=[C.sl 1 ((dO m c).map Dat.cells)]:=by
 rw[zb,zh,ze h,dO,zb,ze h];rfl
theorem does_c (n:Nw) (m:Ms) (e:T3) (hn:NwS n) (h:MsS m) (hk:0<=e.x/\e.x<=11) (hs:InB m m.serving) (hf:m.phase=2\/(m.phase=0/\m.source≠-1)->InB m (dU m)):FC Tryz.prog 152 [enc n,enc m,enc e] [] (enc (et n m e)) []:=by
 have hdn:=je n;have hdm:=vV m;have hp1:=h.b.l;have hp2:fc m.buf<=1000000000:=by rw[mK];have:=h.f;omega
 have hp3:=rZ m.buf;generalize hE:et n m e=E;unfold et at hE;obtain⟨ex,ey,ezw⟩:=e;simp only at hk hE;refine dD [] D7.is152 (by simp) trivial trivial trivial trivial (fun cx _ hl _=>dC [] 1200 ?_);have k:ex=0\/ex=1\/ex=2\/ex=3\/ex=4\/ex=5\/ex=6\/ex=7\/ex=8\/ex=9\/ex=10\/ex=11:=by omega
 rcases k with rfl | rfl | rfl | rfl | rfl | rfl | rfl | rfl | rfl | rfl | rfl | rfl <;> simp only[Int.reduceEq,if_true,if_false]at hE
 ·
  delta D7.c152 oO oN oM oR oS oK oF oL oV oI oX oB o7;simp (maxSteps:=9^7) -implicitDefEqProofs only[D7.rv152,eO,qD,dV,InR,WU,V,W3,↓reduceIte,seval,reduceCtorEq];refine iJ (dC [wI] 800 ?_);have hc:((60<=fc m.buf)=True/\True)\/((60<=fc m.buf)=False/\(1000000<=m.fresh)=True)\/((60<=fc m.buf)=False/\(1000000<=m.fresh)=False):=by
   rcases Classical.propComplete (60<=fc m.buf)with h1 | h1 <;> rcases Classical.propComplete (1000000<=m.fresh)with h2 | h2 <;> simp only[h1,h2] <;> simp
  rcases hc with⟨h1,h2⟩ | ⟨h1,h2⟩ | ⟨h1,h2⟩
  all_goals
   simp[h1,h2]at hE;subst hE;delta D7.c152k1 oO oN oM oG oV oC oI oX oH oB oE oJ o5;simp (maxSteps:=9^7) -implicitDefEqProofs only[D7.rv152,wI,eO,qD,dV,hdm,hp1,hp2,h1,h2,not_true_eq_false,WU,Ent.of1,V,W3,↓reduceIte,seval,reduceCtorEq]
 ·
  delta D7.c152 oO oN oM oR oS oK oF oL oV oI oX oB o7;simp (maxSteps:=9^7) -implicitDefEqProofs only[D7.rv152,eO,qD,dV,InR,WU,V,W3,↓reduceIte,seval,reduceCtorEq];refine iJ (dC [vP] 800 ?_);cases h1:ed m
  rotate_left
  . simp[h1]at hE;subst hE;delta D7.c152k2 oO oN oA oM oT oQ oS oK oF oL oV oC oI oX oB o0 o1 o4 o5;simp (maxSteps:=9^7) -implicitDefEqProofs only[D7.rv152,vP,eO,qD,dV,hdm,h1,WU,Ent.of1,V,W3,↓reduceIte,seval,reduceCtorEq]
  obtain⟨s0,s2⟩:=hs;have s3:m.serving < (m.buf.length:Int):=by omega
  have hg:=wZ m m.serving s2;cases hb:dO m m.serving with
  | nil=>
   simp[h1,hb]at hE;subst hE;rw[hb]at hg;delta D7.c152k2 oO oN oA oM oT oQ oS oK oF oL oV oC oI oX oB o0 o1 o4 o5;simp (maxSteps:=9^7) -implicitDefEqProofs only[D7.rv152,vP,eO,qD,dV,hdm,h1,s0,s2,s3,hg,zR,InR,WU,Ent.of1,V,W3,↓reduceIte,seval,reduceCtorEq]
  | cons x l=>
   rw[hb]at hg hE;have hl0:¬ ((l.length:Int)+1=0):=by omega
   have hl1:(0:Int) < (l.length:Int)+1:=by omega
   rcases Classical.propComplete (m.got < x)with h2 | h2
   all_goals
    simp[h1,h2]at hE;subst hE;delta D7.c152k2 oO oN oA oM oT oQ oS oK oF oL oV oC oI oX oB o0 o1 o4 o5;simp (maxSteps:=9^7) -implicitDefEqProofs only[D7.rv152,vP,eO,qD,dV,hdm,h1,h2,s0,s2,s3,hg,hl0,hl1,zt,zQ,yM,zy,InR,not_true_eq_false,not_false_eq_true,WU,Ent.of1,V,W3,↓reduceIte,seval,reduceCtorEq]
 ·
  delta D7.c152 oO oN oM oR oS oK oF oL oV oI oX oB o7;simp (maxSteps:=9^7) -implicitDefEqProofs only[D7.rv152,eO,qD,dV,InR,WU,V,W3,↓reduceIte,seval,reduceCtorEq];refine iJ (dC [vP] 800 ?_);cases h1:ed m
  all_goals
   simp[h1]at hE;subst hE;delta D7.c152k3 oO oM oC oI oX o5;simp (maxSteps:=9^7) -implicitDefEqProofs only[D7.rv152,vP,eO,qD,dV,hdm,h1,WU,Ent.of1,V,W3,↓reduceIte,seval,reduceCtorEq]
 ·
  delta D7.c152 oO oN oM oR oS oK oF oL oV oI oX oB o7;simp (maxSteps:=9^7) -implicitDefEqProofs only[D7.rv152,eO,qD,dV,InR,WU,V,W3,↓reduceIte,seval,reduceCtorEq];refine iJ (dC [wc] 800 ?_);have hc:((m.phase=0)=False/\True/\True)\/((m.phase=0)=True/\(m.source=-1)=False/\True)\/((m.phase=0)=True/\(m.source=-1)=True/\nbr n ezw m.serving=true)\/((m.phase=0)=True/\(m.source=-1)=True/\nbr n ezw m.serving=false):=by
   rcases Classical.propComplete (m.phase=0)with h1 | h1 <;> rcases Classical.propComplete (m.source=-1)with h2 | h2 <;> cases h3:nbr n ezw m.serving <;> simp only[h1,h2] <;> simp
  rcases hc with⟨h1,h2,h3⟩ | ⟨h1,h2,h3⟩ | ⟨h1,h2,h3⟩ | ⟨h1,h2,h3⟩
  all_goals
   simp[h1,h2,h3]at hE;subst hE;delta D7.c152k4 oO oN oA oM oS oK oF oL oV oC oI oX oB o5;simp (maxSteps:=9^7) -implicitDefEqProofs only[D7.rv152,wc,eO,qD,dV,hdn,hn,h1,h2,h3,not_true_eq_false,not_false_eq_true,WU,Ent.of3,V,W3,↓reduceIte,seval,reduceCtorEq]
 ·
  delta D7.c152 oO oN oM oR oS oK oF oL oV oI oX oB o7;simp (maxSteps:=9^7) -implicitDefEqProofs only[D7.rv152,eO,qD,dV,InR,WU,V,W3,↓reduceIte,seval,reduceCtorEq];refine iJ (dC [] 800 ?_);rcases Classical.propComplete (m.phase=1)with h1 | h1
  all_goals
   simp[h1]at hE;subst hE;delta D7.c152k5 oN oM oF oL oI oX oB;simp (maxSteps:=9^7) -implicitDefEqProofs only[D7.rv152,eO,qD,dV,h1,not_true_eq_false,not_false_eq_true,WU,V,W3,↓reduceIte,seval,reduceCtorEq]
 ·
  delta D7.c152 oO oN oM oR oS oK oF oL oV oI oX oB o7;simp (maxSteps:=9^7) -implicitDefEqProofs only[D7.rv152,eO,qD,dV,InR,WU,V,W3,↓reduceIte,seval,reduceCtorEq];refine iJ (dC [] 800 ?_);rcases Classical.propComplete (m.phase=1)with h1 | h1
  all_goals
   simp[h1]at hE;subst hE;delta D7.c152k5 oN oM oF oL oI oX oB;simp (maxSteps:=9^7) -implicitDefEqProofs only[D7.rv152,eO,qD,dV,h1,not_true_eq_false,not_false_eq_true,WU,V,W3,↓reduceIte,seval,reduceCtorEq]
 ·
  delta D7.c152 oO oN oM oR oS oK oF oL oV oI oX oB o7;simp (maxSteps:=9^7) -implicitDefEqProofs only[D7.rv152,eO,qD,dV,InR,WU,V,W3,↓reduceIte,seval,reduceCtorEq];refine iJ (dC [] 800 ?_);rcases Classical.propComplete (m.phase=2)with h1 | h1
  all_goals
   simp[h1]at hE;subst hE;delta D7.c152k6 oN oM oF oL oI oX oB;simp (maxSteps:=9^7) -implicitDefEqProofs only[D7.rv152,eO,qD,dV,h1,not_true_eq_false,not_false_eq_true,WU,V,W3,↓reduceIte,seval,reduceCtorEq]
 ·
  delta D7.c152 oO oN oM oR oS oK oF oL oV oI oX oB o7;simp (maxSteps:=9^7) -implicitDefEqProofs only[D7.rv152,eO,qD,dV,InR,WU,V,W3,↓reduceIte,seval,reduceCtorEq];refine iJ (dC [wt] 800 ?_);by_cases hq:m.phase=2\/(m.phase=0/\m.source≠-1)
  . obtain⟨s0,s2⟩:=hf hq;have s3:dU m < (m.buf.length:Int):=by omega
    have hg:=wZ m (dU m) s2;have hq2:¬ (¬ m.phase=2/\(¬ m.phase=0\/m.source=-1)):=fun⟨q1,q2⟩=>by
     rcases hq with q | ⟨q3,q4⟩
     . exact q1 q
     . rcases q2 with q | q
       . exact q q3
       . exact q4 q
    rw[if_neg hq2]at hE;have hph:((m.phase=2)=True/\True/\True)\/((m.phase=2)=False/\(m.phase=0)=True/\(m.source=-1)=False):=by
     by_cases q:m.phase=2
     . exact .inl ⟨eq_true q,trivial,trivial⟩
     . rcases hq with q2 | ⟨q3,q4⟩
       . exact absurd q2 q
       . exact .inr ⟨eq_false q,eq_true q3,eq_false q4⟩
    cases hb:dO m (dU m)with
    | nil=>
     rw[hb]at hg hE;simp at hE;subst hE;rcases hph with⟨h1,h2,h3⟩ | ⟨h1,h2,h3⟩
     all_goals
      delta D7.c152k7 oO oN oA oM oG oS oK oF oL oV oC oI oX oP oB oD oE oJ o0 o4 o5 o8;simp (maxSteps:=9^7) -implicitDefEqProofs only[D7.rv152,wt,eO,qD,dV,hdm,h1,h2,h3,s0,s2,s3,hg,zR,InR,not_true_eq_false,not_false_eq_true,WU,Ent.of1,V,W3,↓reduceIte,seval,reduceCtorEq]
    | cons x l=>
     rw[hb]at hg hE;simp at hE;subst hE;have hl0:¬ ((l.length:Int)+1=0):=by omega
     rcases hph with⟨h1,h2,h3⟩ | ⟨h1,h2,h3⟩
     all_goals
      delta D7.c152k7 oO oN oA oM oG oS oK oF oL oV oC oI oX oP oB oD oE oJ o0 o4 o5 o8;simp (maxSteps:=9^7) -implicitDefEqProofs only[D7.rv152,wt,eO,qD,dV,hdm,h1,h2,h3,s0,s2,s3,hg,hl0,zt,zQ,yM,zy,InR,not_true_eq_false,not_false_eq_true,WU,Ent.of1,V,W3,↓reduceIte,seval,reduceCtorEq]
  . have hq2:¬ m.phase=2/\(¬ m.phase=0\/m.source=-1):=⟨fun q=>hq (.inl q),by
     by_cases q1:m.phase=0
     . exact .inr (Classical.byContradiction fun q2=>hq (.inr ⟨q1,q2⟩))
     . exact .inl q1⟩
    rw[if_pos hq2]at hE;subst hE;obtain⟨h1,h2⟩:=hq2;have h1':=eq_false h1;by_cases h3:m.phase=0
    . have h4:m.source=-1:=h2.resolve_left fun q=>q h3
      delta D7.c152k7 oO oN oA oM oG oS oK oF oL oV oC oI oX oP oB oD oE oJ o0 o4 o5 o8;simp (maxSteps:=9^7) -implicitDefEqProofs only[D7.rv152,wt,eO,qD,dV,hdm,h1',h3,h4,not_true_eq_false,not_false_eq_true,WU,Ent.of1,V,W3,↓reduceIte,seval,reduceCtorEq]
    . delta D7.c152k7 oO oN oA oM oG oS oK oF oL oV oC oI oX oP oB oD oE oJ o0 o4 o5 o8;simp (maxSteps:=9^7) -implicitDefEqProofs only[D7.rv152,wt,eO,qD,dV,hdm,h1',h3,not_true_eq_false,not_false_eq_true,WU,Ent.of1,V,W3,↓reduceIte,seval,reduceCtorEq]
 ·
  delta D7.c152 oO oN oM oR oS oK oF oL oV oI oX oB o7;simp (maxSteps:=9^7) -implicitDefEqProofs only[D7.rv152,eO,qD,dV,InR,WU,V,W3,↓reduceIte,seval,reduceCtorEq];refine iJ (dC [] 800 ?_);have hc:((m.source=-1)=True/\True/\True)\/((m.source=-1)=False/\(m.phase=3)=True/\True)\/((m.source=-1)=False/\(m.phase=3)=False/\(m.path=m.serving)=True)\/((m.source=-1)=False/\(m.phase=3)=False/\(m.path=m.serving)=False):=by
   rcases Classical.propComplete (m.source=-1)with h1 | h1 <;> rcases Classical.propComplete (m.phase=3)with h2 | h2 <;> rcases Classical.propComplete (m.path=m.serving)with h3 | h3 <;> simp only[h1,h2,h3] <;> simp
  rcases hc with⟨h1,h2,h3⟩ | ⟨h1,h2,h3⟩ | ⟨h1,h2,h3⟩ | ⟨h1,h2,h3⟩
  all_goals
   simp[h1,h2,h3]at hE;subst hE;delta D7.c152k8 oO oN oA oM oS oK oF oL oV oI oX oB;simp (maxSteps:=9^7) -implicitDefEqProofs only[D7.rv152,eO,qD,dV,h1,h2,h3,not_true_eq_false,not_false_eq_true,WU,V,W3,↓reduceIte,seval,reduceCtorEq]
 ·
  delta D7.c152 oO oN oM oR oS oK oF oL oV oI oX oB o7;simp (maxSteps:=9^7) -implicitDefEqProofs only[D7.rv152,eO,qD,dV,InR,WU,V,W3,↓reduceIte,seval,reduceCtorEq];refine iJ (dC [] 800 ?_);rcases Classical.propComplete (m.phase=3)with h1 | h1
  all_goals
   simp[h1]at hE;subst hE;delta D7.c152k9 oN oM oF oL oI oX oB;simp (maxSteps:=9^7) -implicitDefEqProofs only[D7.rv152,eO,qD,dV,h1,not_true_eq_false,not_false_eq_true,WU,V,W3,↓reduceIte,seval,reduceCtorEq]
 ·
  delta D7.c152 oO oN oM oR oS oK oF oL oV oI oX oB o7;simp (maxSteps:=9^7) -implicitDefEqProofs only[D7.rv152,eO,qD,dV,InR,WU,V,W3,↓reduceIte,seval,reduceCtorEq];refine iJ (dC [] 800 ?_);rcases Classical.propComplete (m.phase=3)with h1 | h1
  rotate_left
  . simp[h1]at hE;subst hE;delta D7.c152k10 oO oN oM oG oS oK oF oL oV oI oX oP oB oD oE oJ;simp (maxSteps:=9^7) -implicitDefEqProofs only[D7.rv152,eO,qD,dV,h1,not_true_eq_false,not_false_eq_true,WU,V,W3,↓reduceIte,seval,reduceCtorEq]
  have hc:((ezw=m.serving)=True/\True/\True)\/((ezw=m.serving)=False/\(m.target=-1)=False/\(ezw=m.target)=True)\/((ezw=m.serving)=False/\(m.target=-1)=True/\True)\/((ezw=m.serving)=False/\(m.target=-1)=False/\(ezw=m.target)=False):=by
   rcases Classical.propComplete (ezw=m.serving)with h1 | h1 <;> rcases Classical.propComplete (m.target=-1)with h2 | h2 <;> rcases Classical.propComplete (ezw=m.target)with h3 | h3 <;> simp only[h1,h2,h3] <;> simp
  have hd:((m.source=-1)=True/\True)\/((m.source=-1)=False/\(ezw=m.source)=True)\/((m.source=-1)=False/\(ezw=m.source)=False):=by
   rcases Classical.propComplete (m.source=-1)with h2 | h2 <;> rcases Classical.propComplete (ezw=m.source)with h3 | h3 <;> simp only[h2,h3] <;> simp
  rcases hc with⟨h2,h3,h4⟩ | ⟨h2,h3,h4⟩ | ⟨h2,h3,h4⟩ | ⟨h2,h3,h4⟩
  rotate_left 2
  all_goals
   first
    | (simp[h1,h2,h3,h4]at hE
       subst hE;delta D7.c152k10 oO oN oM oG oS oK oF oL oV oI oX oP oB oD oE oJ;simp (maxSteps:=9^7) -implicitDefEqProofs only[D7.rv152,eO,qD,dV,h1,h2,h3,h4,not_true_eq_false,not_false_eq_true,WU,V,W3,↓reduceIte,seval,reduceCtorEq]
       done)
    | (rcases hd with⟨h5,h6⟩ | ⟨h5,h6⟩ | ⟨h5,h6⟩
       all_goals
        simp[h1,h2,h3,h4,h5,h6]at hE;subst hE;delta D7.c152k10 oO oN oM oG oS oK oF oL oV oI oX oP oB oD oE oJ
        simp (maxSteps:=9^7) -implicitDefEqProofs only[D7.rv152,eO,qD,dV,h1,h2,h3,h4,h5,h6,not_true_eq_false,not_false_eq_true,WU,V,W3,↓reduceIte,seval,reduceCtorEq])
 ·
  subst hE;delta D7.c152 oO oN oM oR oS oK oF oL oV oI oX oB o7;simp (maxSteps:=9^7) -implicitDefEqProofs only[D7.rv152,eO,qD,dV,WU,V,W3,↓reduceIte,seval,reduceCtorEq]
abbrev dpC (m:Ms):Ch:=.deep 1 3 24 none (fB m.buf)
theorem AP (m:Ms) (h:m.source≠-1->InB m m.source):FC Tryz.prog 168 [enc m] [] (enc (settle m)) []:=by
 refine dD [] is168 (by simp) trivial trivial trivial trivial (fun cx _ _ _=>dC [] 800 ?_);by_cases h1:m.source=-1
 . have hs:settle m=m:=by unfold Go.Proofs.YtcbabnbiinkafaaGreatDoor.settle;rw[if_neg (by simp[fL,h1])]
   rw[hs];delta c168 oO oN oA oM oG oR oS oK oF oL oW oY oI oX oP oB oE oJ o0 oZ o5 o7;simp (maxSteps:=9^7) -implicitDefEqProofs only[xp,qD,h1,not_true_eq_false,WU,V,W3,↓reduceIte,seval,reduceCtorEq]
 . by_cases h2:m.path=m.serving
   . obtain⟨s0,s2⟩:=h h1;have s3:m.source < (m.buf.length:Int):=by omega
     have hg:=wZ m m.source s2;cases hq:dO m m.source with
     | nil=>
      have hs:settle m={ m with source:=-1 }:=by unfold Go.Proofs.YtcbabnbiinkafaaGreatDoor.settle;rw[if_pos (by simp[fL,h1,h2,hq])]
      rw[hs];rw[hq]at hg;delta c168 oO oN oA oM oG oR oS oK oF oL oW oY oI oX oP oB oE oJ o0 oZ o5 o7;simp (maxSteps:=9^7) -implicitDefEqProofs only[xp,qD,h1,h2,s0,s2,s3,hg,zR,InR,not_true_eq_false,not_false_eq_true,WU,V,W3,↓reduceIte,seval,reduceCtorEq]
     | cons x l=>
      have hs:settle m=m:=by unfold Go.Proofs.YtcbabnbiinkafaaGreatDoor.settle;rw[if_neg (by simp[fL,h1,h2,hq])]
      rw[hs];rw[hq]at hg;have hl0:¬ ((l.length:Int)+1=0):=by omega
      delta c168 oO oN oA oM oG oR oS oK oF oL oW oY oI oX oP oB oE oJ o0 oZ o5 o7;simp (maxSteps:=9^7) -implicitDefEqProofs only[xp,qD,h1,h2,s0,s2,s3,hg,hl0,zt,zQ,yM,zy,InR,not_true_eq_false,not_false_eq_true,WU,V,W3,↓reduceIte,seval,reduceCtorEq]
   . have hs:settle m=m:=by unfold Go.Proofs.YtcbabnbiinkafaaGreatDoor.settle;rw[if_neg (by simp[fL,h1,h2])]
     rw[hs];delta c168 oO oN oA oM oG oR oS oK oF oL oW oY oI oX oP oB oE oJ o0 oZ o5 o7;simp (maxSteps:=9^7) -implicitDefEqProofs only[xp,qD,h1,h2,not_true_eq_false,not_false_eq_true,WU,V,W3,↓reduceIte,seval,reduceCtorEq]
def vR : Ent Tryz.prog:=.of1 168 (fun m:Ms=>m.source≠-1->InB m m.source) (fun m=>enc (settle m)) (fun m=>by rw[qD];simp[dG,dG.keysIns]) (fun m h=>AP m h)
abbrev wi (m:Ms) (e:T3) (m1:Ms):Prop:=FC Tryz.prog 153 [msA m 100000,enc e] [(100000,dpC m)] (enc (settle m1)) []
theorem vS (b:List (List Int)):(fB b).map (fun es=>[C.sl 1 es])=b.map Dat.cells:=by rw[fB,zT];rfl
theorem Af {ch:Chs} {m:Ms} {k:Nat} (h:lk ch k=some (dpC m)):Lend ch (.agg (msC m k)) (enc m):=by
 have hx:bz (dpC m)=some (.sl 1 (m.buf.map Dat.cells)):=by rw[dpC,bz,vS]
 refine .agg rfl (fun j a b ha hb=>?_)
 match j,ha,hb with
 | 0,ha,hb=>cases ha;cases hb;exact .same _
 | 1,ha,hb=>cases ha;cases hb;exact .same _
 | 2,ha,hb=>cases ha;cases hb;exact .same _
 | 3,ha,hb=>cases ha;cases hb;exact .same _
 | 4,ha,hb=>cases ha;cases hb;exact .same _
 | 5,ha,hb=>cases ha;cases hb;exact .same _
 | 6,ha,hb=>cases ha;cases hb;exact .same _
 | 7,ha,hb=>cases ha;cases hb;exact .same _
 | 8,ha,hb=>cases ha;cases hb;exact .same _
 | 9,ha,hb=>cases ha;cases hb;exact .own h hx
theorem xv (l:List Int):∀ e∈l.map Dat.cells,∀ c∈e,∃ v,c=C.s v:=fun e he c hc=>by
 obtain⟨x,_,rfl⟩:=zu.1 he;exact⟨_,zg.1 hc⟩
theorem done_0 (m:Ms) (y z:Int) (hi:InB m m.path) (hg:InR .i64 (m.fresh+1)) (hb1:(dO m m.path).length<=1000000) (m1:Ms) (hm:m1={ m with buf:=m.buf.set m.path.toNat (dO m m.path++[m.fresh]),fresh:=m.fresh+1 }) (hs:m1.source≠-1->InB m1 m1.source):wi m ⟨0,y,z⟩ m1:=by
 have hdm1:=vV m1;have hs1:=eq_true hs;refine dD [] D7.is153 (by simp) (by simp[bn]) (by simp[ap,ag,av]) (by simp[ap,ag]) (by simp[aC]) (fun cx _ _ _=>dC [] 1500 ?_);obtain⟨hi0,hi2⟩:=hi;have hi3:m.path < (m.buf.length:Int):=by omega
 have hbg:=fu m.buf m.path.toNat;rw[show m.buf.getD m.path.toNat []=dO m m.path from rfl]at hbg;have hst:=jD m.buf m.path.toNat (dO m m.path++[m.fresh]);have hap:(dO m m.path).map Dat.cells++[[C.s (.int .i64 m.fresh)]]=(dO m m.path++[m.fresh]).map Dat.cells:=by rw[yg];rfl
 simp only[InR]at hg;delta D7.c153 oO oN oA oM oT oR oS oK oF oL oC oW oY oI oX oB o0 o1 oZ o7;simp (maxSteps:=9^7) -implicitDefEqProofs only[D7.rv153,msA,msC,dpC,dV,InR,WU,V,W3,↓reduceIte,seval,reduceCtorEq];refine mT [] 800 ?_;simp (maxSteps:=9^7) -implicitDefEqProofs only[drS,kX,robC,reC,fixS,eL,AOp.reads,ke,true_or,or_true,false_or,hi0,hi2,hi3,eo,hbg,hap,zy,InR,WU,V,W3,↓reduceIte,seval,reduceCtorEq];refine⟨by omega,dC [] 600 ?_⟩;simp (maxSteps:=9^7) -implicitDefEqProofs only[D7.rv153,hg,hst,msA,msC,dpC,InR,WU,V,W3,↓reduceIte,seval,reduceCtorEq];refine iJ (dC [vR] 600 ?_)
 try subst hm
 try simp only[ne_eq]at hdm1 hs1
 delta D7.c153k5 oO oC oW oX o5;simp (maxSteps:=9^7) -implicitDefEqProofs only[D7.rv153,vR,hdm1,hs1,qD,vS,InR,WU,Ent.of1,V,W3,↓reduceIte,seval,reduceCtorEq]
theorem done_1 (m:Ms) (y z:Int) (hi:InB m m.serving) (x:Int) (l:List Int) (hb:dO m m.serving=x :: l) (hg:InR .i64 (m.got+1)) (m1:Ms) (hm:m1=if x=m.got then { m with got:=m.got+1 } else m) (hs:m1.source≠-1->InB m1 m1.source):wi m ⟨1,y,z⟩ m1:=by
 have hdm1:=vV m1;have hs1:=eq_true hs;refine dD [] D7.is153 (by simp) (by simp[bn]) (by simp[ap,ag,av]) (by simp[ap,ag]) (by simp[aC]) (fun cx _ _ _=>dC [] 1500 ?_);obtain⟨hi0,hi2⟩:=hi;have hi3:m.serving < (m.buf.length:Int):=by omega
 have hbg:=fu m.buf m.serving.toNat;rw[show m.buf.getD m.serving.toNat []=x :: l from hb]at hbg;have hl1:(0:Int) < (l.length:Int)+1:=by omega
 simp only[InR]at hg;delta D7.c153 oO oN oA oM oT oR oS oK oF oL oC oW oY oI oX oB o0 o1 oZ o7;simp (maxSteps:=9^7) -implicitDefEqProofs only[D7.rv153,msA,msC,dpC,dV,InR,WU,V,W3,↓reduceIte,seval,reduceCtorEq];refine iJ (dC [] 600 ?_);by_cases hx:x=m.got
 . subst hx;rw[if_pos rfl]at hm;delta D7.c153k1 oO oN oA oT oR oQ oS oK oF oL oW oI oB o0 o1;simp (maxSteps:=9^7) -implicitDefEqProofs only[D7.rv153,hi0,hi2,hi3,hl1,hg,eo,hbg,zt,zQ,yM,zy,InR,WU,V,W3,↓reduceIte,seval,reduceCtorEq]
   try refine⟨by omega,?_⟩
   refine iJ (dC [vR] 600 ?_)
   try subst hm
   try simp only[ne_eq]at hdm1 hs1
   delta D7.c153k5 oO oC oW oX o5;simp (maxSteps:=9^7) -implicitDefEqProofs only[D7.rv153,vR,hdm1,hs1,qD,vS,InR,WU,Ent.of1,V,W3,↓reduceIte,seval,reduceCtorEq]
 . rw[if_neg hx]at hm;delta D7.c153k1 oO oN oA oT oR oQ oS oK oF oL oW oI oB o0 o1;simp (maxSteps:=9^7) -implicitDefEqProofs only[D7.rv153,hi0,hi2,hi3,hl1,hx,eo,hbg,zt,zQ,yM,zy,InR,WU,V,W3,↓reduceIte,seval,reduceCtorEq]
   try refine⟨by omega,?_⟩
   refine iJ (dC [vR] 600 ?_)
   try subst hm
   try simp only[ne_eq]at hdm1 hs1
   delta D7.c153k5 oO oC oW oX o5;simp (maxSteps:=9^7) -implicitDefEqProofs only[D7.rv153,vR,hdm1,hs1,qD,vS,InR,WU,Ent.of1,V,W3,↓reduceIte,seval,reduceCtorEq]
theorem done_8 (m:Ms) (y z:Int) (m1:Ms) (hm:m1={ m with path:=m.serving }) (hs:m1.source≠-1->InB m1 m1.source):wi m ⟨8,y,z⟩ m1:=by
 have hdm1:=vV m1;have hs1:=eq_true hs;refine dD [] D7.is153 (by simp) (by simp[bn]) (by simp[ap,ag,av]) (by simp[ap,ag]) (by simp[aC]) (fun cx _ _ _=>dC [] 1500 ?_);delta D7.c153 oO oN oA oM oT oR oS oK oF oL oC oW oY oI oX oB o0 o1 oZ o7;simp (maxSteps:=9^7) -implicitDefEqProofs only[D7.rv153,msA,msC,dpC,dV,InR,WU,V,W3,↓reduceIte,seval,reduceCtorEq];refine iJ (dC [vR] 600 ?_)
 try subst hm
 try simp only[ne_eq]at hdm1 hs1
 delta D7.c153k5 oO oC oW oX o5;simp (maxSteps:=9^7) -implicitDefEqProofs only[D7.rv153,vR,hdm1,hs1,qD,vS,InR,WU,Ent.of1,V,W3,↓reduceIte,seval,reduceCtorEq]
theorem done_9 (m:Ms) (y z:Int) (m1:Ms) (hm:m1={ m with since:=if m.phase=2 then m.since else y,phase:=3 }) (hs:m1.source≠-1->InB m1 m1.source):wi m ⟨9,y,z⟩ m1:=by
 have hdm1:=vV m1;have hs1:=eq_true hs;refine dD [] D7.is153 (by simp) (by simp[bn]) (by simp[ap,ag,av]) (by simp[ap,ag]) (by simp[aC]) (fun cx _ _ _=>dC [] 1500 ?_);delta D7.c153 oO oN oA oM oT oR oS oK oF oL oC oW oY oI oX oB o0 o1 oZ o7;simp (maxSteps:=9^7) -implicitDefEqProofs only[D7.rv153,msA,msC,dpC,dV,InR,WU,V,W3,↓reduceIte,seval,reduceCtorEq];refine iJ (dC [] 600 ?_);by_cases h2:m.phase=2
 all_goals
  simp only[h2,if_true,if_false]at hm;delta D7.c153k3 oO oN oR oS oK oF oL oW oY oI oX oB;simp (maxSteps:=9^7) -implicitDefEqProofs only[D7.rv153,h2,not_true_eq_false,not_false_eq_true,InR,WU,V,W3,↓reduceIte,seval,reduceCtorEq];refine iJ (dC [vR] 600 ?_)
  try subst hm
  try simp only[ne_eq]at hdm1 hs1
  delta D7.c153k5 oO oC oW oX o5;simp (maxSteps:=9^7) -implicitDefEqProofs only[D7.rv153,vR,hdm1,hs1,qD,vS,InR,WU,Ent.of1,V,W3,↓reduceIte,seval,reduceCtorEq]
theorem done_11 (m:Ms) (y z:Int) (hs:m.source≠-1->InB m m.source):wi m ⟨11,y,z⟩ m:=by
 have hdm1:=vV m;have hs1:=eq_true hs;refine dD [] D7.is153 (by simp) (by simp[bn]) (by simp[ap,ag,av]) (by simp[ap,ag]) (by simp[aC]) (fun cx _ _ _=>dC [] 1500 ?_);delta D7.c153 oO oN oA oM oT oR oS oK oF oL oC oW oY oI oX oB o0 o1 oZ o7;simp (maxSteps:=9^7) -implicitDefEqProofs only[D7.rv153,msA,msC,dpC,dV,InR,WU,V,W3,↓reduceIte,seval,reduceCtorEq];refine iJ (dC [vR] 600 ?_)
 try subst hm
 try simp only[ne_eq]at hdm1 hs1
 delta D7.c153k5 oO oC oW oX o5;simp (maxSteps:=9^7) -implicitDefEqProofs only[D7.rv153,vR,hdm1,hs1,qD,vS,InR,WU,Ent.of1,V,W3,↓reduceIte,seval,reduceCtorEq]
theorem done_10 (m:Ms) (y z:Int) (h:MsS m) (hz:InB m z):FC Tryz.prog 153 [msA m 100000,enc (⟨10,y,z⟩:T3)] [(100000,dpC m)] (enc (iB m z y)) []:=by
 refine dD [] D7.is153 (by simp) (by simp[bn]) (by simp[ap,ag,av]) (by simp[ap,ag]) (by simp[aC]) (fun cx _ _ _=>dC [] 1500 ?_);delta D7.c153 oO oN oA oM oT oR oS oK oF oL oC oW oY oI oX oB o0 o1 oZ o7;simp (maxSteps:=9^7) -implicitDefEqProofs only[D7.rv153,msA,msC,dpC,dV,InR,WU,V,W3,↓reduceIte,seval,reduceCtorEq];refine iJ (dC [] 600 ?_);delta D7.c153k4 oO oF oL oC oW oX o5;simp (maxSteps:=9^7) -implicitDefEqProofs only[D7.rv153,InR,WU,V,W3,↓reduceIte,seval,reduceCtorEq];refine og rfl (OpM.lend1 (wS m z y h hz) rfl ⟨Af rfl,.same _,.same _,trivial⟩ rfl (xz _)) (fun ef he=>?_);subst he;refine pV [] 800 ?_;simp (maxSteps:=9^7) -implicitDefEqProofs only[D7.rv153,msA,msC,qD,dpC,vS,ak,ak.renCs,rn,InR,WU,V,W3,↓reduceIte,seval,reduceCtorEq]
theorem done_2 (m:Ms) (y z:Int) (hi:InB m m.serving) (hb1:(dO m m.serving).length<=1000000) (m1:Ms) (hm:m1={ m with buf:=m.buf.set m.serving.toNat (frm (dO m m.serving) m.got) }) (hs:m1.source≠-1->InB m1 m1.source):wi m ⟨2,y,z⟩ m1:=by
 have hdm1:=vV m1;have hs1:=eq_true hs;refine dD [] D7.is153 (by simp) (by simp[bn]) (by simp[ap,ag,av]) (by simp[ap,ag]) (by simp[aC]) (fun cx _ _ _=>dC [] 1500 ?_);obtain⟨hi0,hi2⟩:=hi;have hi3:m.serving < (m.buf.length:Int):=by omega
 have hbg:=fu m.buf m.serving.toNat;rw[show m.buf.getD m.serving.toNat []=dO m m.serving from rfl]at hbg;have hst:=jD m.buf m.serving.toNat (frm (dO m m.serving) m.got);delta D7.c153 oO oN oA oM oT oR oS oK oF oL oC oW oY oI oX oB o0 o1 oZ o7;simp (maxSteps:=9^7) -implicitDefEqProofs only[D7.rv153,msA,msC,dpC,dV,InR,WU,V,W3,↓reduceIte,seval,reduceCtorEq];refine qk [wO (dO m m.serving) m.got hb1] 800 ?_;simp (maxSteps:=9^7) -implicitDefEqProofs only[gC,mFin2,lP,oq,ops2,jb,reM2,nQ,p8,p9,l6,finM,kd,gQ,hJ,fY,ff,fO,fO.fixBs,fM,ndE2,ap,ag,av,aU,aE,ke,eL,a6,bF,wO,vX,hi0,hi2,hi3,hbg,eo,InR,WU,V,W3,↓reduceIte,seval,reduceCtorEq];refine⟨rfl,⟨xv _,.inl trivial⟩,dC [] 600 ?_⟩;simp (maxSteps:=9^7) -implicitDefEqProofs only[D7.rv153,hst,WU,V,W3,↓reduceIte,seval,reduceCtorEq];refine iJ (dC [vR] 600 ?_);subst hm;simp only[ne_eq]at hdm1 hs1;delta D7.c153k5 oO oC oW oX o5;simp (maxSteps:=9^7) -implicitDefEqProofs only[D7.rv153,vR,hdm1,hs1,qD,vS,InR,WU,Ent.of1,V,W3,↓reduceIte,seval,reduceCtorEq]
theorem done_3 (m:Ms) (y z:Int) (m1:Ms) (hm:m1={ m with phase:=1,since:=y,target:=z }) (hs:m1.source≠-1->InB m1 m1.source):wi m ⟨3,y,z⟩ m1:=by
 have hdm1:=vV m1;have hs1:=eq_true hs;refine dD [] D7.is153 (by simp) (by simp[bn]) (by simp[ap,ag,av]) (by simp[ap,ag]) (by simp[aC]) (fun cx _ _ _=>dC [] 1500 ?_);delta D7.c153 oO oN oA oM oT oR oS oK oF oL oC oW oY oI oX oB o0 o1 oZ o7;simp (maxSteps:=9^7) -implicitDefEqProofs only[D7.rv153,msA,msC,dpC,dV,InR,WU,V,W3,↓reduceIte,seval,reduceCtorEq];refine kh [] 800 ?_;simp (maxSteps:=9^7) -implicitDefEqProofs only[drM,mFin,j6,kU,gR,reM,ie,gK,gB,ndE,ap,ag,av,aU,aE,WU,V,W3,↓reduceIte,seval,reduceCtorEq];refine dC [] 400 ?_;simp (maxSteps:=9^7) -implicitDefEqProofs only[D7.rv153,WU,V,W3,↓reduceIte,seval,reduceCtorEq];refine iJ (dC [vR] 600 ?_);subst hm;simp only[ne_eq]at hdm1 hs1;delta D7.c153k5 oO oC oW oX o5;simp (maxSteps:=9^7) -implicitDefEqProofs only[D7.rv153,vR,hdm1,hs1,qD,vS,InR,WU,Ent.of1,V,W3,↓reduceIte,seval,reduceCtorEq]
theorem done_4 (m:Ms) (y z:Int) (m1:Ms) (hm:m1={ m with phase:=0,since:=y,target:=-1 }) (hs:m1.source≠-1->InB m1 m1.source):wi m ⟨4,y,z⟩ m1:=by
 have hdm1:=vV m1;have hs1:=eq_true hs;refine dD [] D7.is153 (by simp) (by simp[bn]) (by simp[ap,ag,av]) (by simp[ap,ag]) (by simp[aC]) (fun cx _ _ _=>dC [] 1500 ?_);delta D7.c153 oO oN oA oM oT oR oS oK oF oL oC oW oY oI oX oB o0 o1 oZ o7;simp (maxSteps:=9^7) -implicitDefEqProofs only[D7.rv153,msA,msC,dpC,dV,InR,WU,V,W3,↓reduceIte,seval,reduceCtorEq];refine kh [] 800 ?_;simp (maxSteps:=9^7) -implicitDefEqProofs only[drM,mFin,j6,kU,gR,reM,ie,gK,gB,ndE,ap,ag,av,aU,aE,WU,V,W3,↓reduceIte,seval,reduceCtorEq];refine dC [] 400 ?_;simp (maxSteps:=9^7) -implicitDefEqProofs only[D7.rv153,WU,V,W3,↓reduceIte,seval,reduceCtorEq];refine iJ (dC [vR] 600 ?_);subst hm;simp only[ne_eq]at hdm1 hs1;delta D7.c153k5 oO oC oW oX o5;simp (maxSteps:=9^7) -implicitDefEqProofs only[D7.rv153,vR,hdm1,hs1,qD,vS,InR,WU,Ent.of1,V,W3,↓reduceIte,seval,reduceCtorEq]
end Go.Proofs.YtcbabnbiinkafaaGreatDoor
end
