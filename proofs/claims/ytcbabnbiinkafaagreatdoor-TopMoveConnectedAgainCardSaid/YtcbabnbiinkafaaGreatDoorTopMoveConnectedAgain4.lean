/- Part 4 of the proof of: TopMoveConnectedAgain returns true for every input and never panics: a phone that fails at any time is connected again within the limit, to its own cell or to the first one, its outage is as long, and what waited waits still; conditions: those of the given statement, that the package variables it lists hold what their initialisers lay. -/
import Derived.Test.YtcbabnbiinkafaaGreatDoorTopMoveConnectedAgain3
set_option linter.all false
section
open Go Go.Am
open Go.Am.Dat (cells)
namespace Go.Proofs.YtcbabnbiinkafaaGreatDoor
set_option maxHeartbeats 4000000
set_option maxRecDepth 100000
theorem xU {n:Nw} {m:Ms} (g:dN n m):wZ n m=0:=by
 have e1:=g.len;have e2:=g.phase;have e3:rgB m=true:=by
  have:=g.at_;have:=g.since;have:=g.fresh;have:=g.got;simp only[rgB,zm,decide_eq_true_eq];exact⟨⟨⟨by omega,by omega⟩,by omega⟩,by omega⟩
 have e4:msB n m=true:=by
  simp only[msB,zm,zV,decide_eq_true_eq];refine⟨⟨⟨g.srv,g.pth⟩,?_⟩,?_⟩
  . rcases Classical.em (m.target=-1)with q | q
    . exact .inl q
    . exact .inr (g.tgt q)
  . rcases Classical.em (m.source=-1)with q | q
    . exact .inl q
    . exact .inr (g.src q)
 have e5:fmB m=true:=by
  simp only[fmB,bsyB,yC,zm,zV,Bool.and_eq_false_iff,Bool.or_eq_false_iff,Bool.not_eq_false',decide_eq_true_eq,decide_eq_false_iff_not];refine⟨⟨⟨?_,?_⟩,?_⟩,?_⟩
  . rcases Classical.em (m.target=-1)with q | q
    . exact .inl q
    . exact .inr (g.f1 q)
  . rcases Classical.em (m.target=-1)with q | q
    . exact .inr (g.f2 q)
    . exact .inl q
  . rcases Classical.em (m.source=-1)with q | q
    . exact .inl q
    . obtain⟨r1,r2,r3⟩:=g.f3 q;exact .inr ⟨⟨r1,r2⟩,r3⟩
  . rcases Classical.em (m.path=m.serving)with q | q
    . exact .inl q
    . exact .inr (g.f4 q)
 have e6:clB n m=true:=by
  simp only[clB,zm,zV,decide_eq_true_eq];constructor
  . rcases Classical.em (m.target=-1)with q | q
    . exact .inl q
    . exact .inr (g.c1 q)
  . rcases Classical.em (m.source=-1)with q | q
    . exact .inl q
    . exact .inr (g.c2 q)
 have e7:stB n m=true:=by
  simp only[stB,yC,zm,Bool.and_eq_false_iff,Bool.not_eq_false',decide_eq_true_eq,decide_eq_false_iff_not,List.isEmpty_eq_false_iff];constructor
  . cases ha:ed m with
    | false=>exact .inl rfl
    | true=>have:=g.due ha;exact .inr (by omega)
  . rcases Classical.em (m.source=-1)with q | q
    . exact .inl (.inl q)
    . rcases Classical.em (m.path=m.serving)with r | r
      . exact .inr (g.busy q r)
      . exact .inl (.inr r)
 have e8w:=g.large;have e9w:pkL m.fresh [] m.buf=0:=(wS _ _).2 ⟨fun x hx=>⟨g.rng x hx,by simp⟩,g.asc,g.nd⟩;have e10:wz m=true:=xj.2 g.opn;have e11:wI m=true:=by
  have:=g.gap60;simp only[wI,zm,decide_eq_true_eq,wQ];exact⟨by omega,fun x q1 q2=>g.gap x q1 (by have:=g.got;omega)⟩
 unfold wZ pkE;rw[if_neg (by simp[e1]),if_neg (fun q=>q e2),if_neg (by simp[e3]),if_neg (by simp[e4]),if_neg (by simp[e5]),if_neg (by simp[e6]),if_neg (by simp[e7]),if_neg (by omega),if_neg (by simp[e9w]),if_neg (by simp[e10]),if_neg (by simp[e11])]
theorem y3 : ∀ (k:Nat) (l:List Int) (a:Int),l.Nodup->(∀ x∈l,a<=x/\x < a+k)->(l.length=k↔wn l k a=true)
 | 0,l,a,hn,h=>by
  have:l=[]:=by
   cases l with
   | nil=>rfl
   | cons x l=>have:=h x (by simp);omega
  subst this;simp[wn]
 | k+1,l,a,hn,h=>by
  rw[wQ];have hle:∀ (k:Nat) (l:List Int) (a:Int),l.Nodup->(∀ x∈l,a<=x/\x < a+k)->l.length<=k:=by
   intro k
   induction k with
   | zero=>
    intro l a _ h;cases l with
    | nil=>simp
    | cons x l=>have:=h x (by simp);omega
   | succ k ih=>
    intro l a hn h
    have h1:=ih (l.erase a) (a+1) (hn.erase a) (fun x hx=>by
     have hx2:=(hn.mem_erase_iff).1 hx;have:=h x hx2.2
     push_cast at this
     omega)
    have:l.length<=(l.erase a).length+1:=by
     rw[List.length_erase];split <;> omega
    omega
  have hE:∀ x∈l.erase a,a+1<=x/\x < a+1+k:=fun x hx=>by
   have hx2:=(hn.mem_erase_iff).1 hx;have:=h x hx2.2
   push_cast at this
   omega
  have ih:=y3 k (l.erase a) (a+1) (hn.erase a) hE;rw[wQ]at ih;have h1:=hle k (l.erase a) (a+1) (hn.erase a) hE;constructor
  . intro hl x q1 q2;have ha:a∈l:=by
     rcases Classical.em (a∈l)with q | q
     . exact q
     . rw[List.erase_of_not_mem q]at h1;omega
    rcases Int.lt_or_eq_of_le q1 with q | q
    . have h2:=List.length_erase_of_mem ha;exact List.mem_of_mem_erase (ih.1 (by omega) x (by omega) (by push_cast at q2;omega))
    . exact q ▸ ha
  . intro hx;have ha:a∈l:=hx a (Int.le_refl _) (by push_cast;omega);have h2:=List.length_erase_of_mem ha;have h3:=List.length_pos_of_mem ha;have:=ih.2 (fun x q1 q2=>(hn.mem_erase_iff).2 ⟨by omega,hx x (by omega) (by push_cast;omega)⟩);omega
def fmP (m:Ms):Bool:=if m.target≠-1/\m.phase=0 then false else if m.target=-1/\(m.phase=1\/m.phase=2)then false else if m.source≠-1/\((m.phase=1\/m.phase=2)\/m.target≠-1)then false else decide (m.path=m.serving\/m.path=m.source)
theorem Cj (n:Nw) (p:Ph):FC Tryz.prog 146 [.ptr 100000 0] (phX n p) (enc (fmP p.m)) (phX n p):=by
 refine dD [100001] is146 (by simp) (dP n p) (dE n p) (dE n p) (dI n p p) (fun cx _ hl _=>dC [] 1200 ?_);delta c146 oO oN oA oM oT oG oR oQ oS oK oF oL oI oX oP oH oB oD oE oJ o6 o9;simp (maxSteps:=9^7) -implicitDefEqProofs only[rv146,phX,phC,InR,not_true_eq_false,not_false_eq_true,WU,V,W3,↓reduceIte,seval,reduceCtorEq];unfold fmP;by_cases a:p.m.target=-1 <;> by_cases b0:p.m.phase=0 <;> by_cases b:p.m.phase=1 <;> by_cases b2:p.m.phase=2 <;> by_cases c:p.m.source=-1 <;> by_cases q:p.m.path=p.m.serving <;> by_cases r:p.m.path=p.m.source <;> simp[a,b,b2,b0,c,q,r] <;> omega
def vX (h:Int->Option Int) (c:Int):List Int->(Int->Option Int)
 |[]=>h
 | x :: l=>vX (upd h x c) c l
theorem xK (c x:Int):∀ (l:List Int) (h:Int->Option Int),vX h c (l++[x])=upd (vX h c l) x c
 |[],h=>rfl
 | y :: l,h=>xK c x l (upd h y c)
theorem wW (c:Int):∀ (l:List Int) (h:Int->Option Int) (z:Int),vX h c l z=if z∈l then some c else h z
 |[],h,z=>by simp[vX]
 | x :: l,h,z=>by
  rw[vX,wW c l];by_cases h1:z∈l
  . simp[h1]
  . by_cases h2:z=x
    . simp[h1,h2,upd]
    . simp[h1,h2,upd]
def v7 (bs:List (List Int)):Nat->(Int->Option Int)
 | 0=>fun _=>none
 | i+1=>vX (v7 bs i) (i:Int) (bs.getD i [])
theorem xO {α:Type} (d:α) {l:List α} {i:Nat} (h:i < l.length):l.take (i+1)=l.take i++[l.getD i d]:=by
 rw[yI h,zb,ze h];rfl
theorem xq {bs:List (List Int)} {i:Nat} (h:i < bs.length):(bs.take (i+1)).flatten=(bs.take i).flatten++bs.getD i []:=by
 rw[xO [] h,List.flatten_append,List.flatten_cons,List.flatten_nil,z4]
theorem xt {bs:List (List Int)}:∀ (i:Nat),i<=bs.length->∀ z,(v7 bs i z).isSome=decide (z∈(bs.take i).flatten)
 | 0,_,z=>by simp[v7]
 | i+1,h,z=>by
  rw[v7,wW,xq (by omega)];by_cases h1:z∈bs.getD i []
  . rw[if_pos h1];exact (decide_eq_true (List.mem_append_right _ h1)).symm
  . rw[if_neg h1,xt i (by omega) z];rw[decide_eq_decide,zW];exact⟨.inl,fun q=>q.resolve_right h1⟩
theorem Bi {bs:List (List Int)}:∀ (i:Nat) (z c:Int),v7 bs i z=some c->∃ k:Nat,k < i/\c=(k:Int)/\z∈bs.getD k []
 | 0,z,c,h=>by cases h
 | i+1,z,c,h=>by
  rw[v7,wW]at h;by_cases h1:z∈bs.getD i []
  . rw[if_pos h1]at h;cases h;exact⟨i,by omega,rfl,h1⟩
  . rw[if_neg h1]at h;obtain⟨k,q1,q2,q3⟩:=Bi i z c h;exact⟨k,by omega,q2,q3⟩
def wh (F:List Int) (g:Int) (left:Int->Bool):Nat:=F.countP fun x=>!left x && decide (g<=x)
theorem BJ {F:List Int} (hn:F.Nodup) {z:Int} (hz:z∈F) {left:Int->Bool} (hl:left z=true) (g:Int):wh F g (fun y=>left y && decide (y≠z))=wh F g left+if g<=z then 1 else 0:=by
 induction F with
 | nil=>cases hz
 | cons x F ih=>
  rw[zI]at hn;unfold wh;rw[List.countP_cons,List.countP_cons];rcases zl.1 hz with rfl | hz'
  . have e:F.countP (fun x=>!(left x && decide (x≠z)) && decide (g<=x))=F.countP (fun x=>!left x && decide (g<=x)):=by
     refine List.countP_congr fun x hx=>?_
     have:x≠z:=fun e=>hn.1 (e ▸ hx)
     simp[this]
    rw[e];simp[hl]
  . have hne:x≠z:=fun e=>hn.1 (e ▸ hz')
    have:=ih hn.2 hz';unfold wh at this;rw[this];simp only[hne,ne_eq,not_false_eq_true,decide_true,zZ];omega
theorem Ci (F:List Int) (g:Int) {left:Int->Bool} (h:∀ z,left z=false):wh F g left=(F.filter fun x=>decide (g<=x)).length:=by
 unfold wh;rw[<- List.countP_eq_length_filter];exact List.countP_congr fun x _=>by simp[h x]
theorem BI (F:List Int) (g:Int) {left:Int->Bool} (h:∀ z∈F,left z=true):wh F g left=0:=by
 unfold wh;rw[yk];intro x hx;simp[h x hx]
theorem cntG_le (F:List Int) (g:Int) (left:Int->Bool):wh F g left<=F.length:=List.countP_le_length
theorem xJ {F:List Int} {g:Int}:∀ (k:Nat) (a:Int),g<=a->wn (F.filter fun x=>decide (g<=x)) k a=wn F k a
 | 0,a,_=>rfl
 | k+1,a,h=>by
  rw[wn,wn,xJ k (a+1) (by omega)]
  congr 1
  rw[decide_eq_decide,yf];simp[h]
theorem BR {m:Ms} (hn:m.buf.flatten.Nodup) (hr:∀ x∈m.buf.flatten,0<=x/\x < m.fresh) (hg:0<=m.got/\m.got<=m.fresh) (hl:m.buf.flatten.length<=60) :
 (((m.buf.flatten.filter fun x=>decide (m.got<=x)).length:Int)=m.fresh - m.got)↔wI m=true:=by
 have hN:=hn.filter (fun x=>decide (m.got<=x))
 have h1:=y3 (m.fresh - m.got).toNat (m.buf.flatten.filter fun x=>decide (m.got<=x)) m.got hN (fun x hx=>by
  simp only[yf,decide_eq_true_eq]at hx;have:=hr x hx.1
  omega)
 rw[xJ _ _ (Int.le_refl _)]at h1;have hle:(m.buf.flatten.filter fun x=>decide (m.got<=x)).length<=m.buf.flatten.length:=List.length_filter_le _ _;unfold wI;rw[zm,decide_eq_true_eq,<- h1];constructor
 . intro q;omega
 . rintro⟨_,q⟩;omega
theorem yZ {f:Int} {seen:List Int} {p:Int} {l:List Int} {k:Nat} (h:k < l.length):we f seen p (l.drop k)=if ¬ (0<=l.getD k 0/\l.getD k 0 < f)then 2 else if l.getD k 0<=p then 9 else if l.getD k 0∈seen then 26 else we f seen (l.getD k 0) (l.drop (k+1)):=by
 rw[fJ 0 h,we]
theorem mapT : MapTy Tryz.prog 214 3 3 where
 ht:=by kernel_rfl
 hk:=by kernel_rfl
 he:=by kernel_rfl
 hz:=fun w=>by
  have h:(Tryz.prog.info? 3).map (fun i=>(i.zero,i.size,i.bytes))=some (some (.int .i64 0),1,8):=by kernel_rfl
  obtain⟨i,hi,hq⟩:=za.1 h;simp only[zf]at hq;simp[zeroValue,typeInfo,Sem.run,Sem.run_bind,hi,hq.1,Result.andThen]
theorem wG (xs:List Int) (i:Nat) (h:i < xs.length):List.getD (xs.map Dat.cells) i []=[C.s (.int .i64 (xs.getD i 0))]:=by
 rw[zb,zb,zh,ze h];rfl
theorem AJ {bs:List (List Int)} (hn:bs.flatten.Nodup) {i k:Nat} (hik:k≠i) {z:Int} (h1:z∈bs.getD i []):z∉bs.getD k []:=fun h2=>by
 have hlen:∀ j,z∈bs.getD j []->j < bs.length:=fun j h=>by
  rcases yu j bs.length with q | q
  . exact q
  . rw[zb,List.getElem?_eq_none q]at h;cases h
 have hs:=(fK bs i (hlen i h1)).nodup_iff.1 hn;rw[List.nodup_append]at hs;have hk:k < (bs.set i []).length:=by rw[List.length_set];exact hlen k h2
 refine hs.2.2 z h1 z ?_ rfl;refine (fK (bs.set i []) k hk).mem_iff.2 (List.mem_append_left _ ?_);rw[fi,if_neg (fun q=>hik q.1.symm)];exact h2
theorem xB {k n:Nat} (h:¬ k=0) (hk:k < n):(if (k:Int) - 1 > 0 then (k:Int) - 1 else 0)=((k - 1:Nat):Int)/\(0:Int)<=((k - 1:Nat):Int)/\((k - 1:Nat):Int) < (n:Int)/\k - 1 < n:=by omega
theorem AL (n:Nw) (p:Ph) (hf:0<=p.m.fresh/\p.m.fresh<=1000000) (hg:0<=p.m.got/\p.m.got<=p.m.fresh) (hl1:p.m.buf.length<=1000000) (hp:fc p.m.buf<=1000000000) (hI:∀ x∈p.m.buf.flatten,InR .i64 x):FC Tryz.prog 150 [.ptr 100000 0] (phX n p) (enc (pkE p.m)) (phX n p):=by
 generalize hE:pkE p.m=E;refine dD [100001] is150 (by simp) (dP n p) (dE n p) (dE n p) (dI n p p) (fun cx _ hl _=>dC [ly n p hl1 hp] 800 ?_);unfold pkE at hE;have hpk:=mK p.m.buf;by_cases h60:60 < p.m.buf.flatten.length
 . rw[if_pos h60]at hE;subst hE;have h60':(60:Int) < fc p.m.buf:=by omega
   delta c150 oO oN oA oM oT oQ oS oK oF oL oV oC oI oX oB o4 o6;simp (maxSteps:=9^7) -implicitDefEqProofs only[vW,phX,phC,ly,ei,h60',WU,V,W3,↓reduceIte,seval,reduceCtorEq]
 have h60':¬ (60:Int) < fc p.m.buf:=by omega
 rw[if_neg h60]at hE;delta c150 oO oN oA oM oT oQ oS oK oF oL oV oC oI oX oB o4 o6;simp (maxSteps:=9^7) -implicitDefEqProofs only[vW,phX,phC,ly,ei,h60',not_true_eq_false,WU,V,W3,↓reduceIte,seval,reduceCtorEq];refine og rfl (OpM.mapNew (k:=3) (e:=3)) (fun ef he=>?_);obtain⟨mb,rfl⟩:=he;refine pV [] 800 ?_;simp (maxSteps:=9^7) -implicitDefEqProofs only[phX,phC,eo,InR,WU,V,W3,↓reduceIte,seval,reduceCtorEq];refine fI p.m.buf.length (fun i=>[(24,.s (.int .i64 (i:Int)))]) (fun i=>[(17,.res (wR Tryz.prog 3 3 mb (p.m.buf.take i).flatten.length (v7 p.m.buf i)))]) (fun i=>pkL p.m.fresh [] p.m.buf=pkL p.m.fresh (p.m.buf.take i).flatten (p.m.buf.drop i)) rfl ?_ (fun i hi hv=>dC [] 800 ?_)
 . simp (maxSteps:=9^7) -implicitDefEqProofs only[V,W3,↓reduceIte,seval,reduceCtorEq]
   all_goals rfl
 . by_cases h:i < p.m.buf.length
   . have hi2:(i:Int) < (p.m.buf.length:Int):=by omega
     have hi0:(0:Int)<=i:=by omega
     have hgb:=fu p.m.buf i;have hsm:=xt (bs:=p.m.buf) i (by omega);have hfs:=xq h;have hN:(p.m.buf.take i).flatten.length+(p.m.buf.getD i []).length<=60:=by
      have:=xm p.m.buf i h;omega
     rw[fJ [] h,pkL]at hv;have hhs:v7 p.m.buf (i+1)=vX (v7 p.m.buf i) (i:Int) (p.m.buf.getD i []):=rfl;rw[<- hfs]at hv
     have hIl:∀ x∈p.m.buf.getD i [],InR .i64 x:=fun x hx=>hI x (by
      have:=(fK p.m.buf i h).mem_iff (a:=x)
      exact this.2 (List.mem_append_left _ hx))
     generalize p.m.buf.getD i []=l at *;delta Ay oO oN oA oM oR oS oK oL oV oX oB o0 o4;simp (maxSteps:=9^7) -implicitDefEqProofs only[hi0,hi2,h,hgb,eo,zy,InR,WU,V,W3,↓reduceIte,seval,reduceCtorEq];generalize hS:(p.m.buf.take i).flatten=seen at *;refine fI l.length (fun k=>[(31,.s (.int .i64 (k:Int)))]) (fun k=>[(17,.res (wR Tryz.prog 3 3 mb (seen.length+k) (vX (v7 p.m.buf i) (i:Int) (l.take k))))]) (fun k=>we p.m.fresh seen (-1) l=we p.m.fresh seen (if k=0 then -1 else l.getD (k - 1) 0) (l.drop k)/\∀ x∈l.take k,x<=(if k=0 then -1 else l.getD (k - 1) 0)) ⟨rfl,fun x hx=>by simp at hx⟩ ?_ (fun k hk hw=>dC [gj,eg,ee] 800 ?_)
     . simp (maxSteps:=9^7) -implicitDefEqProofs only[V,W3,↓reduceIte,seval,reduceCtorEq]
       all_goals rfl
     . obtain⟨hw1,hw2⟩:=hw;by_cases hkl:k < l.length
       . have hk2:(k:Int) < (l.length:Int):=by omega
         have hk0:(0:Int)<=k:=by omega
         have hge:l.getD k 0=l[k]:=by rw[zb,ze hkl];rfl
         have hIu:=hIl _ (yy hkl);have htk:=xO 0 hkl;rw[yZ hkl]at hw1;rw[<- hge]at hIu;obtain⟨u,hu⟩:∃ u,l.getD k 0=u:=⟨_,rfl⟩;rw[hu]at hw1 hIu htk;have hgl:List.getD (l.map Dat.cells) k []=[C.s (.int .i64 u)]:=by rw[wG l k hkl,hu]
         have hkn:(vX (v7 p.m.buf i) (i:Int) (l.take k) u).isSome=decide (u∈seen\/u∈l.take k):=by
          rw[wW];by_cases q:u∈l.take k
          . simp[q]
          . rw[if_neg q,hsm];simp[q]
         delta Ax oO oN oA oM oG oR oS oK oF oL oC oI oX oH oB oD oJ o1 o6 o8;simp (maxSteps:=9^7) -implicitDefEqProofs only[vW,hgb,eo,h,hi0,hi2,hk0,hk2,hkl,hgl,zy,yc,InR,WU,V,W3,↓reduceIte,seval,reduceCtorEq];refine og (outs:=?qo1) rfl ?qa1 ?qb1
         case qa1=>
          refine OpM.mapGet (b:=mb) (n:=seen.length+k) (kr:=17) (q:=u) (m:=vX (v7 p.m.buf i) (i:Int) (l.take k)) mapT ?_ ?_ hIu ?_ <;> rfl
         intro ef he;subst he;refine pV [gj,eg,ee] 800 ?_;by_cases hr:0<=u/\u < p.m.fresh
         rotate_left
         . rw[if_pos hr]at hw1;rw[hw1,if_pos (by decide)]at hv;rw[hv,if_pos (by decide)]at hE;subst hE;have hwi:=eq_false (show ¬ (0<=u/\u<=p.m.fresh - 1) by omega);by_cases hk00:k=0
           . have hkI:=eq_true (show (k:Int)=0 by omega);simp (maxSteps:=9^7) -implicitDefEqProofs only[vW,gj,eg,ee,dS,phX,phC,hkn,hwi,hkI,hgb,eo,h,hi0,hi2,hk0,hk2,hkl,hgl,zy,yc,InR,not_true_eq_false,not_false_eq_true,WU,Ent.of1,Ent.of2,Ent.of3,V,W3,↓reduceIte,seval,reduceCtorEq];omega
           . have hkI:=eq_false (show ¬ (k:Int)=0 by omega);obtain⟨hmx,hmx0,hmx1,hmx2⟩:=xB hk00 hkl;have hgl1:=wG l (k - 1) hmx2;simp (maxSteps:=9^7) -implicitDefEqProofs only[vW,gj,eg,ee,dS,phX,phC,hkn,hwi,hkI,hgb,eo,h,hi0,hi2,hk0,hk2,hkl,hgl,zy,yc,hmx,hmx0,hmx1,hmx2,hgl1,InR,not_true_eq_false,not_false_eq_true,WU,Ent.of1,Ent.of2,Ent.of3,V,W3,↓reduceIte,seval,reduceCtorEq];exact⟨by omega,by omega⟩
         . rw[if_neg (fun q=>q hr)]at hw1;have hwi:=eq_true (show (0<=u/\u<=p.m.fresh - 1) by omega);by_cases ho:u<=(if k=0 then -1 else l.getD (k - 1) 0)
           . have hk00:¬ k=0:=fun q=>by
              rw[if_pos q]at ho;omega
             rw[if_pos ho]at hw1;rw[hw1,if_pos (by decide)]at hv;rw[hv,if_pos (by decide)]at hE;subst hE;rw[if_neg hk00]at ho;have hgt:=eq_false (show ¬ l.getD (k - 1) 0 < u by omega);have hkI:=eq_false (show ¬ (k:Int)=0 by omega);obtain⟨hmx,hmx0,hmx1,hmx2⟩:=xB hk00 hkl;have hgl1:=wG l (k - 1) hmx2;simp (maxSteps:=9^7) -implicitDefEqProofs only[vW,gj,eg,ee,dS,phX,phC,hkn,hwi,hkI,hgt,hgb,eo,h,hi0,hi2,hk0,hk2,hkl,hgl,zy,yc,hmx,hmx0,hmx1,hmx2,hgl1,InR,not_true_eq_false,not_false_eq_true,WU,Ent.of1,Ent.of2,Ent.of3,V,W3,↓reduceIte,seval,reduceCtorEq];exact⟨by omega,by omega⟩
           . rw[if_neg ho]at hw1;have hnt:u∉l.take k:=fun q=>ho (hw2 u q)
             have hkn2:(vX (v7 p.m.buf i) (i:Int) (l.take k) u).isSome=decide (u∈seen):=by rw[hkn];simp[hnt]
             clear hkn;have hps:upd (vX (v7 p.m.buf i) (i:Int) (l.take k)) u (i:Int)=vX (v7 p.m.buf i) (i:Int) (l.take (k+1)):=by rw[htk,xK]
             have hk1:¬ k+1=0:=by omega
             have hiI:InR .i64 (i:Int):=by simp only[InR];omega
             have hord:k=0\/(¬ k=0/\l.getD (k - 1) 0 < u):=by
              by_cases q:k=0
              . exact .inl q
              . rw[if_neg q]at ho;exact .inr ⟨q,by omega⟩
             by_cases hsn:u∈seen
             . rw[if_pos hsn]at hw1;rw[hw1,if_pos (by decide)]at hv;rw[hv,if_pos (by decide)]at hE;subst hE;have hkn:=hkn2.trans (decide_eq_true hsn);rcases hord with hk00 | ⟨hk00,hgt⟩
               . have hkI:=eq_true (show (k:Int)=0 by omega);simp (maxSteps:=9^7) -implicitDefEqProofs only[vW,gj,eg,ee,dS,phX,phC,hkn,hwi,hkI,hgb,eo,h,hi0,hi2,hk0,hk2,hkl,hgl,zy,yc,InR,not_true_eq_false,not_false_eq_true,WU,Ent.of1,Ent.of2,Ent.of3,V,W3,↓reduceIte,seval,reduceCtorEq];omega
               . have hgt:=eq_true hgt;have hkI:=eq_false (show ¬ (k:Int)=0 by omega);obtain⟨hmx,hmx0,hmx1,hmx2⟩:=xB hk00 hkl;have hgl1:=wG l (k - 1) hmx2;simp (maxSteps:=9^7) -implicitDefEqProofs only[vW,gj,eg,ee,dS,phX,phC,hkn,hwi,hkI,hgt,hgb,eo,h,hi0,hi2,hk0,hk2,hkl,hgl,zy,yc,hmx,hmx0,hmx1,hmx2,hgl1,InR,not_true_eq_false,not_false_eq_true,WU,Ent.of1,Ent.of2,Ent.of3,V,W3,↓reduceIte,seval,reduceCtorEq];exact⟨by omega,by omega⟩
             . rw[if_neg hsn]at hw1;have hkn:=hkn2.trans (decide_eq_false hsn);have hnx:∀ x∈l.take (k+1),x<=u:=fun x hx=>by
                rw[htk,zW,zg]at hx;rcases hx with hx | rfl
                . have:=hw2 x hx;omega
                . exact Int.le_refl _
               rcases hord with hk00 | ⟨hk00,hgt⟩
               . have hkI:=eq_true (show (k:Int)=0 by omega);simp (maxSteps:=9^7) -implicitDefEqProofs only[vW,gj,eg,ee,dS,phX,phC,hkn,hwi,hkI,hgb,eo,h,hi0,hi2,hk0,hk2,hkl,hgl,zy,yc,InR,not_true_eq_false,not_false_eq_true,WU,Ent.of1,Ent.of2,Ent.of3,V,W3,↓reduceIte,seval,reduceCtorEq];refine⟨by omega,?_⟩;refine og (outs:=?qo2) rfl ?qa2 ?qb2
                 case qa2=>
                  refine OpM.mapPut (b:=mb) (n:=seen.length+k) (kr:=17) (q:=u) (c:=(i:Int)) (m:=vX (v7 p.m.buf i) (i:Int) (l.take k)) mapT (by omega) ?_ ?_ ?_ hIu hiI ?_ <;> rfl
                 intro ef he;subst he;refine pV [] 800 ?_;simp (maxSteps:=9^7) -implicitDefEqProofs only[vW,wL,hps,hkl,hw1,hk1,hu,Nat.add_sub_cancel,InR,WU,V,W3,↓reduceIte,seval,reduceCtorEq];exact⟨by omega,hnx,by omega,rfl⟩
               . have hgt:=eq_true hgt;have hkI:=eq_false (show ¬ (k:Int)=0 by omega);obtain⟨hmx,hmx0,hmx1,hmx2⟩:=xB hk00 hkl;have hgl1:=wG l (k - 1) hmx2;simp (maxSteps:=9^7) -implicitDefEqProofs only[vW,gj,eg,ee,dS,phX,phC,hkn,hwi,hkI,hgt,hgb,eo,h,hi0,hi2,hk0,hk2,hkl,hgl,zy,yc,hmx,hmx0,hmx1,hmx2,hgl1,InR,not_true_eq_false,not_false_eq_true,WU,Ent.of1,Ent.of2,Ent.of3,V,W3,↓reduceIte,seval,reduceCtorEq];refine⟨by omega,by omega,?_⟩;refine og (outs:=?qo3) rfl ?qa3 ?qb3
                 case qa3=>
                  refine OpM.mapPut (b:=mb) (n:=seen.length+k) (kr:=17) (q:=u) (c:=(i:Int)) (m:=vX (v7 p.m.buf i) (i:Int) (l.take k)) mapT (by omega) ?_ ?_ ?_ hIu hiI ?_ <;> rfl
                 intro ef he;subst he;refine pV [] 800 ?_;simp (maxSteps:=9^7) -implicitDefEqProofs only[vW,wL,hps,hkl,hw1,hk1,hu,Nat.add_sub_cancel,InR,WU,V,W3,↓reduceIte,seval,reduceCtorEq];exact⟨by omega,hnx,by omega,rfl⟩
       . have hke:k=l.length:=by omega
         subst hke;have hk2:¬ ((l.length:Nat):Int) < (l.length:Int):=by omega
         rw[zv (zw _),we]at hw1;rw[if_neg (by simp[hw1])]at hv;rw[hfs]at hv;delta Ax oO oN oA oM oG oR oS oK oF oL oC oI oX oH oB oD oJ o1 o6 o8;simp (maxSteps:=9^7) -implicitDefEqProofs only[vW,hk2,hhs,hfs,yo,zK,InR,not_true_eq_false,not_false_eq_true,WU,V,W3,↓reduceIte,seval,reduceCtorEq];exact⟨by omega,h,hv,by omega⟩
   . have hie:i=p.m.buf.length:=by omega
     subst hie;have hi2:¬ ((p.m.buf.length:Nat):Int) < (p.m.buf.length:Int):=by omega
     rw[zv (zw _),pkL]at hv;rw[if_neg (by simp[hv])]at hE;obtain⟨z1,z2,z3⟩:=(wS _ _).1 hv;have hho:=xt (bs:=p.m.buf) p.m.buf.length (zw _);rw[yo]at hho;have hha:=Bi (bs:=p.m.buf) p.m.buf.length;generalize hH:v7 p.m.buf p.m.buf.length=H at *;delta Ay oO oN oA oM oR oS oK oL oV oX oB o0 o4;simp (maxSteps:=9^7) -implicitDefEqProofs only[vW,hi2,yo,InR,not_true_eq_false,not_false_eq_true,WU,V,W3,↓reduceIte,seval,reduceCtorEq];refine og (outs:=?qo4) rfl ?qa4 ?qb4
     case qa4=>
      refine OpM.mapRange (b:=mb) (n:=p.m.buf.flatten.length) (kr:=17) (m:=H) mapT ?_ ?_ <;> rfl
     intro ef he;obtain⟨mrw,cnt,rfl⟩:=he;refine pV [] 800 ?_;simp (maxSteps:=9^7) -implicitDefEqProofs only[wL,InR,WU,V,W3,↓reduceIte,seval,reduceCtorEq];generalize hF:p.m.buf.flatten=F at *;have hF60:F.length<=60:=by omega
     have hok:∀ c:Int,∀ z,H z=some c->∃ k:Nat,c=(k:Int)/\z∈p.m.buf.getD k []:=fun c z q=>by
      obtain⟨k,_,q2,q3⟩:=hha z c q;exact⟨k,q2,q3⟩
     refine S_loopU (α:=(Int->Bool)×Nat) (fun v=>[(11,.s (.int .i64 (wh F p.m.got v.1:Nat)))]) (fun v=>[(17,.res (yN Tryz.prog 3 3 mb mrw F.length H v.1 v.2))])
      (fun v=>(∀ z,v.1 z=true->(H z).isSome=true)/\∀ z c,v.1 z=false->H z=some c->c=p.m.serving\/c=p.m.source\/(ed p.m=true/\c=p.m.target)) (fun v=>v.2) (fun x=>(H x).isSome,cnt)
      ⟨fun z q=>q,fun z c q1 q2=>(by have q1':(H z).isSome=false:=q1;rw[q2]at q1';cases q1')⟩ ?_ (fun v hv=>dC [eX n p] 800 ?_)
     . have h0:wh F p.m.got (fun x=>(H x).isSome)=0:=BI F _ fun z hz=>by rw[hho];exact decide_eq_true hz
       simp (maxSteps:=9^7) -implicitDefEqProofs only[h0,V,W3,↓reduceIte,seval,reduceCtorEq]
       all_goals rfl
     . obtain⟨lfw,ct⟩:=v;obtain⟨i1,i2⟩:=hv;simp only at i1 i2;delta BG oO oN oA oM oG oR oS oK oF oL oV oI oX oP oB oD oE oJ o6 o8;simp (maxSteps:=9^7) -implicitDefEqProofs only[vW,InR,WU,V,W3,↓reduceIte,seval,reduceCtorEq];refine og (outs:=?qo5) rfl ?qa5 ?qb5
       case qa5=>
        refine OpM.mapNextE (b:=mb) (r:=mrw) (n:=F.length) (kr:=17) (cnt:=ct) (m:=H) (left:=lfw) mapT ?_ ?_ <;> rfl
       intro ef he;rcases he with⟨rfl,hall⟩ | ⟨z,c,cnt',hz,hc,hlt,hzI,rfl⟩
       . refine pV [eg] 800 ?_;have hop:wz p.m=true:=xj.2 fun i hi=>by
          obtain⟨z,l,hzl⟩:∃ z l,p.m.buf.getD i []=z :: l:=by
           cases hb:p.m.buf.getD i []with
           | nil=>exact absurd hb hi
           | cons z l=>exact⟨z,l,rfl⟩
          have hiL:i < p.m.buf.length:=by
           rcases yu i p.m.buf.length with q | q
           . exact q
           . rw[zb,List.getElem?_eq_none q]at hi;exact absurd rfl hi
          have hzF:z∈F:=by
           rw[<- hF];refine (fK p.m.buf i hiL).mem_iff.2 (List.mem_append_left _ ?_);rw[hzl];simp
          have hsome:(H z).isSome=true:=by rw[hho];exact decide_eq_true hzF
          obtain⟨c,hc⟩:=Option.isSome_iff_exists.1 hsome;obtain⟨k,rfl,hk⟩:=hok c z hc;have hki:k=i:=by
           rcases yr k i with q | q | q
           . exact absurd hk (AJ (hF ▸ z3) (Nat.ne_of_lt q) (by rw[hzl];simp))
           . exact q
           . exact absurd hk (AJ (hF ▸ z3) (Nat.ne_of_gt q) (by rw[hzl];simp))
          rw[<- hki];exact i2 z k (hall z) hc
         rw[if_neg (by simp[hop])]at hE;have hgc:=BR (m:=p.m) (by rw[hF];exact z3) (fun x hx=>by rw[hF]at hx;exact (z1 x hx).1) hg (by rw[hF];exact hF60);rw[hF]at hgc;have hcn:wh F p.m.got lfw=(F.filter fun x=>decide (p.m.got<=x)).length:=Ci F _ hall;rw[<- hcn]at hgc;generalize wh F p.m.got lfw=CN at *;by_cases hgap:wI p.m=true
         . have hEq:=hgc.2 hgap;rw[if_neg (by simp[hgap])]at hE;subst hE;simp (maxSteps:=9^7) -implicitDefEqProofs only[vW,eg,phX,phC,hEq,InR,not_true_eq_false,not_false_eq_true,WU,Ent.of2,V,W3,↓reduceIte,seval,reduceCtorEq];omega
         . have hEq:((CN:Int)=p.m.fresh - p.m.got)=False:=eq_false fun q=>hgap (hgc.1 q)
           rw[if_pos (by simpa using hgap)]at hE;subst hE;simp (maxSteps:=9^7) -implicitDefEqProofs only[vW,eg,phX,phC,hEq,InR,not_true_eq_false,not_false_eq_true,WU,Ent.of2,V,W3,↓reduceIte,seval,reduceCtorEq];omega
       . refine pV [] 800 ?_;have hzF:z∈F:=by
          have:=hho z;rw[hc]at this;exact of_decide_eq_true this.symm
         have hcs:wh F p.m.got (fun y=>lfw y && decide (¬ y=z))=wh F p.m.got lfw+if p.m.got<=z then 1 else 0:=BJ z3 hzF hz p.m.got
         have hcl:=cntG_le F p.m.got lfw;simp (maxSteps:=9^7) -implicitDefEqProofs only[vW,wL,InR,not_true_eq_false,not_false_eq_true,WU,V,W3,↓reduceIte,seval,reduceCtorEq];refine og (outs:=?qo6) rfl ?qa6 ?qb6
         case qa6=>
          refine OpM.mapEntry (P:=Tryz.prog) (k:=3) (e:=3) (b:=mb) (r:=mrw) (n:=F.length) (kr:=17) (cnt:=cnt') (m:=H) (left:=fun y=>lfw y && decide (¬ y=z)) (z:=z) (c:=c) ?_ ?_ <;> rfl
         intro ef he;subst he;refine pV [eX n p] 800 ?_;have hbad:¬ (c=p.m.serving\/c=p.m.source\/(ed p.m=true/\c=p.m.target))->E=23:=fun q=>by
          rw[<- hE,if_pos];cases hb:wz p.m with
          | false=>rfl
          | true=>
           obtain⟨kk,rfl,hk⟩:=hok c z hc;exact absurd (xj.1 hb kk (fun e=>by rw[e]at hk;cases hk)) q
         have hnew:(c=p.m.serving\/c=p.m.source\/(ed p.m=true/\c=p.m.target))->∀ z' c',(lfw z' && decide (¬ z'=z))=false->H z'=some c'->c'=p.m.serving\/c'=p.m.source\/(ed p.m=true/\c'=p.m.target):=fun q z' c' h1 h2=>by
          by_cases e:z'=z
          . rw[e,hc]at h2;cases h2;exact q
          . refine i2 z' c' ?_ h2;simpa[e]using h1
         have hleft:∀ z',(lfw z' && decide (¬ z'=z))=true->(H z').isSome=true:=fun z' h1=>by
          rw[zm]at h1;exact i1 z' h1.1
         have hkey:((c=p.m.serving)=True/\True/\True/\True/\(c=p.m.serving\/c=p.m.source\/(ed p.m=true/\c=p.m.target)))\/((c=p.m.serving)=False/\(c=p.m.source)=True/\True/\True/\(c=p.m.serving\/c=p.m.source\/(ed p.m=true/\c=p.m.target)))\/((c=p.m.serving)=False/\(c=p.m.source)=False/\(c=p.m.target)=False/\True/\E=23)\/((c=p.m.serving)=False/\(c=p.m.source)=False/\(c=p.m.target)=True/\ed p.m=false/\E=23)\/((c=p.m.serving)=False/\(c=p.m.source)=False/\(c=p.m.target)=True/\ed p.m=true/\(c=p.m.serving\/c=p.m.source\/(ed p.m=true/\c=p.m.target))):=by
          by_cases q1:c=p.m.serving
          . exact .inl ⟨eq_true q1,trivial,trivial,trivial,.inl q1⟩
          . by_cases q2:c=p.m.source
            . exact .inr (.inl ⟨eq_false q1,eq_true q2,trivial,trivial,.inr (.inl q2)⟩)
            . by_cases q3:c=p.m.target
              . cases q4:ed p.m
                . exact .inr (.inr (.inr (.inl ⟨eq_false q1,eq_false q2,eq_true q3,rfl,hbad (fun q=>q.elim q1 fun q=>q.elim q2 fun q=>(by have q5:=q.1;rw[q4]at q5;cases q5))⟩)))
                . exact .inr (.inr (.inr (.inr ⟨eq_false q1,eq_false q2,eq_true q3,rfl,.inr (.inr ⟨rfl,q3⟩)⟩)))
              . exact .inr (.inr (.inl ⟨eq_false q1,eq_false q2,eq_false q3,trivial,hbad (fun q=>q.elim q1 fun q=>q.elim q2 fun q=>q3 q.2)⟩))
         clear hbad i1 i2;rcases hkey with⟨q1,q2,q3,q4,q5⟩ | ⟨q1,q2,q3,q4,q5⟩ | ⟨q1,q2,q3,q4,q5⟩ | ⟨q1,q2,q3,q4,q5⟩ | ⟨q1,q2,q3,q4,q5⟩
         all_goals
          by_cases hgz:p.m.got<=z
          all_goals
           have hgz':=hgz;simp only[hgz,if_true,if_false]at hcs;simp (maxSteps:=9^7) -implicitDefEqProofs only[vW,eX,ei,phX,phC,wL,q1,q2,q3,q4,hgz,InR,not_true_eq_false,not_false_eq_true,WU,V,W3,↓reduceIte,seval,reduceCtorEq];have hcz:((wh F p.m.got (fun y=>lfw y && decide (¬ y=z)):Nat):Int)=(wh F p.m.got lfw:Nat)+if p.m.got<=z then 1 else 0:=by
            rw[hcs];simp only[hgz,if_true,if_false];omega
           simp only[hgz,if_true,if_false]at hcz
           first
           | exact q5.symm
           | exact⟨by omega,(fun y=>lfw y && decide (¬ y=z),cnt'),⟨hleft,hnew q5⟩,hlt,hcz.symm,rfl⟩
           | exact⟨(fun y=>lfw y && decide (¬ y=z),cnt'),⟨hleft,hnew q5⟩,hlt,(by rw[hcz];omega),rfl⟩
           | exact⟨by omega,(fun y=>lfw y && decide (¬ y=z),cnt'),⟨hleft,fun z' c' h1 h2=>(hnew q5 z' c' h1 h2).imp id (Or.imp id And.right)⟩,hlt,hcz.symm,rfl⟩
           | exact⟨(fun y=>lfw y && decide (¬ y=z),cnt'),⟨hleft,fun z' c' h1 h2=>(hnew q5 z' c' h1 h2).imp id (Or.imp id And.right)⟩,hlt,(by rw[hcz];omega),rfl⟩
theorem Clone_o (l:List Int) (h:l.length<=1000000):FC Tryz.prog 143 [enc l] [] (.own 5) [(5,.row 1 3 (l.map Dat.cells))]:=by
 refine dD [5] E3.is143 (by simp) (by simp[bn]) (by simp[ap,ag]) (by simp[ap,ag,av]) (by simp[aC,lk]) (fun cx _ hl _=>dC [] 800 ?_);cases l with
 | nil=>
  delta E3.c143 oO oA oM oS oK oI oX o1;simp (maxSteps:=9^7) -implicitDefEqProofs only[E3.rv143,zR,InR,WU,V,W3,↓reduceIte,seval,reduceCtorEq];refine og rfl (OpM.isnilE (n:=1) rfl) (fun ef he=>?_);obtain⟨b,rfl⟩:=he;refine pV [] 800 ?_;cases b
  . simp (maxSteps:=9^7) -implicitDefEqProofs only[E3.rv143,zR,InR,WU,V,W3,↓reduceIte,seval,reduceCtorEq];refine iJ (dC [] 500 ?_);delta E3.c143k2;simp (maxSteps:=9^7) -implicitDefEqProofs only[E3.rv143,WU,V,W3,↓reduceIte,seval,reduceCtorEq]
  . simp (maxSteps:=9^7) -implicitDefEqProofs only[E3.rv143,zR,InR,WU,V,W3,↓reduceIte,seval,reduceCtorEq];refine mA (i:=2) (sz:=1) (ty:=3) (by decide) rfl ?_;refine S_ren [(2,5)] (by decide) (by simp[ap,ag,dm,af,ae,rn,av]) (by simp[ja,dm,af,ae]) ?_;refine iJ (dC [] 500 ?_);delta E3.c143k1;simp (maxSteps:=9^7) -implicitDefEqProofs only[E3.rv143,dm,renS,rn,WU,V,W3,↓reduceIte,seval,reduceCtorEq]
 | cons a tlw=>
  simp only[zQ]at h;delta E3.c143 oO oA oM oS oK oI oX o1;simp (maxSteps:=9^7) -implicitDefEqProofs only[E3.rv143,zt,zQ,InR,WU,V,W3,↓reduceIte,seval,reduceCtorEq];refine⟨?_,iJ (dC [] 500 ?_)⟩
  . omega
  delta E3.c143k2;simp (maxSteps:=9^7) -implicitDefEqProofs only[E3.rv143,zt,WU,V,W3,↓reduceIte,seval,reduceCtorEq]
def Bf (l:List Int) (h:l.length<=1000000):Ent Tryz.prog:=vY 143 [enc l] (.own 5) 5 (.row 1 3 (l.map Dat.cells)) (by simp[dG]) (by simp[ge]) (Clone_o l h)
def phO (n:Nw) (p:Ph):Chs:=[(100000,.box [.ptr 100001 0]),(100001,.box (phC n p 100002)),(100002,.deep 1 3 24 none (fB p.m.buf))]
theorem x8 (n:Nw) (p:Ph):ap (ag (phO n p)):=by simp[phO,ap,ag,av]
theorem Bm (n:Nw) (p:Ph):bn (phO n p):=by simp[phO,bn]
theorem y9 (n:Nw) (p q:Ph):aC (phO n p) (phO n q):=by simp[phO,aC,lk]
theorem open1_c (n:Nw) (p:Ph) (c:Int) (h:NwS n):FC Tryz.prog 144 [enc c,.ptr 100000 0] (phO n p) (enc (decide (c=-1) || isC n c)) (phO n p):=by
 refine dD [100002] is144 (by simp) (Bm n p) (x8 n p) (x8 n p) (y9 n p p) (fun cx _ hl _=>dC [AE n p c h] 800 ?_);by_cases hc:c=-1
 . delta c144 oO oN oM oG oX oH oB oD oJ o9;simp (maxSteps:=9^7) -implicitDefEqProofs only[rv144,phO,phX,phC,AE,ei,hc,yz,WU,V,W3,↓reduceIte,seval,reduceCtorEq]
 . delta c144 oO oN oM oG oX oH oB oD oJ o9;simp (maxSteps:=9^7) -implicitDefEqProofs only[rv144,phO,phX,phC,AE,ei,hc,zF,WU,V,W3,↓reduceIte,seval,reduceCtorEq]
theorem open2_c (n:Nw) (p:Ph) (c:Int):FC Tryz.prog 147 [enc c,.ptr 100000 0] (phO n p) (enc (decide (c=-1) || nbr n c p.m.serving)) (phO n p):=by
 refine dD [100002] is147 (by simp) (Bm n p) (x8 n p) (x8 n p) (y9 n p p) (fun cx _ hl _=>dC [ns n p c] 800 ?_);by_cases hc:c=-1
 . delta c147 oO oN oM oG oX oH oB oD oJ o9;simp (maxSteps:=9^7) -implicitDefEqProofs only[rv147,phO,phX,phC,ns,ei,hc,yz,WU,V,W3,↓reduceIte,seval,reduceCtorEq]
 . delta c147 oO oN oM oG oX oH oB oD oJ o9;simp (maxSteps:=9^7) -implicitDefEqProofs only[rv147,phO,phX,phC,ns,ei,hc,zF,WU,V,W3,↓reduceIte,seval,reduceCtorEq]
def xo (n:Nw) (p:Ph):Ent Tryz.prog:=ei 146 n p p [.ptr 100000 0] (enc (fmP p.m)) trivial (Cj n p)
def wN (n:Nw) (p:Ph) (hf:0<=p.m.fresh/\p.m.fresh<=1000000) (hg:0<=p.m.got/\p.m.got<=p.m.fresh) (hl1:p.m.buf.length<=1000000) (hp:fc p.m.buf<=1000000000) (hI:∀ x∈p.m.buf.flatten,InR .i64 x):Ent Tryz.prog:=ei 150 n p p [.ptr 100000 0] (enc (pkE p.m)) trivial (AL n p hf hg hl1 hp hI)
def wv (f:FuncId) (n:Nw) (p:Ph) (g:Int->C) (hr:∀ c,dG [100000,100001] (g c)) (h:∀ c:Int,FC Tryz.prog f [.ptr 100000 0,enc c] (phX n p) (g c) (phX n p)):Ent Tryz.prog:=.mk3 f (fun args chs=>match args with
 |[.ptr 100000 0,.s (.int .i64 c)]=>some (chs=phX n p,g c,phX n p,[])
 |_=>none) (by
 intro args chs pp r' chs' nk hs hp;split at hs
 . rename_i c;simp only[zn,zf]at hs;obtain⟨rfl,rfl,rfl,rfl⟩:=hs;subst hp;refine⟨h c,⟨fun k c hm=>.inr ⟨c,hm⟩,fun k cs hm=>⟨cs,hm⟩,hr c,fun k c hm=>?_⟩⟩;simp only[phX,zl,zA,or_false,zf]at hm;rcases hm with⟨rfl,rfl⟩ | ⟨rfl,rfl⟩
   . simp[ge,phC,phX,dG,dG.keysIns]
   . trivial
 . cases hs)
def wl (f:FuncId) (n:Nw) (p:Ph) (g:Int->C) (hr:∀ c,dG [100000,100001,100002] (g c)) (h:∀ c:Int,FC Tryz.prog f [enc c,.ptr 100000 0] (phO n p) (g c) (phO n p)):Ent Tryz.prog:=.mk3 f (fun args chs=>match args with
 |[.s (.int .i64 c),.ptr 100000 0]=>some (chs=phO n p,g c,phO n p,[])
 |_=>none) (by
 intro args chs pp r' chs' nk hs hp;split at hs
 . rename_i c;simp only[zn,zf]at hs;obtain⟨rfl,rfl,rfl,rfl⟩:=hs;subst hp;refine⟨h c,⟨fun k c hm=>.inr ⟨c,hm⟩,fun k cs hm=>⟨cs,hm⟩,hr c,fun k c hm=>?_⟩⟩;simp only[phO,zl,zA,or_false,zf]at hm;rcases hm with⟨rfl,rfl⟩ | ⟨rfl,rfl⟩ | ⟨rfl,rfl⟩
   . simp[ge,phO,dG,dG.keysIns]
   . simp[ge,phC,phO,dG,dG.keysIns]
   . trivial
 . cases hs)
def xf (n:Nw) (p:Ph) (h:NwS n):Ent Tryz.prog:=wv 145 n p (fun c=>enc (isC n c)) (fun _=>trivial) (fun c=>y6 n p c h)
def xe (n:Nw) (p:Ph) (h:NwS n):Ent Tryz.prog:=wl 144 n p (fun c=>enc (decide (c=-1) || isC n c)) (fun _=>trivial) (fun c=>open1_c n p c h)
def wx (n:Nw) (p:Ph):Ent Tryz.prog:=wl 147 n p (fun c=>enc (decide (c=-1) || nbr n c p.m.serving)) (fun _=>trivial) (fun c=>open2_c n p c)
structure MsB (m:Ms):Prop where
 l:m.buf.length<=1000000
 r:∀ x∈m.buf,x.length<=1000
 i:∀ x∈m.buf.flatten,InR .i64 x
def opE (n:Nw) (m:Ms):Int:=if (gP n).2≠0 then (gP n).2 else wZ n m
def opP (m:Ms):Ph:=⟨m,[],[⟨0,0,0⟩],-1,0⟩
def msD (m:Ms):List C:=[.s (.int .i64 m.at_),.s (.int .i64 m.phase),.s (.int .i64 m.since),.s (.int .i64 m.serving),.s (.int .i64 m.target),.s (.int .i64 m.source),.s (.int .i64 m.path),.s (.int .i64 m.fresh),.s (.int .i64 m.got),.sl 1 (m.buf.map Dat.cells)]
def chO (n:Nw) (m:Ms):Chs:=[(1030,.deep 1 3 24 none (fB m.buf)),(7,.box [.ptr 30 0]),(30,.box (phC n (opP m) 1030)),(3,.box (msD m)),(2,.box [.sl 1 (n.cells.map Dat.cells),.sl 2 (n.nb.map Dat.cells),.s (.int .i64 n.limit)])]
theorem fmP_eq {n:Nw} {m:Ms} (h:isC n m.path=true):fmP m=fmB m:=by
 simp only[isC,decide_eq_true_eq]at h;unfold fmP fmB bsyB;by_cases a:m.target=-1 <;> by_cases b0:m.phase=0 <;> by_cases b:m.phase=1 <;> by_cases b2:m.phase=2 <;> by_cases c:m.source=-1 <;> by_cases q:m.path=m.serving <;> by_cases r:m.path=m.source <;> simp[a,b,b2,b0,c,q,r] <;> omega
theorem bqT (b:Bool):(b == true)=b:=by cases b <;> rfl
theorem bqF (b:Bool):(b == false)=!b:=by cases b <;> rfl
theorem open_1 (n:Nw) (m:Ms) (hn:NwS n) (hm:MsB m) (cx:Cx) (E:Int) (r:C) (ch:Chs)
 (hE:(if ¬(0<=m.phase/\m.phase<=3)then 15 else if rgB m=false then 2 else if msB n m=false then 6 else if fmB m=false then 3 else if clB n m=false then 13 else if stB n m=false then 22 else pkE m)=E)
 (her:E≠0->r=.tup [.s (.pointer none),enc E]/\ch=[])
 (hgo:(0<=m.phase/\m.phase<=3)->rgB m=true->msB n m=true->fmB m=true->SG Tryz.prog cx (cz [RV.tmp 4,RV.tmp 5] [1030] r ch) [It.c E2.c113k2.cut] ⟨[(3,.ptr 3 0),(7,.ptr 7 0),(13,.fn (.func 147) [] [.ptr 7 0])],chO n m⟩) :
 SG Tryz.prog cx (cz [RV.tmp 4,RV.tmp 5] [1030] r ch) [It.c E2.c113k3.cut] ⟨[(3,.ptr 3 0),(7,.ptr 7 0),(10,.fn (.func 144) [] [.ptr 7 0]),(11,.s (.bool (rgB m)))],chO n m⟩:=by
 have hml:=hm.l;have hEn:dS [if (0<=m.phase/\m.phase<=3)then 0 else 15,if rgB m=true then 0 else 2,if msB n m=true then 0 else 6,if fmP m=true then 0 else 3]=0/\((0<=m.phase/\m.phase<=3)/\rgB m=true/\msB n m=true/\fmB m=true)\/(dS [if (0<=m.phase/\m.phase<=3)then 0 else 15,if rgB m=true then 0 else 2,if msB n m=true then 0 else 6,if fmP m=true then 0 else 3]=E/\E≠0):=by
  by_cases a1:(0<=m.phase/\m.phase<=3)
  . cases a2:rgB m
    . simp only[a1,a2]at hE;right;subst hE;simp[dS,a1]
    . cases a3:msB n m
      . simp only[a1,a2,a3]at hE;right;subst hE;simp[dS,a1]
      . have a4:fmP m=fmB m:=fmP_eq (n:=n) (by simp only[msB,zm]at a3;exact a3.1.1.2);rw[a4];cases a5:fmB m
        . simp only[a1,a2,a3,a5]at hE;right;subst hE;simp[dS,a1]
        . left;exact⟨by simp[dS,a1],a1,rfl,rfl,rfl⟩
  . simp only[a1]at hE;right;subst hE;simp[dS,a1]
 refine iJ (dC [] 500 ?_);delta E2.c113k3 oO oN oA oM oT oG oS oK oF oL oC oI oX oP oB oD oE oJ o1;simp (maxSteps:=9^7) -implicitDefEqProofs only[WU,V,W3,↓reduceIte,seval,reduceCtorEq];refine Ba [gj,eg,ee,xf n (opP m) hn,xe n (opP m) hn,xo n (opP m)] 800 ?_;have hc:(isC n m.serving=false/\msB n m=false)\/(isC n m.serving=true/\isC n m.path=false/\msB n m=false)\/(isC n m.serving=true/\isC n m.path=true/\(decide (m.target=-1) || isC n m.target)=false/\msB n m=false)\/(isC n m.serving=true/\isC n m.path=true/\(decide (m.target=-1) || isC n m.target)=true/\msB n m=(decide (m.source=-1) || isC n m.source)):=by
  unfold msB;cases isC n m.serving <;> cases isC n m.path <;> cases (decide (m.target=-1) || isC n m.target) <;> simp
 rcases hc with⟨g1,g4⟩ | ⟨g1,g2,g4⟩ | ⟨g1,g2,g3,g4⟩ | ⟨g1,g2,g3,g4⟩
 . simp (maxSteps:=9^7) -implicitDefEqProofs only[drR,wP,ww,stR,wJ,wK,wc,br,gK,fe,chO,phC,opP,msD,phX,phO,gj,eg,ee,xf,xe,xo,ei,wv,wl,g1,aE,ap,ag,av,aU,bqT,bqF,Bool.not_true,Bool.not_false,InR,WU,Ent.of1,Ent.of2,Ent.of3,V,W3,↓reduceIte,seval,reduceCtorEq];refine⟨rfl,dC [] 600 ?_⟩;simp (maxSteps:=9^7) -implicitDefEqProofs only[E2.rv113,WU,V,W3,↓reduceIte,seval,reduceCtorEq];rw[g4]at hEn;simp only[zr,if_false,false_and,and_false,false_or]at hEn;obtain⟨hF,h0⟩:=hEn;obtain⟨rfl,rfl⟩:=her h0;rw[hF,if_pos h0];simp (maxSteps:=9^7) -implicitDefEqProofs only[V,W3,↓reduceIte,seval,reduceCtorEq]
 . simp (maxSteps:=9^7) -implicitDefEqProofs only[drR,wP,ww,stR,wJ,wK,wc,br,gK,fe,chO,phC,opP,msD,phX,phO,gj,eg,ee,xf,xe,xo,ei,wv,wl,g1,g2,aE,ap,ag,av,aU,bqT,bqF,Bool.not_true,Bool.not_false,InR,WU,Ent.of1,Ent.of2,Ent.of3,V,W3,↓reduceIte,seval,reduceCtorEq];refine⟨rfl,dC [] 600 ?_⟩;simp (maxSteps:=9^7) -implicitDefEqProofs only[E2.rv113,WU,V,W3,↓reduceIte,seval,reduceCtorEq];rw[g4]at hEn;simp only[zr,if_false,false_and,and_false,false_or]at hEn;obtain⟨hF,h0⟩:=hEn;obtain⟨rfl,rfl⟩:=her h0;rw[hF,if_pos h0];simp (maxSteps:=9^7) -implicitDefEqProofs only[V,W3,↓reduceIte,seval,reduceCtorEq]
 . simp (maxSteps:=9^7) -implicitDefEqProofs only[drR,wP,ww,stR,wJ,wK,wc,br,gK,fe,chO,phC,opP,msD,phX,phO,gj,eg,ee,xf,xe,xo,ei,wv,wl,g1,g2,g3,aE,ap,ag,av,aU,bqT,bqF,Bool.not_true,Bool.not_false,InR,WU,Ent.of1,Ent.of2,Ent.of3,V,W3,↓reduceIte,seval,reduceCtorEq];refine⟨rfl,dC [] 600 ?_⟩;simp (maxSteps:=9^7) -implicitDefEqProofs only[E2.rv113,WU,V,W3,↓reduceIte,seval,reduceCtorEq];rw[g4]at hEn;simp only[zr,if_false,false_and,and_false,false_or]at hEn;obtain⟨hF,h0⟩:=hEn;obtain⟨rfl,rfl⟩:=her h0;rw[hF,if_pos h0];simp (maxSteps:=9^7) -implicitDefEqProofs only[V,W3,↓reduceIte,seval,reduceCtorEq]
 . simp (maxSteps:=9^7) -implicitDefEqProofs only[drR,wP,ww,stR,wJ,wK,wc,br,gK,fe,chO,phC,opP,msD,phX,phO,gj,eg,ee,xf,xe,xo,ei,wv,wl,g1,g2,g3,aE,ap,ag,av,aU,bqT,bqF,Bool.not_true,Bool.not_false,InR,WU,Ent.of1,Ent.of2,Ent.of3,V,W3,↓reduceIte,seval,reduceCtorEq];refine⟨rfl,dC [] 600 ?_⟩;simp (maxSteps:=9^7) -implicitDefEqProofs only[E2.rv113,WU,V,W3,↓reduceIte,seval,reduceCtorEq];rw[<- g4];rcases hEn with⟨hF,q1,q2,q3,q4⟩ | ⟨hF,h0⟩
   . rw[hF,if_neg (fun q=>q rfl)];exact hgo q1 q2 q3 q4
   . obtain⟨rfl,rfl⟩:=her h0;rw[hF,if_pos h0];simp (maxSteps:=9^7) -implicitDefEqProofs only[V,W3,↓reduceIte,seval,reduceCtorEq]
theorem yV : ∀ (bs:List (List Int)) (k:Nat),(∀ x∈bs,x.length<=k)->bs.flatten.length<=bs.length*k
 |[],k,h=>by simp
 | b :: bs,k,h=>by
  have h1:=yV bs k (fun x hx=>h x (by simp[hx]));have h2:=h b (by simp);rw[List.flatten_cons,zK,zQ,zP];omega
theorem stB_eq (n:Nw) (m:Ms):stB n m=(!(ed m && decide (m.since+n.limit<=m.at_)) && !(fL m)):=by
 unfold stB fL;cases h:decide (m.source=-1) <;> simp_all
theorem open_2 (n:Nw) (m:Ms) (hn:NwS n) (hm:MsB m) (net:NetOk n) (hlen:m.buf.length=n.cells.length) (cx:Cx) (E:Int) (r:C) (ch:Chs) (q2:rgB m=true) (q3:msB n m=true)
 (hE:(if clB n m=false then 13 else if stB n m=false then 22 else pkE m)=E)
 (hok:E=0->r=.tup [.ptr 30 0,enc (0:Int)]/\ch=phY n (opP m) 30 1030)
 (her:E≠0->r=.tup [.s (.pointer none),enc E]/\ch=[]) :
 SG Tryz.prog cx (cz [RV.tmp 4,RV.tmp 5] [1030] r ch) [It.c E2.c113k2.cut] ⟨[(3,.ptr 3 0),(7,.ptr 7 0),(13,.fn (.func 147) [] [.ptr 7 0])],chO n m⟩:=by
 have hml:=hm.l;have hEn:dS [if clB n m=true then 0 else 13,if stB n m=true then 0 else 22,pkE m]=E:=by
  cases a1:clB n m
  . simp only[a1]at hE;subst hE;simp[dS]
  . cases a2:stB n m
    . simp only[a1,a2]at hE;subst hE;simp[dS]
    . simp only[a1,a2]at hE;subst hE;simp only[dS,if_true];simp;exact fun h=>h.symm
 have q2':=q2;simp only[rgB,zm,decide_eq_true_eq]at q2';obtain⟨⟨⟨r1,r2⟩,r3⟩,r4⟩:=q2';have hlim:=net.lim;have hI:InR .i64 ((opP m).m.since+n.limit):=by simp only[InR,opP];omega
 simp only[msB,zm,zV,decide_eq_true_eq]at q3;have hso:(opP m).m.source≠-1->0<=(opP m).m.source/\(opP m).m.source.toNat < (opP m).m.buf.length:=fun h=>by
  rcases q3.2 with h2 | h2
  . exact absurd h2 h
  . have:=fH h2;simp only[opP];rw[hlen];omega
 have hpk:fc (opP m).m.buf<=1000000000:=by
  rw[mK];have h1:=yV m.buf 1000 hm.r;have h2:=net.len;simp only[opP];have:m.buf.length*1000<=6*1000:=zB _ (by omega);omega
 refine iJ (dC [] 500 ?_);delta E2.c113k2 oO oN oA oM oT oG oS oK oF oL oV oC oI oX oP oB oD oE oJ o1;simp (maxSteps:=9^7) -implicitDefEqProofs only[WU,V,W3,↓reduceIte,seval,reduceCtorEq];refine Ba [eg,ee,wx n (opP m),eX n (opP m),np n (opP m) hI,to n (opP m) hso,wN n (opP m) r3 r4 hml hpk hm.i] 800 ?_;have hc:((decide (m.target=-1) || nbr n m.target m.serving)=false/\clB n m=false)\/((decide (m.target=-1) || nbr n m.target m.serving)=true/\clB n m=(decide (m.source=-1) || nbr n m.source m.serving)):=by
  unfold clB;cases (decide (m.target=-1) || nbr n m.target m.serving) <;> simp
 have hd:(ed m=false/\stB n m=!(fL m))\/(ed m=true/\(m.since+n.limit<=m.at_)=True/\stB n m=false)\/(ed m=true/\(m.since+n.limit<=m.at_)=False/\stB n m=!(fL m)):=by
  rw[stB_eq];cases ed m <;> rcases Classical.propComplete (m.since+n.limit<=m.at_)with h | h <;> simp[h]
 rcases hc with⟨g1,g2⟩ | ⟨g1,g2⟩ <;> rcases hd with⟨d1,d2⟩ | ⟨d1,d3,d2⟩ | ⟨d1,d3,d2⟩
 . simp (maxSteps:=9^7) -implicitDefEqProofs only[drR,wP,ww,stR,wJ,wK,wc,br,gK,fe,chO,phC,opP,msD,phX,phO,eg,ee,wx,eX,np,to,wN,ei,wv,wl,g1,d1,aE,ap,ag,av,aU,bqT,bqF,Bool.not_true,Bool.not_false,InR,WU,Ent.of1,Ent.of2,V,W3,↓reduceIte,seval,reduceCtorEq];refine⟨rfl,dC [] 600 ?_⟩;simp (maxSteps:=9^7) -implicitDefEqProofs only[E2.rv113,WU,V,W3,↓reduceIte,seval,reduceCtorEq];rw[g2,d2]at hEn;simp only[zr,if_false,yC]at hEn;rw[hEn];by_cases h0:E=0
   . obtain⟨rfl,rfl⟩:=hok h0;rw[if_neg (fun q=>q h0)];simp (maxSteps:=9^7) -implicitDefEqProofs only[phY,phC,opP,V,W3,↓reduceIte,seval,reduceCtorEq]
   . obtain⟨rfl,rfl⟩:=her h0;rw[if_pos h0];simp (maxSteps:=9^7) -implicitDefEqProofs only[V,W3,↓reduceIte,seval,reduceCtorEq]
 . simp (maxSteps:=9^7) -implicitDefEqProofs only[drR,wP,ww,stR,wJ,wK,wc,br,gK,fe,chO,phC,opP,msD,phX,phO,eg,ee,wx,eX,np,to,wN,ei,wv,wl,g1,d1,d3,aE,ap,ag,av,aU,bqT,bqF,Bool.not_true,Bool.not_false,InR,WU,Ent.of1,Ent.of2,V,W3,↓reduceIte,seval,reduceCtorEq];refine⟨rfl,dC [] 600 ?_⟩;simp (maxSteps:=9^7) -implicitDefEqProofs only[E2.rv113,WU,V,W3,↓reduceIte,seval,reduceCtorEq];rw[g2,d2]at hEn;simp only[zr,if_false,yC]at hEn;rw[hEn];by_cases h0:E=0
   . obtain⟨rfl,rfl⟩:=hok h0;rw[if_neg (fun q=>q h0)];simp (maxSteps:=9^7) -implicitDefEqProofs only[phY,phC,opP,V,W3,↓reduceIte,seval,reduceCtorEq]
   . obtain⟨rfl,rfl⟩:=her h0;rw[if_pos h0];simp (maxSteps:=9^7) -implicitDefEqProofs only[V,W3,↓reduceIte,seval,reduceCtorEq]
 . simp (maxSteps:=9^7) -implicitDefEqProofs only[drR,wP,ww,stR,wJ,wK,wc,br,gK,fe,chO,phC,opP,msD,phX,phO,eg,ee,wx,eX,np,to,wN,ei,wv,wl,g1,d1,d3,aE,ap,ag,av,aU,bqT,bqF,Bool.not_true,Bool.not_false,InR,WU,Ent.of1,Ent.of2,V,W3,↓reduceIte,seval,reduceCtorEq];refine⟨rfl,dC [] 600 ?_⟩;simp (maxSteps:=9^7) -implicitDefEqProofs only[E2.rv113,WU,V,W3,↓reduceIte,seval,reduceCtorEq];rw[g2,d2]at hEn;simp only[zr,if_false,yC]at hEn;rw[hEn];by_cases h0:E=0
   . obtain⟨rfl,rfl⟩:=hok h0;rw[if_neg (fun q=>q h0)];simp (maxSteps:=9^7) -implicitDefEqProofs only[phY,phC,opP,V,W3,↓reduceIte,seval,reduceCtorEq]
   . obtain⟨rfl,rfl⟩:=her h0;rw[if_pos h0];simp (maxSteps:=9^7) -implicitDefEqProofs only[V,W3,↓reduceIte,seval,reduceCtorEq]
 . simp (maxSteps:=9^7) -implicitDefEqProofs only[drR,wP,ww,stR,wJ,wK,wc,br,gK,fe,chO,phC,opP,msD,phX,phO,eg,ee,wx,eX,np,to,wN,ei,wv,wl,g1,d1,aE,ap,ag,av,aU,bqT,bqF,Bool.not_true,Bool.not_false,InR,WU,Ent.of1,Ent.of2,V,W3,↓reduceIte,seval,reduceCtorEq];refine⟨rfl,dC [] 600 ?_⟩;simp (maxSteps:=9^7) -implicitDefEqProofs only[E2.rv113,WU,V,W3,↓reduceIte,seval,reduceCtorEq];rw[g2,d2]at hEn;simp only[zr,if_false,yC]at hEn;rw[hEn];by_cases h0:E=0
   . obtain⟨rfl,rfl⟩:=hok h0;rw[if_neg (fun q=>q h0)];simp (maxSteps:=9^7) -implicitDefEqProofs only[phY,phC,opP,V,W3,↓reduceIte,seval,reduceCtorEq]
   . obtain⟨rfl,rfl⟩:=her h0;rw[if_pos h0];simp (maxSteps:=9^7) -implicitDefEqProofs only[V,W3,↓reduceIte,seval,reduceCtorEq]
 . simp (maxSteps:=9^7) -implicitDefEqProofs only[drR,wP,ww,stR,wJ,wK,wc,br,gK,fe,chO,phC,opP,msD,phX,phO,eg,ee,wx,eX,np,to,wN,ei,wv,wl,g1,d1,d3,aE,ap,ag,av,aU,bqT,bqF,Bool.not_true,Bool.not_false,InR,WU,Ent.of1,Ent.of2,V,W3,↓reduceIte,seval,reduceCtorEq];refine⟨rfl,dC [] 600 ?_⟩;simp (maxSteps:=9^7) -implicitDefEqProofs only[E2.rv113,WU,V,W3,↓reduceIte,seval,reduceCtorEq];rw[g2,d2]at hEn;simp only[zr,if_false,yC]at hEn;rw[hEn];by_cases h0:E=0
   . obtain⟨rfl,rfl⟩:=hok h0;rw[if_neg (fun q=>q h0)];simp (maxSteps:=9^7) -implicitDefEqProofs only[phY,phC,opP,V,W3,↓reduceIte,seval,reduceCtorEq]
   . obtain⟨rfl,rfl⟩:=her h0;rw[if_pos h0];simp (maxSteps:=9^7) -implicitDefEqProofs only[V,W3,↓reduceIte,seval,reduceCtorEq]
 . simp (maxSteps:=9^7) -implicitDefEqProofs only[drR,wP,ww,stR,wJ,wK,wc,br,gK,fe,chO,phC,opP,msD,phX,phO,eg,ee,wx,eX,np,to,wN,ei,wv,wl,g1,d1,d3,aE,ap,ag,av,aU,bqT,bqF,Bool.not_true,Bool.not_false,InR,WU,Ent.of1,Ent.of2,V,W3,↓reduceIte,seval,reduceCtorEq];refine⟨rfl,dC [] 600 ?_⟩;simp (maxSteps:=9^7) -implicitDefEqProofs only[E2.rv113,WU,V,W3,↓reduceIte,seval,reduceCtorEq];rw[g2,d2]at hEn;simp only[zr,if_false,yC]at hEn;rw[hEn];by_cases h0:E=0
   . obtain⟨rfl,rfl⟩:=hok h0;rw[if_neg (fun q=>q h0)];simp (maxSteps:=9^7) -implicitDefEqProofs only[phY,phC,opP,V,W3,↓reduceIte,seval,reduceCtorEq]
   . obtain⟨rfl,rfl⟩:=her h0;rw[if_pos h0];simp (maxSteps:=9^7) -implicitDefEqProofs only[V,W3,↓reduceIte,seval,reduceCtorEq]
theorem BY (n:Nw) (m:Ms) (hn:NwS n) (hm:MsB m) (E:Int) (hE:opE n m=E) (r:C) (ch:Chs)
 (hok:E=0->r=.tup [.ptr 30 0,enc (0:Int)]/\ch=phY n (opP m) 30 1030)
 (her:E≠0->r=.tup [.s (.pointer none),enc E]/\ch=[])
 (hn1:ap (ag ch)) (hkd:aC [] ch):FC Tryz.prog 113 [enc n,enc m] [] r ch:=by
 have hdn:=je n;have hdm:=vR m;have hb:=hn.c;have hml:=hm.l;have hF:dS [(gP n).2,if (m.buf.length:Int)=(n.cells.length:Int)then 0 else 10]=if (gP n).2≠0 then (gP n).2 else if m.buf.length≠n.cells.length then 10 else 0:=by
  by_cases h1:(gP n).2=0 <;> by_cases h2:m.buf.length=n.cells.length
  . simp[dS,h1,h2]
  . have h2':¬ (m.buf.length:Int)=(n.cells.length:Int):=by omega
    simp[dS,h1,h2,h2']
  . simp[dS,h1,h2]
  . simp[dS,h1,h2]
 have key:E=(if (gP n).2≠0 then (gP n).2 else if m.buf.length≠n.cells.length then 10 else 0)/\E≠0\/(dS [(gP n).2,if (m.buf.length:Int)=(n.cells.length:Int)then 0 else 10]=0/\(gP n).2=0/\m.buf.length=n.cells.length):=by
  unfold opE wZ at hE;by_cases h1:(gP n).2=0
  . by_cases h2:m.buf.length=n.cells.length
    . right;rw[hF,if_neg (by simp[h1]),if_neg (by simp[h2])];exact⟨rfl,h1,h2⟩
    . left;rw[if_neg (by simp[h1]),if_pos h2]at hE;rw[if_neg (by simp[h1]),if_pos h2];subst hE;exact⟨rfl,by decide⟩
  . left;rw[if_pos h1]at hE;rw[if_pos h1];subst hE;exact⟨rfl,h1⟩
 refine dD [1030] E2.is113 (by simp) (by simp[bn]) (by simp[ap,ag]) hn1 hkd (fun cx _ hl _=>dC [nj,gj,eg,ee] 1500 ?_);rcases key with⟨hE1,h0⟩ | ⟨h0,h1,h2⟩
 . rw[<- hF]at hE1;obtain⟨rfl,rfl⟩:=her h0;delta E2.c113 oO oN oA oM oT oG oQ oS oK oF oL oV oC oW oY oI oX oP oB oE oJ o1 o4 o5 o6 o7;simp (maxSteps:=9^7) -implicitDefEqProofs only[E2.rv113,eO,qD,hdn,hn,nj,gj,eg,ee,InR,not_true_eq_false,not_false_eq_true,WU,Ent.of1,Ent.of2,Ent.of3,V,W3,↓reduceIte,seval,reduceCtorEq];rw[<- hE1,if_pos h0]
 unfold opE wZ at hE;rw[if_neg (by simp[h1]),if_neg (by simp[h2])]at hE;delta E2.c113 oO oN oA oM oT oG oQ oS oK oF oL oV oC oW oY oI oX oP oB oE oJ o1 o4 o5 o6 o7;simp (maxSteps:=9^7) -implicitDefEqProofs only[E2.rv113,eO,qD,hdn,hn,nj,gj,eg,ee,InR,not_true_eq_false,not_false_eq_true,WU,Ent.of1,Ent.of2,Ent.of3,V,W3,↓reduceIte,seval,reduceCtorEq];rw[h0,if_neg (fun q=>q rfl)];obtain⟨p0,hp0⟩:∃ p0,gm n 0=p0:=⟨_,rfl⟩;refine pV [tj n 0 p0 hn hp0] 1500 ?_;simp (maxSteps:=9^7) -implicitDefEqProofs only[E2.rv113,tj,eO,phY,phC,WU,V,W3,↓reduceIte,seval,reduceCtorEq];refine sQ 1030 30 9 (c0:=.deep 1 3 24 none []) (by decide) (by decide) rfl rfl rfl ?_;refine fI m.buf.length (fun i=>[(42,.s (.int .i64 (i:Int)))]) (fun i=>[(1030,.deep 1 3 24 none (fB (m.buf.take i)))]) (fun _=>True) trivial ?_ (fun i hi _=>?_)
 . simp (maxSteps:=9^7) -implicitDefEqProofs only[nN,V,W3,↓reduceIte,seval,reduceCtorEq]
   all_goals rfl
 . by_cases hlt:i < m.buf.length
   . have hi2:(i:Int) < (m.buf.length:Int):=by omega
     have hi0:(0:Int)<=i:=by omega
     have hgx:List.getD (m.buf.map Dat.cells) i [C.sl 0 []]=[C.sl 1 ((m.buf.getD i []).map Dat.cells)]:=by
      rw[zb,zb,zh,ze hlt];rfl
     have hx:=hm.r _ (yy hlt);have hgd:m.buf.getD i []=m.buf[i]:=by rw[zb,ze hlt];rfl
     have hap:fB (m.buf.take i)++[(m.buf.getD i []).map Dat.cells]=fB (m.buf.take (i+1)):=by
      rw[hgd,yI hlt,fB,fB,yg];rfl
     have hlen:(m.buf.take i).length=i:=by rw[List.length_take];omega
     rw[<- hgd]at hx;refine dC [] 800 ?_;delta E2.c113l1 oO oN oA oM oT oR oS oK oF oL oC oX oB o0 o6;simp (maxSteps:=9^7) -implicitDefEqProofs only[nN,hi0,hi2,hlt,hgx,InR,WU,V,W3,↓reduceIte,seval,reduceCtorEq];refine qk [Bf (m.buf.getD i []) (by omega)] 800 ?_;simp (maxSteps:=9^7) -implicitDefEqProofs only[gC,mFin2,lP,oq,ops2,jb,reM2,nQ,p8,p9,l6,finM,kd,gQ,hJ,fY,ff,fO,fO.fixBs,fM,ndE2,ap,ag,av,aU,aE,ke,eL,a6,bF,Bf,vY,eo,hlen,InR,WU,V,W3,↓reduceIte,seval,reduceCtorEq];refine⟨rfl,⟨by omega,by omega⟩,dC [] 600 ?_⟩;simp (maxSteps:=9^7) -implicitDefEqProofs only[hap,WU,V,W3,↓reduceIte,seval,reduceCtorEq];refine⟨by simp only[InR];omega,hlt,by omega⟩
   . have hi2:¬ (i:Int) < (m.buf.length:Int):=by omega
     have htk:m.buf.take i=m.buf:=List.take_of_length_le (by omega);have e0:p0=⟨eM n 0,[],[⟨0,0,0⟩],-1,0⟩:=hp0.symm;subst e0;have ht:gd m.at_=decide (0<=m.at_/\m.at_<=1000000000):=rfl;refine dC [lv,gj] 800 ?_;have hgo:(0<=m.phase/\m.phase<=3)->rgB m=true->msB n m=true->fmB m=true->SG Tryz.prog cx (cz [RV.tmp 4,RV.tmp 5] [1030] r ch) [It.c E2.c113k2.cut] ⟨[(3,.ptr 3 0),(7,.ptr 7 0),(13,.fn (.func 147) [] [.ptr 7 0])],chO n m⟩:=fun p1 p2 p3 p4=>by
      rw[if_neg (fun q=>q p1),if_neg (by simp[p2]),if_neg (by simp[p3]),if_neg (by simp[p4])]at hE;exact open_2 n m hn hm (qS h1) h2 cx E r ch p2 p3 hE hok her
     have hop:=open_1 n m hn hm cx E r ch hE her hgo;have hc:((0<=m.at_/\m.at_<=1000000000)=False/\rgB m=false)\/((0<=m.at_/\m.at_<=1000000000)=True/\(0<=m.since/\m.since<=m.at_)=False/\rgB m=false)\/((0<=m.at_/\m.at_<=1000000000)=True/\(0<=m.since/\m.since<=m.at_)=True/\(0<=m.fresh/\m.fresh<=1000000)=False/\rgB m=false)\/((0<=m.at_/\m.at_<=1000000000)=True/\(0<=m.since/\m.since<=m.at_)=True/\(0<=m.fresh/\m.fresh<=1000000)=True/\rgB m=decide (0<=m.got/\m.got<=m.fresh)):=by
      rcases Classical.propComplete (0<=m.at_/\m.at_<=1000000000)with g1 | g1 <;> rcases Classical.propComplete (0<=m.since/\m.since<=m.at_)with g2 | g2 <;> rcases Classical.propComplete (0<=m.fresh/\m.fresh<=1000000)with g3 | g3 <;> simp[rgB,g1,g2,g3]
     rcases hc with⟨g1,g4⟩ | ⟨g1,g2,g4⟩ | ⟨g1,g2,g3,g4⟩ | ⟨g1,g2,g3,g4⟩
     . rw[g4]at hop;delta E2.c113l1 oO oN oA oM oT oR oS oK oF oL oC oX oB o0 o6;simp (maxSteps:=9^7) -implicitDefEqProofs only[E2.rv113,nN,hi2,htk,lv,gj,ht,g1,WU,Ent.of1,Ent.of3,V,W3,↓reduceIte,seval,reduceCtorEq];exact hop
     . rw[g4]at hop;delta E2.c113l1 oO oN oA oM oT oR oS oK oF oL oC oX oB o0 o6;simp (maxSteps:=9^7) -implicitDefEqProofs only[E2.rv113,nN,hi2,htk,lv,gj,ht,g1,g2,WU,Ent.of1,Ent.of3,V,W3,↓reduceIte,seval,reduceCtorEq];exact hop
     . rw[g4]at hop;delta E2.c113l1 oO oN oA oM oT oR oS oK oF oL oC oX oB o0 o6;simp (maxSteps:=9^7) -implicitDefEqProofs only[E2.rv113,nN,hi2,htk,lv,gj,ht,g1,g2,g3,WU,Ent.of1,Ent.of3,V,W3,↓reduceIte,seval,reduceCtorEq];exact hop
     . rw[g4]at hop;delta E2.c113l1 oO oN oA oM oT oR oS oK oF oL oC oX oB o0 o6;simp (maxSteps:=9^7) -implicitDefEqProofs only[E2.rv113,nN,hi2,htk,lv,gj,ht,g1,g2,g3,WU,Ent.of1,Ent.of3,V,W3,↓reduceIte,seval,reduceCtorEq];exact hop
theorem open_ok (n:Nw) (m:Ms) (hn:NwS n) (hm:MsB m) (h:opE n m=0):FC Tryz.prog 113 [enc n,enc m] [] (.tup [.ptr 30 0,enc (0:Int)]) (phY n (opP m) 30 1030):=
 BY n m hn hm 0 h _ _ (fun _=>⟨rfl,rfl⟩) (fun q=>absurd rfl q) (by simp[phY,ap,ag,av]) (by simp[phY,aC,lk])
theorem open_no (n:Nw) (m:Ms) (hn:NwS n) (hm:MsB m) (h:opE n m≠0):FC Tryz.prog 113 [enc n,enc m] [] (.tup [.s (.pointer none),enc (opE n m)]) []:=
 BY n m hn hm _ rfl _ _ (fun q=>absurd q h) (fun _=>⟨rfl,rfl⟩) (by simp[ap,ag]) (by simp[aC])
def Bd (n:Nw) (m:Ms) (hn:NwS n) (hm:MsB m) (h:opE n m=0):Ent Tryz.prog:=.mk3 113 (fun args chs=>some (args=[enc n,enc m]/\chs=[],.tup [.ptr 30 0,enc (0:Int)],phY n (opP m) 30 1030,[30,1030])) (by
 intro args chs pp r chs' nk hs hq;simp only[zn,zf]at hs;obtain⟨rfl,rfl,rfl,rfl⟩:=hs;obtain⟨rfl,rfl⟩:=hq;refine⟨open_ok n m hn hm h,⟨fun k c hm=>.inl ?_,fun k cs hm=>(by simp at hm),?_,fun k c hm=>?_⟩⟩
 . simp only[phY,zl,zA,or_false,zf]at hm ⊢;rcases hm with⟨rfl,rfl⟩ | ⟨rfl,rfl⟩
   . exact .inl rfl
   . exact .inr rfl
 . simp only[phY,zt,zR,dG,dG.keysIns];exact⟨by simp,trivial,trivial⟩
 . simp only[phY,zl,zA,or_false,zf]at hm;rcases hm with⟨rfl,rfl⟩ | ⟨rfl,rfl⟩
   . simp[phY,ge,phC,dG,dG.keysIns]
   . simp[ge])
def Bc (n:Nw) (m:Ms) (e:Int) (hn:NwS n) (hm:MsB m) (h:e≠0) (hp:opE n m=e):Ent Tryz.prog:=.mk3 113 (fun args chs=>some (args=[enc n,enc m]/\chs=[],.tup [.s (.pointer none),enc e],[],[])) (by
 intro args chs pp r chs' nk hs hq;simp only[zn,zf]at hs;obtain⟨rfl,rfl,rfl,rfl⟩:=hs;obtain⟨rfl,rfl⟩:=hq;have:=open_no n m hn hm (by rw[hp];exact h);rw[hp]at this
 exact⟨this,⟨fun k c hm=>(by simp at hm),fun k cs hm=>(by simp at hm),⟨trivial,trivial,trivial⟩,fun k c hm=>(by simp at hm)⟩⟩)
theorem opE_ok {n:Nw} {m:Ms} (h:opE n m=0):NetOk n/\dN n m:=by
 unfold opE at h;obtain⟨h1,h2⟩:=AH h;exact⟨qS h1,Cr h2⟩
def upN (a:Int) (i:Nat):List Int:=(List.range i).map fun (j:Nat)=>a+(j:Int)
theorem upN_len (a:Int) (i:Nat):(upN a i).length=i:=by simp[upN]
theorem Ct (a:Int) (i:Nat):upN a (i+1)=upN a i++[a+(i:Int)]:=by simp[upN,List.range_succ]
theorem B4 (a:Int) (i:Nat):(upN a i).map Dat.cells++[[C.s (.int .i64 (a+(i:Int)))]]=(upN a (i+1)).map Dat.cells:=by rw[Ct,yg];rfl
def wD (m:Ms):List Int:=upN m.got (m.fresh - m.got).toNat
def Ar (n:Nw) (m:Ms):C:=.tup (if opE n m≠0 then [enc ([]:List Int),enc (opE n m)]else [enc (wD m),enc (0:Int)])
theorem BD (n:Nw) (m:Ms) (hn:NwS n) (hm:MsB m):FC Tryz.prog 72 [enc n,enc m] [] (Ar n m) []:=by
 by_cases h:opE n m=0
 . obtain⟨net,g⟩:=opE_ok h;have hg:=g.got;have hf:=g.fresh;unfold Ar;rw[if_neg (by simp[h])];refine dD [] is72 (by simp) (by simp[bn]) (by simp[ap,ag]) (by simp[ap,ag]) (by simp[aC]) (fun cx _ hl _=>dC [Bd n m hn hm h] 1500 ?_);obtain⟨K,hK⟩:∃ K,(m.fresh - m.got).toNat=K:=⟨_,rfl⟩;unfold wD;rw[hK];delta c72 oO oN oA oM oS oK oF oL oV oC oI oX oB o5 o6 o7 o8;simp (maxSteps:=9^7) -implicitDefEqProofs only[rv72,Bd,eO,qD,phY,phC,opP,not_true_eq_false,not_false_eq_true,WU,V,W3,↓reduceIte,seval,reduceCtorEq];refine fI K (fun i=>[(9,.s (.int .i64 (m.got+(i:Int))))]) (fun i=>[(8,.row 1 3 ((upN m.got i).map Dat.cells))]) (fun _=>True) trivial ?_ (fun i hi _=>dC [] 800 ?_)
   . simp (maxSteps:=9^7) -implicitDefEqProofs only[upN,V,W3,↓reduceIte,seval,reduceCtorEq]
     all_goals simp
   . have hll:=upN_len m.got i;have hsu:=B4 m.got i;by_cases hlt:i < K
     . have hi2:m.got+(i:Int) < m.fresh:=by omega
       delta c72l1 oO oN oA oM oR oS oK oF oL oX oB o1 o6;simp (maxSteps:=9^7) -implicitDefEqProofs only[rv72,hi2,hll,hsu,InR,WU,V,W3,↓reduceIte,seval,reduceCtorEq];exact⟨⟨by omega,by omega⟩,⟨by omega,by omega⟩,hlt,by omega⟩
     . have hi2:¬ m.got+(i:Int) < m.fresh:=by omega
       have hie:i=K:=by omega
       subst hie;delta c72l1 oO oN oA oM oR oS oK oF oL oX oB o1 o6;simp (maxSteps:=9^7) -implicitDefEqProofs only[rv72,hi2,InR,WU,V,W3,↓reduceIte,seval,reduceCtorEq]
 . obtain⟨E,he⟩:∃ e,opE n m=e:=⟨_,rfl⟩;unfold Ar;rw[he]at h;rw[he,if_pos h];refine dD [] is72 (by simp) (by simp[bn]) (by simp[ap,ag]) (by simp[ap,ag]) (by simp[aC]) (fun cx _ hl _=>dC [Bc n m E hn hm h he] 1500 ?_);delta c72 oO oN oA oM oS oK oF oL oV oC oI oX oB o5 o6 o7 o8;simp (maxSteps:=9^7) -implicitDefEqProofs only[rv72,Bc,eO,qD,h,not_true_eq_false,not_false_eq_true,WU,V,W3,↓reduceIte,seval,reduceCtorEq]
theorem xZ : ∀ (l:List (List Int)) (v:Int) (i:Nat),(0<=v8 v i l)↔v∈l.flatten
 |[],v,i=>by simp[v8]
 | r :: l,v,i=>by
  rw[v8,List.flatten_cons,zW];by_cases h:(r.any fun x=>decide (x=v))=true
  . rw[if_pos h];simp only[List.any_eq_true,decide_eq_true_eq]at h;obtain⟨x,hx,rfl⟩:=h;exact⟨fun _=>.inl hx,fun _=>Int.natCast_nonneg _⟩
  . rw[if_neg h,xZ l v (i+1)];simp only[List.any_eq_true,decide_eq_true_eq]at h;exact⟨fun q=>.inr q,fun q=>q.resolve_left fun q=>h ⟨v,q,rfl⟩⟩
theorem where_k (m:Ms) (k v:Int) (h1:m.buf.length<=1000000) (h2:0<=k) (h3:k<=m.buf.length):FC Tryz.prog 117 [enc m,enc k,enc v] [] (enc (v8 v 0 (m.buf.take k.toNat))) []:=by
 obtain⟨j,rfl⟩:=Int.eq_ofNat_of_zero_le h2;exact where_c m j v h1 (by omega)
def wF : Ent Tryz.prog:=.of3 117 (fun (m:Ms) (k _:Int)=>m.buf.length<=1000000/\0<=k/\k<=m.buf.length) (fun (m:Ms) (k v:Int)=>enc (v8 v 0 (m.buf.take k.toNat))) (fun _ _ _=>trivial) (fun m k v h=>where_k m k v h.1 h.2.1 h.2.2)
def chR (n:Nw) (m:Ms):Chs:=[(3,.box (msD m)),(2,.box [.sl 1 (n.cells.map Dat.cells),.sl 2 (n.nb.map Dat.cells),.s (.int .i64 n.limit)])]
theorem rst_5 (n:Nw) (m:Ms) (hm:MsB m) (hf:0<=m.fresh/\m.fresh<=1000000) (hg:0<=m.got/\m.got<=m.fresh) (cx:Cx) (E:Int) (hE:(if wI m=false then 14 else 0)=E):SG Tryz.prog cx (cz [RV.tmp 4] [] (enc E) []) [It.c E4.c67k5.cut] ⟨[(3,.ptr 3 0)],chR n m⟩:=by
 have hml:=hm.l;have hdm:=vR m;refine iJ (dC [] 500 ?_);obtain⟨K,hK⟩:∃ K,(m.fresh - m.got).toNat=K:=⟨_,rfl⟩;unfold wI at hE;rw[hK]at hE;by_cases h60:m.fresh - m.got<=60
 . have h60':¬ (m.fresh - m.got > 60):=by omega
   delta E4.c67k5 oO oN oM oS oK oF oL oV oI oX oB;simp (maxSteps:=9^7) -implicitDefEqProofs only[E4.rv67,chR,msD,h60',not_true_eq_false,not_false_eq_true,InR,WU,V,W3,↓reduceIte,seval,reduceCtorEq];refine⟨by omega,?_⟩;simp only[h60,decide_true,zY]at hE;refine fI K (fun i=>[(12,.s (.int .i64 (m.got+(i:Int))))]) (fun _=>[]) (fun i=>wn m.buf.flatten K m.got=wn m.buf.flatten (K - i) (m.got+i)) (by simp) ?_ (fun i hi hv=>dC [wF] 800 ?_)
   . simp (maxSteps:=9^7) -implicitDefEqProofs only[V,W3,↓reduceIte,seval,reduceCtorEq]
     all_goals simp
   . by_cases h:i < K
     . have hi2:m.got+(i:Int) < m.fresh:=by omega
       have hk1:K - i=(K - (i+1))+1:=by omega
       rw[hk1,wn]at hv;have hw:=xZ m.buf (m.got+(i:Int)) 0;have htk:m.buf.take m.buf.length=m.buf:=yo;have hle:=eq_true (Int.le_refl (m.buf.length:Int));have hl0:(0:Int)<=(m.buf.length:Int):=by omega
       by_cases hx:(m.got+(i:Int))∈m.buf.flatten
       . have hw2:¬ (v8 (m.got+(i:Int)) 0 m.buf < 0):=by have:=hw.2 hx;omega
         simp only[hx,decide_true,zY]at hv;delta E4.c67l4 oO oN oM oR oS oK oF oL oV oC oI oX oB o4 o5;simp (maxSteps:=9^7) -implicitDefEqProofs only[E4.rv67,wF,qD,hdm,hi2,hml,htk,hl0,hle,hw2,not_true_eq_false,not_false_eq_true,InR,WU,Ent.of3,V,W3,↓reduceIte,seval,reduceCtorEq];exact⟨⟨by omega,by omega⟩,h,by rw[hv,show ((i+1:Nat):Int)=(i:Int)+1 by omega,<- Int.add_assoc],by omega⟩
       . have hw2:v8 (m.got+(i:Int)) 0 m.buf < 0:=by
          have:¬ (0<=v8 (m.got+(i:Int)) 0 m.buf):=fun q=>hx (hw.1 q)
          omega
         simp only[hx,decide_false,z7]at hv;rw[hv]at hE;subst hE;delta E4.c67l4 oO oN oM oR oS oK oF oL oV oC oI oX oB o4 o5;simp (maxSteps:=9^7) -implicitDefEqProofs only[E4.rv67,wF,qD,hdm,hi2,hml,htk,hl0,hle,hw2,not_true_eq_false,not_false_eq_true,InR,WU,Ent.of3,V,W3,↓reduceIte,seval,reduceCtorEq]
     . have hie:i=K:=by omega
       subst hie;have hi2:¬ m.got+(i:Int) < m.fresh:=by omega
       rw[show i - i=0 by omega,wn]at hv;rw[hv]at hE;subst hE;delta E4.c67l4 oO oN oM oR oS oK oF oL oV oC oI oX oB o4 o5;simp (maxSteps:=9^7) -implicitDefEqProofs only[E4.rv67,hi2,InR,WU,V,W3,↓reduceIte,seval,reduceCtorEq]
 . have h60':m.fresh - m.got > 60:=by omega
   simp only[h60,decide_false,z7]at hE;subst hE;delta E4.c67k5 oO oN oM oS oK oF oL oV oI oX oB;simp (maxSteps:=9^7) -implicitDefEqProofs only[E4.rv67,chR,msD,h60',not_true_eq_false,not_false_eq_true,InR,WU,V,W3,↓reduceIte,seval,reduceCtorEq];omega
theorem rst_6 (n:Nw) (m:Ms) (hm:MsB m) (hf:0<=m.fresh/\m.fresh<=1000000) (hg:0<=m.got/\m.got<=m.fresh) (cx:Cx) (E:Int) (tgw srw:Bool) (htg:tgw=!decide (m.target=-1)) (hsr:srw=!decide (m.source=-1)) (hE:(if wz m=false then 23 else if wI m=false then 14 else 0)=E):SG Tryz.prog cx (cz [RV.tmp 4] [] (enc E) []) [It.c E4.c67k6.cut] ⟨[(3,.ptr 3 0),(5,.s (.bool tgw)),(6,.s (.bool srw))],chR n m⟩:=by
 have hml:=hm.l;have hdm:=vR m;refine iJ (dC [] 500 ?_);delta E4.c67k6 oS oK oV oX;simp (maxSteps:=9^7) -implicitDefEqProofs only[E4.rv67,chR,msD,InR,WU,V,W3,↓reduceIte,seval,reduceCtorEq];refine fI m.buf.length (fun i=>[(11,.s (.int .i64 (i:Int)))]) (fun _=>[]) (fun i=>∀ j,j < i->wq m j=true) (fun j hj=>absurd hj (by omega)) ?_ (fun i hi hv=>dC [vP] 800 ?_)
 . simp (maxSteps:=9^7) -implicitDefEqProofs only[V,W3,↓reduceIte,seval,reduceCtorEq]
   all_goals simp
 . by_cases h:i < m.buf.length
   . have hi2:(i:Int) < (m.buf.length:Int):=by omega
     have hi0:(0:Int)<=i:=by omega
     have hgx:List.getD (m.buf.map Dat.cells) i [C.sl 0 []]=[C.sl 1 ((m.buf.getD i []).map Dat.cells)]:=by
      rw[zb,zb,zh,ze h];rfl
     have hopn:wq m i=((m.buf.getD i []).isEmpty || decide ((i:Int)=m.serving) || decide ((i:Int)=m.source) || (ed m && decide ((i:Int)=m.target))):=rfl;have hnx:wq m i=true->∀ j,j < i+1->wq m j=true:=fun q j hj=>by
      rcases Nat.lt_or_eq_of_le (Nat.lt_succ_iff.1 hj)with q2 | q2
      . exact hv j q2
      . rw[q2];exact q
     have hbad:wq m i=false->E=23:=fun q=>by
      have:wz m=false:=by
       cases h2:wz m with
       | false=>rfl
       | true=>
        rw[wz,zx]at h2;rw[h2 i (zE.2 h)]at q;cases q
      rw[this]at hE;exact hE.symm
     generalize m.buf.getD i []=q at *;have hc:(q=[]/\wq m i=true)\/((0 < (q.length:Int))=True/\(((i:Int)=m.serving)=True/\wq m i=true\/(((i:Int)=m.serving)=False/\((srw=true/\((i:Int)=m.source)=True/\wq m i=true)\/(((srw=true/\((i:Int)=m.source)=False)\/srw=false)/\((tgw=false/\wq m i=false)\/(tgw=true/\ed m=false/\wq m i=false)\/(tgw=true/\ed m=true/\((i:Int)=m.target)=True/\wq m i=true)\/(tgw=true/\ed m=true/\((i:Int)=m.target)=False/\wq m i=false))))))):=by
      rw[hopn];cases q with
      | nil=>left;simp
      | cons a l=>
       right;refine⟨by simp,?_⟩;rcases Classical.propComplete ((i:Int)=m.serving)with g1 | g1
       . left;simp[g1]
       . right;refine⟨g1,?_⟩;have s1:srw=false->((i:Int)=m.source)=False:=fun q=>by
          rw[q]at hsr;have:m.source=-1:=by simpa using hsr
          exact eq_false (by omega)
         have s2:tgw=false->((i:Int)=m.target)=False:=fun q=>by
          rw[q]at htg;have:m.target=-1:=by simpa using htg
          exact eq_false (by omega)
         cases srw
         . right;refine⟨.inr rfl,?_⟩;have g2:=s1 rfl;cases tgw
           . left;simp[g1,g2,s2 rfl]
           . right;rcases Classical.propComplete ((i:Int)=m.target)with g3 | g3 <;> cases ed m <;> simp[g1,g2,g3]
         . rcases Classical.propComplete ((i:Int)=m.source)with g2 | g2
           . left;simp[g1,g2]
           . right;refine⟨.inl ⟨rfl,g2⟩,?_⟩;cases tgw
             . left;simp[g1,g2,s2 rfl]
             . right;rcases Classical.propComplete ((i:Int)=m.target)with g3 | g3 <;> cases ed m <;> simp[g1,g2,g3]
     clear hopn;rcases hc with⟨rfl,ho⟩ | ⟨a1,⟨a2,ho⟩ | ⟨a2,⟨rfl,a3,ho⟩ | ⟨⟨rfl,a3⟩ | rfl,⟨rfl,ho⟩ | ⟨rfl,a4,ho⟩ | ⟨rfl,a4,a5,ho⟩ | ⟨rfl,a4,a5,ho⟩⟩⟩⟩
     . delta E4.c67l3 oO oN oA oM oG oR oS oK oF oL oV oI oX oP oB oD oE oJ o0 o4;simp (maxSteps:=9^7) -implicitDefEqProofs only[E4.rv67,hi0,hi2,h,hgx,zR,InR,WU,V,W3,↓reduceIte,seval,reduceCtorEq];exact⟨⟨by omega,by omega⟩,hnx ho,by omega⟩
     . delta E4.c67l3 oO oN oA oM oG oR oS oK oF oL oV oI oX oP oB oD oE oJ o0 o4;simp (maxSteps:=9^7) -implicitDefEqProofs only[E4.rv67,vP,qD,hdm,hi0,hi2,h,hgx,zy,a1,a2,InR,WU,Ent.of1,V,W3,↓reduceIte,seval,reduceCtorEq];exact⟨⟨by omega,by omega⟩,hnx ho,by omega⟩
     . delta E4.c67l3 oO oN oA oM oG oR oS oK oF oL oV oI oX oP oB oD oE oJ o0 o4;simp (maxSteps:=9^7) -implicitDefEqProofs only[E4.rv67,vP,qD,hdm,hi0,hi2,h,hgx,zy,a1,a2,a3,InR,WU,Ent.of1,V,W3,↓reduceIte,seval,reduceCtorEq];exact⟨⟨by omega,by omega⟩,hnx ho,by omega⟩
     . delta E4.c67l3 oO oN oA oM oG oR oS oK oF oL oV oI oX oP oB oD oE oJ o0 o4;simp (maxSteps:=9^7) -implicitDefEqProofs only[E4.rv67,vP,qD,hdm,hi0,hi2,h,hgx,zy,a1,a2,a3,InR,WU,Ent.of1,V,W3,↓reduceIte,seval,reduceCtorEq];exact (hbad ho).symm
     . delta E4.c67l3 oO oN oA oM oG oR oS oK oF oL oV oI oX oP oB oD oE oJ o0 o4;simp (maxSteps:=9^7) -implicitDefEqProofs only[E4.rv67,vP,qD,hdm,hi0,hi2,h,hgx,zy,a1,a2,a3,a4,InR,WU,Ent.of1,V,W3,↓reduceIte,seval,reduceCtorEq];exact (hbad ho).symm
     . delta E4.c67l3 oO oN oA oM oG oR oS oK oF oL oV oI oX oP oB oD oE oJ o0 o4;simp (maxSteps:=9^7) -implicitDefEqProofs only[E4.rv67,vP,qD,hdm,hi0,hi2,h,hgx,zy,a1,a2,a3,a4,a5,InR,WU,Ent.of1,V,W3,↓reduceIte,seval,reduceCtorEq];exact⟨⟨by omega,by omega⟩,hnx ho,by omega⟩
     . delta E4.c67l3 oO oN oA oM oG oR oS oK oF oL oV oI oX oP oB oD oE oJ o0 o4;simp (maxSteps:=9^7) -implicitDefEqProofs only[E4.rv67,vP,qD,hdm,hi0,hi2,h,hgx,zy,a1,a2,a3,a4,a5,InR,WU,Ent.of1,V,W3,↓reduceIte,seval,reduceCtorEq];exact (hbad ho).symm
     . delta E4.c67l3 oO oN oA oM oG oR oS oK oF oL oV oI oX oP oB oD oE oJ o0 o4;simp (maxSteps:=9^7) -implicitDefEqProofs only[E4.rv67,vP,qD,hdm,hi0,hi2,h,hgx,zy,a1,a2,InR,WU,Ent.of1,V,W3,↓reduceIte,seval,reduceCtorEq];exact (hbad ho).symm
     . delta E4.c67l3 oO oN oA oM oG oR oS oK oF oL oV oI oX oP oB oD oE oJ o0 o4;simp (maxSteps:=9^7) -implicitDefEqProofs only[E4.rv67,vP,qD,hdm,hi0,hi2,h,hgx,zy,a1,a2,a4,InR,WU,Ent.of1,V,W3,↓reduceIte,seval,reduceCtorEq];exact (hbad ho).symm
     . delta E4.c67l3 oO oN oA oM oG oR oS oK oF oL oV oI oX oP oB oD oE oJ o0 o4;simp (maxSteps:=9^7) -implicitDefEqProofs only[E4.rv67,vP,qD,hdm,hi0,hi2,h,hgx,zy,a1,a2,a4,a5,InR,WU,Ent.of1,V,W3,↓reduceIte,seval,reduceCtorEq];exact⟨⟨by omega,by omega⟩,hnx ho,by omega⟩
     . delta E4.c67l3 oO oN oA oM oG oR oS oK oF oL oV oI oX oP oB oD oE oJ o0 o4;simp (maxSteps:=9^7) -implicitDefEqProofs only[E4.rv67,vP,qD,hdm,hi0,hi2,h,hgx,zy,a1,a2,a4,a5,InR,WU,Ent.of1,V,W3,↓reduceIte,seval,reduceCtorEq];exact (hbad ho).symm
   . have hi2:¬ (i:Int) < (m.buf.length:Int):=by omega
     have hop:wz m=true:=by
      rw[wz,zx];exact fun j hj=>hv j (by have:=zE.1 hj;omega)
     rw[hop]at hE;delta E4.c67l3 oO oN oA oM oG oR oS oK oF oL oV oI oX oP oB oD oE oJ o0 o4;simp (maxSteps:=9^7) -implicitDefEqProofs only[E4.rv67,hi2,InR,WU,V,W3,↓reduceIte,seval,reduceCtorEq];exact rst_5 n m hm hf hg cx E hE
theorem AY {n:Nw} {m:Ms} (g:dN n m):settle m=m:=by
 unfold Go.Proofs.YtcbabnbiinkafaaGreatDoor.settle;rw[if_neg];intro hq;simp only[fL,zm,decide_eq_true_eq,List.isEmpty_iff]at hq;exact absurd hq.2 (g.busy hq.1.1 hq.1.2)
theorem AZ {m k:Ms} (h1:m.source=k.source) (h2:m.path=k.path) (h3:m.serving=k.serving) (h4:m.buf=k.buf) (hk:settle k=k) (hne:k.source≠-1):settle m=m:=by
 have hi:fL m=fL k:=by unfold fL dO;rw[h1,h2,h3,h4]
 cases hq:fL k with
 | false=>unfold Go.Proofs.YtcbabnbiinkafaaGreatDoor.settle;rw[if_neg (by rw[hi,hq];simp)]
 | true=>
  unfold Go.Proofs.YtcbabnbiinkafaaGreatDoor.settle at hk;rw[if_pos hq]at hk;exact absurd (congrArg Ms.source hk).symm hne
theorem xL {m:Ms} (h:m.source=-1):settle m=m:=by
 unfold Go.Proofs.YtcbabnbiinkafaaGreatDoor.settle;rw[if_neg];intro hq;simp only[fL,zm,decide_eq_true_eq]at hq;exact absurd h hq.1.1
theorem AN {n:Nw} {p:Ph} {t:Int} (h:ju n p.m t=false):eJ n p t=p:=by unfold eJ;rw[if_neg (by simp[h])]
theorem AM {n:Nw} {m:Ms} {t:Int} (h:ju n m t=false):kW n m t={ m with at_:=t }:=by unfold kW p7;rw[if_neg (by simp[h])]
def vV (m:Ms) (t:Int):Ms:={ m with since:=t,phase:=3,at_:=t }
theorem y4 {n:Nw} {p:Ph} {t:Int} (g:dN n p.m) (ha:ed p.m=false) (ho:p.out=-1) (h1:p.m.at_<=t) (h2:t<=1000000000) :
 fZ n p.m ⟨9,t,0⟩=0/\km n p ⟨9,t,0⟩=⟨vV p.m t,p.recv,p.stays,t,p.longest⟩:=by
 have hat:=g.at_;have hev:evE n ⟨9,t,0⟩=0:=by
  have:gd t=true:=by simp only[gd,decide_eq_true_eq];omega
  simp[evE,this,iz]
 have hb:ju n p.m t=false:=by simp[ju,ha]
 have hph:p.m.phase≠2/\p.m.phase≠3:=by simpa[ed]using ha
 constructor
 . rw[fZ,if_neg (by simp[hev]),qd,if_neg (by show ¬ t < _;omega),AM hb];simp[et,hph.2]
 . show atP (doP (eJ n p t) ⟨9,t,0⟩) t=_
   rw[AN hb];have hA:eG p.m ⟨9,t,0⟩={ p.m with since:=t,phase:=3 }:=by simp[eG,hph.1]
   have hS:settle ({ p.m with since:=t,phase:=3 }:Ms)={ p.m with since:=t,phase:=3 }:=by
    rcases Classical.em (p.m.source=-1)with q | q
    . exact xL q
    . exact AZ (k:=p.m) rfl rfl rfl rfl (AY g) q
   unfold doP;simp only[Int.reduceEq,if_false,if_true,or_true,false_and,hA,hS,ho];rfl
theorem BU {n:Nw} {p:Ph} {t:Int} (hn:NetOk n) (g:dN n p.m) (ha:ed p.m=false) (ho:p.out=-1) (h1:p.m.at_<=t) (h2:t<=1000000000):dN n (vV p.m t):=by
 obtain⟨q1,q2⟩:=y4 g ha ho h1 h2;have:=g.apply hn q1;rw[<- ql,q2]at this;exact this
theorem Cq {n:Nw} {p:Ph} {t u:Int} (g:dN n (vV p.m t)) (h1:0<=t/\t<=u) (h2:u<=1000000000) (h3:u < t+n.limit) (rv:List Int) (st:List T3) (lo:Int) :
 fZ n (vV p.m t) ⟨10,u,p.m.serving⟩=0/\km n ⟨vV p.m t,rv,st,t,lo⟩ ⟨10,u,p.m.serving⟩=⟨{ iB (vV p.m t) p.m.serving u with at_:=u },rv,chg st p.m.serving p.m.serving u,-1,kz t lo u⟩:=by
 have hsv:isC n p.m.serving=true:=g.srv;have hev:evE n ⟨10,u,p.m.serving⟩=0:=by
  have:gd u=true:=by simp only[gd,decide_eq_true_eq];omega
  simp[evE,this,iz,hsv]
 have hb:ju n (vV p.m t) u=false:=by
  have:¬ (t+n.limit<=u):=by omega
  simp[ju,vV,this]
 constructor
 . rw[fZ,if_neg (by simp[hev]),qd,if_neg (by show ¬ u < t;omega),AM hb];simp[et,vV]
 . show atP (doP (eJ n _ u) ⟨10,u,p.m.serving⟩) u=_
   rw[AN (p:=⟨vV p.m t,rv,st,t,lo⟩) hb];unfold doP;rw[if_pos rfl];rfl
theorem BW {n:Nw} {p:Ph} {t:Int} (hn:NetOk n) (g:dN n (vV p.m t)) (h1:0<=t) (h2:t+n.limit<=1000000000) (rv:List Int) (st:List T3) (lo:Int) :
 fZ n (vV p.m t) ⟨11,t+n.limit,0⟩=0/\km n ⟨vV p.m t,rv,st,t,lo⟩ ⟨11,t+n.limit,0⟩=⟨{ iB (vV p.m t) 0 (t+n.limit)with at_:=t+n.limit },rv,chg st p.m.serving 0 (t+n.limit),-1,kz t lo (t+n.limit)⟩:=by
 have hl:=hn.lim;have hev:evE n ⟨11,t+n.limit,0⟩=0:=by
  have:gd (t+n.limit)=true:=by simp only[gd,decide_eq_true_eq];omega
  simp[evE,this,iz]
 have hb:ju n (vV p.m t) (t+n.limit)=true:=by simp[ju,vV,ed]
 constructor
 . rw[fZ,if_neg (by simp[hev]),qd,if_neg (by show ¬ t+n.limit < t;omega)];simp[et]
 . show atP (doP (eJ n _ (t+n.limit)) ⟨11,t+n.limit,0⟩) (t+n.limit)=_
   have hP:eJ n ⟨vV p.m t,rv,st,t,lo⟩ (t+n.limit)=kH ⟨vV p.m t,rv,st,t,lo⟩ 0 (t+n.limit):=by
    unfold eJ;rw[if_pos hb];rfl
   rw[hP];have hA:∀ m:Ms,eG m ⟨11,t+n.limit,0⟩=m:=fun m=>by simp[eG]
   unfold doP;simp only[Int.reduceEq,if_false,or_self,false_and,hA];rw[xL (show (kH ⟨vV p.m t,rv,st,t,lo⟩ 0 (t+n.limit)).m.source=-1 from rfl)];rfl
theorem xx {n:Nw} {m:Ms} {p:Ph} (hp:p.m=m) (l:List T3) (a b:T3) (h:(iH n m l 0).2=0) (ha:fZ n (jk n p l).m a=0) (hb:fZ n (km n (jk n p l) a).m b=0):(iH n m (l++[a,b]) 0).2=0/\jk n p (l++[a,b])=km n (km n (jk n p l) a) b:=by
 subst hp;constructor
 . rw[yQ,if_pos h,iH,if_pos ha,<- ql,iH,if_pos hb];rfl
 . rw[yR];rfl
theorem BE {n:Nw} (hn:NetOk n) {c:Int} (hc:isC n c=true) (l:List T3) (hl:l.length<=90) (h:(iH n (eM n c) l 0).2=0) (x1 x2:Int)
 (ha:ed (lu n c l).m=false) (h1:(lu n c l).m.at_<=x1) (h2:x1<=1000000000 - n.limit) (h3:0<=x2/\x2<=n.limit - 1) :
 ((iH n (eM n c) (l++[⟨9,x1,0⟩,⟨10,x1+x2,(lu n c l).m.serving⟩]) 0).2=0/\(lu n c (l++[⟨9,x1,0⟩,⟨10,x1+x2,(lu n c l).m.serving⟩])).m={ iB (vV (lu n c l).m x1) (lu n c l).m.serving (x1+x2)with at_:=x1+x2 }/\x2<=(lu n c (l++[⟨9,x1,0⟩,⟨10,x1+x2,(lu n c l).m.serving⟩])).longest/\(lu n c (l++[⟨9,x1,0⟩,⟨10,x1+x2,(lu n c l).m.serving⟩])).longest<=n.limit) /\
 ((iH n (eM n c) (l++[⟨9,x1,0⟩,⟨11,x1+n.limit,0⟩]) 0).2=0/\(lu n c (l++[⟨9,x1,0⟩,⟨11,x1+n.limit,0⟩])).m={ iB (vV (lu n c l).m x1) 0 (x1+n.limit)with at_:=x1+n.limit }/\(lu n c (l++[⟨9,x1,0⟩,⟨11,x1+n.limit,0⟩])).longest=n.limit):=by
 have a:=All.steps hn l (gm n c) (xE n c) 0 (All.begin hn hc) h;have e0:(lu n c l).m=(jk n (gm n c) l).m:=rfl;rw[e0]at ha h1 ⊢;have hlim:=hn.lim;have ho:=(a.r.no ha).1;have hlo:=a.r.lim;have hln:=a.r.nnw;have hat:=a.g.at_;generalize hp:jk n (gm n c) l=p at *;obtain⟨f1,f2⟩:=y4 (t:=x1) a.g ha ho h1 (by omega);have gl:=BU hn a.g ha ho h1 (show x1<=1000000000 by omega);obtain⟨r1,r2⟩:=Cq (u:=x1+x2) gl (by omega) (by omega) (by omega) p.recv p.stays p.longest;obtain⟨t1,t2⟩:=BW hn gl (by omega) (by omega) p.recv p.stays p.longest;have A:=xx (p:=gm n c) rfl l ⟨9,x1,0⟩ ⟨10,x1+x2,p.m.serving⟩ h (by rw[hp];exact f1) (by rw[hp,f2];exact r1);have B:=xx (p:=gm n c) rfl l ⟨9,x1,0⟩ ⟨11,x1+n.limit,0⟩ h (by rw[hp];exact f1) (by rw[hp,f2];exact t1);rw[hp,f2]at A B;rw[r2]at A;rw[t2]at B;have LA:(lu n c (l++[⟨9,x1,0⟩,⟨10,x1+x2,p.m.serving⟩])).longest=max p.longest x2:=by
  show (finP (jk n (gm n c) _)).longest=_
  rw[A.2];show kz x1 p.longest (x1+x2)=_
  rw[xh (by omega),show x1+x2 - x1=x2 by omega]
 have LB:(lu n c (l++[⟨9,x1,0⟩,⟨11,x1+n.limit,0⟩])).longest=max p.longest n.limit:=by
  show (finP (jk n (gm n c) _)).longest=_
  rw[B.2];show kz x1 p.longest (x1+n.limit)=_
  rw[xh (by omega),show x1+n.limit - x1=n.limit by omega]
 refine⟨⟨A.1,?_,by rw[LA];omega,by rw[LA];omega⟩,⟨B.1,?_,by rw[LB];omega⟩⟩
 . show (jk n (gm n c) _).m=_
   rw[A.2]
 . show (jk n (gm n c) _).m=_
   rw[B.2]
structure Run (n:Nw) (m:Ms) (l:List T3) (k:Ms):Prop where
 e:∀ i,(iH n m l i).2=0
 s:l.foldl (qm n) m=k
structure Cn (n:Nw) (m:Ms) (t a f:Int):Prop where
 g:dN n m
 phw:m.phase=0
 at_:m.at_=t
 got:m.got=a
 fresh:m.fresh=f
end Go.Proofs.YtcbabnbiinkafaaGreatDoor
end
