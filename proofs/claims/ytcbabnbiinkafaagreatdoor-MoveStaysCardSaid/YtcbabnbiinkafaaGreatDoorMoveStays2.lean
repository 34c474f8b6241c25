/- Part 2 of the proof of: MoveStays returns true for every input and never panics: the stays and the longest outage of a log are as the reference says, stays follow one another, and no outage takes longer than the limit; conditions: those of the given statement, that the package variables it lists hold what their initialisers lay. -/
import Derived.Test.YtcbabnbiinkafaaGreatDoorMoveStays1
set_option linter.all false
section
open Go Go.Am
open Go.Am.Dat (cells)
namespace Go.Proofs.YtcbabnbiinkafaaGreatDoor
set_option maxHeartbeats 4000000
set_option maxRecDepth 100000
theorem Chn.doP {n:Nw} {p:Ph} {e:T3} (g:p.m.phase=2->isC n p.m.target=true) (h:Chn n p.stays p.m.serving e.y) (h0:0<=e.y) (hev:evE n e=0) (hd:eA n p.m e=0):Chn n (doP p e).stays (doP p e).m.serving e.y:=by
 obtain⟨hx,hy,hcz⟩:=ev_ok hev;unfold Go.Proofs.YtcbabnbiinkafaaGreatDoor.doP;by_cases h10:e.x=10
 . rw[if_pos h10];exact h.chg h0 (hcz (by simp[iN,h10]))
 rw[if_neg h10];have hs:(settle (eK p.m e)).serving=(eK p.m e).serving:=(xD _).1;by_cases h6:e.x=6
 . have h2:p.m.phase=2:=by
    unfold eA at hd;simp only[h6,Int.reduceEq,if_true,if_false]at hd;rcases Classical.em (p.m.phase=2)with q | q
    . exact q
    . rw[if_pos q]at hd;cases hd
   have e1:(eK p.m e).serving=p.m.target:=by unfold eK;simp only[h6,Int.reduceEq,if_true,if_false]
   show Chn n (if e.x=6 then _ else _) (settle (eK p.m e)).serving e.y
   rw[if_pos h6,hs,e1];exact h.chg h0 (g h2)
 . have e1:(eK p.m e).serving=p.m.serving:=by
    unfold eK;simp only[h6,if_false]
    repeat' split
    all_goals rfl
   show Chn n (if e.x=6 then _ else _) (settle (eK p.m e)).serving e.y
   rw[if_neg h6,hs,e1];exact h
structure All (n:Nw) (p:Ph) (w:Rw):Prop where
 g:dP n p.m
 r:RwOk n p w
 c:Chn n p.stays p.m.serving p.m.at_
theorem All.begin {n:Nw} (hn:NetOk n) {c:Int} (hc:isC n c=true):All n (gz n c) (xi n c):=⟨dP.begin hn hc,.begin hn c,.begin hc⟩
theorem All.apply {n:Nw} {p:Ph} {w:Rw} {e:T3} (hn:NetOk n) (a:All n p w) (h:gi n p.m e=0):All n (kL n p e) (xz n w e):=by
 have hev:=sw h;obtain⟨hx,hy,hcz⟩:=ev_ok hev;have hE:=h;rw[gi,if_neg (by simp[hev]),qU]at hE;have hat:p.m.at_<=e.y:=by
  rcases Classical.em (e.y < p.m.at_)with q | q
  . rw[if_pos q]at hE;cases hE
  . omega
 rw[if_neg (by omega)]at hE;have G:dP n (lB n p.m e.y):=a.g.pass hn hat hy.2;have hq:lB n p.m e.y=(atP (eP n p e.y) e.y).m:=by
  show _=({ (eP n p e.y).m with at_:=e.y }:Ms)
  rw[pI];rfl
 have hd:eA n (eP n p e.y).m e=0:=by
  rw[<- hE,hq];rfl
 have r1:=a.r.pass hn a.g.since.1 e.y;have c1:=a.c.pass hn a.g hat;have G':dP n (atP (eP n p e.y) e.y).m:=hq ▸ G;refine⟨by rw[rc];exact a.g.apply hn h,?_,?_⟩
 . refine RwOk.act hn r1 hx hy.1 G'.since.1 (fun q=>?_) hd ?_
   . exact G'.due q
   . rw[a.r.m];exact (rc n p e).symm
 . exact Chn.doP (p:=eP n p e.y) (fun h2=>G'.tgt (fun q=>(G'.f2 q).2 h2)) c1 hy.1 hev hd
theorem All.steps {n:Nw} (hn:NetOk n):∀ (l:List T3) (p:Ph) (w:Rw) (i:Int),All n p w->(iW n p.m l i).2=0->All n (jy n p l) (xj n w l)
 |[],p,w,i,a,_=>a
 | e :: l,p,w,i,a,h=>by
  rw[iW]at h;by_cases h0:gi n p.m e=0
  . rw[if_pos h0,<- rc]at h;exact All.steps hn l _ _ (i+1) (a.apply hn h0) h
  . rw[if_neg h0]at h;exact absurd h h0
theorem PhK.steps {n:Nw}:∀ (l:List T3) (p:Ph) (i:Int) (k:Nat),PhK k p->(iW n p.m l i).2=0->PhK (k+l.length) (jy n p l)
 |[],p,i,k,a,_=>a
 | e :: l,p,i,k,a,h=>by
  rw[iW]at h;by_cases h0:gi n p.m e=0
  . rw[if_pos h0,<- rc]at h;have:=PhK.steps l _ (i+1) (k+1) (a.apply (n:=n) (e:=e) (ev_ok (sw h0)).2.1) h;rw[zQ];rwa[yG,Nat.add_comm 1]at this
  . rw[if_neg h0]at h;exact absurd h h0
theorem Bn {n:Nw} (hn:NetOk n) {c:Int} (hc:isC n c=true) (l:List T3) (hl:l.length<=99) (h:(iW n (eR n c) l 0).2=0) :
 (lR n c l).stays=(xB (xj n (xi n c) l)).1/\(lR n c l).longest=xw (xB (xj n (xi n c) l)).2/\xE n (lR n c l).stays=0/\(lR n c l).longest<=n.limit/\(lR n c l).recv=recR n (eR n c) l:=by
 have a:=All.steps hn l (gz n c) (xi n c) 0 (All.begin hn hc) h;have hrec:(lR n c l).recv=recR n (eR n c) l:=by
  show (jy n (gz n c) l).recv=_
  rw[yW];simp[gz]
 have hk:=PhK.steps l (gz n c) 0 0 ⟨by simp[gz],by simp[gz],by simp[gz],by simp[gz]⟩ h;refine⟨?_,?_,?_,?_,hrec⟩
 all_goals
  unfold lR;generalize jy n (gz n c) l=p at *;generalize xj n (xi n c) l=w at *
 . show jL p.stays p.m.at_=jL w.st w.m.at_
   rw[a.r.st,a.r.m]
 . show kW p.out p.longest p.m.at_=xw (if ej w.m=true then xm w.ouw w.m.at_ else w.ouw)
   rw[a.r.m];cases hA:ej p.m
   . obtain⟨q1,q2⟩:=a.r.no hA;rw[if_neg (by simp),q2,q1];rfl
   . obtain⟨q1,k,q2,q3⟩:=a.r.yes hA;have:=a.g.since;rw[if_pos rfl,q2,xR,xJ,q3,yO (by omega)]
 . have hat:=a.g.at_;have h1:(jL p.stays p.m.at_).length<=200:=by rw[vC];have:=hk.s1;omega
   show xE n (jL p.stays p.m.at_)=0
   unfold xE;rw[if_neg (by omega)];exact a.c.stE hat.2 _ 0 (zz _)
 . show kW p.out p.longest p.m.at_<=n.limit
   have h1:=a.r.lim;have h2:=a.g.since;unfold kW;split
   . exact h1
   . rename_i hne;cases hA:ej p.m
     . exact absurd (a.r.no hA).1 hne
     . have:=a.g.due hA;have:=(a.r.yes hA).1;omega
theorem Aa (n:Nw):∀ (l:List T3) (m:Ms) (i j:Int),(iW n m l i).2=0->(iW n m l j).2=0
 |[],m,i,j,h=>h
 | e :: l,m,i,j,h=>by
  rw[iW]at h ⊢;by_cases h0:gi n m e=0
  . rw[if_pos h0]at h ⊢;exact Aa n l _ _ _ h
  . rw[if_neg h0]at h;exact absurd h h0
theorem x9 (n:Nw):∀ (l:List T3) (m:Ms) (i:Int),(iW n m l i).2=0->iW n m l i=(0,0)
 |[],m,i,h=>rfl
 | e :: l,m,i,h=>by
  rw[iW]at h ⊢;by_cases h0:gi n m e=0
  . rw[if_pos h0]at h ⊢;exact x9 n l _ _ h
  . rw[if_neg h0]at h;exact absurd h h0
def xv (f:FuncId) (as0:List C) (r:C) (k:Nat) (c:Ch) (hr:dF [k] r) (hc:gm [k] c) (h:FC Tryz.prog f as0 [] r [(k,c)]):Ent Tryz.prog:=.mk3 f (fun args chs=>some (args=as0/\chs=[],r,[(k,c)],[k])) (by
 intro args chs pp r' chs' nk hs hq;simp only[zn,zf]at hs;obtain⟨rfl,rfl,rfl,rfl⟩:=hs;obtain⟨rfl,rfl⟩:=hq;refine⟨h,⟨fun k' c' hm=>.inl ?_,fun k cs hm=>(by simp at hm),hr,fun k' c' hm=>?_⟩⟩
 . simp only[zg,zf]at hm ⊢;exact hm.1
 . simp only[zg,zf]at hm;obtain⟨rfl,rfl⟩:=hm
   exact hc)
theorem AJ (l:List Int) (h:l.length<=1000000):FC Tryz.prog 24 [enc l] [] (.own 3) [(3,.row 1 3 (l.map Dat.cells))]:=by
 refine dD [3] is24 (by simp) (by simp[bk]) (by simp[an,ag]) (by simp[an,ag,av]) (by simp[aB,lk]) (fun cx _ hl _=>dC [] 800 ?_);delta c24 oO oA oM oX o1;simp (maxSteps:=9^7) -implicitDefEqProofs only[rv24,InR,WU,Ent.of0,Ent.of1,Ent.of2,Ent.of3,Ent.of4,V,W3,↓reduceIte,seval,reduceCtorEq];omega
def yV (l:List Int) (h:l.length<=1000000):Ent Tryz.prog:=xv 24 [enc l] (.own 3) 3 (.row 1 3 (l.map Dat.cells)) (by simp[dF]) (by simp[gm]) (AJ l h)
structure BufS (b:List (List Int)):Prop where
 l:b.length<=1000000
 r:∀ x∈b,x.length<=1000000
theorem Av (b:List (List Int)) (h:BufS b):FC Tryz.prog 60 [enc b] [] (.own 3) [(3,.deep 1 3 24 none (fP b))]:=by
 have h1:=h.l;refine dD [3] D7.is60 (by simp) (by simp[bk]) (by simp[an,ag]) (by simp[an,ag,av]) (by simp[aB,lk]) (fun cx _ hl _=>dC [] 800 ?_);delta D7.c60 oA oM oS oK oV oX;simp (maxSteps:=9^7) -implicitDefEqProofs only[D7.rv60,InR,WU,Ent.of0,Ent.of1,Ent.of2,Ent.of3,Ent.of4,V,W3,↓reduceIte,seval,reduceCtorEq];refine⟨by simp,?_⟩;refine eN b.length (fun i=>[(4,.s (.int .i64 (i:Int)))]) (fun i=>[(3,.deep 1 3 24 none (fP (b.take i)))]) (fun _=>True) trivial ?_ (fun i hi _=>?_)
 . simp (maxSteps:=9^7) -implicitDefEqProofs only[Ent.of0,Ent.of1,Ent.of2,Ent.of3,Ent.of4,V,W3,↓reduceIte,seval,reduceCtorEq]
   all_goals rfl
 . by_cases hlt:i < b.length
   . have hi2:(i:Int) < (b.length:Int):=by omega
     have hi0:(0:Int)<=i:=by omega
     have hgx:List.getD (b.map Dat.cells) i [C.sl 0 []]=[C.sl 1 ((b.getD i []).map Dat.cells)]:=by
      rw[zb,zb,zh,ze hlt];rfl
     have hx:=h.r _ (yy hlt);have hgd:b.getD i []=b[i]:=by rw[zb,ze hlt];rfl
     have hap:fP (b.take i)++[(b.getD i []).map Dat.cells]=fP (b.take (i+1)):=by
      rw[hgd,yI hlt,fP,fP,yg];rfl
     have hlen:(b.take i).length=i:=by rw[List.length_take];omega
     rw[<- hgd]at hx;refine dC [yV (b.getD i []) hx] 800 ?_;delta D7.c60l1 oO oN oA oM oR oS oK oL oC oX oB o0 o4;simp (maxSteps:=9^7) -implicitDefEqProofs only[yV,xv,hi0,hi2,hlt,hgx,hap,eu,hlen,InR,WU,Ent.of0,Ent.of1,Ent.of2,Ent.of3,Ent.of4,V,W3,↓reduceIte,seval,reduceCtorEq];omega
   . have hi2:¬ (i:Int) < (b.length:Int):=by omega
     have htk:b.take i=b:=List.take_of_length_le (by omega);refine dC [] 800 ?_;delta D7.c60l1 oO oN oA oM oR oS oK oL oC oX oB o0 o4;simp (maxSteps:=9^7) -implicitDefEqProofs only[D7.rv60,hi2,htk,WU,Ent.of0,Ent.of1,Ent.of2,Ent.of3,Ent.of4,V,W3,↓reduceIte,seval,reduceCtorEq]
def Bd (b:List (List Int)) (h:BufS b):Ent Tryz.prog:=xv 60 [enc b] (.own 3) 3 (.deep 1 3 24 none (fP b)) (by simp[dF]) (by simp[gm]) (Av b h)
def msA (m:Ms) (k:Nat):C:=.agg (msC m k)
theorem yS (m:Ms) (k:Nat):dF [k] (msA m k):=by simp[msA,msC,dF,dF.keysIns]
theorem Copy_o (m:Ms) (h:BufS m.buf):FC Tryz.prog 65 [enc m] [] (msA m 5) [(5,.deep 1 3 24 none (fP m.buf))]:=by
 refine dD [5] D7.is65 (by simp) (by simp[bk]) (by simp[an,ag]) (by simp[an,ag,av]) (by simp[aB,lk]) (fun cx _ hl _=>dC [Bd m.buf h] 800 ?_);delta D7.c65 oO oA oF oL oC oW oX oZ o5 o7;simp (maxSteps:=9^7) -implicitDefEqProofs only[D7.rv65,Bd,xv,kN,msA,msC,InR,WU,Ent.of0,Ent.of1,Ent.of2,Ent.of3,Ent.of4,V,W3,↓reduceIte,seval,reduceCtorEq]
def xQ (m:Ms) (h:BufS m.buf):Ent Tryz.prog:=xv 65 [enc m] (msA m 5) 5 (.deep 1 3 24 none (fP m.buf)) (yS m 5) (by simp[gm]) (Copy_o m h)
theorem Raway_c (m:Ms):FC Tryz.prog 112 [enc m] [] (enc (ej m)) []:=by
 refine dD [] is112 (by simp) trivial trivial trivial trivial (fun cx _ hl _=>dC [] 800 ?_);by_cases h1:m.phase=2 <;> by_cases h2:m.phase=3
 all_goals
  delta c112 oO oN oM oG oF oL oX oH oB oE oJ o7 o9;simp (maxSteps:=9^7) -implicitDefEqProofs only[rv112,kN,ej,h1,h2,WU,Ent.of0,Ent.of1,Ent.of2,Ent.of3,Ent.of4,V,W3,↓reduceIte,seval,reduceCtorEq]
def xf : Ent Tryz.prog:=.of1 112 (fun _=>True) (fun m:Ms=>enc (ej m)) (fun _=>trivial) (fun m _=>Raway_c m)
theorem Bo (l:List Int) (g:Int) (h:l.length<=1000000):FC Tryz.prog 164 [enc l,enc g] [] (.own 5) [(5,.row 1 3 ((frm l g).map Dat.cells))]:=by
 refine dD [5] D7.is164 (by simp) (by simp[bk]) (by simp[an,ag]) (by simp[an,ag,av]) (by simp[aB,lk]) (fun cx _ hl _=>dC [] 800 ?_);delta D7.c164 oA oM oS oK oV oX;simp (maxSteps:=9^7) -implicitDefEqProofs only[D7.rv164,InR,WU,Ent.of0,Ent.of1,Ent.of2,Ent.of3,Ent.of4,V,W3,↓reduceIte,seval,reduceCtorEq];refine eN l.length (fun i=>[(6,.s (.int .i64 (i:Int)))]) (fun i=>[(5,.row 1 3 ((frm (l.take i) g).map Dat.cells))]) (fun _=>True) trivial ?_ (fun i hi _=>?_)
 . simp (maxSteps:=9^7) -implicitDefEqProofs only[Ent.of0,Ent.of1,Ent.of2,Ent.of3,Ent.of4,V,W3,↓reduceIte,seval,reduceCtorEq]
   all_goals rfl
 . by_cases hlt:i < l.length
   . have hi2:(i:Int) < (l.length:Int):=by omega
     have hi0:(0:Int)<=i:=by omega
     have hgd:l.getD i 0=l[i]:=by rw[zb,ze hlt];rfl
     have hf:frm (l.take (i+1)) g=frm (l.take i) g++(if g<=l.getD i 0 then [l.getD i 0]else []):=by
      rw[hgd,yI hlt,frm,frm,List.filter_append];by_cases hg:g<=l[i] <;> simp[hg]
     have hfl:(frm (l.take i) g).length<=i:=by
      refine z6 (List.length_filter_le _ _) ?_;rw[List.length_take];omega
     refine dC [] 800 ?_;delta D7.c164l1 oO oN oA oM oR oS oK oL oI oX oB o1 o4;simp (maxSteps:=9^7) -implicitDefEqProofs only[hi0,hi2,hlt,hf,yg,zy,InR,WU,Ent.of0,Ent.of1,Ent.of2,Ent.of3,Ent.of4,V,W3,↓reduceIte,seval,reduceCtorEq];generalize l.getD i 0=y at *;by_cases hg:g<=y
     . rw[if_pos hg,if_pos hg];exact⟨by omega,by omega,by omega,rfl⟩
     . rw[if_neg hg,if_neg hg,zR,z4];exact⟨by omega,by omega,rfl⟩
   . have hi2:¬ (i:Int) < (l.length:Int):=by omega
     have htk:l.take i=l:=List.take_of_length_le (by omega);refine dC [] 800 ?_;delta D7.c164l1 oO oN oA oM oR oS oK oL oI oX oB o1 o4;simp (maxSteps:=9^7) -implicitDefEqProofs only[D7.rv164,hi2,htk,WU,Ent.of0,Ent.of1,Ent.of2,Ent.of3,Ent.of4,V,W3,↓reduceIte,seval,reduceCtorEq]
def xX (l:List Int) (g:Int) (h:l.length<=1000000):Ent Tryz.prog:=xv 164 [enc l,enc g] (.own 5) 5 (.row 1 3 ((frm l g).map Dat.cells)) (by simp[dF]) (by simp[gm]) (Bo l g h)
theorem Bj (l:List Int) (n:Int) (i:Nat) (h:i < l.length->¬ l.getD i 0 < n):gc (l.drop i) n=n :: l.drop i:=by
 by_cases hi:i < l.length
 . rw[eg 0 hi,gc,if_neg (h hi)]
 . rw[zv (by omega)];rfl
theorem put_o (l:List Int) (n:Int) (h:l.length<=1000000):FC Tryz.prog 163 [enc l,enc n] [] (.own 5) [(5,.row 1 3 ((gc l n).map Dat.cells))]:=by
 generalize hR:gc l n=R;refine dD [5,31,35] D7.is163 (by simp) (by simp[bk]) (by simp[an,ag]) (by simp[an,ag,av]) (by simp[aB,lk]) (fun cx _ hl _=>dC [] 800 ?_);delta D7.c163 oO oA oM oT oS oK oV oX o1;simp (maxSteps:=9^7) -implicitDefEqProofs only[D7.rv163,InR,WU,Ent.of0,Ent.of1,Ent.of2,Ent.of3,Ent.of4,V,W3,↓reduceIte,seval,reduceCtorEq];refine eN l.length (fun i=>[(6,.s (.int .i64 (i:Int)))]) (fun i=>[(5,.row 1 3 ((l.take i).map Dat.cells))]) (fun i=>R=l.take i++gc (l.drop i) n) (by rw[<- hR];rfl) ?_ (fun i hi hv=>?_)
 . simp (maxSteps:=9^7) -implicitDefEqProofs only[Ent.of0,Ent.of1,Ent.of2,Ent.of3,Ent.of4,V,W3,↓reduceIte,seval,reduceCtorEq]
   all_goals rfl
 . have hlt0:(l.take i).length=i:=by rw[List.length_take];omega
   have hi0:(0:Int)<=i:=by omega
   have hi4:(i:Int)<=(l.length:Int):=by omega
   have htl:List.take l.length (List.map Dat.cells l)=List.map Dat.cells l:=List.take_of_length_le (by simp);by_cases hc:i < l.length/\l.getD i 0 < n
   . obtain⟨hlt,hg⟩:=hc;have hi2:(i:Int) < (l.length:Int):=by omega
     have hd:=eg (d:=(0:Int)) hlt;have hgd:l.getD i 0=l[i]:=by rw[zb,ze hlt];rfl
     have htk:l.take (i+1)=l.take i++[l.getD i 0]:=by rw[hgd,yI hlt]
     rw[hd,gc,if_pos hg]at hv;refine dC [] 800 ?_;delta D7.c163l1 oO oN oA oM oG oR oS oK oL oX oP oB oD oJ o1 o4;simp (maxSteps:=9^7) -implicitDefEqProofs only[hi0,hi2,hlt,hg,htk,hlt0,yg,zy,InR,WU,Ent.of0,Ent.of1,Ent.of2,Ent.of3,Ent.of4,V,W3,↓reduceIte,seval,reduceCtorEq];exact⟨by omega,by omega,by rw[hv];simp,by omega⟩
   . rw[Bj l n i (fun q q2=>hc ⟨q,q2⟩)]at hv;have hcc:(((i:Int) < (l.length:Int))=True/\(i < l.length)=True/\(l.getD i 0 < n)=False)\/(((i:Int) < (l.length:Int))=False/\True/\True):=by
      by_cases hlt:i < l.length
      . exact .inl ⟨eq_true (by omega),eq_true hlt,eq_false fun q=>hc ⟨hlt,q⟩⟩
      . exact .inr ⟨eq_false (by omega),trivial,trivial⟩
     refine dC [] 800 ?_;rcases hcc with⟨h1,h2,h3⟩ | ⟨h1,h2,h3⟩
     all_goals
      delta D7.c163l1 oO oN oA oM oG oR oS oK oL oX oP oB oD oJ o1 o4;simp (maxSteps:=9^7) -implicitDefEqProofs only[hi0,h1,h2,h3,hlt0,zy,not_false_eq_true,not_true_eq_false,InR,WU,Ent.of0,Ent.of1,Ent.of2,Ent.of3,Ent.of4,V,W3,↓reduceIte,seval,reduceCtorEq];refine nC [] 800 ?_;simp (maxSteps:=9^7) -implicitDefEqProofs only[drS,lC,robC,reC,fixS,eQ,AOp.reads,kF,true_or,or_true,false_or,hi0,hi4,hlt0,htl,zy,Option.toList_some,Option.toList_none,z4,yq,yb,InR,WU,Ent.of0,Ent.of1,Ent.of2,Ent.of3,Ent.of4,V,W3,↓reduceIte,seval,reduceCtorEq];refine⟨by omega,by omega,by simp;omega,by omega,dC [] 400 ?_⟩;simp (maxSteps:=9^7) -implicitDefEqProofs only[Ent.of0,Ent.of1,Ent.of2,Ent.of3,Ent.of4,V,W3,↓reduceIte,seval,reduceCtorEq];rw[hv];simp;rfl
theorem put_c (l:List Int) (n:Int) (h:l.length<=1000000):FC Tryz.prog 163 [enc l,enc n] [] (enc (gc l n)) []:=FC.frz (put_o l n h) (x:=.sl 1 ((gc l n).map Dat.cells)) rfl
def Bc : Ent Tryz.prog:=.of2 163 (fun l _=>l.length<=1000000) (fun (l:List Int) (n:Int)=>enc (gc l n)) (fun _ _=>trivial) (fun l n h=>put_c l n h)
theorem y6 (b:List (List Int)):yY (.deep 1 3 24 none (fP b)):=fun es hes e he c hc=>by
 simp only[fP,zu]at hes;obtain⟨l,_,rfl⟩:=hes;obtain⟨x,_,rfl⟩:=zu.1 he;exact⟨_,zg.1 hc⟩
structure MsS (m:Ms):Prop where
 b:BufS m.buf
 f:m.buf.flatten.length<=1000000
def xH (bs:List (List Int)) (i:Nat):List Int:=(bs.take i).flatten.foldl gc []
def xF (bs:List (List Int)) (i:Nat):List (List Int):=(bs.take i).map (fun _=>[])++bs.drop i
theorem x6 (l acc:List Int):(l.foldl gc acc).length=acc.length+l.length:=by
 rw[(l4 l acc).length_eq,zK]
theorem Ad (bs:List (List Int)) (i:Nat) (h:i < bs.length):(bs.take i).flatten.length+(bs.getD i []).length<=bs.flatten.length:=by
 have e:bs.flatten=(bs.take i).flatten++((bs.getD i [])++(bs.drop (i+1)).flatten):=by
  conv=>lhs;rw[<- List.take_append_drop i bs,eg [] h]
  rw[List.flatten_append,List.flatten_cons]
 rw[e,zK,zK];omega
theorem AX (bs:List (List Int)) (i:Nat) (h:i < bs.length):xH bs (i+1)=(bs.getD i []).foldl gc (xH bs i):=by
 have hgd:bs.getD i []=bs[i]:=by rw[zb,ze h];rfl
 rw[xH,xH,yI h,hgd,List.flatten_append,List.foldl_append,List.flatten_cons,List.flatten_nil,z4]
theorem AZ (bs:List (List Int)) (i:Nat) (h:i < bs.length):(xF bs i).set i []=xF bs (i+1):=by
 have hl:((bs.take i).map fun _=>([]:List Int)).length=i:=by simp;omega
 rw[xF,xF,eg [] h,List.set_append_right _ _ (by omega),hl,Nat.sub_self,List.set_cons_zero,yI h,yg,ye];rfl
theorem yQ (bs:List (List Int)) (i:Nat):(xF bs i).length=bs.length:=by simp[xF];omega
theorem Bt (bs:List (List Int)):xF bs bs.length=bs.map fun _=>[]:=by simp[xF]
theorem x5 (m:Ms) (c t:Int) (h:MsS m) (hc:0<=c/\c.toNat < m.buf.length):FC Tryz.prog 142 [enc m,enc c,enc t] [] (msA (iP m c t) 12) [(12,.deep 1 3 24 none (fP (iP m c t).buf))]:=by
 have h1:=h.b.l;refine dD [12] D7.is142 (by simp) (by simp[bk]) (by simp[an,ag]) (by simp[an,ag,av]) (by simp[aB,lk]) (fun cx _ hl _=>dC [xQ m h.b] 800 ?_);delta D7.c142 oO oN oA oM oT oS oK oF oL oV oC oW oY oX o0 oZ o5 o7;simp (maxSteps:=9^7) -implicitDefEqProofs only[D7.rv142,xQ,xv,kN,msA,msC,InR,WU,Ent.of0,Ent.of1,Ent.of2,Ent.of3,Ent.of4,V,W3,↓reduceIte,seval,reduceCtorEq];have hcl:c < (m.buf.length:Int):=by omega
 refine eN m.buf.length (fun i=>[(8,enc (xH m.buf i)),(9,.s (.int .i64 (i:Int)))]) (fun i=>[(12,.deep 1 3 24 none (fP (xF m.buf i)))]) (fun _=>True) trivial ?_ (fun i hi _=>dC [] 800 ?_)
 . simp (maxSteps:=9^7) -implicitDefEqProofs only[xF,xH,List.take_zero,yB,zR,yb,List.flatten_nil,List.foldl_nil,Ent.of0,Ent.of1,Ent.of2,Ent.of3,Ent.of4,V,W3,↓reduceIte,seval,reduceCtorEq]
   all_goals rfl
 . by_cases hlt:i < m.buf.length
   . have hi2:(i:Int) < (m.buf.length:Int):=by omega
     have hi0:(0:Int)<=i:=by omega
     have hgx:List.getD (m.buf.map Dat.cells) i [C.sl 0 []]=[C.sl 1 ((m.buf.getD i []).map Dat.cells)]:=by
      rw[zb,zb,zh,ze hlt];rfl
     have hfl:=Ad m.buf i hlt;have hA:(xH m.buf i).length=(m.buf.take i).flatten.length:=by rw[xH,x6];simp
     have hff:=h.f;have has:=AX m.buf i hlt;have hcs:=AZ m.buf i hlt;have hst:(fP (xF m.buf i)).set i []=fP (xF m.buf (i+1)):=by rw[<- hcs];exact jS _ i []
     delta D7.c142l2 oO oN oA oM oR oS oK oF oL oV oY oX oB o0 o4;simp (maxSteps:=9^7) -implicitDefEqProofs only[hi0,hi2,hlt,hgx,InR,WU,Ent.of0,Ent.of1,Ent.of2,Ent.of3,Ent.of4,V,W3,↓reduceIte,seval,reduceCtorEq];generalize xH m.buf i=A at *;generalize hL:m.buf.getD i []=L at *;refine eN L.length (fun k=>[(8,enc ((L.take k).foldl gc A)),(10,.s (.int .i64 (k:Int)))]) (fun k=>[]) (fun _=>True) trivial ?_ (fun k hk _=>dC [Bc] 800 ?_)
     . simp (maxSteps:=9^7) -implicitDefEqProofs only[List.take_zero,List.foldl_nil,Ent.of0,Ent.of1,Ent.of2,Ent.of3,Ent.of4,V,W3,↓reduceIte,seval,reduceCtorEq]
       all_goals rfl
     . by_cases hkl:k < L.length
       . have hk2:(k:Int) < (L.length:Int):=by omega
         have hk0:(0:Int)<=k:=by omega
         have hle:((L.take k).foldl gc A).length<=1000000:=by rw[x6,List.length_take];omega
         have hgd:L.getD k 0=L[k]:=by rw[zb,ze hkl];rfl
         have hnx:(L.take (k+1)).foldl gc A=gc ((L.take k).foldl gc A) (L.getD k 0):=by
          rw[hgd,yI hkl,List.foldl_append];rfl
         delta D7.c142l1 oO oN oA oM oR oS oK oF oL oC oX oB o0 o1 o4;simp (maxSteps:=9^7) -implicitDefEqProofs only[Bc,hi0,hi2,hlt,hgx,hk0,hk2,hkl,hle,hnx,InR,WU,Ent.of0,Ent.of1,Ent.of2,Ent.of3,Ent.of4,V,W3,↓reduceIte,seval,reduceCtorEq];omega
       . have hke:k=L.length:=by omega
         subst hke;have hk2:¬ ((L.length:Nat):Int) < (L.length:Int):=by omega
         delta D7.c142l1 oO oN oA oM oR oS oK oF oL oC oX oB o0 o1 o4;simp (maxSteps:=9^7) -implicitDefEqProofs only[hi0,hi2,hlt,hgx,hk2,eu,yQ,hst,yo,has,InR,WU,Ent.of0,Ent.of1,Ent.of2,Ent.of3,Ent.of4,V,W3,↓reduceIte,seval,reduceCtorEq];refine pw rfl (OpM.nilled 99 1 3 (by decide) (.f (by simp[ai,As,Ar,aq,gt,lk,af,ae,ah,bF];rfl) (by simp[eu,yQ];omega))) (fun ef he=>?_);subst he;refine nz [] 800 ?_;simp (maxSteps:=9^7) -implicitDefEqProofs only[a6,bF,eu,yQ,hst,has,hlt,InR,WU,Ent.of0,Ent.of1,Ent.of2,Ent.of3,Ent.of4,V,W3,↓reduceIte,seval,reduceCtorEq];omega
   . have hie:i=m.buf.length:=by omega
     subst hie;have hi2:¬ ((m.buf.length:Nat):Int) < (m.buf.length:Int):=by omega
     have hall:xH m.buf m.buf.length=mrg m.buf:=by rw[xH,yo];rfl
     have hml:(mrg m.buf).length<=1000000:=by rw[(lx m.buf).length_eq];exact h.f
     have hst:=jS (m.buf.map fun _=>[]) c.toNat (frm (mrg m.buf) m.got);have hbl:(fP (m.buf.map fun _=>[])).length=m.buf.length:=by rw[eu,zy]
     rw[Bt,hall];obtain⟨hc0,hc2⟩:=hc;delta D7.c142l2 oO oN oA oM oR oS oK oF oL oV oY oX oB o0 o4;simp (maxSteps:=9^7) -implicitDefEqProofs only[hi2,InR,WU,Ent.of0,Ent.of1,Ent.of2,Ent.of3,Ent.of4,V,W3,↓reduceIte,seval,reduceCtorEq];refine nC [xX (mrg m.buf) m.got hml] 800 ?_;simp (maxSteps:=9^7) -implicitDefEqProofs only[drS,lC,robC,reC,fixS,eQ,AOp.reads,kF,true_or,or_true,false_or,xX,xv,hc0,hc2,hcl,hbl,InR,WU,Ent.of0,Ent.of1,Ent.of2,Ent.of3,Ent.of4,V,W3,↓reduceIte,seval,reduceCtorEq];refine dC [] 600 ?_;simp (maxSteps:=9^7) -implicitDefEqProofs only[D7.rv142,hst,iP,InR,WU,Ent.of0,Ent.of1,Ent.of2,Ent.of3,Ent.of4,V,W3,↓reduceIte,seval,reduceCtorEq]
def AE (m:Ms) (c t:Int) (h:MsS m) (hc:0<=c/\c.toNat < m.buf.length):Ent Tryz.prog:=xv 142 [enc m,enc c,enc t] (msA (iP m c t) 12) 12 (.deep 1 3 24 none (fP (iP m c t).buf)) (yS _ 12) (by simp[gm]) (x5 m c t h hc)
def xq (n:Nw) (m:Ms) (t:Int):Int:=if jJ n m t=true then m.since+n.limit else -1
theorem AV (n:Nw) (m:Ms) (t:Int) (hn:NwS n) (h:MsS m) (hl:0 < m.buf.length) (hi:ej m=true->InR .i64 (m.since+n.limit)):FC Tryz.prog 110 [enc n,enc m,enc t] [] (.tup [msA (qN n m t) 25,enc (xq n m t)]) [(25,.deep 1 3 24 none (fP (qN n m t).buf))]:=by
 have hdm:=xl m;by_cases hp:jJ n m t=true
 . have hq:=hp;simp only[jJ,zm,decide_eq_true_eq]at hq;have hI:=hi hq.1;simp only[InR]at hI;have hP:qN n m t=iP m 0 (m.since+n.limit):=by unfold qN;rw[if_pos hp]
   have hA:xq n m t=m.since+n.limit:=by unfold xq;rw[if_pos hp]
   rw[hP,hA];refine dD [25] D7.is110 (by simp) (by simp[bk]) (by simp[an,ag]) (by simp[an,ag,av]) (by simp[aB,lk]) (fun cx _ _ _=>dC [xf] 800 ?_);delta D7.c110 oO oN oA oM oT oG oS oK oF oL oV oC oW oI oX oP oB oD oE oJ oZ o5 o7;simp (maxSteps:=9^7) -implicitDefEqProofs only[D7.rv110,ed,kN,hdm,xf,hq,hI,InR,WU,Ent.of0,Ent.of1,Ent.of2,Ent.of3,Ent.of4,V,W3,↓reduceIte,seval,reduceCtorEq];refine qZ [AE m 0 (m.since+n.limit) h ⟨by decide,by simpa using hl⟩] 800 ?_;simp (maxSteps:=9^7) -implicitDefEqProofs only[gL,mFin2,ml,pF,ops2,jo,reM2,oU,qO,qP,mE,finM,kE,ia,ip,gh,ft,fW,fW.fixBs,fV,ndE2,an,ag,av,aU,aF,kF,eQ,a6,bF,AE,xv,msA,msC,kN,hI,InR,WU,Ent.of0,Ent.of1,Ent.of2,Ent.of3,Ent.of4,V,W3,↓reduceIte,seval,reduceCtorEq];refine⟨rfl,dC [] 600 ?_⟩;simp (maxSteps:=9^7) -implicitDefEqProofs only[D7.rv110,InR,WU,Ent.of0,Ent.of1,Ent.of2,Ent.of3,Ent.of4,V,W3,↓reduceIte,seval,reduceCtorEq]
 . have hP:qN n m t=m:=by unfold qN;rw[if_neg hp]
   have hA:xq n m t=-1:=by unfold xq;rw[if_neg hp]
   rw[hP,hA];have key:FC Tryz.prog 110 [enc n,enc m,enc t] [] (.tup [msA m 32,enc (-1:Int)]) [(32,.deep 1 3 24 none (fP m.buf))]:=by
    refine dD [32] D7.is110 (by simp) (by simp[bk]) (by simp[an,ag]) (by simp[an,ag,av]) (by simp[aB,lk]) (fun cx _ _ _=>dC [xf,xQ m h.b] 800 ?_);cases ha:ej m
    . delta D7.c110 oO oN oA oM oT oG oS oK oF oL oV oC oW oI oX oP oB oD oE oJ oZ o5 o7;simp (maxSteps:=9^7) -implicitDefEqProofs only[D7.rv110,ed,kN,hdm,xf,xQ,xv,msA,msC,ha,InR,WU,Ent.of0,Ent.of1,Ent.of2,Ent.of3,Ent.of4,V,W3,↓reduceIte,seval,reduceCtorEq]
    . have hI:=hi ha;simp only[InR]at hI;have hq:¬ m.since+n.limit<=t:=fun q=>hp (by simp[jJ,ha,q])
      delta D7.c110 oO oN oA oM oT oG oS oK oF oL oV oC oW oI oX oP oB oD oE oJ oZ o5 o7;simp (maxSteps:=9^7) -implicitDefEqProofs only[D7.rv110,ed,kN,hdm,xf,xQ,xv,msA,msC,ha,hI,hq,InR,WU,Ent.of0,Ent.of1,Ent.of2,Ent.of3,Ent.of4,V,W3,↓reduceIte,seval,reduceCtorEq]
   exact FC.rekey key 25 rfl (y6 m.buf)
theorem RevE_c (n:Nw) (e:T3) (h:NwS n):FC Tryz.prog 68 [enc n,enc e] [] (enc (evE n e)) []:=by
 have hdn:=gO n;generalize hE:evE n e=E;unfold evE at hE;refine dD [] is68 (by simp) trivial trivial trivial trivial (fun cx _ hl _=>dC [oa,my] 800 ?_);have htk:eM e.y=decide (0<=e.y/\e.y<=1000000000):=rfl;rw[htk]at hE;unfold iN at hE;rcases Classical.propComplete (0<=e.x/\e.x<=11)with h1 | h1
 rotate_left
 . simp[h1]at hE;subst hE;delta c68 oO oN oA oM oG oS oK oF oL oV oC oI oX oH oB oE oJ o5 o7;simp (maxSteps:=9^7) -implicitDefEqProofs only[rv68,oa,ed,dY,h1,WU,Ent.of0,Ent.of1,Ent.of2,Ent.of3,Ent.of4,V,W3,↓reduceIte,seval,reduceCtorEq]
 rcases Classical.propComplete (0<=e.y/\e.y<=1000000000)with h2 | h2
 rotate_left
 . simp[h1,h2]at hE;subst hE;delta c68 oO oN oA oM oG oS oK oF oL oV oC oI oX oH oB oE oJ o5 o7;simp (maxSteps:=9^7) -implicitDefEqProofs only[rv68,oa,ed,dY,h1,h2,WU,Ent.of0,Ent.of1,Ent.of2,Ent.of3,Ent.of4,V,W3,↓reduceIte,seval,reduceCtorEq]
 have h34:((e.x=3)=True/\True)\/((e.x=3)=False/\(e.x=10)=True)\/((e.x=3)=False/\(e.x=10)=False):=by
  by_cases q:e.x=3
  . exact .inl ⟨eq_true q,trivial⟩
  . by_cases q2:e.x=10
    . exact .inr (.inl ⟨eq_false q,eq_true q2⟩)
    . exact .inr (.inr ⟨eq_false q,eq_false q2⟩)
 rcases h34 with⟨h3,h4⟩ | ⟨h3,h4⟩ | ⟨h3,h4⟩
 rotate_left 2
 . rcases Classical.propComplete (e.z=0)with h6 | h6
   all_goals
    simp[h1,h2,h3,h4,h6]at hE;subst hE;delta c68 oO oN oA oM oG oS oK oF oL oV oC oI oX oH oB oE oJ o5 o7;simp (maxSteps:=9^7) -implicitDefEqProofs only[rv68,oa,ed,dY,h1,h2,h3,h4,h6,not_true_eq_false,not_false_eq_true,WU,Ent.of0,Ent.of1,Ent.of2,Ent.of3,Ent.of4,V,W3,↓reduceIte,seval,reduceCtorEq]
 all_goals
  cases h5:isC n e.z
  all_goals
   simp[h1,h2,h3,h4,h5]at hE;subst hE;delta c68 oO oN oA oM oG oS oK oF oL oV oC oI oX oH oB oE oJ o5 o7;simp (maxSteps:=9^7) -implicitDefEqProofs only[rv68,oa,my,ed,dY,hdn,h,h1,h2,h3,h4,h5,not_true_eq_false,WU,Ent.of0,Ent.of1,Ent.of2,Ent.of3,Ent.of4,V,W3,↓reduceIte,seval,reduceCtorEq]
def Ai : Ent Tryz.prog:=.of2 68 (fun n _=>NwS n) (fun (n:Nw) (e:T3)=>enc (evE n e)) (fun _ _=>trivial) (fun n e h=>RevE_c n e h)
theorem Rways_c (m:Ms):FC Tryz.prog 167 [enc m] [] (.tup [enc (dW m),enc (toC m)]) []:=by
 unfold dW toC;refine dD [] is167 (by simp) trivial trivial trivial trivial (fun cx _ hl _=>dC [] 800 ?_);by_cases h1:m.phase=2
 . rw[if_pos h1,if_pos h1];delta c167 oO oN oM oT oQ oS oK oF oL oV oI oX oB o7;simp (maxSteps:=9^7) -implicitDefEqProofs only[rv167,kN,h1,WU,Ent.of0,Ent.of1,Ent.of2,Ent.of3,Ent.of4,V,W3,↓reduceIte,seval,reduceCtorEq]
 . rw[if_neg h1,if_neg h1];delta c167 oO oN oM oT oQ oS oK oF oL oV oI oX oB o7;simp (maxSteps:=9^7) -implicitDefEqProofs only[rv167,kN,h1,WU,Ent.of0,Ent.of1,Ent.of2,Ent.of3,Ent.of4,V,W3,↓reduceIte,seval,reduceCtorEq]
def xI : Ent Tryz.prog:=.of1 167 (fun _=>True) (fun m:Ms=>.tup [enc (dW m),enc (toC m)]) (fun _=>⟨trivial,trivial,trivial⟩) (fun m _=>Rways_c m)
def InB (m:Ms) (c:Int):Prop:=0<=c/\c.toNat < m.buf.length
theorem yP (m:Ms) (c:Int) (h:c.toNat < m.buf.length):List.getD (m.buf.map Dat.cells) c.toNat [C.sl 0 []]=[C.sl 1 ((dQ m c).map Dat.cells)]:=by
 rw[zb,zh,ze h,dQ,zb,ze h];rfl
theorem does_c (n:Nw) (m:Ms) (e:T3) (hn:NwS n) (h:MsS m) (hk:0<=e.x/\e.x<=11) (hs:InB m m.serving) (hf:m.phase=2\/(m.phase=0/\m.source≠-1)->InB m (dW m)):FC Tryz.prog 152 [enc n,enc m,enc e] [] (enc (eA n m e)) []:=by
 have hdn:=gO n;have hdm:=xl m;have hp1:=h.b.l;have hp2:fj m.buf<=1000000000:=by rw[nr];have:=h.f;omega
 have hp3:=s5 m.buf;generalize hE:eA n m e=E;unfold eA at hE;obtain⟨ex,ey,ezw⟩:=e;simp only at hk hE;refine dD [] D7.is152 (by simp) trivial trivial trivial trivial (fun cx _ hl _=>dC [] 1200 ?_);have k:ex=0\/ex=1\/ex=2\/ex=3\/ex=4\/ex=5\/ex=6\/ex=7\/ex=8\/ex=9\/ex=10\/ex=11:=by omega
 rcases k with rfl | rfl | rfl | rfl | rfl | rfl | rfl | rfl | rfl | rfl | rfl | rfl <;> simp only[Int.reduceEq,if_true,if_false]at hE
 ·
  delta D7.c152 oO oN oM oR oS oK oF oL oV oI oX oB o7;simp (maxSteps:=9^7) -implicitDefEqProofs only[D7.rv152,ed,kN,dY,InR,WU,Ent.of0,Ent.of1,Ent.of2,Ent.of3,Ent.of4,V,W3,↓reduceIte,seval,reduceCtorEq];refine iw (dC [Bb] 800 ?_);have hc:((60<=fj m.buf)=True/\True)\/((60<=fj m.buf)=False/\(1000000<=m.fresh)=True)\/((60<=fj m.buf)=False/\(1000000<=m.fresh)=False):=by
   rcases Classical.propComplete (60<=fj m.buf)with h1 | h1 <;> rcases Classical.propComplete (1000000<=m.fresh)with h2 | h2 <;> simp only[h1,h2] <;> simp
  rcases hc with⟨h1,h2⟩ | ⟨h1,h2⟩ | ⟨h1,h2⟩
  all_goals
   simp[h1,h2]at hE;subst hE;delta D7.c152k1 oO oN oM oG oV oC oI oX oH oB oE oJ o5;simp (maxSteps:=9^7) -implicitDefEqProofs only[D7.rv152,Bb,ed,kN,dY,hdm,hp1,hp2,h1,h2,not_true_eq_false,WU,Ent.of0,Ent.of1,Ent.of2,Ent.of3,Ent.of4,V,W3,↓reduceIte,seval,reduceCtorEq]
 ·
  delta D7.c152 oO oN oM oR oS oK oF oL oV oI oX oB o7;simp (maxSteps:=9^7) -implicitDefEqProofs only[D7.rv152,ed,kN,dY,InR,WU,Ent.of0,Ent.of1,Ent.of2,Ent.of3,Ent.of4,V,W3,↓reduceIte,seval,reduceCtorEq];refine iw (dC [xf] 800 ?_);cases h1:ej m
  rotate_left
  . simp[h1]at hE;subst hE;delta D7.c152k2 oO oN oA oM oT oQ oS oK oF oL oV oC oI oX oB o0 o1 o4 o5;simp (maxSteps:=9^7) -implicitDefEqProofs only[D7.rv152,xf,ed,kN,dY,hdm,h1,WU,Ent.of0,Ent.of1,Ent.of2,Ent.of3,Ent.of4,V,W3,↓reduceIte,seval,reduceCtorEq]
  obtain⟨s0,s2⟩:=hs;have s3:m.serving < (m.buf.length:Int):=by omega
  have hg:=yP m m.serving s2;cases hb:dQ m m.serving with
  | nil=>
   simp[h1,hb]at hE;subst hE;rw[hb]at hg;delta D7.c152k2 oO oN oA oM oT oQ oS oK oF oL oV oC oI oX oB o0 o1 o4 o5;simp (maxSteps:=9^7) -implicitDefEqProofs only[D7.rv152,xf,ed,kN,dY,hdm,h1,s0,s2,s3,hg,zR,InR,WU,Ent.of0,Ent.of1,Ent.of2,Ent.of3,Ent.of4,V,W3,↓reduceIte,seval,reduceCtorEq]
  | cons x l=>
   rw[hb]at hg hE;have hl0:¬ ((l.length:Int)+1=0):=by omega
   have hl1:(0:Int) < (l.length:Int)+1:=by omega
   rcases Classical.propComplete (m.got < x)with h2 | h2
   all_goals
    simp[h1,h2]at hE;subst hE;delta D7.c152k2 oO oN oA oM oT oQ oS oK oF oL oV oC oI oX oB o0 o1 o4 o5;simp (maxSteps:=9^7) -implicitDefEqProofs only[D7.rv152,xf,ed,kN,dY,hdm,h1,h2,s0,s2,s3,hg,hl0,hl1,zt,zQ,yM,zy,InR,not_true_eq_false,not_false_eq_true,WU,Ent.of0,Ent.of1,Ent.of2,Ent.of3,Ent.of4,V,W3,↓reduceIte,seval,reduceCtorEq]
 ·
  delta D7.c152 oO oN oM oR oS oK oF oL oV oI oX oB o7;simp (maxSteps:=9^7) -implicitDefEqProofs only[D7.rv152,ed,kN,dY,InR,WU,Ent.of0,Ent.of1,Ent.of2,Ent.of3,Ent.of4,V,W3,↓reduceIte,seval,reduceCtorEq];refine iw (dC [xf] 800 ?_);cases h1:ej m
  all_goals
   simp[h1]at hE;subst hE;delta D7.c152k3 oO oM oC oI oX o5;simp (maxSteps:=9^7) -implicitDefEqProofs only[D7.rv152,xf,ed,kN,dY,hdm,h1,WU,Ent.of0,Ent.of1,Ent.of2,Ent.of3,Ent.of4,V,W3,↓reduceIte,seval,reduceCtorEq]
 ·
  delta D7.c152 oO oN oM oR oS oK oF oL oV oI oX oB o7;simp (maxSteps:=9^7) -implicitDefEqProofs only[D7.rv152,ed,kN,dY,InR,WU,Ent.of0,Ent.of1,Ent.of2,Ent.of3,Ent.of4,V,W3,↓reduceIte,seval,reduceCtorEq];refine iw (dC [Ba] 800 ?_);have hc:((m.phase=0)=False/\True/\True)\/((m.phase=0)=True/\(m.source=-1)=False/\True)\/((m.phase=0)=True/\(m.source=-1)=True/\nbr n ezw m.serving=true)\/((m.phase=0)=True/\(m.source=-1)=True/\nbr n ezw m.serving=false):=by
   rcases Classical.propComplete (m.phase=0)with h1 | h1 <;> rcases Classical.propComplete (m.source=-1)with h2 | h2 <;> cases h3:nbr n ezw m.serving <;> simp only[h1,h2] <;> simp
  rcases hc with⟨h1,h2,h3⟩ | ⟨h1,h2,h3⟩ | ⟨h1,h2,h3⟩ | ⟨h1,h2,h3⟩
  all_goals
   simp[h1,h2,h3]at hE;subst hE;delta D7.c152k4 oO oN oA oM oS oK oF oL oV oC oI oX oB o5;simp (maxSteps:=9^7) -implicitDefEqProofs only[D7.rv152,Ba,ed,kN,dY,hdn,hn,h1,h2,h3,not_true_eq_false,not_false_eq_true,WU,Ent.of0,Ent.of1,Ent.of2,Ent.of3,Ent.of4,V,W3,↓reduceIte,seval,reduceCtorEq]
 ·
  delta D7.c152 oO oN oM oR oS oK oF oL oV oI oX oB o7;simp (maxSteps:=9^7) -implicitDefEqProofs only[D7.rv152,ed,kN,dY,InR,WU,Ent.of0,Ent.of1,Ent.of2,Ent.of3,Ent.of4,V,W3,↓reduceIte,seval,reduceCtorEq];refine iw (dC [] 800 ?_);rcases Classical.propComplete (m.phase=1)with h1 | h1
  all_goals
   simp[h1]at hE;subst hE;delta D7.c152k5 oN oM oF oL oI oX oB;simp (maxSteps:=9^7) -implicitDefEqProofs only[D7.rv152,ed,kN,dY,h1,not_true_eq_false,not_false_eq_true,WU,Ent.of0,Ent.of1,Ent.of2,Ent.of3,Ent.of4,V,W3,↓reduceIte,seval,reduceCtorEq]
 ·
  delta D7.c152 oO oN oM oR oS oK oF oL oV oI oX oB o7;simp (maxSteps:=9^7) -implicitDefEqProofs only[D7.rv152,ed,kN,dY,InR,WU,Ent.of0,Ent.of1,Ent.of2,Ent.of3,Ent.of4,V,W3,↓reduceIte,seval,reduceCtorEq];refine iw (dC [] 800 ?_);rcases Classical.propComplete (m.phase=1)with h1 | h1
  all_goals
   simp[h1]at hE;subst hE;delta D7.c152k5 oN oM oF oL oI oX oB;simp (maxSteps:=9^7) -implicitDefEqProofs only[D7.rv152,ed,kN,dY,h1,not_true_eq_false,not_false_eq_true,WU,Ent.of0,Ent.of1,Ent.of2,Ent.of3,Ent.of4,V,W3,↓reduceIte,seval,reduceCtorEq]
 ·
  delta D7.c152 oO oN oM oR oS oK oF oL oV oI oX oB o7;simp (maxSteps:=9^7) -implicitDefEqProofs only[D7.rv152,ed,kN,dY,InR,WU,Ent.of0,Ent.of1,Ent.of2,Ent.of3,Ent.of4,V,W3,↓reduceIte,seval,reduceCtorEq];refine iw (dC [] 800 ?_);rcases Classical.propComplete (m.phase=2)with h1 | h1
  all_goals
   simp[h1]at hE;subst hE;delta D7.c152k6 oN oM oF oL oI oX oB;simp (maxSteps:=9^7) -implicitDefEqProofs only[D7.rv152,ed,kN,dY,h1,not_true_eq_false,not_false_eq_true,WU,Ent.of0,Ent.of1,Ent.of2,Ent.of3,Ent.of4,V,W3,↓reduceIte,seval,reduceCtorEq]
 ·
  delta D7.c152 oO oN oM oR oS oK oF oL oV oI oX oB o7;simp (maxSteps:=9^7) -implicitDefEqProofs only[D7.rv152,ed,kN,dY,InR,WU,Ent.of0,Ent.of1,Ent.of2,Ent.of3,Ent.of4,V,W3,↓reduceIte,seval,reduceCtorEq];refine iw (dC [xI] 800 ?_);by_cases hq:m.phase=2\/(m.phase=0/\m.source≠-1)
  . obtain⟨s0,s2⟩:=hf hq;have s3:dW m < (m.buf.length:Int):=by omega
    have hg:=yP m (dW m) s2;have hq2:¬ (¬ m.phase=2/\(¬ m.phase=0\/m.source=-1)):=fun⟨q1,q2⟩=>by
     rcases hq with q | ⟨q3,q4⟩
     . exact q1 q
     . rcases q2 with q | q
       . exact q q3
       . exact q4 q
    rw[if_neg hq2]at hE;have hph:((m.phase=2)=True/\True/\True)\/((m.phase=2)=False/\(m.phase=0)=True/\(m.source=-1)=False):=by
     by_cases q:m.phase=2
     . exact .inl ⟨eq_true q,trivial,trivial⟩
     . rcases hq with q2 | ⟨q3,q4⟩
       . exact absurd q2 q
       . exact .inr ⟨eq_false q,eq_true q3,eq_false q4⟩
    cases hb:dQ m (dW m)with
    | nil=>
     rw[hb]at hg hE;simp at hE;subst hE;rcases hph with⟨h1,h2,h3⟩ | ⟨h1,h2,h3⟩
     all_goals
      delta D7.c152k7 oO oN oA oM oG oS oK oF oL oV oC oI oX oP oB oD oE oJ o0 o4 o5 o8;simp (maxSteps:=9^7) -implicitDefEqProofs only[D7.rv152,xI,ed,kN,dY,hdm,h1,h2,h3,s0,s2,s3,hg,zR,InR,not_true_eq_false,not_false_eq_true,WU,Ent.of0,Ent.of1,Ent.of2,Ent.of3,Ent.of4,V,W3,↓reduceIte,seval,reduceCtorEq]
    | cons x l=>
     rw[hb]at hg hE;simp at hE;subst hE;have hl0:¬ ((l.length:Int)+1=0):=by omega
     rcases hph with⟨h1,h2,h3⟩ | ⟨h1,h2,h3⟩
     all_goals
      delta D7.c152k7 oO oN oA oM oG oS oK oF oL oV oC oI oX oP oB oD oE oJ o0 o4 o5 o8;simp (maxSteps:=9^7) -implicitDefEqProofs only[D7.rv152,xI,ed,kN,dY,hdm,h1,h2,h3,s0,s2,s3,hg,hl0,zt,zQ,yM,zy,InR,not_true_eq_false,not_false_eq_true,WU,Ent.of0,Ent.of1,Ent.of2,Ent.of3,Ent.of4,V,W3,↓reduceIte,seval,reduceCtorEq]
  . have hq2:¬ m.phase=2/\(¬ m.phase=0\/m.source=-1):=⟨fun q=>hq (.inl q),by
     by_cases q1:m.phase=0
     . exact .inr (Classical.byContradiction fun q2=>hq (.inr ⟨q1,q2⟩))
     . exact .inl q1⟩
    rw[if_pos hq2]at hE;subst hE;obtain⟨h1,h2⟩:=hq2;have h1':=eq_false h1;by_cases h3:m.phase=0
    . have h4:m.source=-1:=h2.resolve_left fun q=>q h3
      delta D7.c152k7 oO oN oA oM oG oS oK oF oL oV oC oI oX oP oB oD oE oJ o0 o4 o5 o8;simp (maxSteps:=9^7) -implicitDefEqProofs only[D7.rv152,xI,ed,kN,dY,hdm,h1',h3,h4,not_true_eq_false,not_false_eq_true,WU,Ent.of0,Ent.of1,Ent.of2,Ent.of3,Ent.of4,V,W3,↓reduceIte,seval,reduceCtorEq]
    . delta D7.c152k7 oO oN oA oM oG oS oK oF oL oV oC oI oX oP oB oD oE oJ o0 o4 o5 o8;simp (maxSteps:=9^7) -implicitDefEqProofs only[D7.rv152,xI,ed,kN,dY,hdm,h1',h3,not_true_eq_false,not_false_eq_true,WU,Ent.of0,Ent.of1,Ent.of2,Ent.of3,Ent.of4,V,W3,↓reduceIte,seval,reduceCtorEq]
 ·
  delta D7.c152 oO oN oM oR oS oK oF oL oV oI oX oB o7;simp (maxSteps:=9^7) -implicitDefEqProofs only[D7.rv152,ed,kN,dY,InR,WU,Ent.of0,Ent.of1,Ent.of2,Ent.of3,Ent.of4,V,W3,↓reduceIte,seval,reduceCtorEq];refine iw (dC [] 800 ?_);have hc:((m.source=-1)=True/\True/\True)\/((m.source=-1)=False/\(m.phase=3)=True/\True)\/((m.source=-1)=False/\(m.phase=3)=False/\(m.path=m.serving)=True)\/((m.source=-1)=False/\(m.phase=3)=False/\(m.path=m.serving)=False):=by
   rcases Classical.propComplete (m.source=-1)with h1 | h1 <;> rcases Classical.propComplete (m.phase=3)with h2 | h2 <;> rcases Classical.propComplete (m.path=m.serving)with h3 | h3 <;> simp only[h1,h2,h3] <;> simp
  rcases hc with⟨h1,h2,h3⟩ | ⟨h1,h2,h3⟩ | ⟨h1,h2,h3⟩ | ⟨h1,h2,h3⟩
  all_goals
   simp[h1,h2,h3]at hE;subst hE;delta D7.c152k8 oO oN oA oM oS oK oF oL oV oI oX oB;simp (maxSteps:=9^7) -implicitDefEqProofs only[D7.rv152,ed,kN,dY,h1,h2,h3,not_true_eq_false,not_false_eq_true,WU,Ent.of0,Ent.of1,Ent.of2,Ent.of3,Ent.of4,V,W3,↓reduceIte,seval,reduceCtorEq]
 ·
  delta D7.c152 oO oN oM oR oS oK oF oL oV oI oX oB o7;simp (maxSteps:=9^7) -implicitDefEqProofs only[D7.rv152,ed,kN,dY,InR,WU,Ent.of0,Ent.of1,Ent.of2,Ent.of3,Ent.of4,V,W3,↓reduceIte,seval,reduceCtorEq];refine iw (dC [] 800 ?_);rcases Classical.propComplete (m.phase=3)with h1 | h1
  all_goals
   simp[h1]at hE;subst hE;delta D7.c152k9 oN oM oF oL oI oX oB;simp (maxSteps:=9^7) -implicitDefEqProofs only[D7.rv152,ed,kN,dY,h1,not_true_eq_false,not_false_eq_true,WU,Ent.of0,Ent.of1,Ent.of2,Ent.of3,Ent.of4,V,W3,↓reduceIte,seval,reduceCtorEq]
 ·
  delta D7.c152 oO oN oM oR oS oK oF oL oV oI oX oB o7;simp (maxSteps:=9^7) -implicitDefEqProofs only[D7.rv152,ed,kN,dY,InR,WU,Ent.of0,Ent.of1,Ent.of2,Ent.of3,Ent.of4,V,W3,↓reduceIte,seval,reduceCtorEq];refine iw (dC [] 800 ?_);rcases Classical.propComplete (m.phase=3)with h1 | h1
  rotate_left
  . simp[h1]at hE;subst hE;delta D7.c152k10 oO oN oM oG oS oK oF oL oV oI oX oP oB oD oE oJ;simp (maxSteps:=9^7) -implicitDefEqProofs only[D7.rv152,ed,kN,dY,h1,not_true_eq_false,not_false_eq_true,WU,Ent.of0,Ent.of1,Ent.of2,Ent.of3,Ent.of4,V,W3,↓reduceIte,seval,reduceCtorEq]
  have hc:((ezw=m.serving)=True/\True/\True)\/((ezw=m.serving)=False/\(m.target=-1)=False/\(ezw=m.target)=True)\/((ezw=m.serving)=False/\(m.target=-1)=True/\True)\/((ezw=m.serving)=False/\(m.target=-1)=False/\(ezw=m.target)=False):=by
   rcases Classical.propComplete (ezw=m.serving)with h1 | h1 <;> rcases Classical.propComplete (m.target=-1)with h2 | h2 <;> rcases Classical.propComplete (ezw=m.target)with h3 | h3 <;> simp only[h1,h2,h3] <;> simp
  have hd:((m.source=-1)=True/\True)\/((m.source=-1)=False/\(ezw=m.source)=True)\/((m.source=-1)=False/\(ezw=m.source)=False):=by
   rcases Classical.propComplete (m.source=-1)with h2 | h2 <;> rcases Classical.propComplete (ezw=m.source)with h3 | h3 <;> simp only[h2,h3] <;> simp
  rcases hc with⟨h2,h3,h4⟩ | ⟨h2,h3,h4⟩ | ⟨h2,h3,h4⟩ | ⟨h2,h3,h4⟩
  rotate_left 2
  all_goals
   first
    | (simp[h1,h2,h3,h4]at hE
       subst hE;delta D7.c152k10 oO oN oM oG oS oK oF oL oV oI oX oP oB oD oE oJ;simp (maxSteps:=9^7) -implicitDefEqProofs only[D7.rv152,ed,kN,dY,h1,h2,h3,h4,not_true_eq_false,not_false_eq_true,WU,Ent.of0,Ent.of1,Ent.of2,Ent.of3,Ent.of4,V,W3,↓reduceIte,seval,reduceCtorEq]
       done)
    | (rcases hd with⟨h5,h6⟩ | ⟨h5,h6⟩ | ⟨h5,h6⟩
       all_goals
        simp[h1,h2,h3,h4,h5,h6]at hE;subst hE;delta D7.c152k10 oO oN oM oG oS oK oF oL oV oI oX oP oB oD oE oJ
        simp (maxSteps:=9^7) -implicitDefEqProofs only[D7.rv152,ed,kN,dY,h1,h2,h3,h4,h5,h6,not_true_eq_false,not_false_eq_true,WU,Ent.of0,Ent.of1,Ent.of2,Ent.of3,Ent.of4,V,W3,↓reduceIte,seval,reduceCtorEq])
 ·
  subst hE;delta D7.c152 oO oN oM oR oS oK oF oL oV oI oX oB o7;simp (maxSteps:=9^7) -implicitDefEqProofs only[D7.rv152,ed,kN,dY,WU,Ent.of0,Ent.of1,Ent.of2,Ent.of3,Ent.of4,V,W3,↓reduceIte,seval,reduceCtorEq]
abbrev dpC (m:Ms):Ch:=.deep 1 3 24 none (fP m.buf)
theorem Bm (m:Ms) (h:m.source≠-1->InB m m.source):FC Tryz.prog 168 [enc m] [] (enc (settle m)) []:=by
 refine dD [] is168 (by simp) trivial trivial trivial trivial (fun cx _ _ _=>dC [] 800 ?_);by_cases h1:m.source=-1
 . have hs:settle m=m:=by unfold Go.Proofs.YtcbabnbiinkafaaGreatDoor.settle;rw[if_neg (by simp[fU,h1])]
   rw[hs];delta c168 oO oN oA oM oG oR oS oK oF oL oW oY oI oX oP oB oE oJ o0 oZ o5 o7;simp (maxSteps:=9^7) -implicitDefEqProofs only[yX,kN,h1,not_true_eq_false,WU,Ent.of0,Ent.of1,Ent.of2,Ent.of3,Ent.of4,V,W3,↓reduceIte,seval,reduceCtorEq]
 . by_cases h2:m.path=m.serving
   . obtain⟨s0,s2⟩:=h h1;have s3:m.source < (m.buf.length:Int):=by omega
     have hg:=yP m m.source s2;cases hq:dQ m m.source with
     | nil=>
      have hs:settle m={ m with source:=-1 }:=by unfold Go.Proofs.YtcbabnbiinkafaaGreatDoor.settle;rw[if_pos (by simp[fU,h1,h2,hq])]
      rw[hs];rw[hq]at hg;delta c168 oO oN oA oM oG oR oS oK oF oL oW oY oI oX oP oB oE oJ o0 oZ o5 o7;simp (maxSteps:=9^7) -implicitDefEqProofs only[yX,kN,h1,h2,s0,s2,s3,hg,zR,InR,not_true_eq_false,not_false_eq_true,WU,Ent.of0,Ent.of1,Ent.of2,Ent.of3,Ent.of4,V,W3,↓reduceIte,seval,reduceCtorEq]
     | cons x l=>
      have hs:settle m=m:=by unfold Go.Proofs.YtcbabnbiinkafaaGreatDoor.settle;rw[if_neg (by simp[fU,h1,h2,hq])]
      rw[hs];rw[hq]at hg;have hl0:¬ ((l.length:Int)+1=0):=by omega
      delta c168 oO oN oA oM oG oR oS oK oF oL oW oY oI oX oP oB oE oJ o0 oZ o5 o7;simp (maxSteps:=9^7) -implicitDefEqProofs only[yX,kN,h1,h2,s0,s2,s3,hg,hl0,zt,zQ,yM,zy,InR,not_true_eq_false,not_false_eq_true,WU,Ent.of0,Ent.of1,Ent.of2,Ent.of3,Ent.of4,V,W3,↓reduceIte,seval,reduceCtorEq]
   . have hs:settle m=m:=by unfold Go.Proofs.YtcbabnbiinkafaaGreatDoor.settle;rw[if_neg (by simp[fU,h1,h2])]
     rw[hs];delta c168 oO oN oA oM oG oR oS oK oF oL oW oY oI oX oP oB oE oJ o0 oZ o5 o7;simp (maxSteps:=9^7) -implicitDefEqProofs only[yX,kN,h1,h2,not_true_eq_false,not_false_eq_true,WU,Ent.of0,Ent.of1,Ent.of2,Ent.of3,Ent.of4,V,W3,↓reduceIte,seval,reduceCtorEq]
def xg : Ent Tryz.prog:=.of1 168 (fun m:Ms=>m.source≠-1->InB m m.source) (fun m=>enc (settle m)) (fun m=>by rw[kN];simp[dF,dF.keysIns]) (fun m h=>Bm m h)
abbrev xA (m:Ms) (e:T3) (m1:Ms):Prop:=FC Tryz.prog 153 [msA m 100000,enc e] [(100000,dpC m)] (enc (settle m1)) []
theorem xh (b:List (List Int)):(fP b).map (fun es=>[C.sl 1 es])=b.map Dat.cells:=by rw[fP,zT];rfl
theorem AG {ch:Chs} {m:Ms} {k:Nat} (h:lk ch k=some (dpC m)):Lend ch (.agg (msC m k)) (enc m):=by
 have hx:bz (dpC m)=some (.sl 1 (m.buf.map Dat.cells)):=by rw[dpC,bz,xh]
 refine .agg rfl (fun j a b ha hb=>?_)
 match j,ha,hb with
 | 0,ha,hb=>cases ha;cases hb;exact .same _
 | 1,ha,hb=>cases ha;cases hb;exact .same _
 | 2,ha,hb=>cases ha;cases hb;exact .same _
 | 3,ha,hb=>cases ha;cases hb;exact .same _
 | 4,ha,hb=>cases ha;cases hb;exact .same _
 | 5,ha,hb=>cases ha;cases hb;exact .same _
 | 6,ha,hb=>cases ha;cases hb;exact .same _
 | 7,ha,hb=>cases ha;cases hb;exact .same _
 | 8,ha,hb=>cases ha;cases hb;exact .same _
 | 9,ha,hb=>cases ha;cases hb;exact .own h hx
theorem y5 (l:List Int):∀ e∈l.map Dat.cells,∀ c∈e,∃ v,c=C.s v:=fun e he c hc=>by
 obtain⟨x,_,rfl⟩:=zu.1 he;exact⟨_,zg.1 hc⟩
theorem done_0 (m:Ms) (y z:Int) (hi:InB m m.path) (hg:InR .i64 (m.fresh+1)) (hb1:(dQ m m.path).length<=1000000) (m1:Ms) (hm:m1={ m with buf:=m.buf.set m.path.toNat (dQ m m.path++[m.fresh]),fresh:=m.fresh+1 }) (hs:m1.source≠-1->InB m1 m1.source):xA m ⟨0,y,z⟩ m1:=by
 have hdm1:=xl m1;have hs1:=eq_true hs;refine dD [] D7.is153 (by simp) (by simp[bk]) (by simp[an,ag,av]) (by simp[an,ag]) (by simp[aB]) (fun cx _ _ _=>dC [] 1500 ?_);obtain⟨hi0,hi2⟩:=hi;have hi3:m.path < (m.buf.length:Int):=by omega
 have hbg:=fI m.buf m.path.toNat;rw[show m.buf.getD m.path.toNat []=dQ m m.path from rfl]at hbg;have hst:=jS m.buf m.path.toNat (dQ m m.path++[m.fresh]);have hap:(dQ m m.path).map Dat.cells++[[C.s (.int .i64 m.fresh)]]=(dQ m m.path++[m.fresh]).map Dat.cells:=by rw[yg];rfl
 simp only[InR]at hg;delta D7.c153 oO oN oA oM oT oR oS oK oF oL oC oW oY oI oX oB o0 o1 oZ o7;simp (maxSteps:=9^7) -implicitDefEqProofs only[D7.rv153,msA,msC,dpC,dY,InR,WU,Ent.of0,Ent.of1,Ent.of2,Ent.of3,Ent.of4,V,W3,↓reduceIte,seval,reduceCtorEq];refine nC [] 800 ?_;simp (maxSteps:=9^7) -implicitDefEqProofs only[drS,lC,robC,reC,fixS,eQ,AOp.reads,kF,true_or,or_true,false_or,hi0,hi2,hi3,eu,hbg,hap,zy,InR,WU,Ent.of0,Ent.of1,Ent.of2,Ent.of3,Ent.of4,V,W3,↓reduceIte,seval,reduceCtorEq];refine⟨by omega,dC [] 600 ?_⟩;simp (maxSteps:=9^7) -implicitDefEqProofs only[D7.rv153,hg,hst,msA,msC,dpC,InR,WU,Ent.of0,Ent.of1,Ent.of2,Ent.of3,Ent.of4,V,W3,↓reduceIte,seval,reduceCtorEq];refine iw (dC [xg] 600 ?_)
 try subst hm
 try simp only[ne_eq]at hdm1 hs1
 delta D7.c153k5 oO oC oW oX o5;simp (maxSteps:=9^7) -implicitDefEqProofs only[D7.rv153,xg,hdm1,hs1,kN,xh,InR,WU,Ent.of0,Ent.of1,Ent.of2,Ent.of3,Ent.of4,V,W3,↓reduceIte,seval,reduceCtorEq]
theorem done_1 (m:Ms) (y z:Int) (hi:InB m m.serving) (x:Int) (l:List Int) (hb:dQ m m.serving=x :: l) (hg:InR .i64 (m.got+1)) (m1:Ms) (hm:m1=if x=m.got then { m with got:=m.got+1 } else m) (hs:m1.source≠-1->InB m1 m1.source):xA m ⟨1,y,z⟩ m1:=by
 have hdm1:=xl m1;have hs1:=eq_true hs;refine dD [] D7.is153 (by simp) (by simp[bk]) (by simp[an,ag,av]) (by simp[an,ag]) (by simp[aB]) (fun cx _ _ _=>dC [] 1500 ?_);obtain⟨hi0,hi2⟩:=hi;have hi3:m.serving < (m.buf.length:Int):=by omega
 have hbg:=fI m.buf m.serving.toNat;rw[show m.buf.getD m.serving.toNat []=x :: l from hb]at hbg;have hl1:(0:Int) < (l.length:Int)+1:=by omega
 simp only[InR]at hg;delta D7.c153 oO oN oA oM oT oR oS oK oF oL oC oW oY oI oX oB o0 o1 oZ o7;simp (maxSteps:=9^7) -implicitDefEqProofs only[D7.rv153,msA,msC,dpC,dY,InR,WU,Ent.of0,Ent.of1,Ent.of2,Ent.of3,Ent.of4,V,W3,↓reduceIte,seval,reduceCtorEq];refine iw (dC [] 600 ?_);by_cases hx:x=m.got
 . subst hx;rw[if_pos rfl]at hm;delta D7.c153k1 oO oN oA oT oR oQ oS oK oF oL oW oI oB o0 o1;simp (maxSteps:=9^7) -implicitDefEqProofs only[D7.rv153,hi0,hi2,hi3,hl1,hg,eu,hbg,zt,zQ,yM,zy,InR,WU,Ent.of0,Ent.of1,Ent.of2,Ent.of3,Ent.of4,V,W3,↓reduceIte,seval,reduceCtorEq]
   try refine⟨by omega,?_⟩
   refine iw (dC [xg] 600 ?_)
   try subst hm
   try simp only[ne_eq]at hdm1 hs1
   delta D7.c153k5 oO oC oW oX o5;simp (maxSteps:=9^7) -implicitDefEqProofs only[D7.rv153,xg,hdm1,hs1,kN,xh,InR,WU,Ent.of0,Ent.of1,Ent.of2,Ent.of3,Ent.of4,V,W3,↓reduceIte,seval,reduceCtorEq]
 . rw[if_neg hx]at hm;delta D7.c153k1 oO oN oA oT oR oQ oS oK oF oL oW oI oB o0 o1;simp (maxSteps:=9^7) -implicitDefEqProofs only[D7.rv153,hi0,hi2,hi3,hl1,hx,eu,hbg,zt,zQ,yM,zy,InR,WU,Ent.of0,Ent.of1,Ent.of2,Ent.of3,Ent.of4,V,W3,↓reduceIte,seval,reduceCtorEq]
   try refine⟨by omega,?_⟩
   refine iw (dC [xg] 600 ?_)
   try subst hm
   try simp only[ne_eq]at hdm1 hs1
   delta D7.c153k5 oO oC oW oX o5;simp (maxSteps:=9^7) -implicitDefEqProofs only[D7.rv153,xg,hdm1,hs1,kN,xh,InR,WU,Ent.of0,Ent.of1,Ent.of2,Ent.of3,Ent.of4,V,W3,↓reduceIte,seval,reduceCtorEq]
theorem done_8 (m:Ms) (y z:Int) (m1:Ms) (hm:m1={ m with path:=m.serving }) (hs:m1.source≠-1->InB m1 m1.source):xA m ⟨8,y,z⟩ m1:=by
 have hdm1:=xl m1;have hs1:=eq_true hs;refine dD [] D7.is153 (by simp) (by simp[bk]) (by simp[an,ag,av]) (by simp[an,ag]) (by simp[aB]) (fun cx _ _ _=>dC [] 1500 ?_);delta D7.c153 oO oN oA oM oT oR oS oK oF oL oC oW oY oI oX oB o0 o1 oZ o7;simp (maxSteps:=9^7) -implicitDefEqProofs only[D7.rv153,msA,msC,dpC,dY,InR,WU,Ent.of0,Ent.of1,Ent.of2,Ent.of3,Ent.of4,V,W3,↓reduceIte,seval,reduceCtorEq];refine iw (dC [xg] 600 ?_)
 try subst hm
 try simp only[ne_eq]at hdm1 hs1
 delta D7.c153k5 oO oC oW oX o5;simp (maxSteps:=9^7) -implicitDefEqProofs only[D7.rv153,xg,hdm1,hs1,kN,xh,InR,WU,Ent.of0,Ent.of1,Ent.of2,Ent.of3,Ent.of4,V,W3,↓reduceIte,seval,reduceCtorEq]
theorem done_9 (m:Ms) (y z:Int) (m1:Ms) (hm:m1={ m with since:=if m.phase=2 then m.since else y,phase:=3 }) (hs:m1.source≠-1->InB m1 m1.source):xA m ⟨9,y,z⟩ m1:=by
 have hdm1:=xl m1;have hs1:=eq_true hs;refine dD [] D7.is153 (by simp) (by simp[bk]) (by simp[an,ag,av]) (by simp[an,ag]) (by simp[aB]) (fun cx _ _ _=>dC [] 1500 ?_);delta D7.c153 oO oN oA oM oT oR oS oK oF oL oC oW oY oI oX oB o0 o1 oZ o7;simp (maxSteps:=9^7) -implicitDefEqProofs only[D7.rv153,msA,msC,dpC,dY,InR,WU,Ent.of0,Ent.of1,Ent.of2,Ent.of3,Ent.of4,V,W3,↓reduceIte,seval,reduceCtorEq];refine iw (dC [] 600 ?_);by_cases h2:m.phase=2
 all_goals
  simp only[h2,if_true,if_false]at hm;delta D7.c153k3 oO oN oR oS oK oF oL oW oY oI oX oB;simp (maxSteps:=9^7) -implicitDefEqProofs only[D7.rv153,h2,not_true_eq_false,not_false_eq_true,InR,WU,Ent.of0,Ent.of1,Ent.of2,Ent.of3,Ent.of4,V,W3,↓reduceIte,seval,reduceCtorEq];refine iw (dC [xg] 600 ?_)
  try subst hm
  try simp only[ne_eq]at hdm1 hs1
  delta D7.c153k5 oO oC oW oX o5;simp (maxSteps:=9^7) -implicitDefEqProofs only[D7.rv153,xg,hdm1,hs1,kN,xh,InR,WU,Ent.of0,Ent.of1,Ent.of2,Ent.of3,Ent.of4,V,W3,↓reduceIte,seval,reduceCtorEq]
theorem done_11 (m:Ms) (y z:Int) (hs:m.source≠-1->InB m m.source):xA m ⟨11,y,z⟩ m:=by
 have hdm1:=xl m;have hs1:=eq_true hs;refine dD [] D7.is153 (by simp) (by simp[bk]) (by simp[an,ag,av]) (by simp[an,ag]) (by simp[aB]) (fun cx _ _ _=>dC [] 1500 ?_);delta D7.c153 oO oN oA oM oT oR oS oK oF oL oC oW oY oI oX oB o0 o1 oZ o7;simp (maxSteps:=9^7) -implicitDefEqProofs only[D7.rv153,msA,msC,dpC,dY,InR,WU,Ent.of0,Ent.of1,Ent.of2,Ent.of3,Ent.of4,V,W3,↓reduceIte,seval,reduceCtorEq];refine iw (dC [xg] 600 ?_)
 try subst hm
 try simp only[ne_eq]at hdm1 hs1
 delta D7.c153k5 oO oC oW oX o5;simp (maxSteps:=9^7) -implicitDefEqProofs only[D7.rv153,xg,hdm1,hs1,kN,xh,InR,WU,Ent.of0,Ent.of1,Ent.of2,Ent.of3,Ent.of4,V,W3,↓reduceIte,seval,reduceCtorEq]
theorem done_10 (m:Ms) (y z:Int) (h:MsS m) (hz:InB m z):FC Tryz.prog 153 [msA m 100000,enc (⟨10,y,z⟩:T3)] [(100000,dpC m)] (enc (iP m z y)) []:=by
 refine dD [] D7.is153 (by simp) (by simp[bk]) (by simp[an,ag,av]) (by simp[an,ag]) (by simp[aB]) (fun cx _ _ _=>dC [] 1500 ?_);delta D7.c153 oO oN oA oM oT oR oS oK oF oL oC oW oY oI oX oB o0 o1 oZ o7;simp (maxSteps:=9^7) -implicitDefEqProofs only[D7.rv153,msA,msC,dpC,dY,InR,WU,Ent.of0,Ent.of1,Ent.of2,Ent.of3,Ent.of4,V,W3,↓reduceIte,seval,reduceCtorEq];refine iw (dC [] 600 ?_);delta D7.c153k4 oO oF oL oC oW oX o5;simp (maxSteps:=9^7) -implicitDefEqProofs only[D7.rv153,InR,WU,Ent.of0,Ent.of1,Ent.of2,Ent.of3,Ent.of4,V,W3,↓reduceIte,seval,reduceCtorEq];refine pw rfl (OpM.lend1 (x5 m z y h hz) rfl ⟨AG rfl,.same _,.same _,trivial⟩ rfl (y6 _)) (fun ef he=>?_);subst he;refine nz [] 800 ?_;simp (maxSteps:=9^7) -implicitDefEqProofs only[D7.rv153,msA,msC,kN,dpC,xh,ak,ak.renCs,rn,InR,WU,Ent.of0,Ent.of1,Ent.of2,Ent.of3,Ent.of4,V,W3,↓reduceIte,seval,reduceCtorEq]
theorem done_2 (m:Ms) (y z:Int) (hi:InB m m.serving) (hb1:(dQ m m.serving).length<=1000000) (m1:Ms) (hm:m1={ m with buf:=m.buf.set m.serving.toNat (frm (dQ m m.serving) m.got) }) (hs:m1.source≠-1->InB m1 m1.source):xA m ⟨2,y,z⟩ m1:=by
 have hdm1:=xl m1;have hs1:=eq_true hs;refine dD [] D7.is153 (by simp) (by simp[bk]) (by simp[an,ag,av]) (by simp[an,ag]) (by simp[aB]) (fun cx _ _ _=>dC [] 1500 ?_);obtain⟨hi0,hi2⟩:=hi;have hi3:m.serving < (m.buf.length:Int):=by omega
 have hbg:=fI m.buf m.serving.toNat;rw[show m.buf.getD m.serving.toNat []=dQ m m.serving from rfl]at hbg;have hst:=jS m.buf m.serving.toNat (frm (dQ m m.serving) m.got);delta D7.c153 oO oN oA oM oT oR oS oK oF oL oC oW oY oI oX oB o0 o1 oZ o7;simp (maxSteps:=9^7) -implicitDefEqProofs only[D7.rv153,msA,msC,dpC,dY,InR,WU,Ent.of0,Ent.of1,Ent.of2,Ent.of3,Ent.of4,V,W3,↓reduceIte,seval,reduceCtorEq];refine qZ [xX (dQ m m.serving) m.got hb1] 800 ?_;simp (maxSteps:=9^7) -implicitDefEqProofs only[gL,mFin2,ml,pF,ops2,jo,reM2,oU,qO,qP,mE,finM,kE,ia,ip,gh,ft,fW,fW.fixBs,fV,ndE2,an,ag,av,aU,aF,kF,eQ,a6,bF,xX,xv,hi0,hi2,hi3,hbg,eu,InR,WU,Ent.of0,Ent.of1,Ent.of2,Ent.of3,Ent.of4,V,W3,↓reduceIte,seval,reduceCtorEq];refine⟨rfl,⟨y5 _,.inl trivial⟩,dC [] 600 ?_⟩;simp (maxSteps:=9^7) -implicitDefEqProofs only[D7.rv153,hst,WU,Ent.of0,Ent.of1,Ent.of2,Ent.of3,Ent.of4,V,W3,↓reduceIte,seval,reduceCtorEq];refine iw (dC [xg] 600 ?_);subst hm;simp only[ne_eq]at hdm1 hs1;delta D7.c153k5 oO oC oW oX o5;simp (maxSteps:=9^7) -implicitDefEqProofs only[D7.rv153,xg,hdm1,hs1,kN,xh,InR,WU,Ent.of0,Ent.of1,Ent.of2,Ent.of3,Ent.of4,V,W3,↓reduceIte,seval,reduceCtorEq]
theorem done_3 (m:Ms) (y z:Int) (m1:Ms) (hm:m1={ m with phase:=1,since:=y,target:=z }) (hs:m1.source≠-1->InB m1 m1.source):xA m ⟨3,y,z⟩ m1:=by
 have hdm1:=xl m1;have hs1:=eq_true hs;refine dD [] D7.is153 (by simp) (by simp[bk]) (by simp[an,ag,av]) (by simp[an,ag]) (by simp[aB]) (fun cx _ _ _=>dC [] 1500 ?_);delta D7.c153 oO oN oA oM oT oR oS oK oF oL oC oW oY oI oX oB o0 o1 oZ o7;simp (maxSteps:=9^7) -implicitDefEqProofs only[D7.rv153,msA,msC,dpC,dY,InR,WU,Ent.of0,Ent.of1,Ent.of2,Ent.of3,Ent.of4,V,W3,↓reduceIte,seval,reduceCtorEq];refine kI [] 800 ?_;simp (maxSteps:=9^7) -implicitDefEqProofs only[drM,mFin,kx,lz,ib,reM,iu,gV,gK,ndE,an,ag,av,aU,aF,WU,Ent.of0,Ent.of1,Ent.of2,Ent.of3,Ent.of4,V,W3,↓reduceIte,seval,reduceCtorEq];refine dC [] 400 ?_;simp (maxSteps:=9^7) -implicitDefEqProofs only[D7.rv153,WU,Ent.of0,Ent.of1,Ent.of2,Ent.of3,Ent.of4,V,W3,↓reduceIte,seval,reduceCtorEq];refine iw (dC [xg] 600 ?_);subst hm;simp only[ne_eq]at hdm1 hs1;delta D7.c153k5 oO oC oW oX o5;simp (maxSteps:=9^7) -implicitDefEqProofs only[D7.rv153,xg,hdm1,hs1,kN,xh,InR,WU,Ent.of0,Ent.of1,Ent.of2,Ent.of3,Ent.of4,V,W3,↓reduceIte,seval,reduceCtorEq]
theorem done_4 (m:Ms) (y z:Int) (m1:Ms) (hm:m1={ m with phase:=0,since:=y,target:=-1 }) (hs:m1.source≠-1->InB m1 m1.source):xA m ⟨4,y,z⟩ m1:=by
 have hdm1:=xl m1;have hs1:=eq_true hs;refine dD [] D7.is153 (by simp) (by simp[bk]) (by simp[an,ag,av]) (by simp[an,ag]) (by simp[aB]) (fun cx _ _ _=>dC [] 1500 ?_);delta D7.c153 oO oN oA oM oT oR oS oK oF oL oC oW oY oI oX oB o0 o1 oZ o7;simp (maxSteps:=9^7) -implicitDefEqProofs only[D7.rv153,msA,msC,dpC,dY,InR,WU,Ent.of0,Ent.of1,Ent.of2,Ent.of3,Ent.of4,V,W3,↓reduceIte,seval,reduceCtorEq];refine kI [] 800 ?_;simp (maxSteps:=9^7) -implicitDefEqProofs only[drM,mFin,kx,lz,ib,reM,iu,gV,gK,ndE,an,ag,av,aU,aF,WU,Ent.of0,Ent.of1,Ent.of2,Ent.of3,Ent.of4,V,W3,↓reduceIte,seval,reduceCtorEq];refine dC [] 400 ?_;simp (maxSteps:=9^7) -implicitDefEqProofs only[D7.rv153,WU,Ent.of0,Ent.of1,Ent.of2,Ent.of3,Ent.of4,V,W3,↓reduceIte,seval,reduceCtorEq];refine iw (dC [xg] 600 ?_);subst hm;simp only[ne_eq]at hdm1 hs1;delta D7.c153k5 oO oC oW oX o5;simp (maxSteps:=9^7) -implicitDefEqProofs only[D7.rv153,xg,hdm1,hs1,kN,xh,InR,WU,Ent.of0,Ent.of1,Ent.of2,Ent.of3,Ent.of4,V,W3,↓reduceIte,seval,reduceCtorEq]
theorem done_5 (m:Ms) (y z:Int) (m1:Ms) (hm:m1={ m with phase:=2,since:=y }) (hs:m1.source≠-1->InB m1 m1.source):xA m ⟨5,y,z⟩ m1:=by
 have hdm1:=xl m1;have hs1:=eq_true hs;refine dD [] D7.is153 (by simp) (by simp[bk]) (by simp[an,ag,av]) (by simp[an,ag]) (by simp[aB]) (fun cx _ _ _=>dC [] 1500 ?_);delta D7.c153 oO oN oA oM oT oR oS oK oF oL oC oW oY oI oX oB o0 o1 oZ o7;simp (maxSteps:=9^7) -implicitDefEqProofs only[D7.rv153,msA,msC,dpC,dY,InR,WU,Ent.of0,Ent.of1,Ent.of2,Ent.of3,Ent.of4,V,W3,↓reduceIte,seval,reduceCtorEq];refine kI [] 800 ?_;simp (maxSteps:=9^7) -implicitDefEqProofs only[drM,mFin,kx,lz,ib,reM,iu,gV,gK,ndE,an,ag,av,aU,aF,WU,Ent.of0,Ent.of1,Ent.of2,Ent.of3,Ent.of4,V,W3,↓reduceIte,seval,reduceCtorEq];refine dC [] 400 ?_;simp (maxSteps:=9^7) -implicitDefEqProofs only[D7.rv153,WU,Ent.of0,Ent.of1,Ent.of2,Ent.of3,Ent.of4,V,W3,↓reduceIte,seval,reduceCtorEq];refine iw (dC [xg] 600 ?_);subst hm;simp only[ne_eq]at hdm1 hs1;delta D7.c153k5 oO oC oW oX o5;simp (maxSteps:=9^7) -implicitDefEqProofs only[D7.rv153,xg,hdm1,hs1,kN,xh,InR,WU,Ent.of0,Ent.of1,Ent.of2,Ent.of3,Ent.of4,V,W3,↓reduceIte,seval,reduceCtorEq]
theorem done_6 (m:Ms) (y z:Int) (m1:Ms) (hm:m1={ m with phase:=0,since:=y,source:=m.serving,serving:=m.target,target:=-1 }) (hs:m1.source≠-1->InB m1 m1.source):xA m ⟨6,y,z⟩ m1:=by
 have hdm1:=xl m1;have hs1:=eq_true hs;refine dD [] D7.is153 (by simp) (by simp[bk]) (by simp[an,ag,av]) (by simp[an,ag]) (by simp[aB]) (fun cx _ _ _=>dC [] 1500 ?_);delta D7.c153 oO oN oA oM oT oR oS oK oF oL oC oW oY oI oX oB o0 o1 oZ o7;simp (maxSteps:=9^7) -implicitDefEqProofs only[D7.rv153,msA,msC,dpC,dY,InR,WU,Ent.of0,Ent.of1,Ent.of2,Ent.of3,Ent.of4,V,W3,↓reduceIte,seval,reduceCtorEq];refine kI [] 800 ?_;simp (maxSteps:=9^7) -implicitDefEqProofs only[drM,mFin,kx,lz,ib,reM,iu,gV,gK,ndE,an,ag,av,aU,aF,WU,Ent.of0,Ent.of1,Ent.of2,Ent.of3,Ent.of4,V,W3,↓reduceIte,seval,reduceCtorEq];refine dC [] 400 ?_;simp (maxSteps:=9^7) -implicitDefEqProofs only[D7.rv153,WU,Ent.of0,Ent.of1,Ent.of2,Ent.of3,Ent.of4,V,W3,↓reduceIte,seval,reduceCtorEq];refine iw (dC [xg] 600 ?_);subst hm;simp only[ne_eq]at hdm1 hs1;delta D7.c153k5 oO oC oW oX o5;simp (maxSteps:=9^7) -implicitDefEqProofs only[D7.rv153,xg,hdm1,hs1,kN,xh,InR,WU,Ent.of0,Ent.of1,Ent.of2,Ent.of3,Ent.of4,V,W3,↓reduceIte,seval,reduceCtorEq]
def AF (l:List Int) (n:Int) (h:l.length<=1000000):Ent Tryz.prog:=xv 163 [enc l,enc n] (.own 5) 5 (.row 1 3 ((gc l n).map Dat.cells)) (by simp[dF]) (by simp[gm]) (put_o l n h)
theorem done_7 (m:Ms) (y z:Int) (hf:InB m (dW m)) (ht:InB m (toC m)) (hne:dW m≠toC m) (x:Int) (B:List Int) (hb:dQ m (dW m)=x :: B) (hl1:(dQ m (toC m)).length<=1000000) (hl2:B.length<=1000000) (m1:Ms)
 (hm:m1={ m with buf:=(m.buf.set (toC m).toNat (gc (dQ m (toC m)) x)).set (dW m).toNat B }) (hs:m1.source≠-1->InB m1 m1.source):xA m ⟨7,y,z⟩ m1:=by
 have hdm:=xl m;obtain⟨i0,i2⟩:=hf;obtain⟨j0w,j2w⟩:=ht;have i3:dW m < (m.buf.length:Int):=by omega
 have j3w:toC m < (m.buf.length:Int):=by omega
 have hnn:(toC m).toNat≠(dW m).toNat:=by omega
 have hbf:=fI m.buf (dW m).toNat;rw[show m.buf.getD (dW m).toNat []=x :: B from hb]at hbf;have hbt:=fI m.buf (toC m).toNat;rw[show m.buf.getD (toC m).toNat []=dQ m (toC m)from rfl]at hbt;have hst:=jS m.buf (toC m).toNat (gc (dQ m (toC m)) x);have hbf2:(fP (m.buf.set (toC m).toNat (gc (dQ m (toC m)) x))).getD (dW m).toNat []=(x :: B).map Dat.cells:=by
  rw[fI,fA,if_neg (fun q=>hnn q.1)];rw[show m.buf.getD (dW m).toNat []=x :: B from hb]
 have hlen1:(m.buf.set (toC m).toNat (gc (dQ m (toC m)) x)).length=m.buf.length:=by simp
 have hst2:=jS (m.buf.set (toC m).toNat (gc (dQ m (toC m)) x)) (dW m).toNat B;have hl00:(0:Int) < (B.length:Int)+1:=by omega
 have hl01:(1:Int)<=(B.length:Int)+1:=by omega
 have hdt:List.drop 1 (List.take ((B.length:Int)+1).toNat ([C.s (.int .i64 x)] :: B.map Dat.cells))=B.map Dat.cells:=by
  have e1:((B.length:Int)+1).toNat=B.length+1:=by omega
  rw[e1,yD,yw,yB,List.take_of_length_le (by simp)]
 have hdm1:=xl m1;have hs1:=eq_true hs;refine dD [] D7.is153 (by simp) (by simp[bk]) (by simp[an,ag,av]) (by simp[an,ag]) (by simp[aB]) (fun cx _ _ _=>dC [] 1500 ?_);delta D7.c153 oO oN oA oM oT oR oS oK oF oL oC oW oY oI oX oB o0 o1 oZ o7;simp (maxSteps:=9^7) -implicitDefEqProofs only[D7.rv153,msA,msC,dpC,dY,InR,WU,Ent.of0,Ent.of1,Ent.of2,Ent.of3,Ent.of4,V,W3,↓reduceIte,seval,reduceCtorEq];refine iw (dC [xI] 600 ?_);delta D7.c153k2 oO oN oA oM oT oS oK oF oL oC oX o0 o1 o5 o8;simp (maxSteps:=9^7) -implicitDefEqProofs only[D7.rv153,xI,hdm,kN,xh,InR,WU,Ent.of0,Ent.of1,Ent.of2,Ent.of3,Ent.of4,V,W3,↓reduceIte,seval,reduceCtorEq];generalize hF:dW m=F at *;generalize hG:toC m=G at *;refine qZ [AF (dQ m G) x hl1] 800 ?_;simp (maxSteps:=9^7) -implicitDefEqProofs only[gL,mFin2,ml,pF,ops2,jo,reM2,oU,qO,qP,mE,finM,kE,ia,ip,gh,ft,fW,fW.fixBs,fV,ndE2,an,ag,av,aU,aF,kF,eQ,a6,bF,AF,xv,i0,i2,i3,j0w,j2w,j3w,hl00,hbf,hbt,eu,zt,zQ,yM,zy,InR,WU,Ent.of0,Ent.of1,Ent.of2,Ent.of3,Ent.of4,V,W3,↓reduceIte,seval,reduceCtorEq];refine⟨rfl,⟨by omega,y5 _,.inl trivial⟩,dC [] 600 ?_⟩;simp (maxSteps:=9^7) -implicitDefEqProofs only[D7.rv153,hst,WU,Ent.of0,Ent.of1,Ent.of2,Ent.of3,Ent.of4,V,W3,↓reduceIte,seval,reduceCtorEq];refine qZ [yV B hl2] 800 ?_;simp (maxSteps:=9^7) -implicitDefEqProofs only[gL,mFin2,ml,pF,ops2,jo,reM2,oU,qO,qP,mE,finM,kE,ia,ip,gh,ft,fW,fW.fixBs,fV,ndE2,an,ag,av,aU,aF,kF,eQ,a6,bF,yV,xv,i0,i2,i3,hl00,hl01,hbf2,hlen1,hdt,eu,zt,zQ,yM,zy,InR,WU,Ent.of0,Ent.of1,Ent.of2,Ent.of3,Ent.of4,V,W3,↓reduceIte,seval,reduceCtorEq];refine⟨rfl,⟨Int.le_refl _,y5 _,.inr trivial⟩,dC [] 600 ?_⟩;simp (maxSteps:=9^7) -implicitDefEqProofs only[D7.rv153,hst2,WU,Ent.of0,Ent.of1,Ent.of2,Ent.of3,Ent.of4,V,W3,↓reduceIte,seval,reduceCtorEq];refine iw (dC [xg] 600 ?_);subst hm;simp only[ne_eq]at hdm1 hs1;delta D7.c153k5 oO oC oW oX o5;simp (maxSteps:=9^7) -implicitDefEqProofs only[D7.rv153,xg,hdm1,hs1,kN,xh,InR,WU,Ent.of0,Ent.of1,Ent.of2,Ent.of3,Ent.of4,V,W3,↓reduceIte,seval,reduceCtorEq]
theorem G0.inB {n:Nw} {m:Ms} (g:G0 n m) {c:Int} (h:isC n c=true):InB m c:=⟨(fS h).1,g.ix h⟩
theorem dP.msS {n:Nw} {m:Ms} (net:NetOk n) (g:dP n m):MsS m:=by
 have h1:=g.len;have h2:=g.large;have h3:=net.len;refine⟨⟨by omega,fun x hx=>?_⟩,by omega⟩;have:=(List.sublist_flatten_of_mem hx).length_le;omega
theorem bufA_le {n:Nw} {m:Ms} (net:NetOk n) (g:dP n m) (c:Int):(dQ m c).length<=1000000:=by
 rcases yu c.toNat m.buf.length with h | h
 . have e:dQ m c=m.buf[c.toNat]:=by rw[dQ,zb,ze h];rfl
   rw[e];exact (g.msS net).b.r _ (yy h)
 . have e:dQ m c=[]:=by rw[dQ,zb,List.getElem?_eq_none h];rfl
   rw[e];simp
theorem Bg {m:Ms} {t:Int} (h:MsS { m with at_:=t }):MsS m:=⟨h.b,h.f⟩
theorem AI {n:Nw} {m:Ms} (net:NetOk n) (g:dP n m) (h:m.phase=2\/(m.phase=0/\m.source≠-1)):InB m (dW m)/\InB m (toC m)/\dW m≠toC m:=by
 by_cases p:m.phase=2
 . have htn:m.target≠-1:=fun q=>(g.f2 q).2 p
   rw[dW,toC,if_pos p,if_pos p];exact⟨g.inB g.srv,g.inB (g.tgt htn),fun q=>net.ne _ _ (g.c1 htn) q.symm⟩
 . have hs:m.source≠-1:=by
    rcases h with q | q
    . exact absurd q p
    . exact q.2
   rw[dW,toC,if_neg p,if_neg p];exact⟨g.inB (g.src hs),g.inB g.srv,net.ne _ _ (g.c2 hs)⟩
theorem Rdone_c (n:Nw) (m:Ms) (e:T3) (net:NetOk n) (G:dP n { m with at_:=e.y }) (hev:evE n e=0) (hd:eA n m e=0):FC Tryz.prog 153 [msA m 100000,enc e] [(100000,dpC m)] (enc (kd m e)) []:=by
 obtain⟨hk,hy,hcz⟩:=ev_ok hev;have S:=Bg (G.msS net);have hd':eA n { m with at_:=e.y } e=0:=hd;have hI:∀ c,isC n c=true->InB m c:=fun c h=>G.inB h
 have hB:∀ c,(dQ m c).length<=1000000:=fun c=>bufA_le net G c
 obtain⟨ex,ey,ezw⟩:=e;simp only at hk hy hcz hd hd' G;by_cases h10:ex=10
 . subst h10;rw[kd,if_pos rfl];exact done_10 m ey ezw S (hI _ (hcz rfl))
 have hdn:kd m ⟨ex,ey,ezw⟩=settle (eK m ⟨ex,ey,ezw⟩):=by rw[kd,if_neg h10]
 rw[hdn];have A:=G.toG0.act net hev rfl hd' h10;rw[<- at_act]at A;have hs:(eK m ⟨ex,ey,ezw⟩).source≠-1->InB (eK m ⟨ex,ey,ezw⟩) (eK m ⟨ex,ey,ezw⟩).source:=fun q=>A.inB (A.src q)
 clear A;have k:ex=0\/ex=1\/ex=2\/ex=3\/ex=4\/ex=5\/ex=6\/ex=7\/ex=8\/ex=9\/ex=11:=by omega
 generalize hm:eK m ⟨ex,ey,ezw⟩=m1 at *;unfold eK at hm;unfold eA at hd;rcases k with rfl | rfl | rfl | rfl | rfl | rfl | rfl | rfl | rfl | rfl | rfl <;> simp only[Int.reduceEq,if_true,if_false]at hm hd
 . have hfr:=G.fresh;exact done_0 m ey ezw (hI _ G.pth) (by simp only[InR];simp only at hfr;omega) (hB _) m1 hm.symm hs
 . have hgt:=G.got;have hfr:=G.fresh;simp only at hgt hfr;cases hb:dQ m m.serving with
   | nil=>
    rw[hb]at hd;simp at hd;split at hd <;> cases hd
   | cons x l=>
    rw[hb]at hm;exact done_1 m ey ezw (hI _ G.srv) x l hb (by simp only[InR];omega) m1 hm.symm hs
 . exact done_2 m ey ezw (hI _ G.srv) (hB _) m1 hm.symm hs
 . exact done_3 m ey ezw m1 hm.symm hs
 . exact done_4 m ey ezw m1 hm.symm hs
 . exact done_5 m ey ezw m1 hm.symm hs
 . exact done_6 m ey ezw m1 hm.symm hs
 . have hq:m.phase=2\/(m.phase=0/\m.source≠-1):=by
    by_cases q:m.phase=2
    . exact .inl q
    . by_cases q0:m.phase=0
      . by_cases qs:m.source=-1
        . rw[if_pos ⟨q,.inr qs⟩]at hd;cases hd
        . exact .inr ⟨q0,qs⟩
      . rw[if_pos ⟨q,.inl q0⟩]at hd;cases hd
   obtain⟨w1,w2,w3⟩:=AI net G hq;have hne:dQ m (dW m)≠[]:=fun q=>by
    split at hd
    . cases hd
    . first | cases hd | (rw[if_pos q]at hd;cases hd)
   cases hb:dQ m (dW m)with
   | nil=>exact absurd hb hne
   | cons x B=>
    rw[hb]at hm;have hbl:=hB (dW m);rw[hb]at hbl;exact done_7 m ey ezw w1 w2 w3 x B hb (hB _) (by simp at hbl;omega) m1 hm.symm hs
 . exact done_8 m ey ezw m1 hm.symm hs
 . exact done_9 m ey ezw m1 hm.symm hs
 . subst hm;exact done_11 m ey ezw hs
theorem FC.keys {f:FuncId} {cs:List C} {r:C} {c:Ch} (k:Nat) (h:FC Tryz.prog f cs [(100000,c)] r []) (hr:ak [(100000,k)] r=r) (hk:dF [100000] r) (hc:aG [(100000,k)] c=c):FC Tryz.prog f (cs.map (ak [(100000,k)])) [(k,c)] r []:=by
 have:=FC.ren h [(100000,k)] [100000] (by simp[rn,lk]) (fun k' c' hm=>by simp at hm ⊢;exact hm.1) (fun k' c' hm=>by simp at hm) hk;rw[hr]at this;simpa[ar,rn,lk,hc]using this
theorem AB (m:Ms) (k:Nat):ak [(100000,k)] (enc m)=enc m/\dF [100000] (enc m):=by
 rw[kN];simp[ak,ak.renCs,dF,dF.keysIns]
def xK (n:Nw) (m:Ms) (e:T3):Ms:=if qU n m e≠0 then ms0 else rf n m e
theorem Step_c (n:Nw) (m:Ms) (e:T3) (hn:NwS n) (net:NetOk n) (g:dP n m) (hev:evE n e=0):FC Tryz.prog 119 [enc n,enc m,enc e] [] (.tup [enc (xK n m e),enc (qU n m e)]) []:=by
 obtain⟨hk,hy,hcz⟩:=ev_ok hev;have S:=g.msS net;have hlen:=g.len;have hlen0:=net.len;have hsi:=g.since;have hat:=g.at_;have hli:=net.lim;by_cases ht:e.y < m.at_
 . have hE:qU n m e=9:=by rw[qU,if_pos ht]
   have hS:xK n m e=ms0:=by rw[xK,hE];rfl
   rw[hE,hS];refine dD [] is119 (by simp) (by simp[bk]) (by simp[an,ag]) (by simp[an,ag]) (by simp[aB]) (fun cx _ _ _=>dC [] 1500 ?_);delta c119 oO oN oA oM oS oK oF oL oV oC oW oI oX oB oZ o5 o7 o8;simp (maxSteps:=9^7) -implicitDefEqProofs only[x4,ed,kN,dY,ht,ms0,InR,WU,Ent.of0,Ent.of1,Ent.of2,Ent.of3,Ent.of4,V,W3,↓reduceIte,seval,reduceCtorEq]
 . have hE:qU n m e=eA n (qN n m e.y) e:=by rw[qU,if_neg ht];rfl
   have G:dP n { qN n m e.y with at_:=e.y }:=g.pass net (by omega) hy.2;have hap:rf n m e={ kd (qN n m e.y) e with at_:=e.y }:=by rw[at_done];rfl
   have SY:=Bg (G.msS net);have hdoes:=does_c n (qN n m e.y) e hn SY hk (G.inB G.srv) (fun q=>(AI net G q).1);generalize hY:qN n m e.y=Y at *;have pass:=AV n m e.y hn S (by omega) (fun _=>by simp only[InR];omega);rw[hY]at pass;refine dD [] is119 (by simp) (by simp[bk]) (by simp[an,ag]) (by simp[an,ag]) (by simp[aB]) (fun cx _ _ _=>dC [xv 110 [enc n,enc m,enc e.y] (.tup [msA Y 25,enc (xq n m e.y)]) 25 (.deep 1 3 24 none (fP Y.buf)) ⟨yS _ 25,trivial,trivial⟩ (by simp[gm]) pass] 1500 ?_);delta c119 oO oN oA oM oS oK oF oL oV oC oW oI oX oB oZ o5 o7 o8;simp (maxSteps:=9^7) -implicitDefEqProofs only[x4,ed,kN,dY,ht,xv,msA,msC,InR,not_true_eq_false,WU,Ent.of0,Ent.of1,Ent.of2,Ent.of3,Ent.of4,V,W3,↓reduceIte,seval,reduceCtorEq];refine pw rfl (OpM.lend0 hdoes rfl ⟨.same _,AG rfl,.same _,trivial⟩ rfl rfl) (fun ef he=>?_);subst he;refine nz [] 800 ?_;by_cases h0:eA n Y e=0
   . have hE0:qU n m e=0:=hE.trans h0;have hS:xK n m e={ kd Y e with at_:=e.y }:=by rw[xK,if_neg (by simp[hE0]),hap]
     have hdone:=FC.keys 22 (Rdone_c n Y e net G hev h0) (AB _ 22).1 (AB _ 22).2 rfl;rw[hE0,hS];simp (maxSteps:=9^7) -implicitDefEqProofs only[x4,h0,not_true_eq_false,WU,Ent.of0,Ent.of1,Ent.of2,Ent.of3,Ent.of4,V,W3,↓reduceIte,seval,reduceCtorEq];refine qD (.yes _ rfl (OpR.give (k:=22) (c:=dpC Y) rfl hdone (by rfl) rfl (fun cs q=>by cases q) (by rw[kN];simp[dF,dF.keysIns]))) trivial ?_;refine nz [] 800 ?_;simp (maxSteps:=9^7) -implicitDefEqProofs only[x4,kN,a7,az,bA,InR,WU,Ent.of0,Ent.of1,Ent.of2,Ent.of3,Ent.of4,V,W3,↓reduceIte,seval,reduceCtorEq]
   . have hE0:¬ qU n m e=0:=by rw[hE];exact h0
     have hS:xK n m e=ms0:=by rw[xK,if_pos hE0]
     rw[hS,hE];simp (maxSteps:=9^7) -implicitDefEqProofs only[x4,h0,ms0,not_true_eq_false,not_false_eq_true,WU,Ent.of0,Ent.of1,Ent.of2,Ent.of3,Ent.of4,V,W3,↓reduceIte,seval,reduceCtorEq]
theorem xL (m:Ms):dF [] (enc m):=by rw[kN];simp[dF,dF.keysIns]
theorem Apply_c (n:Nw) (m:Ms) (e:T3) (hn:NwS n) (net:NetOk n) (g:dP n m):FC Tryz.prog 71 [enc n,enc m,enc e] [] (.tup [enc (xy n m e),enc (gi n m e)]) []:=by
 have hdn:=gO n;have eta:(⟨e.x,e.y,e.z⟩:T3)=e:=rfl;by_cases hev:evE n e=0
 . have hE:gi n m e=qU n m e:=by rw[gi,if_neg (by simp[hev])]
   have hS:xy n m e=xK n m e:=by rw[xy,hE];rfl
   rw[hE,hS];have hx:=Step_c n m e hn net g hev;refine dD [] is71 (by simp) (by simp[bk]) (by simp[an,ag]) (by simp[an,ag]) (by simp[aB]) (fun cx _ _ _=>dC [Ai,entX 119 _ _ hx ⟨xL _,trivial,trivial⟩] 1500 ?_);delta c71 oO oN oA oM oS oK oV oC oW oI oX oB oZ o5 o7 o8;simp (maxSteps:=9^7) -implicitDefEqProofs only[rv71,Ai,entX,ed,kN,dY,mt,eta,hdn,hn,hev,not_true_eq_false,WU,Ent.of0,Ent.of1,Ent.of2,Ent.of3,Ent.of4,V,W3,↓reduceIte,seval,reduceCtorEq]
 . have hE:gi n m e=evE n e:=by rw[gi,if_pos hev]
   have hS:xy n m e=ms0:=by rw[xy,hE,if_pos hev]
   rw[hE,hS];refine dD [] is71 (by simp) (by simp[bk]) (by simp[an,ag]) (by simp[an,ag]) (by simp[aB]) (fun cx _ _ _=>dC [Ai] 1500 ?_);delta c71 oO oN oA oM oS oK oV oC oW oI oX oB oZ o5 o7 o8;simp (maxSteps:=9^7) -implicitDefEqProofs only[rv71,Ai,ed,kN,dY,mt,eta,hdn,hn,hev,ms0,not_true_eq_false,not_false_eq_true,WU,Ent.of0,Ent.of1,Ent.of2,Ent.of3,Ent.of4,V,W3,↓reduceIte,seval,reduceCtorEq]
theorem nil_els (k:Nat) {E:Env} {U:Nat->Prop} {h:Array Obj} {v:Value} (hr:Rep E U h (.sl 1 (List.replicate k [C.s (.slice none 0 0)])) v):Rep E U h (.sl 1 (List.replicate k [C.sl 1 []])) v:=by
 have hd:=jv hr;generalize hes:List.replicate k [C.s (.slice none 0 0)]=es at hd;have hl:es.length=k:=by rw[<- hes,List.length_replicate]
 have hg:∀ (i:Nat) (e:List C),(List.replicate k [C.sl 1 []])[i]? = some e->i < k/\e=[C.sl 1 []]:=fun i e he=>by
  rw[List.getElem?_replicate]at he;split at he
  . rename_i q;cases he;exact⟨q,rfl⟩
  . cases he
 have hg2:∀ i,i < k->es[i]? = some [C.s (.slice none 0 0)]:=fun i hi=>by rw[<- hes,List.getElem?_replicate,if_pos hi]
 cases hd with
 | sl0 _ a cap hc=>
  have:k=0:=by simpa using hl.symm
  subst this;exact .d (.sl0 1 a cap hc)
 | sl _ b off cap _ arr ty fz vf hU hb hcap hmax hsz hv hrr=>
  have hk:es.length=(List.replicate k [C.sl 1 []]).length:=by rw[hl,List.length_replicate]
  rw[hk];refine .d (.sl _ b off cap 1 arr ty fz vf hU hb (by rw[<- hk];exact hcap) hmax (fun i e he=>by rw[(hg i e he).2];rfl) (fun i e j c he hj=>?_) (fun i e j c he hj=>?_))
  . obtain⟨h1,rfl⟩:=hg i e he;have hj0:j=0:=by have:=(zi.1 hj).1;simpa using this
    subst hj0;exact hv i _ 0 _ (hg2 i h1) rfl
  . obtain⟨h1,rfl⟩:=hg i e he;have hj0:j=0:=by have:=(zi.1 hj).1;simpa using this
    subst hj0;cases hj;have:=hrr i _ 0 _ (hg2 i h1) rfl;generalize vf i 0=u at *;cases this;exact .sl0 1 none 0 (by simp[maxLen])
theorem Bs {E:Env} {U:Nat->Prop} {h:Array Obj} {cs:List C} {a b:C} {v:Value} (hr:Rep E U h (.agg (cs++[a])) v) (hab:∀ u,Rep E U h a u->Rep E U h b u):Rep E U h (.agg (cs++[b])) v:=by
 cases hr with
 | d hd=>cases hd
 | agg _ vs q1 q2 q3=>
  refine .agg _ vs (by simpa using q1) (fun j c hj=>?_) q3;rw[zS]at hj;split at hj
  . rename_i hlt;exact q2 j c (by rw[zS,if_pos hlt];exact hj)
  . rename_i hlt;have hj0:j=cs.length:=by have:=(zi.1 hj).1;simp at this;omega
    subst hj0;simp at hj;subst hj;exact hab _ (q2 cs.length a (by simp))
theorem FC.post {f:FuncId} {as0:List C} {r r':C} (hfc:FC Tryz.prog f as0 [] r []) (hp:∀ E U h v,Rep E U h r v->Rep E U h r' v):FC Tryz.prog f as0 [] r' []:=
 ⟨hfc.1,fun E U vs w hg ha hi=>(hfc.2 E U vs w hg ha hi).mono fun e w' ⟨v,E',U',he,hr,hc⟩=>⟨v,E',U',he,hp _ _ _ _ hr,hc⟩⟩
theorem Bq (n:Nw) (c:Int) (hn:NwS n):FC Tryz.prog 52 [enc n,enc c] [] (enc (eR n c)) []:=by
 have hb:=hn.c;have key:FC Tryz.prog 52 [enc n,enc c] [] (.agg ([.s (.int .i64 0),.s (.int .i64 0),.s (.int .i64 0),.s (.int .i64 c),.s (.int .i64 (-1)),.s (.int .i64 (-1)),.s (.int .i64 c),.s (.int .i64 0),.s (.int .i64 0)]++[.sl 1 (List.replicate n.cells.length [C.s (.slice none 0 0)])])) []:=by
  refine dD [] is52 (by simp) (by simp[bk]) (by simp[an,ag]) (by simp[an,ag]) (by simp[aB]) (fun cx _ _ _=>dC [] 1500 ?_);delta c52 oO oN oA oM oF oL oW oX o0 oZ o4 o7;simp (maxSteps:=9^7) -implicitDefEqProofs only[rv52,ed,yq,yb,InR,WU,Ent.of0,Ent.of1,Ent.of2,Ent.of3,Ent.of4,V,W3,↓reduceIte,seval,reduceCtorEq];omega
 have e:(n.cells.map fun _=>([]:List Int)).map Dat.cells=List.replicate n.cells.length [C.sl 1 []]:=by
  rw[zT];exact List.map_const' (l:=n.cells) (b:=[C.sl 1 []])
 refine FC.post key (fun E U h v hr=>?_);have:=Bs hr (fun u hu=>nil_els _ hu);rw[kN,eR];simp only[e];exact this
def Ag : Ent Tryz.prog:=.of2 52 (fun n _=>NwS n) (fun (n:Nw) (c:Int)=>enc (eR n c)) (fun _ _=>xL _) (fun n c h=>Bq n c h)
theorem AT (l:List T3) (h:l.length<=1000000):FC Tryz.prog 38 [enc l] [] (enc l) []:=by
 refine eh is38 (by simp) (fun cx hl=>dC [] 800 ?_);delta c38 oO oA oM oX o3;simp (maxSteps:=9^7) -implicitDefEqProofs only[rv38,hJ,WU,Ent.of0,Ent.of1,Ent.of2,Ent.of3,Ent.of4,V,W3,↓reduceIte,seval,reduceCtorEq];omega
def Af : Ent Tryz.prog:=.of1 38 (fun l=>l.length<=1000000) (fun l:List T3=>enc l) (fun _=>trivial) (fun l h=>AT l h)
theorem short_c (l:List T3):FC Tryz.prog 35 [enc l] [] (enc (decide (l.length<=40\/(200 < l.length/\l.length<=202)))) []:=by
 refine eh is35 (by simp) (fun cx hl=>dC [] 800 ?_);by_cases h1:l.length<=40
 . have h1':(l.length:Int)<=40:=by omega
   delta c35 oO oN oM oG oX oH oB oD o4 o9;simp (maxSteps:=9^7) -implicitDefEqProofs only[rv35,h1,h1',true_or,decide_true,WU,Ent.of0,Ent.of1,Ent.of2,Ent.of3,Ent.of4,V,W3,↓reduceIte,seval,reduceCtorEq]
 . have h1':¬ (l.length:Int)<=40:=by omega
   by_cases h2:200 < l.length
   . have h2':(200:Int) < (l.length:Int):=by omega
     have h3:((l.length:Int)<=202)=(l.length<=202):=by apply propext;omega
     delta c35 oO oN oM oG oX oH oB oD o4 o9;simp (maxSteps:=9^7) -implicitDefEqProofs only[rv35,h1,h1',h2,h2',h3,true_and,false_or,WU,Ent.of0,Ent.of1,Ent.of2,Ent.of3,Ent.of4,V,W3,↓reduceIte,seval,reduceCtorEq]
   . have h2':¬ (200:Int) < (l.length:Int):=by omega
     delta c35 oO oN oM oG oX oH oB oD o4 o9;simp (maxSteps:=9^7) -implicitDefEqProofs only[rv35,h1,h1',h2,h2',false_and,false_or,WU,Ent.of0,Ent.of1,Ent.of2,Ent.of3,Ent.of4,V,W3,↓reduceIte,seval,reduceCtorEq]
def xY : Ent Tryz.prog:=.of1 35 (fun _=>True) (fun l:List T3=>enc (decide (l.length<=40\/(200 < l.length/\l.length<=202)))) (fun _=>trivial) (fun l _=>short_c l)
def rpE (n:Nw) (c:Int) (l:List T3):Int×Int:=if 200 < l.length then (0,8)else iW n (eR n c) l 0
def rpS (n:Nw) (c:Int) (l:List T3):Ms:=if (rpE n c l).2=0 then l.foldl (rf n) (eR n c)else ms0
def xZ (n:Nw) (m:Ms) (e:T3) (hn:NwS n) (net:NetOk n) (g:dP n m):Ent Tryz.prog:=entX 71 [enc n,enc m,enc e] (.tup [enc (xy n m e),enc (gi n m e)]) (Apply_c n m e hn net g) ⟨xL _,trivial,trivial⟩
theorem AW (n:Nw) (c:Int) (l:List T3) (hn:NwS n) (net:NetOk n) (hc:isC n c=true):FC Tryz.prog 42 [enc n,enc c,enc l] [] (.tup [enc (rpS n c l),enc (rpE n c l).1,enc (rpE n c l).2]) []:=by
 have hdn:=gO n;by_cases hl:200 < l.length
 . have hl':(200:Int) < (l.length:Int):=by omega
   have hE:rpE n c l=(0,8):=by rw[rpE,if_pos hl]
   have hS:rpS n c l=ms0:=by rw[rpS,hE];rfl
   rw[hS,hE];refine dD [] is42 (by simp) (by simp[bk]) (by simp[an,ag]) (by simp[an,ag]) (by simp[aB]) (fun cx _ _ _=>dC [] 1500 ?_);delta c42 oO oN oA oM oS oK oV oC oW oI oX oB oZ o4 o5 o7;simp (maxSteps:=9^7) -implicitDefEqProofs only[rv42,ed,kN,ms0,hl',WU,Ent.of0,Ent.of1,Ent.of2,Ent.of3,Ent.of4,V,W3,↓reduceIte,seval,reduceCtorEq]
 . have hl':¬ (200:Int) < (l.length:Int):=by omega
   have hE:rpE n c l=iW n (eR n c) l 0:=by rw[rpE,if_neg hl]
   have hS:rpS n c l=if (iW n (eR n c) l 0).2=0 then l.foldl (rf n) (eR n c)else ms0:=by rw[rpS,hE]
   rw[hS,hE];generalize hR:iW n (eR n c) l 0=R;have g0:=dP.begin net hc;refine dD [] D7.is42 (by simp) (by simp[bk]) (by simp[an,ag]) (by simp[an,ag]) (by simp[aB]) (fun cx _ _ _=>dC [Ag] 1500 ?_);delta D7.c42 oO oN oA oM oS oK oV oC oW oI oX oB oZ o4 o5 o7;simp (maxSteps:=9^7) -implicitDefEqProofs only[D7.rv42,Ag,ed,kN,hdn,hn,hl',not_true_eq_false,WU,Ent.of0,Ent.of1,Ent.of2,Ent.of3,Ent.of4,V,W3,↓reduceIte,seval,reduceCtorEq];obtain⟨mfw,hmf⟩:∃ mfw:Nat->Ms,∀ i,mfw i=(l.take i).foldl (rf n) (eR n c):=⟨_,fun _=>rfl⟩;have hm0:mfw 0=eR n c:=hmf 0;have hme:mfw l.length=l.foldl (rf n) (eR n c):=by rw[hmf,yo]
   rw[<- hme];rw[<- hm0]at g0 hR;refine eN l.length (fun i=>[(10,.s (.int .i64 (i:Int)))]) (fun i=>[(9,.box [.s (.int .i64 (mfw i).at_),.s (.int .i64 (mfw i).phase),.s (.int .i64 (mfw i).since),.s (.int .i64 (mfw i).serving),.s (.int .i64 (mfw i).target),.s (.int .i64 (mfw i).source),.s (.int .i64 (mfw i).path),.s (.int .i64 (mfw i).fresh),.s (.int .i64 (mfw i).got),.sl 1 ((mfw i).buf.map Dat.cells)])]) (fun i=>dP n (mfw i)/\iW n (mfw i) (l.drop i) (i:Int)=R) ⟨g0,hR⟩ ?_ (fun i hi hv=>?_)
   . simp (maxSteps:=9^7) -implicitDefEqProofs only[hm0,kN,Ent.of0,Ent.of1,Ent.of2,Ent.of3,Ent.of4,V,W3,↓reduceIte,seval,reduceCtorEq]
     all_goals rfl
   . obtain⟨g,hv⟩:=hv;by_cases h:i < l.length
     . have hi2:(i:Int) < (l.length:Int):=by omega
       have hi0:(0:Int)<=i:=by omega
       have hgd:=wl l i h;have hd:=eg (d:=(⟨0,0,0⟩:T3)) h;have hnx:mfw (i+1)=rf n (mfw i) (l.getD i ⟨0,0,0⟩):=by
        rw[hmf,hmf,yI h,List.foldl_append];rw[zb,ze h];rfl
       rw[hd]at hv;generalize l.getD i ⟨0,0,0⟩=e at *;rw[iW]at hv;have eta:(⟨e.x,e.y,e.z⟩:T3)=e:=rfl;refine dC [] 800 ?_;delta D7.c42l1 oO oN oA oM oT oR oS oK oC oW oI oX oB o3 oZ o4 o5 o8;simp (maxSteps:=9^7) -implicitDefEqProofs only[D7.rv42,hi0,hi2,h,hgd,hJ,InR,WU,Ent.of0,Ent.of1,Ent.of2,Ent.of3,Ent.of4,V,W3,↓reduceIte,seval,reduceCtorEq];refine xM [xZ n (mfw i) e hn net g] 800 [6] ?_;simp (maxSteps:=9^7) -implicitDefEqProofs only[xC,mFin2,xW,ml,pF,ops2,jo,reM2,oU,qO,qP,mE,finM,kE,ia,ip,gh,ft,fW,fW.fixBs,fV,ndE2,an,ag,av,aU,aF,kF,eQ,a6,bF,xZ,entX,ed,kN,dY,hi0,hi2,h,hgd,InR,WU,Ent.of0,Ent.of1,Ent.of2,Ent.of3,Ent.of4,V,W3,↓reduceIte,seval,reduceCtorEq];refine⟨rfl,?_⟩;refine dC [] 800 ?_;by_cases h0:gi n (mfw i) e=0
       . rw[if_pos h0]at hv;have hA:xy n (mfw i) e=mfw (i+1):=by rw[hnx,xy,if_neg (by simp[h0])]
         rw[hA];rw[<- hnx]at hv;have g':dP n (mfw (i+1)):=by rw[hnx];exact g.apply net h0
         simp (maxSteps:=9^7) -implicitDefEqProofs only[D7.rv42,h0,not_true_eq_false,WU,Ent.of0,Ent.of1,Ent.of2,Ent.of3,Ent.of4,V,W3,↓reduceIte,seval,reduceCtorEq];exact⟨by simp only[InR];omega,h,⟨g',by rw[<- hv];congr 1⟩,by omega⟩
       . rw[if_neg h0]at hv;subst hv;simp (maxSteps:=9^7) -implicitDefEqProofs only[D7.rv42,h0,ms0,not_true_eq_false,not_false_eq_true,WU,Ent.of0,Ent.of1,Ent.of2,Ent.of3,Ent.of4,V,W3,↓reduceIte,seval,reduceCtorEq]
     . have hil:i=l.length:=by omega
       subst hil;have hi2:¬ ((l.length:Nat):Int) < (l.length:Int):=by omega
       rw[List.drop_length]at hv;subst hv;refine dC [] 800 ?_;delta D7.c42l1 oO oN oA oM oT oR oS oK oC oW oI oX oB o3 oZ o4 o5 o8;simp (maxSteps:=9^7) -implicitDefEqProofs only[D7.rv42,hi2,iW,WU,Ent.of0,Ent.of1,Ent.of2,Ent.of3,Ent.of4,V,W3,↓reduceIte,seval,reduceCtorEq]
theorem x7 (n:Nw) (c:Int) (l:List T3):gk n c l=if cellR n c≠0 then cellR n c else if l.length<=200 then 0 else 8:=by
 unfold gk cellR;by_cases h1:(eW n).2=0 <;> cases h2:isC n c <;> by_cases h3:l.length<=200 <;> simp[dM,h1,h3]
theorem y7 (n:Nw) (c:Int) (l:List T3) (h:cellR n c≠0):gT n c l=(0,cellR n c):=by
 have:gk n c l=cellR n c:=by rw[x7,if_pos h]
 rw[gT,this,if_pos h]
theorem AH (n:Nw) (c:Int) (l:List T3) (h:cellR n c=0):gT n c l=rpE n c l:=by
 have hf:=x7 n c l;rw[if_neg (by simp[h])]at hf;rw[gT,rpE];by_cases h3:l.length<=200
 . rw[if_pos h3]at hf;rw[if_neg (by simp[hf]),if_neg (by omega)]
 . rw[if_neg h3]at hf;rw[if_pos (by simp[hf]),hf,if_pos (by omega)]
theorem AA {n:Nw} {c:Int} (h:cellR n c=0):NetOk n/\isC n c=true:=by
 unfold cellR at h;by_cases h1:(eW n).2=0
 . rw[if_neg (by simp[h1])]at h;cases h2:isC n c
   . simp[h2]at h
   . exact⟨rS h1,rfl⟩
 . rw[if_pos h1]at h;exact absurd h h1
theorem Bk {n:Nw} {c:Int} {l:List T3} (h:(rpE n c l).2=0):rpE n c l=(0,0)/\l.length<=200/\(iW n (eR n c) l 0).2=0:=by
 unfold rpE at h ⊢;by_cases h3:200 < l.length
 . rw[if_pos h3]at h;cases h
 . rw[if_neg h3]at h ⊢;exact⟨x9 n l _ 0 h,by omega,h⟩
theorem Stays_c (n:Nw) (c:Int) (log:List T3) (hn:NwS n):FC Tryz.prog 55 [enc n,enc c,enc log] [] (.tup (if (gT n c log).2=0 then [enc (lR n c log).stays,enc (0:Int)]else [enc ([]:List T3),enc (gT n c log).2])) []:=by
 have hdn:=gO n;obtain⟨p,hp⟩:∃ p,lR n c log=p:=⟨_,rfl⟩;obtain⟨⟨i,e⟩,hR⟩:∃ R,gT n c log=R:=⟨_,rfl⟩;rw[hR,hp];by_cases h:e=0
 . subst h;rw[if_pos rfl];refine dD [] D8.is55 (by simp) (by simp[bk]) (by simp[an,ag]) (by simp[an,ag]) (by simp[aB]) (fun cx _ hl _=>dC [of n c log p hn (by rw[hR]) hp] 1500 ?_);delta D8.c55 oO oN oA oM oS oK oF oL oV oC oI oX oB o5 o6 o7 o8;simp (maxSteps:=9^7) -implicitDefEqProofs only[D8.rv55,of,ed,phY,phC,fP,not_true_eq_false,WU,Ent.of0,Ent.of1,Ent.of2,Ent.of3,Ent.of4,V,W3,↓reduceIte,seval,reduceCtorEq];refine fE (dX.take (s:=6) (k:=15) (j:=14) (by decide) rfl rfl trivial rfl (by decide)) ?_;refine iw (dC [] 500 ?_);delta D8.c55k2;simp (maxSteps:=9^7) -implicitDefEqProofs only[D8.rv55,aT,bM,WU,Ent.of0,Ent.of1,Ent.of2,Ent.of3,Ent.of4,V,W3,↓reduceIte,seval,reduceCtorEq];exact hJ.symm
 . rw[if_neg h];refine dD [] D8.is55 (by simp) (by simp[bk]) (by simp[an,ag]) (by simp[an,ag]) (by simp[aB]) (fun cx _ hl _=>dC [oc n c log i e hn h hR] 1500 ?_);delta D8.c55 oO oN oA oM oS oK oF oL oV oC oI oX oB o5 o6 o7 o8;simp (maxSteps:=9^7) -implicitDefEqProofs only[D8.rv55,oc,ed,h,not_true_eq_false,not_false_eq_true,WU,Ent.of0,Ent.of1,Ent.of2,Ent.of3,Ent.of4,V,W3,↓reduceIte,seval,reduceCtorEq];refine iw (dC [] 500 ?_);delta D8.c55k1;simp (maxSteps:=9^7) -implicitDefEqProofs only[D8.rv55,WU,Ent.of0,Ent.of1,Ent.of2,Ent.of3,Ent.of4,V,W3,↓reduceIte,seval,reduceCtorEq]
theorem AU (n:Nw) (c:Int) (log:List T3) (hn:NwS n):FC Tryz.prog 56 [enc n,enc c,enc log] [] (.tup (if (gT n c log).2=0 then [enc (lR n c log).longest,enc (0:Int)]else [enc (0:Int),enc (gT n c log).2])) []:=by
 have hdn:=gO n;obtain⟨p,hp⟩:∃ p,lR n c log=p:=⟨_,rfl⟩;obtain⟨⟨i,e⟩,hR⟩:∃ R,gT n c log=R:=⟨_,rfl⟩;rw[hR,hp];by_cases h:e=0
 . subst h;rw[if_pos rfl];refine dD [] is56 (by simp) (by simp[bk]) (by simp[an,ag]) (by simp[an,ag]) (by simp[aB]) (fun cx _ hl _=>dC [of n c log p hn (by rw[hR]) hp] 1500 ?_);delta c56 oO oN oM oS oK oF oL oV oC oI oX oB o5 o6 o7 o8;simp (maxSteps:=9^7) -implicitDefEqProofs only[rv56,of,ed,phY,phC,fP,not_true_eq_false,WU,Ent.of0,Ent.of1,Ent.of2,Ent.of3,Ent.of4,V,W3,↓reduceIte,seval,reduceCtorEq]
 . rw[if_neg h];refine dD [] is56 (by simp) (by simp[bk]) (by simp[an,ag]) (by simp[an,ag]) (by simp[aB]) (fun cx _ hl _=>dC [oc n c log i e hn h hR] 1500 ?_);delta c56 oO oN oM oS oK oF oL oV oC oI oX oB o5 o6 o7 o8;simp (maxSteps:=9^7) -implicitDefEqProofs only[rv56,oc,ed,h,not_true_eq_false,not_false_eq_true,WU,Ent.of0,Ent.of1,Ent.of2,Ent.of3,Ent.of4,V,W3,↓reduceIte,seval,reduceCtorEq]
end Go.Proofs.YtcbabnbiinkafaaGreatDoor
end
