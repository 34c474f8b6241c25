/- Part 3 of the proof of: TopMoveOnceInOrder returns true for every input and never panics: behind any log the phone can get all packets that wait, once and in order; conditions: those of the given statement, that the package variables it lists hold what their initialisers lay. -/
import Derived.Test.YtcbabnbiinkafaaGreatDoorTopMoveOnceInOrder2
set_option linter.all false
section
open Go Go.Am
open Go.Am.Dat (cells)
namespace Go.Proofs.YtcbabnbiinkafaaGreatDoor
set_option maxHeartbeats 4000000
set_option maxRecDepth 100000
theorem done_5 (m:Ms) (y z:Int) (m1:Ms) (hm:m1={ m with phase:=2,since:=y }) (hs:m1.source≠-1->InB m1 m1.source):wi m ⟨5,y,z⟩ m1:=by
 have hdm1:=vV m1;have hs1:=eq_true hs;refine dD [] D7.is153 (by simp) (by simp[bn]) (by simp[ap,ag,av]) (by simp[ap,ag]) (by simp[aC]) (fun cx _ _ _=>dC [] 1500 ?_);delta D7.c153 oO oN oA oM oT oR oS oK oF oL oC oW oY oI oX oB o0 o1 oZ o7;simp (maxSteps:=9^7) -implicitDefEqProofs only[D7.rv153,msA,msC,dpC,dV,InR,WU,V,W3,↓reduceIte,seval,reduceCtorEq];refine kh [] 800 ?_;simp (maxSteps:=9^7) -implicitDefEqProofs only[drM,mFin,j6,kU,gR,reM,ie,gK,gB,ndE,ap,ag,av,aU,aE,WU,V,W3,↓reduceIte,seval,reduceCtorEq];refine dC [] 400 ?_;simp (maxSteps:=9^7) -implicitDefEqProofs only[D7.rv153,WU,V,W3,↓reduceIte,seval,reduceCtorEq];refine iJ (dC [vR] 600 ?_);subst hm;simp only[ne_eq]at hdm1 hs1;delta D7.c153k5 oO oC oW oX o5;simp (maxSteps:=9^7) -implicitDefEqProofs only[D7.rv153,vR,hdm1,hs1,qD,vS,InR,WU,Ent.of1,V,W3,↓reduceIte,seval,reduceCtorEq]
theorem done_6 (m:Ms) (y z:Int) (m1:Ms) (hm:m1={ m with phase:=0,since:=y,source:=m.serving,serving:=m.target,target:=-1 }) (hs:m1.source≠-1->InB m1 m1.source):wi m ⟨6,y,z⟩ m1:=by
 have hdm1:=vV m1;have hs1:=eq_true hs;refine dD [] D7.is153 (by simp) (by simp[bn]) (by simp[ap,ag,av]) (by simp[ap,ag]) (by simp[aC]) (fun cx _ _ _=>dC [] 1500 ?_);delta D7.c153 oO oN oA oM oT oR oS oK oF oL oC oW oY oI oX oB o0 o1 oZ o7;simp (maxSteps:=9^7) -implicitDefEqProofs only[D7.rv153,msA,msC,dpC,dV,InR,WU,V,W3,↓reduceIte,seval,reduceCtorEq];refine kh [] 800 ?_;simp (maxSteps:=9^7) -implicitDefEqProofs only[drM,mFin,j6,kU,gR,reM,ie,gK,gB,ndE,ap,ag,av,aU,aE,WU,V,W3,↓reduceIte,seval,reduceCtorEq];refine dC [] 400 ?_;simp (maxSteps:=9^7) -implicitDefEqProofs only[D7.rv153,WU,V,W3,↓reduceIte,seval,reduceCtorEq];refine iJ (dC [vR] 600 ?_);subst hm;simp only[ne_eq]at hdm1 hs1;delta D7.c153k5 oO oC oW oX o5;simp (maxSteps:=9^7) -implicitDefEqProofs only[D7.rv153,vR,hdm1,hs1,qD,vS,InR,WU,Ent.of1,V,W3,↓reduceIte,seval,reduceCtorEq]
def Ab (l:List Int) (n:Int) (h:l.length<=1000000):Ent Tryz.prog:=vX 163 [enc l,enc n] (.own 5) 5 (.row 1 3 ((fS l n).map Dat.cells)) (by simp[dG]) (by simp[ge]) (put_o l n h)
theorem done_7 (m:Ms) (y z:Int) (hf:InB m (dU m)) (ht:InB m (toC m)) (hne:dU m≠toC m) (x:Int) (B:List Int) (hb:dO m (dU m)=x :: B) (hl1:(dO m (toC m)).length<=1000000) (hl2:B.length<=1000000) (m1:Ms)
 (hm:m1={ m with buf:=(m.buf.set (toC m).toNat (fS (dO m (toC m)) x)).set (dU m).toNat B }) (hs:m1.source≠-1->InB m1 m1.source):wi m ⟨7,y,z⟩ m1:=by
 have hdm:=vV m;obtain⟨i0,i2⟩:=hf;obtain⟨j0w,j2w⟩:=ht;have i3:dU m < (m.buf.length:Int):=by omega
 have j3w:toC m < (m.buf.length:Int):=by omega
 have hnn:(toC m).toNat≠(dU m).toNat:=by omega
 have hbf:=fu m.buf (dU m).toNat;rw[show m.buf.getD (dU m).toNat []=x :: B from hb]at hbf;have hbt:=fu m.buf (toC m).toNat;rw[show m.buf.getD (toC m).toNat []=dO m (toC m)from rfl]at hbt;have hst:=jD m.buf (toC m).toNat (fS (dO m (toC m)) x);have hbf2:(fB (m.buf.set (toC m).toNat (fS (dO m (toC m)) x))).getD (dU m).toNat []=(x :: B).map Dat.cells:=by
  rw[fu,fi,if_neg (fun q=>hnn q.1)];rw[show m.buf.getD (dU m).toNat []=x :: B from hb]
 have hlen1:(m.buf.set (toC m).toNat (fS (dO m (toC m)) x)).length=m.buf.length:=by simp
 have hst2:=jD (m.buf.set (toC m).toNat (fS (dO m (toC m)) x)) (dU m).toNat B;have hl00:(0:Int) < (B.length:Int)+1:=by omega
 have hl01:(1:Int)<=(B.length:Int)+1:=by omega
 have hdt:List.drop 1 (List.take ((B.length:Int)+1).toNat ([C.s (.int .i64 x)] :: B.map Dat.cells))=B.map Dat.cells:=by
  have e1:((B.length:Int)+1).toNat=B.length+1:=by omega
  rw[e1,yD,yw,yB,List.take_of_length_le (by simp)]
 have hdm1:=vV m1;have hs1:=eq_true hs;refine dD [] D7.is153 (by simp) (by simp[bn]) (by simp[ap,ag,av]) (by simp[ap,ag]) (by simp[aC]) (fun cx _ _ _=>dC [] 1500 ?_);delta D7.c153 oO oN oA oM oT oR oS oK oF oL oC oW oY oI oX oB o0 o1 oZ o7;simp (maxSteps:=9^7) -implicitDefEqProofs only[D7.rv153,msA,msC,dpC,dV,InR,WU,V,W3,↓reduceIte,seval,reduceCtorEq];refine iJ (dC [wt] 600 ?_);delta D7.c153k2 oO oN oA oM oT oS oK oF oL oC oX o0 o1 o5 o8;simp (maxSteps:=9^7) -implicitDefEqProofs only[D7.rv153,wt,hdm,qD,vS,InR,WU,Ent.of1,V,W3,↓reduceIte,seval,reduceCtorEq];generalize hF:dU m=F at *;generalize hG:toC m=G at *;refine qk [Ab (dO m G) x hl1] 800 ?_;simp (maxSteps:=9^7) -implicitDefEqProofs only[gC,mFin2,lP,oq,ops2,jb,reM2,nQ,p8,p9,l6,finM,kd,gQ,hJ,fY,ff,fO,fO.fixBs,fM,ndE2,ap,ag,av,aU,aE,ke,eL,a6,bF,Ab,vX,i0,i2,i3,j0w,j2w,j3w,hl00,hbf,hbt,eo,zt,zQ,yM,zy,InR,WU,V,W3,↓reduceIte,seval,reduceCtorEq];refine⟨rfl,⟨by omega,xv _,.inl trivial⟩,dC [] 600 ?_⟩;simp (maxSteps:=9^7) -implicitDefEqProofs only[D7.rv153,hst,WU,V,W3,↓reduceIte,seval,reduceCtorEq];refine qk [xm B hl2] 800 ?_;simp (maxSteps:=9^7) -implicitDefEqProofs only[gC,mFin2,lP,oq,ops2,jb,reM2,nQ,p8,p9,l6,finM,kd,gQ,hJ,fY,ff,fO,fO.fixBs,fM,ndE2,ap,ag,av,aU,aE,ke,eL,a6,bF,xm,vX,i0,i2,i3,hl00,hl01,hbf2,hlen1,hdt,eo,zt,zQ,yM,zy,InR,WU,V,W3,↓reduceIte,seval,reduceCtorEq];refine⟨rfl,⟨Int.le_refl _,xv _,.inr trivial⟩,dC [] 600 ?_⟩;simp (maxSteps:=9^7) -implicitDefEqProofs only[D7.rv153,hst2,WU,V,W3,↓reduceIte,seval,reduceCtorEq];refine iJ (dC [vR] 600 ?_);subst hm;simp only[ne_eq]at hdm1 hs1;delta D7.c153k5 oO oC oW oX o5;simp (maxSteps:=9^7) -implicitDefEqProofs only[D7.rv153,vR,hdm1,hs1,qD,vS,InR,WU,Ent.of1,V,W3,↓reduceIte,seval,reduceCtorEq]
theorem G0.inB {n:Nw} {m:Ms} (g:G0 n m) {c:Int} (h:isC n c=true):InB m c:=⟨(fH h).1,g.ix h⟩
theorem dN.msS {n:Nw} {m:Ms} (net:NetOk n) (g:dN n m):MsS m:=by
 have h1:=g.len;have h2:=g.large;have h3:=net.len;refine⟨⟨by omega,fun x hx=>?_⟩,by omega⟩;have:=(List.sublist_flatten_of_mem hx).length_le;omega
theorem bufA_le {n:Nw} {m:Ms} (net:NetOk n) (g:dN n m) (c:Int):(dO m c).length<=1000000:=by
 rcases yu c.toNat m.buf.length with h | h
 . have e:dO m c=m.buf[c.toNat]:=by rw[dO,zb,ze h];rfl
   rw[e];exact (g.msS net).b.r _ (yy h)
 . have e:dO m c=[]:=by rw[dO,zb,List.getElem?_eq_none h];rfl
   rw[e];simp
theorem AJ {m:Ms} {t:Int} (h:MsS { m with at_:=t }):MsS m:=⟨h.b,h.f⟩
theorem Aj {n:Nw} {m:Ms} (net:NetOk n) (g:dN n m) (h:m.phase=2\/(m.phase=0/\m.source≠-1)):InB m (dU m)/\InB m (toC m)/\dU m≠toC m:=by
 by_cases p:m.phase=2
 . have htn:m.target≠-1:=fun q=>(g.f2 q).2 p
   rw[dU,toC,if_pos p,if_pos p];exact⟨g.inB g.srv,g.inB (g.tgt htn),fun q=>net.ne _ _ (g.c1 htn) q.symm⟩
 . have hs:m.source≠-1:=by
    rcases h with q | q
    . exact absurd q p
    . exact q.2
   rw[dU,toC,if_neg p,if_neg p];exact⟨g.inB (g.src hs),g.inB g.srv,net.ne _ _ (g.c2 hs)⟩
theorem Rdone_c (n:Nw) (m:Ms) (e:T3) (net:NetOk n) (G:dN n { m with at_:=e.y }) (hev:evE n e=0) (hd:et n m e=0):FC Tryz.prog 153 [msA m 100000,enc e] [(100000,dpC m)] (enc (jT m e)) []:=by
 obtain⟨hk,hy,hcz⟩:=ev_ok hev;have S:=AJ (G.msS net);have hd':et n { m with at_:=e.y } e=0:=hd;have hI:∀ c,isC n c=true->InB m c:=fun c h=>G.inB h
 have hB:∀ c,(dO m c).length<=1000000:=fun c=>bufA_le net G c
 obtain⟨ex,ey,ezw⟩:=e;simp only at hk hy hcz hd hd' G;by_cases h10:ex=10
 . subst h10;rw[jT,if_pos rfl];exact done_10 m ey ezw S (hI _ (hcz rfl))
 have hdn:jT m ⟨ex,ey,ezw⟩=settle (eG m ⟨ex,ey,ezw⟩):=by rw[jT,if_neg h10]
 rw[hdn];have A:=G.toG0.act net hev rfl hd' h10;rw[<- at_act]at A;have hs:(eG m ⟨ex,ey,ezw⟩).source≠-1->InB (eG m ⟨ex,ey,ezw⟩) (eG m ⟨ex,ey,ezw⟩).source:=fun q=>A.inB (A.src q)
 clear A;have k:ex=0\/ex=1\/ex=2\/ex=3\/ex=4\/ex=5\/ex=6\/ex=7\/ex=8\/ex=9\/ex=11:=by omega
 generalize hm:eG m ⟨ex,ey,ezw⟩=m1 at *;unfold eG at hm;unfold et at hd;rcases k with rfl | rfl | rfl | rfl | rfl | rfl | rfl | rfl | rfl | rfl | rfl <;> simp only[Int.reduceEq,if_true,if_false]at hm hd
 . have hfr:=G.fresh;exact done_0 m ey ezw (hI _ G.pth) (by simp only[InR];simp only at hfr;omega) (hB _) m1 hm.symm hs
 . have hgt:=G.got;have hfr:=G.fresh;simp only at hgt hfr;cases hb:dO m m.serving with
   | nil=>
    rw[hb]at hd;simp at hd;split at hd <;> cases hd
   | cons x l=>
    rw[hb]at hm;exact done_1 m ey ezw (hI _ G.srv) x l hb (by simp only[InR];omega) m1 hm.symm hs
 . exact done_2 m ey ezw (hI _ G.srv) (hB _) m1 hm.symm hs
 . exact done_3 m ey ezw m1 hm.symm hs
 . exact done_4 m ey ezw m1 hm.symm hs
 . exact done_5 m ey ezw m1 hm.symm hs
 . exact done_6 m ey ezw m1 hm.symm hs
 . have hq:m.phase=2\/(m.phase=0/\m.source≠-1):=by
    by_cases q:m.phase=2
    . exact .inl q
    . by_cases q0:m.phase=0
      . by_cases qs:m.source=-1
        . rw[if_pos ⟨q,.inr qs⟩]at hd;cases hd
        . exact .inr ⟨q0,qs⟩
      . rw[if_pos ⟨q,.inl q0⟩]at hd;cases hd
   obtain⟨w1,w2,w3⟩:=Aj net G hq;have hne:dO m (dU m)≠[]:=fun q=>by
    split at hd
    . cases hd
    . first | cases hd | (rw[if_pos q]at hd;cases hd)
   cases hb:dO m (dU m)with
   | nil=>exact absurd hb hne
   | cons x B=>
    rw[hb]at hm;have hbl:=hB (dU m);rw[hb]at hbl;exact done_7 m ey ezw w1 w2 w3 x B hb (hB _) (by simp at hbl;omega) m1 hm.symm hs
 . exact done_8 m ey ezw m1 hm.symm hs
 . exact done_9 m ey ezw m1 hm.symm hs
 . subst hm;exact done_11 m ey ezw hs
theorem FC.keys {f:FuncId} {cs:List C} {r:C} {c:Ch} (k:Nat) (h:FC Tryz.prog f cs [(100000,c)] r []) (hr:ak [(100000,k)] r=r) (hk:dG [100000] r) (hc:aF [(100000,k)] c=c):FC Tryz.prog f (cs.map (ak [(100000,k)])) [(k,c)] r []:=by
 have:=FC.ren h [(100000,k)] [100000] (by simp[rn,lk]) (fun k' c' hm=>by simp at hm ⊢;exact hm.1) (fun k' c' hm=>by simp at hm) hk;rw[hr]at this;simpa[ar,rn,lk,hc]using this
theorem y9 (m:Ms) (k:Nat):ak [(100000,k)] (enc m)=enc m/\dG [100000] (enc m):=by
 rw[qD];simp[ak,ak.renCs,dG,dG.keysIns]
def wy (n:Nw) (m:Ms) (e:T3):Ms:=if qd n m e≠0 then ms0 else qm n m e
theorem Step_c (n:Nw) (m:Ms) (e:T3) (hn:NwS n) (net:NetOk n) (g:dN n m) (hev:evE n e=0):FC Tryz.prog 119 [enc n,enc m,enc e] [] (.tup [enc (wy n m e),enc (qd n m e)]) []:=by
 obtain⟨hk,hy,hcz⟩:=ev_ok hev;have S:=g.msS net;have hlen:=g.len;have hlen0:=net.len;have hsi:=g.since;have hat:=g.at_;have hli:=net.lim;by_cases ht:e.y < m.at_
 . have hE:qd n m e=9:=by rw[qd,if_pos ht]
   have hS:wy n m e=ms0:=by rw[wy,hE];rfl
   rw[hE,hS];refine dD [] is119 (by simp) (by simp[bn]) (by simp[ap,ag]) (by simp[ap,ag]) (by simp[aC]) (fun cx _ _ _=>dC [] 1500 ?_);delta c119 oO oN oA oM oS oK oF oL oV oC oW oI oX oB oZ o5 o7 o8;simp (maxSteps:=9^7) -implicitDefEqProofs only[wR,eO,qD,dV,ht,ms0,InR,WU,V,W3,↓reduceIte,seval,reduceCtorEq]
 . have hE:qd n m e=et n (p7 n m e.y) e:=by rw[qd,if_neg ht];rfl
   have G:dN n { p7 n m e.y with at_:=e.y }:=g.pass net (by omega) hy.2;have hap:qm n m e={ jT (p7 n m e.y) e with at_:=e.y }:=by rw[at_done];rfl
   have SY:=AJ (G.msS net);have hdoes:=does_c n (p7 n m e.y) e hn SY hk (G.inB G.srv) (fun q=>(Aj net G q).1);generalize hY:p7 n m e.y=Y at *;have pass:=Pass_o n m e.y hn S (by omega) (fun _=>by simp only[InR];omega);rw[hY]at pass;refine dD [] is119 (by simp) (by simp[bn]) (by simp[ap,ag]) (by simp[ap,ag]) (by simp[aC]) (fun cx _ _ _=>dC [vX 110 [enc n,enc m,enc e.y] (.tup [msA Y 25,enc (wC n m e.y)]) 25 (.deep 1 3 24 none (fB Y.buf)) ⟨xc _ 25,trivial,trivial⟩ (by simp[ge]) pass] 1500 ?_);delta c119 oO oN oA oM oS oK oF oL oV oC oW oI oX oB oZ o5 o7 o8;simp (maxSteps:=9^7) -implicitDefEqProofs only[wR,eO,qD,dV,ht,vX,msA,msC,InR,not_true_eq_false,WU,V,W3,↓reduceIte,seval,reduceCtorEq];refine og rfl (OpM.lend0 hdoes rfl ⟨.same _,Af rfl,.same _,trivial⟩ rfl rfl) (fun ef he=>?_);subst he;refine pV [] 800 ?_;by_cases h0:et n Y e=0
   . have hE0:qd n m e=0:=hE.trans h0;have hS:wy n m e={ jT Y e with at_:=e.y }:=by rw[wy,if_neg (by simp[hE0]),hap]
     have hdone:=FC.keys 22 (Rdone_c n Y e net G hev h0) (y9 _ 22).1 (y9 _ 22).2 rfl;rw[hE0,hS];simp (maxSteps:=9^7) -implicitDefEqProofs only[wR,h0,not_true_eq_false,WU,V,W3,↓reduceIte,seval,reduceCtorEq];refine pU (.yes _ rfl (OpR.give (k:=22) (c:=dpC Y) rfl hdone (by rfl) rfl (fun cs q=>by cases q) (by rw[qD];simp[dG,dG.keysIns]))) trivial ?_;refine pV [] 800 ?_;simp (maxSteps:=9^7) -implicitDefEqProofs only[wR,qD,a7,az,bA,InR,WU,V,W3,↓reduceIte,seval,reduceCtorEq]
   . have hE0:¬ qd n m e=0:=by rw[hE];exact h0
     have hS:wy n m e=ms0:=by rw[wy,if_pos hE0]
     rw[hS,hE];simp (maxSteps:=9^7) -implicitDefEqProofs only[wR,h0,ms0,not_true_eq_false,not_false_eq_true,WU,V,W3,↓reduceIte,seval,reduceCtorEq]
theorem wP (m:Ms):dG [] (enc m):=by rw[qD];simp[dG,dG.keysIns]
theorem Apply_c (n:Nw) (m:Ms) (e:T3) (hn:NwS n) (net:NetOk n) (g:dN n m):FC Tryz.prog 71 [enc n,enc m,enc e] [] (.tup [enc (wk n m e),enc (fZ n m e)]) []:=by
 have hdn:=je n;have eta:(⟨e.x,e.y,e.z⟩:T3)=e:=rfl;by_cases hev:evE n e=0
 . have hE:fZ n m e=qd n m e:=by rw[fZ,if_neg (by simp[hev])]
   have hS:wk n m e=wy n m e:=by rw[wk,hE];rfl
   rw[hE,hS];have hx:=Step_c n m e hn net g hev;refine dD [] is71 (by simp) (by simp[bn]) (by simp[ap,ag]) (by simp[ap,ag]) (by simp[aC]) (fun cx _ _ _=>dC [xR,v7 119 _ _ hx ⟨wP _,trivial,trivial⟩] 1500 ?_);delta c71 oO oN oA oM oS oK oV oC oW oI oX oB oZ o5 o7 o8;simp (maxSteps:=9^7) -implicitDefEqProofs only[rv71,xR,v7,eO,qD,dV,lV,eta,hdn,hn,hev,not_true_eq_false,WU,Ent.of2,V,W3,↓reduceIte,seval,reduceCtorEq]
 . have hE:fZ n m e=evE n e:=by rw[fZ,if_pos hev]
   have hS:wk n m e=ms0:=by rw[wk,hE,if_pos hev]
   rw[hE,hS];refine dD [] is71 (by simp) (by simp[bn]) (by simp[ap,ag]) (by simp[ap,ag]) (by simp[aC]) (fun cx _ _ _=>dC [xR] 1500 ?_);delta c71 oO oN oA oM oS oK oV oC oW oI oX oB oZ o5 o7 o8;simp (maxSteps:=9^7) -implicitDefEqProofs only[rv71,xR,eO,qD,dV,lV,eta,hdn,hn,hev,ms0,not_true_eq_false,not_false_eq_true,WU,Ent.of2,V,W3,↓reduceIte,seval,reduceCtorEq]
theorem nil_els (k:Nat) {E:Env} {U:Nat->Prop} {h:Array Obj} {v:Value} (hr:Rep E U h (.sl 1 (List.replicate k [C.s (.slice none 0 0)])) v):Rep E U h (.sl 1 (List.replicate k [C.sl 1 []])) v:=by
 have hd:=jj hr;generalize hes:List.replicate k [C.s (.slice none 0 0)]=es at hd;have hl:es.length=k:=by rw[<- hes,List.length_replicate]
 have hg:∀ (i:Nat) (e:List C),(List.replicate k [C.sl 1 []])[i]? = some e->i < k/\e=[C.sl 1 []]:=fun i e he=>by
  rw[List.getElem?_replicate]at he;split at he
  . rename_i q;cases he;exact⟨q,rfl⟩
  . cases he
 have hg2:∀ i,i < k->es[i]? = some [C.s (.slice none 0 0)]:=fun i hi=>by rw[<- hes,List.getElem?_replicate,if_pos hi]
 cases hd with
 | sl0 _ a cap hc=>
  have:k=0:=by simpa using hl.symm
  subst this;exact .d (.sl0 1 a cap hc)
 | sl _ b off cap _ arr ty fz vf hU hb hcap hmax hsz hv hrr=>
  have hk:es.length=(List.replicate k [C.sl 1 []]).length:=by rw[hl,List.length_replicate]
  rw[hk];refine .d (.sl _ b off cap 1 arr ty fz vf hU hb (by rw[<- hk];exact hcap) hmax (fun i e he=>by rw[(hg i e he).2];rfl) (fun i e j c he hj=>?_) (fun i e j c he hj=>?_))
  . obtain⟨h1,rfl⟩:=hg i e he;have hj0:j=0:=by have:=(zi.1 hj).1;simpa using this
    subst hj0;exact hv i _ 0 _ (hg2 i h1) rfl
  . obtain⟨h1,rfl⟩:=hg i e he;have hj0:j=0:=by have:=(zi.1 hj).1;simpa using this
    subst hj0;cases hj;have:=hrr i _ 0 _ (hg2 i h1) rfl;generalize vf i 0=u at *;cases this;exact .sl0 1 none 0 (by simp[maxLen])
theorem AY {E:Env} {U:Nat->Prop} {h:Array Obj} {cs:List C} {a b:C} {v:Value} (hr:Rep E U h (.agg (cs++[a])) v) (hab:∀ u,Rep E U h a u->Rep E U h b u):Rep E U h (.agg (cs++[b])) v:=by
 cases hr with
 | d hd=>cases hd
 | agg _ vs q1 q2 q3=>
  refine .agg _ vs (by simpa using q1) (fun j c hj=>?_) q3;rw[zS]at hj;split at hj
  . rename_i hlt;exact q2 j c (by rw[zS,if_pos hlt];exact hj)
  . rename_i hlt;have hj0:j=cs.length:=by have:=(zi.1 hj).1;simp at this;omega
    subst hj0;simp at hj;subst hj;exact hab _ (q2 cs.length a (by simp))
theorem FC.post {f:FuncId} {as0:List C} {r r':C} (hfc:FC Tryz.prog f as0 [] r []) (hp:∀ E U h v,Rep E U h r v->Rep E U h r' v):FC Tryz.prog f as0 [] r' []:=
 ⟨hfc.1,fun E U vs w hg ha hi=>(hfc.2 E U vs w hg ha hi).mono fun e w' ⟨v,E',U',he,hr,hc⟩=>⟨v,E',U',he,hp _ _ _ _ hr,hc⟩⟩
theorem AV (n:Nw) (c:Int) (hn:NwS n):FC Tryz.prog 52 [enc n,enc c] [] (enc (eM n c)) []:=by
 have hb:=hn.c;have key:FC Tryz.prog 52 [enc n,enc c] [] (.agg ([.s (.int .i64 0),.s (.int .i64 0),.s (.int .i64 0),.s (.int .i64 c),.s (.int .i64 (-1)),.s (.int .i64 (-1)),.s (.int .i64 c),.s (.int .i64 0),.s (.int .i64 0)]++[.sl 1 (List.replicate n.cells.length [C.s (.slice none 0 0)])])) []:=by
  refine dD [] is52 (by simp) (by simp[bn]) (by simp[ap,ag]) (by simp[ap,ag]) (by simp[aC]) (fun cx _ _ _=>dC [] 1500 ?_);delta c52 oO oN oA oM oF oL oW oX o0 oZ o4 o7;simp (maxSteps:=9^7) -implicitDefEqProofs only[rv52,eO,yq,yb,InR,WU,V,W3,↓reduceIte,seval,reduceCtorEq];omega
 have e:(n.cells.map fun _=>([]:List Int)).map Dat.cells=List.replicate n.cells.length [C.sl 1 []]:=by
  rw[zT];exact List.map_const' (l:=n.cells) (b:=[C.sl 1 []])
 refine FC.post key (fun E U h v hr=>?_);have:=AY hr (fun u hu=>nil_els _ hu);rw[qD,eM];simp only[e];exact this
def ent52 : Ent Tryz.prog:=.of2 52 (fun n _=>NwS n) (fun (n:Nw) (c:Int)=>enc (eM n c)) (fun _ _=>wP _) (fun n c h=>AV n c h)
theorem At (l:List T3) (h:l.length<=1000000):FC Tryz.prog 38 [enc l] [] (enc l) []:=by
 refine eP is38 (by simp) (fun cx hl=>dC [] 800 ?_);delta c38 oO oA oM oX o3;simp (maxSteps:=9^7) -implicitDefEqProofs only[rv38,qf,WU,V,W3,↓reduceIte,seval,reduceCtorEq];omega
def xP : Ent Tryz.prog:=.of1 38 (fun l=>l.length<=1000000) (fun l:List T3=>enc l) (fun _=>trivial) (fun l h=>At l h)
def rpE (n:Nw) (c:Int) (l:List T3):Int×Int:=if 200 < l.length then (0,8)else iH n (eM n c) l 0
def rpS (n:Nw) (c:Int) (l:List T3):Ms:=if (rpE n c l).2=0 then l.foldl (qm n) (eM n c)else ms0
def ent71 (n:Nw) (m:Ms) (e:T3) (hn:NwS n) (net:NetOk n) (g:dN n m):Ent Tryz.prog:=v7 71 [enc n,enc m,enc e] (.tup [enc (wk n m e),enc (fZ n m e)]) (Apply_c n m e hn net g) ⟨wP _,trivial,trivial⟩
theorem Aw (n:Nw) (c:Int) (l:List T3) (hn:NwS n) (net:NetOk n) (hc:isC n c=true):FC Tryz.prog 42 [enc n,enc c,enc l] [] (.tup [enc (rpS n c l),enc (rpE n c l).1,enc (rpE n c l).2]) []:=by
 have hdn:=je n;by_cases hl:200 < l.length
 . have hl':(200:Int) < (l.length:Int):=by omega
   have hE:rpE n c l=(0,8):=by rw[rpE,if_pos hl]
   have hS:rpS n c l=ms0:=by rw[rpS,hE];rfl
   rw[hS,hE];refine dD [] is42 (by simp) (by simp[bn]) (by simp[ap,ag]) (by simp[ap,ag]) (by simp[aC]) (fun cx _ _ _=>dC [] 1500 ?_);delta c42 oO oN oA oM oS oK oV oC oW oI oX oB oZ o4 o5 o7;simp (maxSteps:=9^7) -implicitDefEqProofs only[rv42,eO,qD,ms0,hl',WU,V,W3,↓reduceIte,seval,reduceCtorEq]
 . have hl':¬ (200:Int) < (l.length:Int):=by omega
   have hE:rpE n c l=iH n (eM n c) l 0:=by rw[rpE,if_neg hl]
   have hS:rpS n c l=if (iH n (eM n c) l 0).2=0 then l.foldl (qm n) (eM n c)else ms0:=by rw[rpS,hE]
   rw[hS,hE];generalize hR:iH n (eM n c) l 0=R;have g0:=dN.begin net hc;refine dD [] D7.is42 (by simp) (by simp[bn]) (by simp[ap,ag]) (by simp[ap,ag]) (by simp[aC]) (fun cx _ _ _=>dC [ent52] 1500 ?_);delta D7.c42 oO oN oA oM oS oK oV oC oW oI oX oB oZ o4 o5 o7;simp (maxSteps:=9^7) -implicitDefEqProofs only[D7.rv42,ent52,eO,qD,hdn,hn,hl',not_true_eq_false,WU,Ent.of2,V,W3,↓reduceIte,seval,reduceCtorEq];obtain⟨mfw,hmf⟩:∃ mfw:Nat->Ms,∀ i,mfw i=(l.take i).foldl (qm n) (eM n c):=⟨_,fun _=>rfl⟩;have hm0:mfw 0=eM n c:=hmf 0;have hme:mfw l.length=l.foldl (qm n) (eM n c):=by rw[hmf,yo]
   rw[<- hme];rw[<- hm0]at g0 hR;refine fI l.length (fun i=>[(10,.s (.int .i64 (i:Int)))]) (fun i=>[(9,.box [.s (.int .i64 (mfw i).at_),.s (.int .i64 (mfw i).phase),.s (.int .i64 (mfw i).since),.s (.int .i64 (mfw i).serving),.s (.int .i64 (mfw i).target),.s (.int .i64 (mfw i).source),.s (.int .i64 (mfw i).path),.s (.int .i64 (mfw i).fresh),.s (.int .i64 (mfw i).got),.sl 1 ((mfw i).buf.map Dat.cells)])]) (fun i=>dN n (mfw i)/\iH n (mfw i) (l.drop i) (i:Int)=R) ⟨g0,hR⟩ ?_ (fun i hi hv=>?_)
   . simp (maxSteps:=9^7) -implicitDefEqProofs only[hm0,qD,V,W3,↓reduceIte,seval,reduceCtorEq]
     all_goals rfl
   . obtain⟨g,hv⟩:=hv;by_cases h:i < l.length
     . have hi2:(i:Int) < (l.length:Int):=by omega
       have hi0:(0:Int)<=i:=by omega
       have hgd:=u0 l i h;have hd:=fJ (d:=(⟨0,0,0⟩:T3)) h;have hnx:mfw (i+1)=qm n (mfw i) (l.getD i ⟨0,0,0⟩):=by
        rw[hmf,hmf,yI h,List.foldl_append];rw[zb,ze h];rfl
       rw[hd]at hv;generalize l.getD i ⟨0,0,0⟩=e at *;rw[iH]at hv;have eta:(⟨e.x,e.y,e.z⟩:T3)=e:=rfl;refine dC [] 800 ?_;delta D7.c42l1 oO oN oA oM oT oR oS oK oC oW oI oX oB o3 oZ o4 o5 o8;simp (maxSteps:=9^7) -implicitDefEqProofs only[D7.rv42,hi0,hi2,h,hgd,qf,InR,WU,V,W3,↓reduceIte,seval,reduceCtorEq];refine AW [ent71 n (mfw i) e hn net g] 800 [6] ?_;simp (maxSteps:=9^7) -implicitDefEqProofs only[wz,mFin2,addE3,lP,oq,ops2,jb,reM2,nQ,p8,p9,l6,finM,kd,gQ,hJ,fY,ff,fO,fO.fixBs,fM,ndE2,ap,ag,av,aU,aE,ke,eL,a6,bF,ent71,v7,eO,qD,dV,hi0,hi2,h,hgd,InR,WU,V,W3,↓reduceIte,seval,reduceCtorEq];refine⟨rfl,?_⟩;refine dC [] 800 ?_;by_cases h0:fZ n (mfw i) e=0
       . rw[if_pos h0]at hv;have hA:wk n (mfw i) e=mfw (i+1):=by rw[hnx,wk,if_neg (by simp[h0])]
         rw[hA];rw[<- hnx]at hv;have g':dN n (mfw (i+1)):=by rw[hnx];exact g.apply net h0
         simp (maxSteps:=9^7) -implicitDefEqProofs only[D7.rv42,h0,not_true_eq_false,WU,V,W3,↓reduceIte,seval,reduceCtorEq];exact⟨by simp only[InR];omega,h,⟨g',by rw[<- hv];congr 1⟩,by omega⟩
       . rw[if_neg h0]at hv;subst hv;simp (maxSteps:=9^7) -implicitDefEqProofs only[D7.rv42,h0,ms0,not_true_eq_false,not_false_eq_true,WU,V,W3,↓reduceIte,seval,reduceCtorEq]
     . have hil:i=l.length:=by omega
       subst hil;have hi2:¬ ((l.length:Nat):Int) < (l.length:Int):=by omega
       rw[List.drop_length]at hv;subst hv;refine dC [] 800 ?_;delta D7.c42l1 oO oN oA oM oT oR oS oK oC oW oI oX oB o3 oZ o4 o5 o8;simp (maxSteps:=9^7) -implicitDefEqProofs only[D7.rv42,hi2,iH,WU,V,W3,↓reduceIte,seval,reduceCtorEq]
theorem wU (n:Nw) (c:Int) (l:List T3):gc n c l=if v8 n c≠0 then v8 n c else if l.length<=200 then 0 else 8:=by
 unfold gc v8;by_cases h1:(gP n).2=0 <;> cases h2:isC n c <;> by_cases h3:l.length<=200 <;> simp[dS,h1,h3]
theorem xE (n:Nw) (c:Int) (l:List T3) (h:v8 n c≠0):gI n c l=(0,v8 n c):=by
 have:gc n c l=v8 n c:=by rw[wU,if_pos h]
 rw[gI,this,if_pos h]
theorem xw (n:Nw) (c:Int) (l:List T3) (h:v8 n c=0):gI n c l=rpE n c l:=by
 have hf:=wU n c l;rw[if_neg (by simp[h])]at hf;rw[gI,rpE];by_cases h3:l.length<=200
 . rw[if_pos h3]at hf;rw[if_neg (by simp[hf]),if_neg (by omega)]
 . rw[if_neg h3]at hf;rw[if_pos (by simp[hf]),hf,if_pos (by omega)]
theorem cell_ok {n:Nw} {c:Int} (h:v8 n c=0):NetOk n/\isC n c=true:=by
 unfold v8 at h;by_cases h1:(gP n).2=0
 . rw[if_neg (by simp[h1])]at h;cases h2:isC n c
   . simp[h2]at h
   . exact⟨qS h1,rfl⟩
 . rw[if_pos h1]at h;exact absurd h h1
theorem rpE_ok {n:Nw} {c:Int} {l:List T3} (h:(rpE n c l).2=0):rpE n c l=(0,0)/\l.length<=200/\(iH n (eM n c) l 0).2=0:=by
 unfold rpE at h ⊢;by_cases h3:200 < l.length
 . rw[if_pos h3]at h;cases h
 . rw[if_neg h3]at h ⊢;exact⟨wX n l _ 0 h,by omega,h⟩
theorem AU (n:Nw) (c:Int) (l:List T3) (hn:NwS n):FC Tryz.prog 53 [enc n,enc c,enc l] [] (enc (gI n c l).2) []:=by
 have hdn:=je n;by_cases hd:v8 n c=0
 rotate_left
 . rw[xE n c l hd];refine dD [] is53 (by simp) (by simp[bn]) (by simp[ap,ag]) (by simp[ap,ag]) (by simp[aC]) (fun cx _ _ _=>dC [xQ] 1500 ?_);delta c53 oO oN oA oM oS oK oV oC oW oI oX oB oZ o5 o7 o8;simp (maxSteps:=9^7) -implicitDefEqProofs only[rv53,xQ,eO,hdn,hn,hd,not_true_eq_false,not_false_eq_true,WU,Ent.of2,V,W3,↓reduceIte,seval,reduceCtorEq]
 . obtain⟨net,hc⟩:=cell_ok hd;rw[xw n c l hd];have h42:=Aw n c l hn net hc;generalize rpE n c l=R at *;generalize rpS n c l=S at *;refine dD [] is53 (by simp) (by simp[bn]) (by simp[ap,ag]) (by simp[ap,ag]) (by simp[aC]) (fun cx _ _ _=>dC [xQ,v7 42 _ _ h42 ⟨wP _,trivial,trivial,trivial⟩] 1500 ?_);delta c53 oO oN oA oM oS oK oV oC oW oI oX oB oZ o5 o7 o8;simp (maxSteps:=9^7) -implicitDefEqProofs only[rv53,xQ,v7,eO,qD,hdn,hn,hd,not_true_eq_false,not_false_eq_true,WU,Ent.of2,V,W3,↓reduceIte,seval,reduceCtorEq]
theorem Au (l:List T3) (h:l.length<=1000000):FC Tryz.prog 38 [enc l] [] (.own 3) [(3,.row 3 83 (l.map Dat.cells))]:=by
 refine dD [3] is38 (by simp) (by simp[bn]) (by simp[ap,ag]) (by simp[ap,ag,av]) (by simp[aC,lk]) (fun cx _ hl _=>dC [] 800 ?_);delta c38 oO oA oM oX o3;simp (maxSteps:=9^7) -implicitDefEqProofs only[rv38,qf,InR,WU,V,W3,↓reduceIte,seval,reduceCtorEq];omega
theorem yW {n:Nw} {c:Int} {l:List T3} (h:(gI n c l).2=0):gI n c l=(0,0):=by
 by_cases hd:v8 n c=0
 . rw[xw n c l hd]at h ⊢;exact (rpE_ok h).1
 . rw[xE n c l hd]at h;exact absurd h hd
def wd (l:List T3) (h:l.length<=1000000):Ent Tryz.prog:=vX 38 [enc l] (.own 3) 3 (.row 3 83 (l.map Dat.cells)) (by simp[dG]) (by simp[ge]) (Au l h)
structure Bst where
 f:Bool
 t:Int
 c:Int
 v:Int
def sgT (r:Rul) (L:List (List Int)) (s:Int) (k:Nat):List Int:=wB r (L.getD s.toNat []) (L.getD k [])
def sgIn (r:Rul) (L:List (List Int)) (s t:Int):Nat->Int
 | 0=>-1
 | k+1=>if (k:Int)≠s/\t∈sgT r L s k/\(sgIn r L s t k < 0\/(L.getD (sgIn r L s t k).toNat []).getD t.toNat 0 < (L.getD k []).getD t.toNat 0)then (k:Int)else sgIn r L s t k
structure SgInv (r:Rul) (L:List (List Int)) (s:Int) (k:Nat) (b:Bst):Prop where
 no:b.f=false->∀ t,sgIn r L s t k=-1
 yes:b.f=true->sgIn r L s b.t k=b.c/\(0<=b.c/\b.c < k)/\b.v=(L.getD b.c.toNat []).getD b.t.toNat 0/\(∀ t,t < b.t->sgIn r L s t k=-1)/\0<=b.t/\b.t < (L.getD s.toNat []).length
def wg (f:Int) (seen:List Int):Int->List Int->Int
 |_,[]=>0
 | p,x :: l=>if ¬ (0<=x/\x < f)then 2 else if x<=p then 9 else if x∈seen then 26 else wg f seen x l
def pkL (f:Int):List Int->List (List Int)->Int
 |_,[]=>0
 | seen,b :: bs=>if wg f seen (-1) b≠0 then wg f seen (-1) b else pkL f (seen++b) bs
def rgB (m:Ms):Bool:=decide (0<=m.at_/\m.at_<=1000000000) && decide (0<=m.since/\m.since<=m.at_) && decide (0<=m.fresh/\m.fresh<=1000000) && decide (0<=m.got/\m.got<=m.fresh)
def msB (n:Nw) (m:Ms):Bool:=isC n m.serving && isC n m.path && (decide (m.target=-1) || isC n m.target) && (decide (m.source=-1) || isC n m.source)
def bsyB (m:Ms):Bool:=decide (m.phase=1) || decide (m.phase=2)
def fmB (m:Ms):Bool:=
 !((!decide (m.target=-1) && decide (m.phase=0)) || (decide (m.target=-1) && bsyB m) || (!decide (m.source=-1) && (bsyB m || !decide (m.target=-1))) || (!decide (m.path=m.serving) && (decide (m.source=-1) || !decide (m.path=m.source))))
def clB (n:Nw) (m:Ms):Bool:=(decide (m.target=-1) || nbr n m.target m.serving) && (decide (m.source=-1) || nbr n m.source m.serving)
def stB (n:Nw) (m:Ms):Bool:=!(ed m && decide (m.since+n.limit<=m.at_)) && !(!decide (m.source=-1) && decide (m.path=m.serving) && (dO m m.source).isEmpty)
def wh (m:Ms) (i:Nat):Bool:=(m.buf.getD i []).isEmpty || decide ((i:Int)=m.serving) || decide ((i:Int)=m.source) || (ed m && decide ((i:Int)=m.target))
def wu (m:Ms):Bool:=(List.range m.buf.length).all (wh m)
def wE (l:List Int):Nat->Int->Bool
 | 0,_=>true
 | k+1,a=>decide (a∈l) && wE l k (a+1)
def gapB (m:Ms):Bool:=decide (m.fresh - m.got<=60) && wE m.buf.flatten (m.fresh - m.got).toNat m.got
def pkE (m:Ms):Int:=if 60 < m.buf.flatten.length then 8 else if pkL m.fresh [] m.buf≠0 then pkL m.fresh [] m.buf else if wu m=false then 23 else if gapB m=false then 14 else 0
def rstE (n:Nw) (m:Ms):Int:=
 if m.buf.length≠n.cells.length then 10
 else if ¬ (0<=m.phase/\m.phase<=3)then 15
 else if rgB m=false then 2
 else if msB n m=false then 6
 else if fmB m=false then 3
 else if clB n m=false then 13
 else if stB n m=false then 22
 else pkE m
theorem ite_z {c:Prop} [Decidable c] {a b:Int} (ha:a≠0) (h:(if c then a else b)=0):¬ c/\b=0:=by
 by_cases hc:c
 . rw[if_pos hc]at h;exact absurd h ha
 . rw[if_neg hc]at h;exact⟨hc,h⟩
theorem ite_zz {a b:Int} (h:(if a≠0 then a else b)=0):a=0/\b=0:=by
 by_cases hc:a=0
 . rw[if_neg (by simp[hc])]at h;exact⟨hc,h⟩
 . rw[if_pos hc]at h;exact absurd h hc
theorem ww {f:Int} {seen:List Int}:∀ (l:List Int) (p:Int),wg f seen p l=0↔(∀ x∈l,(0<=x/\x < f)/\p < x/\x∉seen)/\l.Pairwise (· < ·)
 |[],p=>by simp[wg]
 | x :: l,p=>by
  rw[wg];constructor
  . intro h;obtain⟨h1,h⟩:=ite_z (by decide) h;obtain⟨h2,h⟩:=ite_z (by decide) h;obtain⟨h3,h⟩:=ite_z (by decide) h;obtain⟨g1,g2⟩:=(ww l x).1 h;refine⟨fun y hy=>?_,yK.2 ⟨fun y hy=>(g1 y hy).2.1,g2⟩⟩;rcases zl.1 hy with rfl | hy
    . exact⟨by omega,by omega,h3⟩
    . have:=g1 y hy;exact⟨this.1,by omega,this.2.2⟩
  . rintro⟨h1,h2⟩
    obtain⟨q1,q2,q3⟩:=h1 x (by simp);rw[yK]at h2;rw[if_neg (fun q=>q q1),if_neg (by omega),if_neg q3];exact (ww l x).2 ⟨fun y hy=>⟨(h1 y (by simp[hy])).1,h2.1 y hy,(h1 y (by simp[hy])).2.2⟩,h2.2⟩
theorem xg {f:Int}:∀ (bs:List (List Int)) (seen:List Int),pkL f seen bs=0↔(∀ x∈bs.flatten,(0<=x/\x < f)/\x∉seen)/\(∀ b∈bs,b.Pairwise (· < ·))/\bs.flatten.Nodup
 |[],seen=>by simp[pkL]
 | b :: bs,seen=>by
  rw[pkL];constructor
  . intro h;obtain⟨h1,h⟩:=ite_zz h;obtain⟨g1,g2⟩:=(ww b _).1 h1;obtain⟨k1,k2,k3⟩:=(xg bs _).1 h;refine⟨fun x hx=>?_,fun c hc=>?_,?_⟩
    . rw[List.flatten_cons,zW]at hx;rcases hx with hx | hx
      . exact⟨(g1 x hx).1,(g1 x hx).2.2⟩
      . exact⟨(k1 x hx).1,fun q=>(k1 x hx).2 (List.mem_append_left _ q)⟩
    . rcases zl.1 hc with rfl | hc
      . exact g2
      . exact k2 c hc
    . rw[List.flatten_cons,List.nodup_append];exact⟨rc g2,k3,fun x hx y hy e=>(k1 y hy).2 (List.mem_append_right _ (e ▸ hx))⟩
  . rintro⟨h1,h2,h3⟩
    rw[List.flatten_cons,List.nodup_append]at h3
    have e:wg f seen (-1) b=0:=(ww b _).2 ⟨fun x hx=>by
     have:=h1 x (by rw[List.flatten_cons];exact List.mem_append_left _ hx)
     exact⟨this.1,by omega,this.2⟩,h2 b (by simp)⟩
    rw[if_neg (by simp[e])];refine (xg bs _).2 ⟨fun x hx=>?_,fun c hc=>h2 c (by simp[hc]),h3.2.1⟩;have:=h1 x (by rw[List.flatten_cons];exact List.mem_append_right _ hx);refine⟨this.1,fun q=>?_⟩;rcases zW.1 q with q | q
    . exact this.2 q
    . exact h3.2.2 x q x hx rfl
theorem yR {l:List Int}:∀ (k:Nat) (a:Int),wE l k a=true↔∀ x,a<=x->x < a+k->x∈l
 | 0,a=>by simp[wE];intro x h1 h2;omega
 | k+1,a=>by
  rw[wE,zm,yR k,decide_eq_true_eq];constructor
  . rintro⟨h1,h2⟩ x q1 q2
    rcases Int.lt_or_eq_of_le q1 with q | q
    . exact h2 x (by omega) (by push_cast at q2;omega)
    . exact q ▸ h1
  . exact fun h=>⟨h a (Int.le_refl _) (by push_cast;omega),fun x q1 q2=>h x (by omega) (by push_cast;omega)⟩
theorem Bh {m:Ms}:wu m=true↔∀ i:Nat,m.buf.getD i []≠[]->(i:Int)=m.serving\/(i:Int)=m.source\/(ed m=true/\(i:Int)=m.target):=by
 rw[wu,zx];constructor
 . intro h i hi;have hl:i < m.buf.length:=by
    rcases yu i m.buf.length with q | q
    . exact q
    . rw[zb,List.getElem?_eq_none q]at hi;exact absurd rfl hi
   have:=h i (zE.2 hl);simp only[wh,zV,zm,decide_eq_true_eq,List.isEmpty_iff]at this;rcases this with ((q | q) | q) | q
   . exact absurd q hi
   . exact .inl q
   . exact .inr (.inl q)
   . exact .inr (.inr q)
 . intro h i _;simp only[wh,zV,zm,decide_eq_true_eq,List.isEmpty_iff];rcases Classical.em (m.buf.getD i []=[])with q | q
   . exact .inl (.inl (.inl q))
   . rcases h i q with q | q | q
     . exact .inl (.inl (.inr q))
     . exact .inl (.inr q)
     . exact .inr q
theorem Bb {n:Nw} {m:Ms} (g:dN n m):rstE n m=0:=by
 have e1:=g.len;have e2:=g.phase;have e3:rgB m=true:=by
  have:=g.at_;have:=g.since;have:=g.fresh;have:=g.got;simp only[rgB,zm,decide_eq_true_eq];exact⟨⟨⟨by omega,by omega⟩,by omega⟩,by omega⟩
 have e4:msB n m=true:=by
  simp only[msB,zm,zV,decide_eq_true_eq];refine⟨⟨⟨g.srv,g.pth⟩,?_⟩,?_⟩
  . rcases Classical.em (m.target=-1)with q | q
    . exact .inl q
    . exact .inr (g.tgt q)
  . rcases Classical.em (m.source=-1)with q | q
    . exact .inl q
    . exact .inr (g.src q)
 have e5:fmB m=true:=by
  simp only[fmB,bsyB,yC,zm,zV,Bool.and_eq_false_iff,Bool.or_eq_false_iff,Bool.not_eq_false',decide_eq_true_eq,decide_eq_false_iff_not];refine⟨⟨⟨?_,?_⟩,?_⟩,?_⟩
  . rcases Classical.em (m.target=-1)with q | q
    . exact .inl q
    . exact .inr (g.f1 q)
  . rcases Classical.em (m.target=-1)with q | q
    . exact .inr (g.f2 q)
    . exact .inl q
  . rcases Classical.em (m.source=-1)with q | q
    . exact .inl q
    . obtain⟨r1,r2,r3⟩:=g.f3 q;exact .inr ⟨⟨r1,r2⟩,r3⟩
  . rcases Classical.em (m.path=m.serving)with q | q
    . exact .inl q
    . exact .inr (g.f4 q)
 have e6:clB n m=true:=by
  simp only[clB,zm,zV,decide_eq_true_eq];constructor
  . rcases Classical.em (m.target=-1)with q | q
    . exact .inl q
    . exact .inr (g.c1 q)
  . rcases Classical.em (m.source=-1)with q | q
    . exact .inl q
    . exact .inr (g.c2 q)
 have e7:stB n m=true:=by
  simp only[stB,yC,zm,Bool.and_eq_false_iff,Bool.not_eq_false',decide_eq_true_eq,decide_eq_false_iff_not,List.isEmpty_eq_false_iff];constructor
  . cases ha:ed m with
    | false=>exact .inl rfl
    | true=>have:=g.due ha;exact .inr (by omega)
  . rcases Classical.em (m.source=-1)with q | q
    . exact .inl (.inl q)
    . rcases Classical.em (m.path=m.serving)with r | r
      . exact .inr (g.busy q r)
      . exact .inl (.inr r)
 have e8w:=g.large;have e9w:pkL m.fresh [] m.buf=0:=(xg _ _).2 ⟨fun x hx=>⟨g.rng x hx,by simp⟩,g.asc,g.nd⟩;have e10:wu m=true:=Bh.2 g.opn;have e11:gapB m=true:=by
  have:=g.gap60;simp only[gapB,zm,decide_eq_true_eq,yR];exact⟨by omega,fun x q1 q2=>g.gap x q1 (by have:=g.got;omega)⟩
 unfold rstE pkE;rw[if_neg (by simp[e1]),if_neg (fun q=>q e2),if_neg (by simp[e3]),if_neg (by simp[e4]),if_neg (by simp[e5]),if_neg (by simp[e6]),if_neg (by simp[e7]),if_neg (by omega),if_neg (by simp[e9w]),if_neg (by simp[e10]),if_neg (by simp[e11])]
theorem y7 {α:Type} (d:α) {l:List α} {i:Nat} (h:i < l.length):l.take (i+1)=l.take i++[l.getD i d]:=by
 rw[yI h,zb,ze h];rfl
theorem AF {bs:List (List Int)} {i:Nat} (h:i < bs.length):(bs.take (i+1)).flatten=(bs.take i).flatten++bs.getD i []:=by
 rw[y7 [] h,List.flatten_append,List.flatten_cons,List.flatten_nil,z4]
theorem Az {f:Int} {seen:List Int} {p:Int} {l:List Int} {k:Nat} (h:k < l.length):wg f seen p (l.drop k)=if ¬ (0<=l.getD k 0/\l.getD k 0 < f)then 2 else if l.getD k 0<=p then 9 else if l.getD k 0∈seen then 26 else wg f seen (l.getD k 0) (l.drop (k+1)):=by
 rw[fJ 0 h,wg]
structure MsB (m:Ms):Prop where
 l:m.buf.length<=1000000
 r:∀ x∈m.buf,x.length<=1000
 i:∀ x∈m.buf.flatten,InR .i64 x
def msD (m:Ms):List C:=[.s (.int .i64 m.at_),.s (.int .i64 m.phase),.s (.int .i64 m.since),.s (.int .i64 m.serving),.s (.int .i64 m.target),.s (.int .i64 m.source),.s (.int .i64 m.path),.s (.int .i64 m.fresh),.s (.int .i64 m.got),.sl 1 (m.buf.map Dat.cells)]
theorem Ac : ∀ (bs:List (List Int)) (k:Nat),(∀ x∈bs,x.length<=k)->bs.flatten.length<=bs.length*k
 |[],k,h=>by simp
 | b :: bs,k,h=>by
  have h1:=Ac bs k (fun x hx=>h x (by simp[hx]));have h2:=h b (by simp);rw[List.flatten_cons,zK,zQ,zP];omega
theorem xi : ∀ (l:List (List Int)) (v:Int) (i:Nat),(0<=v6 v i l)↔v∈l.flatten
 |[],v,i=>by simp[v6]
 | r :: l,v,i=>by
  rw[v6,List.flatten_cons,zW];by_cases h:(r.any fun x=>decide (x=v))=true
  . rw[if_pos h];simp only[List.any_eq_true,decide_eq_true_eq]at h;obtain⟨x,hx,rfl⟩:=h;exact⟨fun _=>.inl hx,fun _=>Int.natCast_nonneg _⟩
  . rw[if_neg h,xi l v (i+1)];simp only[List.any_eq_true,decide_eq_true_eq]at h;exact⟨fun q=>.inr q,fun q=>q.resolve_left fun q=>h ⟨v,q,rfl⟩⟩
theorem where_k (m:Ms) (k v:Int) (h1:m.buf.length<=1000000) (h2:0<=k) (h3:k<=m.buf.length):FC Tryz.prog 117 [enc m,enc k,enc v] [] (enc (v6 v 0 (m.buf.take k.toNat))) []:=by
 obtain⟨j,rfl⟩:=Int.eq_ofNat_of_zero_le h2;exact where_c m j v h1 (by omega)
def wl : Ent Tryz.prog:=.of3 117 (fun (m:Ms) (k _:Int)=>m.buf.length<=1000000/\0<=k/\k<=m.buf.length) (fun (m:Ms) (k v:Int)=>enc (v6 v 0 (m.buf.take k.toNat))) (fun _ _ _=>trivial) (fun m k v h=>where_k m k v h.1 h.2.1 h.2.2)
def chR (n:Nw) (m:Ms):Chs:=[(3,.box (msD m)),(2,.box [.sl 1 (n.cells.map Dat.cells),.sl 2 (n.nb.map Dat.cells),.s (.int .i64 n.limit)])]
theorem rst_5 (n:Nw) (m:Ms) (hm:MsB m) (hf:0<=m.fresh/\m.fresh<=1000000) (hg:0<=m.got/\m.got<=m.fresh) (cx:Cx) (E:Int) (hE:(if gapB m=false then 14 else 0)=E):SG Tryz.prog cx (cz [RV.tmp 4] [] (enc E) []) [It.c E4.c67k5.cut] ⟨[(3,.ptr 3 0)],chR n m⟩:=by
 have hml:=hm.l;have hdm:=vV m;refine iJ (dC [] 500 ?_);obtain⟨K,hK⟩:∃ K,(m.fresh - m.got).toNat=K:=⟨_,rfl⟩;unfold gapB at hE;rw[hK]at hE;by_cases h60:m.fresh - m.got<=60
 . have h60':¬ (m.fresh - m.got > 60):=by omega
   delta E4.c67k5 oO oN oM oS oK oF oL oV oI oX oB;simp (maxSteps:=9^7) -implicitDefEqProofs only[E4.rv67,chR,msD,h60',not_true_eq_false,not_false_eq_true,InR,WU,V,W3,↓reduceIte,seval,reduceCtorEq];refine⟨by omega,?_⟩;simp only[h60,decide_true,zY]at hE;refine fI K (fun i=>[(12,.s (.int .i64 (m.got+(i:Int))))]) (fun _=>[]) (fun i=>wE m.buf.flatten K m.got=wE m.buf.flatten (K - i) (m.got+i)) (by simp) ?_ (fun i hi hv=>dC [wl] 800 ?_)
   . simp (maxSteps:=9^7) -implicitDefEqProofs only[V,W3,↓reduceIte,seval,reduceCtorEq]
     all_goals simp
   . by_cases h:i < K
     . have hi2:m.got+(i:Int) < m.fresh:=by omega
       have hk1:K - i=(K - (i+1))+1:=by omega
       rw[hk1,wE]at hv;have hw:=xi m.buf (m.got+(i:Int)) 0;have htk:m.buf.take m.buf.length=m.buf:=yo;have hle:=eq_true (Int.le_refl (m.buf.length:Int));have hl0:(0:Int)<=(m.buf.length:Int):=by omega
       by_cases hx:(m.got+(i:Int))∈m.buf.flatten
       . have hw2:¬ (v6 (m.got+(i:Int)) 0 m.buf < 0):=by have:=hw.2 hx;omega
         simp only[hx,decide_true,zY]at hv;delta E4.c67l4 oO oN oM oR oS oK oF oL oV oC oI oX oB o4 o5;simp (maxSteps:=9^7) -implicitDefEqProofs only[E4.rv67,wl,qD,hdm,hi2,hml,htk,hl0,hle,hw2,not_true_eq_false,not_false_eq_true,InR,WU,Ent.of3,V,W3,↓reduceIte,seval,reduceCtorEq];exact⟨⟨by omega,by omega⟩,h,by rw[hv,show ((i+1:Nat):Int)=(i:Int)+1 by omega,<- Int.add_assoc],by omega⟩
       . have hw2:v6 (m.got+(i:Int)) 0 m.buf < 0:=by
          have:¬ (0<=v6 (m.got+(i:Int)) 0 m.buf):=fun q=>hx (hw.1 q)
          omega
         simp only[hx,decide_false,z7]at hv;rw[hv]at hE;subst hE;delta E4.c67l4 oO oN oM oR oS oK oF oL oV oC oI oX oB o4 o5;simp (maxSteps:=9^7) -implicitDefEqProofs only[E4.rv67,wl,qD,hdm,hi2,hml,htk,hl0,hle,hw2,not_true_eq_false,not_false_eq_true,InR,WU,Ent.of3,V,W3,↓reduceIte,seval,reduceCtorEq]
     . have hie:i=K:=by omega
       subst hie;have hi2:¬ m.got+(i:Int) < m.fresh:=by omega
       rw[show i - i=0 by omega,wE]at hv;rw[hv]at hE;subst hE;delta E4.c67l4 oO oN oM oR oS oK oF oL oV oC oI oX oB o4 o5;simp (maxSteps:=9^7) -implicitDefEqProofs only[E4.rv67,hi2,InR,WU,V,W3,↓reduceIte,seval,reduceCtorEq]
 . have h60':m.fresh - m.got > 60:=by omega
   simp only[h60,decide_false,z7]at hE;subst hE;delta E4.c67k5 oO oN oM oS oK oF oL oV oI oX oB;simp (maxSteps:=9^7) -implicitDefEqProofs only[E4.rv67,chR,msD,h60',not_true_eq_false,not_false_eq_true,InR,WU,V,W3,↓reduceIte,seval,reduceCtorEq];omega
theorem rst_6 (n:Nw) (m:Ms) (hm:MsB m) (hf:0<=m.fresh/\m.fresh<=1000000) (hg:0<=m.got/\m.got<=m.fresh) (cx:Cx) (E:Int) (tgw srw:Bool) (htg:tgw=!decide (m.target=-1)) (hsr:srw=!decide (m.source=-1)) (hE:(if wu m=false then 23 else if gapB m=false then 14 else 0)=E):SG Tryz.prog cx (cz [RV.tmp 4] [] (enc E) []) [It.c E4.c67k6.cut] ⟨[(3,.ptr 3 0),(5,.s (.bool tgw)),(6,.s (.bool srw))],chR n m⟩:=by
 have hml:=hm.l;have hdm:=vV m;refine iJ (dC [] 500 ?_);delta E4.c67k6 oS oK oV oX;simp (maxSteps:=9^7) -implicitDefEqProofs only[E4.rv67,chR,msD,InR,WU,V,W3,↓reduceIte,seval,reduceCtorEq];refine fI m.buf.length (fun i=>[(11,.s (.int .i64 (i:Int)))]) (fun _=>[]) (fun i=>∀ j,j < i->wh m j=true) (fun j hj=>absurd hj (by omega)) ?_ (fun i hi hv=>dC [vP] 800 ?_)
 . simp (maxSteps:=9^7) -implicitDefEqProofs only[V,W3,↓reduceIte,seval,reduceCtorEq]
   all_goals simp
 . by_cases h:i < m.buf.length
   . have hi2:(i:Int) < (m.buf.length:Int):=by omega
     have hi0:(0:Int)<=i:=by omega
     have hgx:List.getD (m.buf.map Dat.cells) i [C.sl 0 []]=[C.sl 1 ((m.buf.getD i []).map Dat.cells)]:=by
      rw[zb,zb,zh,ze h];rfl
     have hopn:wh m i=((m.buf.getD i []).isEmpty || decide ((i:Int)=m.serving) || decide ((i:Int)=m.source) || (ed m && decide ((i:Int)=m.target))):=rfl;have hnx:wh m i=true->∀ j,j < i+1->wh m j=true:=fun q j hj=>by
      rcases Nat.lt_or_eq_of_le (Nat.lt_succ_iff.1 hj)with q2 | q2
      . exact hv j q2
      . rw[q2];exact q
     have hbad:wh m i=false->E=23:=fun q=>by
      have:wu m=false:=by
       cases h2:wu m with
       | false=>rfl
       | true=>
        rw[wu,zx]at h2;rw[h2 i (zE.2 h)]at q;cases q
      rw[this]at hE;exact hE.symm
     generalize m.buf.getD i []=q at *;have hc:(q=[]/\wh m i=true)\/((0 < (q.length:Int))=True/\(((i:Int)=m.serving)=True/\wh m i=true\/(((i:Int)=m.serving)=False/\((srw=true/\((i:Int)=m.source)=True/\wh m i=true)\/(((srw=true/\((i:Int)=m.source)=False)\/srw=false)/\((tgw=false/\wh m i=false)\/(tgw=true/\ed m=false/\wh m i=false)\/(tgw=true/\ed m=true/\((i:Int)=m.target)=True/\wh m i=true)\/(tgw=true/\ed m=true/\((i:Int)=m.target)=False/\wh m i=false))))))):=by
      rw[hopn];cases q with
      | nil=>left;simp
      | cons a l=>
       right;refine⟨by simp,?_⟩;rcases Classical.propComplete ((i:Int)=m.serving)with g1 | g1
       . left;simp[g1]
       . right;refine⟨g1,?_⟩;have s1:srw=false->((i:Int)=m.source)=False:=fun q=>by
          rw[q]at hsr;have:m.source=-1:=by simpa using hsr
          exact eq_false (by omega)
         have s2:tgw=false->((i:Int)=m.target)=False:=fun q=>by
          rw[q]at htg;have:m.target=-1:=by simpa using htg
          exact eq_false (by omega)
         cases srw
         . right;refine⟨.inr rfl,?_⟩;have g2:=s1 rfl;cases tgw
           . left;simp[g1,g2,s2 rfl]
           . right;rcases Classical.propComplete ((i:Int)=m.target)with g3 | g3 <;> cases ed m <;> simp[g1,g2,g3]
         . rcases Classical.propComplete ((i:Int)=m.source)with g2 | g2
           . left;simp[g1,g2]
           . right;refine⟨.inl ⟨rfl,g2⟩,?_⟩;cases tgw
             . left;simp[g1,g2,s2 rfl]
             . right;rcases Classical.propComplete ((i:Int)=m.target)with g3 | g3 <;> cases ed m <;> simp[g1,g2,g3]
     clear hopn;rcases hc with⟨rfl,ho⟩ | ⟨a1,⟨a2,ho⟩ | ⟨a2,⟨rfl,a3,ho⟩ | ⟨⟨rfl,a3⟩ | rfl,⟨rfl,ho⟩ | ⟨rfl,a4,ho⟩ | ⟨rfl,a4,a5,ho⟩ | ⟨rfl,a4,a5,ho⟩⟩⟩⟩
     . delta E4.c67l3 oO oN oA oM oG oR oS oK oF oL oV oI oX oP oB oD oE oJ o0 o4;simp (maxSteps:=9^7) -implicitDefEqProofs only[E4.rv67,hi0,hi2,h,hgx,zR,InR,WU,V,W3,↓reduceIte,seval,reduceCtorEq];exact⟨⟨by omega,by omega⟩,hnx ho,by omega⟩
     . delta E4.c67l3 oO oN oA oM oG oR oS oK oF oL oV oI oX oP oB oD oE oJ o0 o4;simp (maxSteps:=9^7) -implicitDefEqProofs only[E4.rv67,vP,qD,hdm,hi0,hi2,h,hgx,zy,a1,a2,InR,WU,Ent.of1,V,W3,↓reduceIte,seval,reduceCtorEq];exact⟨⟨by omega,by omega⟩,hnx ho,by omega⟩
     . delta E4.c67l3 oO oN oA oM oG oR oS oK oF oL oV oI oX oP oB oD oE oJ o0 o4;simp (maxSteps:=9^7) -implicitDefEqProofs only[E4.rv67,vP,qD,hdm,hi0,hi2,h,hgx,zy,a1,a2,a3,InR,WU,Ent.of1,V,W3,↓reduceIte,seval,reduceCtorEq];exact⟨⟨by omega,by omega⟩,hnx ho,by omega⟩
     . delta E4.c67l3 oO oN oA oM oG oR oS oK oF oL oV oI oX oP oB oD oE oJ o0 o4;simp (maxSteps:=9^7) -implicitDefEqProofs only[E4.rv67,vP,qD,hdm,hi0,hi2,h,hgx,zy,a1,a2,a3,InR,WU,Ent.of1,V,W3,↓reduceIte,seval,reduceCtorEq];exact (hbad ho).symm
     . delta E4.c67l3 oO oN oA oM oG oR oS oK oF oL oV oI oX oP oB oD oE oJ o0 o4;simp (maxSteps:=9^7) -implicitDefEqProofs only[E4.rv67,vP,qD,hdm,hi0,hi2,h,hgx,zy,a1,a2,a3,a4,InR,WU,Ent.of1,V,W3,↓reduceIte,seval,reduceCtorEq];exact (hbad ho).symm
     . delta E4.c67l3 oO oN oA oM oG oR oS oK oF oL oV oI oX oP oB oD oE oJ o0 o4;simp (maxSteps:=9^7) -implicitDefEqProofs only[E4.rv67,vP,qD,hdm,hi0,hi2,h,hgx,zy,a1,a2,a3,a4,a5,InR,WU,Ent.of1,V,W3,↓reduceIte,seval,reduceCtorEq];exact⟨⟨by omega,by omega⟩,hnx ho,by omega⟩
     . delta E4.c67l3 oO oN oA oM oG oR oS oK oF oL oV oI oX oP oB oD oE oJ o0 o4;simp (maxSteps:=9^7) -implicitDefEqProofs only[E4.rv67,vP,qD,hdm,hi0,hi2,h,hgx,zy,a1,a2,a3,a4,a5,InR,WU,Ent.of1,V,W3,↓reduceIte,seval,reduceCtorEq];exact (hbad ho).symm
     . delta E4.c67l3 oO oN oA oM oG oR oS oK oF oL oV oI oX oP oB oD oE oJ o0 o4;simp (maxSteps:=9^7) -implicitDefEqProofs only[E4.rv67,vP,qD,hdm,hi0,hi2,h,hgx,zy,a1,a2,InR,WU,Ent.of1,V,W3,↓reduceIte,seval,reduceCtorEq];exact (hbad ho).symm
     . delta E4.c67l3 oO oN oA oM oG oR oS oK oF oL oV oI oX oP oB oD oE oJ o0 o4;simp (maxSteps:=9^7) -implicitDefEqProofs only[E4.rv67,vP,qD,hdm,hi0,hi2,h,hgx,zy,a1,a2,a4,InR,WU,Ent.of1,V,W3,↓reduceIte,seval,reduceCtorEq];exact (hbad ho).symm
     . delta E4.c67l3 oO oN oA oM oG oR oS oK oF oL oV oI oX oP oB oD oE oJ o0 o4;simp (maxSteps:=9^7) -implicitDefEqProofs only[E4.rv67,vP,qD,hdm,hi0,hi2,h,hgx,zy,a1,a2,a4,a5,InR,WU,Ent.of1,V,W3,↓reduceIte,seval,reduceCtorEq];exact⟨⟨by omega,by omega⟩,hnx ho,by omega⟩
     . delta E4.c67l3 oO oN oA oM oG oR oS oK oF oL oV oI oX oP oB oD oE oJ o0 o4;simp (maxSteps:=9^7) -implicitDefEqProofs only[E4.rv67,vP,qD,hdm,hi0,hi2,h,hgx,zy,a1,a2,a4,a5,InR,WU,Ent.of1,V,W3,↓reduceIte,seval,reduceCtorEq];exact (hbad ho).symm
   . have hi2:¬ (i:Int) < (m.buf.length:Int):=by omega
     have hop:wu m=true:=by
      rw[wu,zx];exact fun j hj=>hv j (by have:=zE.1 hj;omega)
     rw[hop]at hE;delta E4.c67l3 oO oN oA oM oG oR oS oK oF oL oV oI oX oP oB oD oE oJ o0 o4;simp (maxSteps:=9^7) -implicitDefEqProofs only[E4.rv67,hi2,InR,WU,V,W3,↓reduceIte,seval,reduceCtorEq];exact rst_5 n m hm hf hg cx E hE
theorem wW {m:Ms} (h:m.source=-1):settle m=m:=by
 unfold Go.Proofs.YtcbabnbiinkafaaGreatDoor.settle;rw[if_neg];intro hq;simp only[fL,zm,decide_eq_true_eq]at hq;exact absurd h hq.1.1
theorem yV {n:Nw} {m:Ms} {t:Int} (h:ju n m t=false):kW n m t={ m with at_:=t }:=by unfold kW p7;rw[if_neg (by simp[h])]
structure Run (n:Nw) (m:Ms) (l:List T3) (k:Ms):Prop where
 e:∀ i,(iH n m l i).2=0
 s:l.foldl (qm n) m=k
theorem Run.nil {n:Nw} {m:Ms}:Run n m [] m:=⟨fun _=>rfl,rfl⟩
theorem Run.cons {n:Nw} {m k:Ms} {e:T3} {l:List T3} (h:fZ n m e=0) (r:Run n (qm n m e) l k):Run n m (e :: l) k:=
 ⟨fun i=>by rw[iH,if_pos h];exact r.e _,r.s⟩
theorem Run.app {n:Nw}:∀ {l k:List T3} {m a b:Ms},Run n m l a->Run n a k b->Run n m (l++k) b
 |[],k,m,a,b,h,g=>by have:=h.s;simp only[List.foldl_nil]at this;rw[this];exact g
 | e :: l,k,m,a,b,h,g=>by
  have h0:fZ n m e=0:=by
   have:=h.e 0;rw[iH]at this;rcases Classical.em (fZ n m e=0)with q | q
   . exact q
   . rw[if_neg q]at this;exact this
  refine Run.cons h0 (Run.app ⟨fun i=>?_,h.s⟩ g);have:=h.e (i - 1);rw[iH,if_pos h0]at this;rwa[show i - 1+1=i by omega]at this
theorem Run.ofw {n:Nw} {c:Int} {l:List T3} (h:(iH n (eM n c) l 0).2=0):Run n (eM n c) l (lu n c l).m:=⟨fun i=>xI n l _ 0 i h,(wH n c l).symm⟩
theorem Run.end {n:Nw} {c:Int} {l:List T3} {k:Ms} (r:Run n (eM n c) l k):(iH n (eM n c) l 0).2=0/\(lu n c l).m=k:=⟨r.e 0,by rw[wH];exact r.s⟩
theorem evz {n:Nw} {x t:Int} (hx:0<=x/\x<=11) (hc:x≠3/\x≠10) (ht:0<=t/\t<=1000000000):evE n ⟨x,t,0⟩=0:=by
 have:gd t=true:=by simp only[gd,decide_eq_true_eq];omega
 unfold evE;rw[if_neg (by simp[hx]),if_neg (by simp[this]),if_neg (by simp[iz,hc])];rfl
theorem wG {n:Nw} {m:Ms} {t x:Int} (g:dN n m) (hp:m.phase=0) (hat:m.at_=t) (hx:0<=x/\x<=11) (hc:x≠3/\x≠10):fZ n m ⟨x,t,0⟩=et n m ⟨x,t,0⟩/\qm n m ⟨x,t,0⟩=settle (eG m ⟨x,t,0⟩):=by
 subst hat;have hb:ju n m m.at_=false:=by simp[ju,ed,hp]
 have hA:kW n m m.at_=m:=by rw[yV hb]
 constructor
 . rw[fZ,if_neg (by simp[evz hx hc g.at_]),qd,if_neg (by show ¬ m.at_ < m.at_;omega),hA]
 . rw[qm,hA,jT,if_neg hc.2]
structure Cn (n:Nw) (m:Ms) (t a f:Int):Prop where
 g:dN n m
 phw:m.phase=0
 at_:m.at_=t
 got:m.got=a
 fresh:m.fresh=f
theorem Ad {n:Nw} (hn:NetOk n) {t g f:Int}:∀ (k:Nat) (m:Ms),Cn n m t g f->m.source≠-1->(dO m m.source).length=k->∃ m',Run n m (List.replicate k ⟨7,t,0⟩) m'/\Cn n m' t g f/\(m'.source=-1\/dO m' m'.source=[])
 | 0,m,c,hs,hk=>⟨m,.nil,c,.inr (List.length_eq_zero_iff.1 hk)⟩
 | k+1,m,c,hs,hk=>by
  obtain⟨e1,e2⟩:=wG (x:=7) c.g c.phw c.at_ (by decide) (by decide);have hfc:dU m=m.source:=by rw[dU,if_neg (by rw[c.phw];decide)]
  have htc:toC m=m.serving:=by rw[toC,if_neg (by rw[c.phw];decide)]
  have hne:dO m m.source≠[]:=fun q=>by rw[q]at hk;simp at hk
  have hd:et n m ⟨7,t,0⟩=0:=by
   unfold et;simp only[Int.reduceEq,if_false,if_true];rw[if_neg (by rw[c.phw];simp[hs]),hfc,if_neg hne]
  rw[hd]at e1;have G:=c.g.apply hn e1;have hA:eG m ⟨7,t,0⟩={ m with buf:=(m.buf.set m.serving.toNat (fS (dO m m.serving) ((dO m m.source).headD 0))).set m.source.toNat (dO m m.source).tail }:=by
   unfold eG;simp only[Int.reduceEq,if_false,if_true];rw[hfc,htc]
  have hsi:=c.g.ix (c.g.src hs);have hb:dO (eG m ⟨7,t,0⟩) m.source=(dO m m.source).tail:=by
   rw[hA];show List.getD _ _ _=_
   rw[fi,if_pos ⟨rfl,by simpa using hsi⟩]
  have hsrc:(eG m ⟨7,t,0⟩).source=m.source:=by rw[hA]
  have hl:(dO m m.source).tail.length=k:=by rw[List.length_tail,hk];rfl
  have hf:(qm n m ⟨7,t,0⟩).phase=0/\(qm n m ⟨7,t,0⟩).at_=t/\(qm n m ⟨7,t,0⟩).got=g/\(qm n m ⟨7,t,0⟩).fresh=f:=by
   rw[e2,hA];have key:∀ x:Ms,(settle x).phase=x.phase/\(settle x).at_=x.at_/\(settle x).got=x.got/\(settle x).fresh=x.fresh:=fun x=>by
    unfold Go.Proofs.YtcbabnbiinkafaaGreatDoor.settle;split <;> exact⟨rfl,rfl,rfl,rfl⟩
   obtain⟨q1,q2,q3,q4⟩:=key { m with buf:=(m.buf.set m.serving.toNat (fS (dO m m.serving) ((dO m m.source).headD 0))).set m.source.toNat (dO m m.source).tail };exact⟨q1.trans c.phw,q2.trans c.at_,q3.trans c.got,q4.trans c.fresh⟩
  have C:Cn n (qm n m ⟨7,t,0⟩) t g f:=⟨G,hf.1,hf.2.1,hf.2.2.1,hf.2.2.2⟩;by_cases hi:fL (eG m ⟨7,t,0⟩)=true
  . have hS:(qm n m ⟨7,t,0⟩).source=-1:=by
     rw[e2];unfold Go.Proofs.YtcbabnbiinkafaaGreatDoor.settle;rw[if_pos hi]
    have hk0:k=0:=by
     simp only[fL,zm,decide_eq_true_eq,List.isEmpty_iff]at hi;rw[hsrc,hb]at hi;rw[hi.2]at hl;simpa using hl.symm
    subst hk0;exact⟨_,Run.cons e1 .nil,C,.inl hS⟩
  . have hS:qm n m ⟨7,t,0⟩=eG m ⟨7,t,0⟩:=by
     rw[e2];unfold Go.Proofs.YtcbabnbiinkafaaGreatDoor.settle;rw[if_neg hi]
    obtain⟨m',r,c',h'⟩:=Ad hn k (qm n m ⟨7,t,0⟩) C (by rw[hS,hsrc];exact hs) (by rw[hS,hsrc,hb];exact hl);exact⟨m',Run.cons e1 r,c',h'⟩
def vQ (t:Int):Nat->List T3
 | 0=>[]
 | k+1=>⟨2,t,0⟩ :: ⟨1,t,0⟩ :: vQ t k
theorem wV {x:Int}:∀ {bs:List (List Int)},x∈bs.flatten->∃ i,x∈bs.getD i []
 |[],h=>by simp at h
 | b :: bs,h=>by
  rw[List.flatten_cons,zW]at h;rcases h with h | h
  . exact⟨0,by simpa using h⟩
  . obtain⟨i,hi⟩:=wV h;exact⟨i+1,by simpa using hi⟩
theorem y8 {n:Nw} (hn:NetOk n) {t f:Int}:∀ (k:Nat) (m:Ms) (g:Int),Cn n m t g f->(m.source=-1\/dO m m.source=[])->f - g=k->∃ m',Run n m (vQ t k) m'/\Cn n m' t f f
 | 0,m,g,c,hs,hk=>by
  have:g=f:=by omega
  subst this;exact⟨m,.nil,c⟩
 | k+1,m,g,c,hs,hk=>by
  have hset:∀ m1:Ms,m1.source=m.source->m1.path=m.path->m1.serving=m.serving->settle m1=m1:=fun m1 h1 h2 h3=>by
   unfold Go.Proofs.YtcbabnbiinkafaaGreatDoor.settle;rw[if_neg];intro hq;simp only[fL,zm,decide_eq_true_eq]at hq;rw[h1,h2,h3]at hq;rcases hs with q | q
   . exact hq.1.1 q
   . exact c.g.busy hq.1.1 hq.1.2 q
  have haw:ed m=false:=by simp[ed,c.phw]
  obtain⟨e1,e2⟩:=wG (x:=2) c.g c.phw c.at_ (by decide) (by decide);have hd:et n m ⟨2,t,0⟩=0:=by simp[et,haw]
  rw[hd]at e1;have hA:eG m ⟨2,t,0⟩={ m with buf:=m.buf.set m.serving.toNat (frm (dO m m.serving) m.got) }:=by simp[eG]
  rw[hA]at e2;replace e2:=e2.trans (hset { m with buf:=m.buf.set m.serving.toNat (frm (dO m m.serving) m.got) } rfl rfl rfl);have G:=c.g.apply hn e1;rw[e2]at G;generalize hm1:({ m with buf:=m.buf.set m.serving.toNat (frm (dO m m.serving) m.got) }:Ms)=m1 at *;have hsi:=c.g.ix c.g.srv;have hB:dO m1 m1.serving=frm (dO m m.serving) m.got:=by
   rw[<- hm1];show List.getD _ _ _=_
   rw[fi,if_pos ⟨rfl,hsi⟩]
  have s1:m1.phase=0/\m1.at_=t/\m1.got=g/\m1.fresh=f/\m1.source=m.source/\m1.path=m.path/\m1.serving=m.serving:=by
   rw[<- hm1];exact⟨c.phw,c.at_,c.got,c.fresh,rfl,rfl,rfl⟩
  obtain⟨s1,s2,s3,s4,s5w,s6w,s7w⟩:=s1;have hs1:m1.source=-1\/dO m1 m1.source=[]:=by
   rcases hs with q | q
   . exact .inl (s5w.trans q)
   . rcases Classical.em (m1.source=-1)with r | r
     . exact .inl r
     . right;rw[s5w]at r ⊢;have hne:=hn.ne _ _ (c.g.c2 r);have k1:=fH c.g.srv;have k2:=fH (c.g.src r);rw[<- hm1];show List.getD _ _ _=_
       rw[fi,if_neg (by omega)];exact q
  have hgm:g∈dO m m.serving:=by
   have h1:=c.g.gap g (by rw[c.got];exact Int.le_refl _) (by rw[c.fresh];omega);obtain⟨i,hi⟩:=wV h1;have hne:m.buf.getD i []≠[]:=fun q=>by rw[q]at hi;cases hi
   rcases c.g.opn i hne with q | q | q
   . unfold dO;rw[<- q];exact hi
   . exfalso
     rcases hs with r | r
     . omega
     . unfold dO at r;rw[<- q]at r;exact hne r
   . rw[haw]at q;cases q.1
  have hgB:g∈dO m1 m1.serving:=by rw[hB,rU,c.got];exact⟨hgm,Int.le_refl _⟩
  have hasc:=G.asc_at m1.serving.toNat;obtain⟨x,l,hxl⟩:∃ x l,dO m1 m1.serving=x :: l:=by
   cases hb:dO m1 m1.serving with
   | nil=>rw[hb]at hgB;cases hgB
   | cons x l=>exact⟨x,l,rfl⟩
  have hx:x=g:=by
   have h1:g<=x:=by
    have:x∈dO m1 m1.serving:=by rw[hxl];simp
    rw[hB,rU,c.got]at this;exact this.2
   rw[hxl]at hgB;rcases zl.1 hgB with q | q
   . exact q.symm
   . have hasc':(x :: l).Pairwise (· < ·):=by rw[<- hxl];exact hasc
     have:=(yK.1 hasc').1 g q;omega
  obtain⟨d1,d2⟩:=wG (x:=1) G s1 s2 (by decide) (by decide);have hd1:et n m1 ⟨1,t,0⟩=0:=by
   have haw1:ed m1=false:=by simp[ed,s1]
   unfold et;simp only[Int.reduceEq,if_false,if_true];rw[if_neg (by simp[haw1]),if_neg (by rw[hxl];simp),if_neg (by rw[hxl,s3,hx];simp)]
  rw[hd1]at d1;have hA1:eG m1 ⟨1,t,0⟩={ m1 with got:=m1.got+1 }:=by
   unfold eG;simp only[Int.reduceEq,if_false,if_true];rw[if_pos (by rw[hxl,s3,hx];rfl)]
  rw[hA1]at d2;replace d2:=d2.trans (hset { m1 with got:=m1.got+1 } s5w s6w s7w);have G2:=G.apply hn d1;rw[d2]at G2;obtain⟨m',r,c'⟩:=y8 hn k { m1 with got:=m1.got+1 } (g+1) ⟨G2,s1,s2,by show m1.got+1=g+1;omega,s4⟩ hs1 (by push_cast at hk;omega);refine⟨m',Run.cons e1 ?_,c'⟩;rw[e2];refine Run.cons d1 ?_;rw[d2];exact r
def vU (n:Nw) (x:Ms):List T3:=if ed x=true then [⟨11,x.since+n.limit,0⟩]else if x.phase=1 then [⟨4,x.at_,0⟩]else []
def vT (n:Nw) (x:Ms):Int:=if ed x=true then x.since+n.limit else x.at_
def wb (n:Nw) (x:Ms):List T3:=if x.phase=0/\x.source≠-1 then List.replicate (dO x x.source).length ⟨7,vT n x,0⟩else []
def we (n:Nw) (x:Ms):List T3:=vU n x++wb n x++vQ (vT n x) (x.fresh - x.got).toNat
theorem Bn {n:Nw} (hn:NetOk n) {x:Ms} (g:dN n x) (hl:ed x=true->x.since+n.limit<=1000000000):∃ m',Run n x (we n x) m'/\Cn n m' (vT n x) x.fresh x.fresh:=by
 have hlim:=hn.lim;have hat:=g.at_;have hsi:=g.since;have hgt:=g.got;have A:∃ m,Run n x (vU n x) m/\Cn n m (vT n x) x.got x.fresh/\((x.phase=0/\x.source≠-1/\m=x)\/(¬ (x.phase=0/\x.source≠-1)/\m.source=-1)):=by
  unfold vU vT;by_cases ha:ed x=true
  . have hdue:=g.due ha;have hll:=hl ha;rw[if_pos ha,if_pos ha];have hb:ju n x (x.since+n.limit)=true:=by simp[ju,ha]
    have hA:kW n x (x.since+n.limit)={ iB x 0 (x.since+n.limit)with at_:=x.since+n.limit }:=by unfold kW p7;rw[if_pos hb]
    have e1:fZ n x ⟨11,x.since+n.limit,0⟩=0:=by
     rw[fZ,if_neg (by simp[evz (n:=n) (x:=11) (by decide) (by decide) (show 0<=x.since+n.limit/\x.since+n.limit<=1000000000 by omega)]),qd,if_neg (by show ¬ x.since+n.limit < x.at_;omega)];simp[et]
    have e2:qm n x ⟨11,x.since+n.limit,0⟩={ iB x 0 (x.since+n.limit)with at_:=x.since+n.limit }:=by
     show jT (kW n x (x.since+n.limit)) _=_
     rw[hA,jT,if_neg (by simp)];have:∀ m:Ms,eG m ⟨11,x.since+n.limit,0⟩=m:=fun m=>by simp[eG]
     rw[this,wW rfl]
    have G:=g.apply hn e1;rw[e2]at G;refine⟨_,Run.cons e1 .nil,?_,.inr ⟨?_,?_⟩⟩
    . rw[e2];exact⟨G,rfl,rfl,rfl,rfl⟩
    . rintro⟨q,_⟩
      simp[ed,q]at ha
    . rw[e2];rfl
  . have haf:ed x=false:=by simpa using ha
    have hph:x.phase≠2/\x.phase≠3:=by simpa[ed]using haf
    rw[if_neg ha,if_neg ha];by_cases h1:x.phase=1
    . rw[if_pos h1];have hs:x.source=-1:=by
       rcases Classical.em (x.source=-1)with q | q
       . exact q
       . exact absurd h1 (g.f3 q).1
      have hb:ju n x x.at_=false:=by simp[ju,haf]
      have hA:kW n x x.at_=x:=by rw[yV hb]
      have e1:fZ n x ⟨4,x.at_,0⟩=0:=by
       rw[fZ,if_neg (by simp[evz (n:=n) (x:=4) (by decide) (by decide) hat]),qd,if_neg (by show ¬ x.at_ < x.at_;omega),hA];simp[et,h1]
      have e2:qm n x ⟨4,x.at_,0⟩={ x with phase:=0,since:=x.at_,target:=-1 }:=by
       show jT (kW n x x.at_) _=_
       rw[hA,jT,if_neg (by simp)];have:eG x ⟨4,x.at_,0⟩={ x with phase:=0,since:=x.at_,target:=-1 }:=by simp[eG]
       rw[this];exact wW hs
      have G:=g.apply hn e1;rw[e2]at G;refine⟨_,Run.cons e1 .nil,?_,.inr ⟨fun q=>?_,?_⟩⟩
      . rw[e2];exact⟨G,rfl,rfl,rfl,rfl⟩
      . omega
      . rw[e2];exact hs
    . rw[if_neg h1];have h0:x.phase=0:=by have:=g.phase;omega
      refine⟨x,.nil,⟨g,h0,rfl,rfl,rfl⟩,?_⟩;rcases Classical.em (x.source=-1)with q | q
      . exact .inr ⟨fun r=>r.2 q,q⟩
      . exact .inl ⟨h0,q,rfl⟩
 obtain⟨m,r1,c1,h1⟩:=A;have B:∃ m',Run n m (wb n x) m'/\Cn n m' (vT n x) x.got x.fresh/\(m'.source=-1\/dO m' m'.source=[]):=by
  unfold wb;rcases h1 with⟨q1,q2,q3⟩ | ⟨q1,q2⟩
  . rw[if_pos ⟨q1,q2⟩];subst q3;exact Ad hn _ m c1 q2 rfl
  . rw[if_neg q1];exact⟨m,.nil,c1,.inl q2⟩
 obtain⟨m2,r2,c2,h2⟩:=B;obtain⟨m3,r3,c3⟩:=y8 hn (x.fresh - x.got).toNat m2 x.got c2 h2 (by omega);exact⟨m3,(r1.app r2).app r3,c3⟩
theorem AK {n:Nw} (hn:NetOk n) {c:Int} (hc:isC n c=true) (l:List T3) (h:(iH n (eM n c) l 0).2=0) (hl:ed (lu n c l).m=true->(lu n c l).m.since+n.limit<=1000000000) :
 (iH n (eM n c) (l++we n (lu n c l).m) 0).2=0/\(lu n c (l++we n (lu n c l).m)).m.got=(lu n c l).m.fresh/\(lu n c (l++we n (lu n c l).m)).m.fresh=(lu n c l).m.fresh/\(lu n c (l++we n (lu n c l).m)).recv=upL 0 (lu n c l).m.fresh.toNat:=by
 obtain⟨g,_,_⟩:=xe hn hc l h;obtain⟨m',r,q⟩:=Bn hn g hl;obtain⟨e1,e2⟩:=((Run.ofw h).app r).end;obtain⟨_,k2,_⟩:=xe hn hc _ e1;rw[e2,q.got]at k2;exact⟨e1,by rw[e2];exact q.got,by rw[e2];exact q.fresh,k2⟩
theorem rst_7 (n:Nw) (m:Ms) (hm:MsB m) (hf:0<=m.fresh/\m.fresh<=1000000) (hg:0<=m.got/\m.got<=m.fresh) (cx:Cx) (E:Int) (tgw srw:Bool) (htg:tgw=!decide (m.target=-1)) (hsr:srw=!decide (m.source=-1)) (hE:(if pkL m.fresh [] m.buf≠0 then pkL m.fresh [] m.buf else if wu m=false then 23 else if gapB m=false then 14 else 0)=E):SG Tryz.prog cx (cz [RV.tmp 4] [] (enc E) []) [It.c E4.c67k7.cut] ⟨[(3,.ptr 3 0),(5,.s (.bool tgw)),(6,.s (.bool srw))],chR n m⟩:=by
 have hml:=hm.l;have hdm:=vV m;refine iJ (dC [] 500 ?_);delta E4.c67k7 oS oK oV oX;simp (maxSteps:=9^7) -implicitDefEqProofs only[E4.rv67,chR,msD,InR,WU,V,W3,↓reduceIte,seval,reduceCtorEq];refine fI m.buf.length (fun i=>[(8,.s (.int .i64 (i:Int)))]) (fun _=>[]) (fun i=>pkL m.fresh [] m.buf=pkL m.fresh (m.buf.take i).flatten (m.buf.drop i)) rfl ?_ (fun i hi hv=>dC [] 800 ?_)
 . simp (maxSteps:=9^7) -implicitDefEqProofs only[V,W3,↓reduceIte,seval,reduceCtorEq]
   all_goals simp
 . by_cases h:i < m.buf.length
   . have hi2:(i:Int) < (m.buf.length:Int):=by omega
     have hi0:(0:Int)<=i:=by omega
     have hile:=eq_true (show (i:Int)<=(m.buf.length:Int) by omega);have hgx:List.getD (m.buf.map Dat.cells) i [C.sl 0 []]=[C.sl 1 ((m.buf.getD i []).map Dat.cells)]:=by
      rw[zb,zb,zh,ze h];rfl
     have hfs:=AF h;rw[fJ [] h,pkL]at hv;rw[<- hfs]at hv;have hll:(m.buf.getD i []).length<=1000:=by
      rw[zb,ze h];exact hm.r _ (yy h)
     have hwh:=fun v=>xi (m.buf.take i) v 0
     generalize m.buf.getD i []=l at *;delta E4.c67l2 oO oN oA oM oR oS oK oF oL oV oX oB o0 o4;simp (maxSteps:=9^7) -implicitDefEqProofs only[E4.rv67,hi0,hi2,h,hgx,zy,InR,WU,V,W3,↓reduceIte,seval,reduceCtorEq];generalize hS:(m.buf.take i).flatten=seen at *;refine fI l.length (fun k=>[(10,.s (.int .i64 (k:Int)))]) (fun _=>[]) (fun k=>wg m.fresh seen (-1) l=wg m.fresh seen (if k=0 then -1 else l.getD (k - 1) 0) (l.drop k)) rfl ?_ (fun k hk hw=>dC [vW,wl] 800 ?_)
     . simp (maxSteps:=9^7) -implicitDefEqProofs only[V,W3,↓reduceIte,seval,reduceCtorEq]
       all_goals simp
     . by_cases hkl:k < l.length
       . have hk2:(k:Int) < (l.length:Int):=by omega
         have hk0:(0:Int)<=k:=by omega
         rw[Az hkl]at hw;obtain⟨u,hu⟩:∃ u,l.getD k 0=u:=⟨_,rfl⟩;rw[hu]at hw;have hgl:List.getD (l.map Dat.cells) k [C.s (.int .i64 0)]=[C.s (.int .i64 u)]:=by
          rw[zb,zh,ze hkl,<- hu,zb,ze hkl];rfl
         have hgp:∀ j,j < l.length->List.getD (l.map Dat.cells) j [C.s (.int .i64 0)]=[C.s (.int .i64 (l.getD j 0))]:=fun j hj=>by
          rw[zb,zh,ze hj,zb,ze hj];rfl
         by_cases hr:0<=u/\u < m.fresh
         rotate_left
         . rw[if_pos hr]at hw;rw[hw,if_pos (by decide)]at hv;rw[hv,if_pos (by decide)]at hE;subst hE;have hwi:=eq_false (show ¬ (0<=u/\u<=m.fresh - 1) by omega);delta E4.c67l1 oO oN oA oM oT oG oR oQ oS oK oF oL oV oI oX oB oD oJ o1 o4 o5;simp (maxSteps:=9^7) -implicitDefEqProofs only[E4.rv67,vW,hwi,h,hi0,hi2,hk0,hk2,hkl,hgl,hgx,zy,InR,not_true_eq_false,not_false_eq_true,WU,Ent.of3,V,W3,↓reduceIte,seval,reduceCtorEq];omega
         rw[if_neg (fun q=>q hr)]at hw;have hwi:=eq_true (show (0<=u/\u<=m.fresh - 1) by omega);by_cases ho:u<=(if k=0 then -1 else l.getD (k - 1) 0)
         . have hk00:¬ k=0:=fun q=>by
            rw[if_pos q]at ho;omega
           rw[if_pos ho]at hw;rw[hw,if_pos (by decide)]at hv;rw[hv,if_pos (by decide)]at hE;subst hE;rw[if_neg hk00]at ho;have hgt:=eq_true ho;have hkI:=eq_true (show (0:Int) < (k:Int) by omega);have e1:(k:Int) - 1=((k - 1:Nat):Int):=by omega
           have e2:(0:Int)<=((k - 1:Nat):Int):=by omega
           have e3:((k - 1:Nat):Int) < (l.length:Int):=by omega
           have e4:k - 1 < l.length:=by omega
           have hgl1:=hgp (k - 1) e4;delta E4.c67l1 oO oN oA oM oT oG oR oQ oS oK oF oL oV oI oX oB oD oJ o1 o4 o5;simp (maxSteps:=9^7) -implicitDefEqProofs only[E4.rv67,vW,hwi,hgt,hkI,e1,e2,e3,e4,hgl1,h,hi0,hi2,hk0,hk2,hkl,hgl,hgx,zy,InR,not_true_eq_false,not_false_eq_true,WU,Ent.of3,V,W3,↓reduceIte,seval,reduceCtorEq];exact⟨by omega,by omega⟩
         rw[if_neg ho]at hw;have hord:k=0\/(¬ k=0/\(u<=l.getD (k - 1) 0)=False):=by
          by_cases q:k=0
          . exact .inl q
          . rw[if_neg q]at ho;exact .inr ⟨q,eq_false ho⟩
         by_cases hsn:u∈seen
         . rw[if_pos hsn]at hw;rw[hw,if_pos (by decide)]at hv;rw[hv,if_pos (by decide)]at hE;subst hE;have hwn:=eq_true ((hwh u).2 hsn);rcases hord with hk00 | ⟨hk00,hgt⟩
           . have hkI:=eq_false (show ¬ (0:Int) < (k:Int) by omega);delta E4.c67l1 oO oN oA oM oT oG oR oQ oS oK oF oL oV oI oX oB oD oJ o1 o4 o5;simp (maxSteps:=9^7) -implicitDefEqProofs only[E4.rv67,vW,wl,qD,hdm,hml,hile,hwi,hkI,hwn,h,hi0,hi2,hk0,hk2,hkl,hgl,hgx,zy,InR,not_true_eq_false,not_false_eq_true,WU,Ent.of3,V,W3,↓reduceIte,seval,reduceCtorEq];omega
           . have hkI:=eq_true (show (0:Int) < (k:Int) by omega);have e1:(k:Int) - 1=((k - 1:Nat):Int):=by omega
             have e2:(0:Int)<=((k - 1:Nat):Int):=by omega
             have e3:((k - 1:Nat):Int) < (l.length:Int):=by omega
             have e4:k - 1 < l.length:=by omega
             have hgl1:=hgp (k - 1) e4;delta E4.c67l1 oO oN oA oM oT oG oR oQ oS oK oF oL oV oI oX oB oD oJ o1 o4 o5;simp (maxSteps:=9^7) -implicitDefEqProofs only[E4.rv67,vW,wl,qD,hdm,hml,hile,hwi,hkI,hwn,hgt,e1,e2,e3,e4,hgl1,h,hi0,hi2,hk0,hk2,hkl,hgl,hgx,zy,InR,not_true_eq_false,not_false_eq_true,WU,Ent.of3,V,W3,↓reduceIte,seval,reduceCtorEq];exact⟨by omega,by omega⟩
         . rw[if_neg hsn]at hw;have hwn:=eq_false (fun q=>hsn ((hwh u).1 q));have hnx:wg m.fresh seen (-1) l=wg m.fresh seen (if k+1=0 then -1 else l.getD (k+1 - 1) 0) (l.drop (k+1)):=by
            rw[if_neg (by omega),Nat.add_sub_cancel,hu];exact hw
           rcases hord with hk00 | ⟨hk00,hgt⟩
           . have hkI:=eq_false (show ¬ (0:Int) < (k:Int) by omega);delta E4.c67l1 oO oN oA oM oT oG oR oQ oS oK oF oL oV oI oX oB oD oJ o1 o4 o5;simp (maxSteps:=9^7) -implicitDefEqProofs only[E4.rv67,vW,wl,qD,hdm,hml,hile,hwi,hkI,hwn,h,hi0,hi2,hk0,hk2,hkl,hgl,hgx,zy,InR,not_true_eq_false,not_false_eq_true,WU,Ent.of3,V,W3,↓reduceIte,seval,reduceCtorEq];exact⟨by omega,by omega,hu ▸ hw,by omega⟩
           . have hkI:=eq_true (show (0:Int) < (k:Int) by omega);have e1:(k:Int) - 1=((k - 1:Nat):Int):=by omega
             have e2:(0:Int)<=((k - 1:Nat):Int):=by omega
             have e3:((k - 1:Nat):Int) < (l.length:Int):=by omega
             have e4:k - 1 < l.length:=by omega
             have hgl1:=hgp (k - 1) e4;delta E4.c67l1 oO oN oA oM oT oG oR oQ oS oK oF oL oV oI oX oB oD oJ o1 o4 o5;simp (maxSteps:=9^7) -implicitDefEqProofs only[E4.rv67,vW,wl,qD,hdm,hml,hile,hwi,hkI,hwn,hgt,e1,e2,e3,e4,hgl1,h,hi0,hi2,hk0,hk2,hkl,hgl,hgx,zy,InR,not_true_eq_false,not_false_eq_true,WU,Ent.of3,V,W3,↓reduceIte,seval,reduceCtorEq];exact⟨by omega,by omega,by omega,hu ▸ hw,by omega⟩
       . have hke:k=l.length:=by omega
         subst hke;have hk2:¬ ((l.length:Nat):Int) < (l.length:Int):=by omega
         rw[List.drop_length,wg]at hw;rw[hw,if_neg (fun q=>q rfl)]at hv;delta E4.c67l1 oO oN oA oM oT oG oR oQ oS oK oF oL oV oI oX oB oD oJ o1 o4 o5;simp (maxSteps:=9^7) -implicitDefEqProofs only[E4.rv67,hk2,InR,WU,V,W3,↓reduceIte,seval,reduceCtorEq];exact⟨by omega,h,hv,by omega⟩
   . have hi2:¬ (i:Int) < (m.buf.length:Int):=by omega
     have hie:i=m.buf.length:=by omega
     rw[hie,List.drop_length,pkL]at hv;rw[hv,if_neg (fun q=>q rfl)]at hE;delta E4.c67l2 oO oN oA oM oR oS oK oF oL oV oX oB o0 o4;simp (maxSteps:=9^7) -implicitDefEqProofs only[E4.rv67,hi2,InR,WU,V,W3,↓reduceIte,seval,reduceCtorEq];exact rst_6 n m hm hf hg cx E tgw srw htg hsr hE
theorem rst_8 (n:Nw) (m:Ms) (hm:MsB m) (hf:0<=m.fresh/\m.fresh<=1000000) (hg:0<=m.got/\m.got<=m.fresh) (hp:fc m.buf<=1000000000) (cx:Cx) (E:Int) (tgw srw:Bool) (htg:tgw=!decide (m.target=-1)) (hsr:srw=!decide (m.source=-1)) (hE:pkE m=E):SG Tryz.prog cx (cz [RV.tmp 4] [] (enc E) []) [It.c E4.c67k8.cut] ⟨[(3,.ptr 3 0),(5,.s (.bool tgw)),(6,.s (.bool srw))],chR n m⟩:=by
 have hml:=hm.l;have hdm:=vV m;unfold pkE at hE;have hpk:=mK m.buf;refine iJ (dC [wI] 500 ?_);by_cases h60:60 < m.buf.flatten.length
 . rw[if_pos h60]at hE;subst hE;have h60':=eq_true (show fc m.buf > 60 by omega);delta E4.c67k8 oO oN oS oK oV oC oI oX oB o5;simp (maxSteps:=9^7) -implicitDefEqProofs only[E4.rv67,wI,qD,hdm,hml,hp,chR,msD,h60',not_true_eq_false,not_false_eq_true,WU,Ent.of1,V,W3,↓reduceIte,seval,reduceCtorEq]
 . rw[if_neg h60]at hE;have h60':=eq_false (show ¬ fc m.buf > 60 by omega);delta E4.c67k8 oO oN oS oK oV oC oI oX oB o5;simp (maxSteps:=9^7) -implicitDefEqProofs only[E4.rv67,wI,qD,hdm,hml,hp,chR,msD,h60',not_true_eq_false,not_false_eq_true,WU,Ent.of1,V,W3,↓reduceIte,seval,reduceCtorEq];exact rst_7 n m hm hf hg cx E tgw srw htg hsr hE
theorem rst_9 (n:Nw) (m:Ms) (hm:MsB m) (net:NetOk n) (hlen:m.buf.length=n.cells.length) (q2:rgB m=true) (q3:msB n m=true) (cx:Cx) (E:Int) (tgw srw:Bool) (htg:tgw=!decide (m.target=-1)) (hsr:srw=!decide (m.source=-1)) (hE:(if stB n m=false then 22 else pkE m)=E):SG Tryz.prog cx (cz [RV.tmp 4] [] (enc E) []) [It.c E4.c67k9.cut] ⟨[(2,.ptr 2 0),(3,.ptr 3 0),(5,.s (.bool tgw)),(6,.s (.bool srw))],chR n m⟩:=by
 have hml:=hm.l;have hdm:=vV m;have q2':=q2;simp only[rgB,zm,decide_eq_true_eq]at q2';obtain⟨⟨⟨r1,r2⟩,r3⟩,r4⟩:=q2';have hlim:=net.lim;have hI:(-9223372036854775808<=m.since+n.limit/\m.since+n.limit<=9223372036854775807):=by omega
 simp only[msB,zm,zV,decide_eq_true_eq]at q3;have hso:srw=true->0<=m.source/\m.source < (m.buf.length:Int)/\m.source.toNat < m.buf.length:=fun h=>by
  rcases q3.2 with h2 | h2
  . rw[h2]at hsr;rw[hsr]at h;cases h
  . have:=fH h2;rw[hlen];omega
 have hpk:fc m.buf<=1000000000:=by
  rw[mK];have h1:=Ac m.buf 1000 hm.r;have h2:=net.len;have:m.buf.length*1000<=6*1000:=zB _ (by omega);omega
 have hgo:=rst_8 n m hm r3 r4 hpk cx E tgw srw htg hsr;have hst:stB n m=(!(ed m && decide (m.since+n.limit<=m.at_)) && !(srw && decide (m.path=m.serving) && (dO m m.source).isEmpty)):=by rw[hsr];rfl
 refine iJ (dC [vP] 500 ?_);have hc:(ed m=true/\(m.since+n.limit<=m.at_)=True/\stB n m=false)\/((ed m=false\/(ed m=true/\(m.since+n.limit<=m.at_)=False))/\stB n m=!(srw && decide (m.path=m.serving) && (dO m m.source).isEmpty)):=by
  rw[hst];cases ed m <;> rcases Classical.propComplete (m.since+n.limit<=m.at_)with h | h <;> simp[h]
 rcases hc with⟨a1,a2,a3⟩ | ⟨a0,a3⟩
 . rw[if_pos a3]at hE;subst hE;delta E4.c67k9 oO oN oM oG oS oK oV oC oI oX oP oH oD oE oJ o0 o5;simp (maxSteps:=9^7) -implicitDefEqProofs only[E4.rv67,vP,qD,hdm,hI,chR,msD,a1,a2,InR,not_true_eq_false,not_false_eq_true,WU,Ent.of1,V,W3,↓reduceIte,seval,reduceCtorEq]
 . cases hs:srw
   . subst hs;have h1:stB n m=true:=by rw[a3];rfl
     rw[if_neg (by simp[h1])]at hE;rcases a0 with a1 | ⟨a1,a2⟩
     . delta E4.c67k9 oO oN oM oG oS oK oV oC oI oX oP oH oD oE oJ o0 o5;simp (maxSteps:=9^7) -implicitDefEqProofs only[E4.rv67,vP,qD,hdm,hI,chR,msD,a1,InR,not_true_eq_false,not_false_eq_true,WU,Ent.of1,V,W3,↓reduceIte,seval,reduceCtorEq];exact hgo hE
     . delta E4.c67k9 oO oN oM oG oS oK oV oC oI oX oP oH oD oE oJ o0 o5;simp (maxSteps:=9^7) -implicitDefEqProofs only[E4.rv67,vP,qD,hdm,hI,chR,msD,a1,a2,InR,not_true_eq_false,not_false_eq_true,WU,Ent.of1,V,W3,↓reduceIte,seval,reduceCtorEq];exact hgo hE
   . subst hs;obtain⟨i0,i2,i3⟩:=hso rfl;have hgx:List.getD (m.buf.map Dat.cells) m.source.toNat [C.sl 0 []]=[C.sl 1 ((dO m m.source).map Dat.cells)]:=by
      rw[dO,zb,zb,zh,ze i3];rfl
     have hb:(((dO m m.source).length:Int)=0)=((dO m m.source).isEmpty=true):=by
      cases dO m m.source <;> simp <;> omega
     have hc2:((dO m m.source).isEmpty=false/\stB n m=true)\/((dO m m.source).isEmpty=true/\(m.path=m.serving)=True/\stB n m=false)\/((dO m m.source).isEmpty=true/\(m.path=m.serving)=False/\stB n m=true):=by
      rw[a3];cases (dO m m.source).isEmpty <;> rcases Classical.propComplete (m.path=m.serving)with h | h <;> simp[h]
     clear hst a3;generalize dO m m.source=B at *;rcases hc2 with⟨b1,b3⟩ | ⟨b1,b2,b3⟩ | ⟨b1,b2,b3⟩
     . rw[if_neg (by simp[b3])]at hE;rcases a0 with a1 | ⟨a1,a2⟩
       . delta E4.c67k9 oO oN oM oG oS oK oV oC oI oX oP oH oD oE oJ o0 o5;simp (maxSteps:=9^7) -implicitDefEqProofs only[E4.rv67,vP,qD,hdm,hI,chR,msD,a1,i0,i2,i3,hgx,hb,b1,zy,InR,not_true_eq_false,not_false_eq_true,WU,Ent.of1,V,W3,↓reduceIte,seval,reduceCtorEq];exact hgo hE
       . delta E4.c67k9 oO oN oM oG oS oK oV oC oI oX oP oH oD oE oJ o0 o5;simp (maxSteps:=9^7) -implicitDefEqProofs only[E4.rv67,vP,qD,hdm,hI,chR,msD,a1,a2,i0,i2,i3,hgx,hb,b1,zy,InR,not_true_eq_false,not_false_eq_true,WU,Ent.of1,V,W3,↓reduceIte,seval,reduceCtorEq];exact hgo hE
     . rw[if_pos b3]at hE;subst hE;rcases a0 with a1 | ⟨a1,a2⟩
       . delta E4.c67k9 oO oN oM oG oS oK oV oC oI oX oP oH oD oE oJ o0 o5;simp (maxSteps:=9^7) -implicitDefEqProofs only[E4.rv67,vP,qD,hdm,hI,chR,msD,a1,i0,i2,i3,hgx,hb,b1,b2,zy,InR,not_true_eq_false,not_false_eq_true,WU,Ent.of1,V,W3,↓reduceIte,seval,reduceCtorEq]
       . delta E4.c67k9 oO oN oM oG oS oK oV oC oI oX oP oH oD oE oJ o0 o5;simp (maxSteps:=9^7) -implicitDefEqProofs only[E4.rv67,vP,qD,hdm,hI,chR,msD,a1,a2,i0,i2,i3,hgx,hb,b1,b2,zy,InR,not_true_eq_false,not_false_eq_true,WU,Ent.of1,V,W3,↓reduceIte,seval,reduceCtorEq]
     . rw[if_neg (by simp[b3])]at hE;rcases a0 with a1 | ⟨a1,a2⟩
       . delta E4.c67k9 oO oN oM oG oS oK oV oC oI oX oP oH oD oE oJ o0 o5;simp (maxSteps:=9^7) -implicitDefEqProofs only[E4.rv67,vP,qD,hdm,hI,chR,msD,a1,i0,i2,i3,hgx,hb,b1,b2,zy,InR,not_true_eq_false,not_false_eq_true,WU,Ent.of1,V,W3,↓reduceIte,seval,reduceCtorEq];exact hgo hE
       . delta E4.c67k9 oO oN oM oG oS oK oV oC oI oX oP oH oD oE oJ o0 o5;simp (maxSteps:=9^7) -implicitDefEqProofs only[E4.rv67,vP,qD,hdm,hI,chR,msD,a1,a2,i0,i2,i3,hgx,hb,b1,b2,zy,InR,not_true_eq_false,not_false_eq_true,WU,Ent.of1,V,W3,↓reduceIte,seval,reduceCtorEq];exact hgo hE
theorem rst_10 (n:Nw) (m:Ms) (hn:NwS n) (hm:MsB m) (net:NetOk n) (hlen:m.buf.length=n.cells.length) (q2:rgB m=true) (q3:msB n m=true) (cx:Cx) (E:Int) (tgw srw:Bool) (htg:tgw=!decide (m.target=-1)) (hsr:srw=!decide (m.source=-1)) (hE:(if clB n m=false then 13 else if stB n m=false then 22 else pkE m)=E):SG Tryz.prog cx (cz [RV.tmp 4] [] (enc E) []) [It.c E4.c67k10.cut] ⟨[(2,.ptr 2 0),(3,.ptr 3 0),(5,.s (.bool tgw)),(6,.s (.bool srw))],chR n m⟩:=by
 have hdn:=je n;have hgo:=rst_9 n m hm net hlen q2 q3 cx E tgw srw htg hsr;refine iJ (dC [wc] 500 ?_);have hcl:clB n m=((!tgw || nbr n m.target m.serving) && (!srw || nbr n m.source m.serving)):=by rw[htg,hsr];simp[clB]
 have hc:(tgw=true/\nbr n m.target m.serving=false/\clB n m=false)\/((tgw=false\/(tgw=true/\nbr n m.target m.serving=true))/\((srw=false/\clB n m=true)\/(srw=true/\nbr n m.source m.serving=false/\clB n m=false)\/(srw=true/\nbr n m.source m.serving=true/\clB n m=true))):=by
  rw[hcl];cases tgw <;> cases srw <;> cases nbr n m.target m.serving <;> cases nbr n m.source m.serving <;> simp
 clear hcl;rcases hc with⟨rfl,a2,a3⟩ | ⟨rfl | ⟨rfl,a2⟩,⟨rfl,a3⟩ | ⟨rfl,a4,a3⟩ | ⟨rfl,a4,a3⟩⟩
 . rw[if_pos a3]at hE;subst hE;delta E4.c67k10 oO oM oG oS oK oV oI oX oP oH oD oE oJ;simp (maxSteps:=9^7) -implicitDefEqProofs only[E4.rv67,wc,eO,hdn,hn,chR,msD,a2,not_true_eq_false,not_false_eq_true,WU,Ent.of3,V,W3,↓reduceIte,seval,reduceCtorEq]
 . rw[if_neg (by simp[a3])]at hE;delta E4.c67k10 oO oM oG oS oK oV oI oX oP oH oD oE oJ;simp (maxSteps:=9^7) -implicitDefEqProofs only[E4.rv67,wc,eO,hdn,hn,chR,msD,not_true_eq_false,not_false_eq_true,WU,Ent.of3,V,W3,↓reduceIte,seval,reduceCtorEq];exact hgo hE
 . rw[if_pos a3]at hE;subst hE;delta E4.c67k10 oO oM oG oS oK oV oI oX oP oH oD oE oJ;simp (maxSteps:=9^7) -implicitDefEqProofs only[E4.rv67,wc,eO,hdn,hn,chR,msD,a4,not_true_eq_false,not_false_eq_true,WU,Ent.of3,V,W3,↓reduceIte,seval,reduceCtorEq]
 . rw[if_neg (by simp[a3])]at hE;delta E4.c67k10 oO oM oG oS oK oV oI oX oP oH oD oE oJ;simp (maxSteps:=9^7) -implicitDefEqProofs only[E4.rv67,wc,eO,hdn,hn,chR,msD,a4,not_true_eq_false,not_false_eq_true,WU,Ent.of3,V,W3,↓reduceIte,seval,reduceCtorEq];exact hgo hE
 . rw[if_neg (by simp[a3])]at hE;delta E4.c67k10 oO oM oG oS oK oV oI oX oP oH oD oE oJ;simp (maxSteps:=9^7) -implicitDefEqProofs only[E4.rv67,wc,eO,hdn,hn,chR,msD,a2,not_true_eq_false,not_false_eq_true,WU,Ent.of3,V,W3,↓reduceIte,seval,reduceCtorEq];exact hgo hE
 . rw[if_pos a3]at hE;subst hE;delta E4.c67k10 oO oM oG oS oK oV oI oX oP oH oD oE oJ;simp (maxSteps:=9^7) -implicitDefEqProofs only[E4.rv67,wc,eO,hdn,hn,chR,msD,a2,a4,not_true_eq_false,not_false_eq_true,WU,Ent.of3,V,W3,↓reduceIte,seval,reduceCtorEq]
 . rw[if_neg (by simp[a3])]at hE;delta E4.c67k10 oO oM oG oS oK oV oI oX oP oH oD oE oJ;simp (maxSteps:=9^7) -implicitDefEqProofs only[E4.rv67,wc,eO,hdn,hn,chR,msD,a2,a4,not_true_eq_false,not_false_eq_true,WU,Ent.of3,V,W3,↓reduceIte,seval,reduceCtorEq];exact hgo hE
theorem rst_11 (n:Nw) (m:Ms) (hn:NwS n) (hm:MsB m) (net:NetOk n) (hlen:m.buf.length=n.cells.length) (q2:rgB m=true) (q3:msB n m=true) (cx:Cx) (E:Int) (tgw srw:Bool) (htg:tgw=!decide (m.target=-1)) (hsr:srw=!decide (m.source=-1)) (hE:(if fmB m=false then 3 else if clB n m=false then 13 else if stB n m=false then 22 else pkE m)=E):SG Tryz.prog cx (cz [RV.tmp 4] [] (enc E) []) [It.c E4.c67k11.cut] ⟨[(2,.ptr 2 0),(3,.ptr 3 0),(5,.s (.bool tgw)),(6,.s (.bool srw))],chR n m⟩:=by
 have hgo:=rst_10 n m hn hm net hlen q2 q3 cx E tgw srw htg hsr;refine iJ (dC [] 800 ?_);have hfm:fmB m=!((tgw && decide (m.phase=0)) || (!tgw && (decide (m.phase=1) || decide (m.phase=2))) || (srw && ((decide (m.phase=1) || decide (m.phase=2)) || tgw)) || (!decide (m.path=m.serving) && (!srw || !decide (m.path=m.source)))):=by
  rw[htg,hsr];simp[fmB,bsyB]
 have hc:(tgw=true/\(m.phase=0)=True/\(m.phase=1)=False/\(m.phase=2)=False/\fmB m=false)\/(tgw=true/\(m.phase=0)=False/\((m.phase=1)=True\/((m.phase=1)=False/\(m.phase=2)=True)\/((m.phase=1)=False/\(m.phase=2)=False))/\((srw=true/\fmB m=false)\/(srw=false/\(((m.path=m.serving)=True/\fmB m=true)\/((m.path=m.serving)=False/\fmB m=false)))))\/(tgw=false/\((((m.phase=1)=True\/((m.phase=1)=False/\(m.phase=2)=True))/\fmB m=false)\/((m.phase=1)=False/\(m.phase=2)=False/\((srw=true/\(((m.path=m.serving)=True/\fmB m=true)\/((m.path=m.serving)=False/\(m.path=m.source)=True/\fmB m=true)\/((m.path=m.serving)=False/\(m.path=m.source)=False/\fmB m=false)))\/(srw=false/\(((m.path=m.serving)=True/\fmB m=true)\/((m.path=m.serving)=False/\fmB m=false))))))):=by
  rw[hfm];by_cases h0:m.phase=0
  . rcases Classical.propComplete (m.path=m.serving)with s1 | s1 <;> rcases Classical.propComplete (m.path=m.source)with s2 | s2 <;> cases tgw <;> cases srw <;> simp[h0,s1,s2]
  . rcases Classical.propComplete (m.phase=1)with h1 | h1 <;> rcases Classical.propComplete (m.phase=2)with h2 | h2 <;> rcases Classical.propComplete (m.path=m.serving)with s1 | s1 <;> rcases Classical.propComplete (m.path=m.source)with s2 | s2 <;> cases tgw <;> cases srw <;> simp[h0,h1,h2,s1,s2]
 clear hfm;rcases hc with⟨rfl,p0,p1,p2,b⟩ | ⟨rfl,p0,p1 | ⟨p1,p2⟩ | ⟨p1,p2⟩,⟨rfl,b⟩ | ⟨rfl,⟨s1,b⟩ | ⟨s1,b⟩⟩⟩ | ⟨rfl,⟨p1 | ⟨p1,p2⟩,b⟩ | ⟨p1,p2,⟨rfl,⟨s1,b⟩ | ⟨s1,s2,b⟩ | ⟨s1,s2,b⟩⟩ | ⟨rfl,⟨s1,b⟩ | ⟨s1,b⟩⟩⟩⟩
 . simp only[b,if_true,if_false,ym]at hE;delta E4.c67k11 oO oN oM oG oS oK oF oL oV oI oX oP oH oB oD oE oJ;simp (maxSteps:=9^7) -implicitDefEqProofs only[E4.rv67,chR,msD,p0,p1,p2,not_true_eq_false,not_false_eq_true,WU,V,W3,↓reduceIte,seval,reduceCtorEq];exact hE
 . simp only[b,if_true,if_false,ym]at hE;delta E4.c67k11 oO oN oM oG oS oK oF oL oV oI oX oP oH oB oD oE oJ;simp (maxSteps:=9^7) -implicitDefEqProofs only[E4.rv67,chR,msD,p0,p1,not_true_eq_false,not_false_eq_true,WU,V,W3,↓reduceIte,seval,reduceCtorEq];exact hE
 . simp only[b,if_true,if_false,ym]at hE;delta E4.c67k11 oO oN oM oG oS oK oF oL oV oI oX oP oH oB oD oE oJ;simp (maxSteps:=9^7) -implicitDefEqProofs only[E4.rv67,chR,msD,p0,p1,s1,not_true_eq_false,not_false_eq_true,WU,V,W3,↓reduceIte,seval,reduceCtorEq];exact hgo hE
 . simp only[b,if_true,if_false,ym]at hE;delta E4.c67k11 oO oN oM oG oS oK oF oL oV oI oX oP oH oB oD oE oJ;simp (maxSteps:=9^7) -implicitDefEqProofs only[E4.rv67,chR,msD,p0,p1,s1,not_true_eq_false,not_false_eq_true,WU,V,W3,↓reduceIte,seval,reduceCtorEq];exact hE
 . simp only[b,if_true,if_false,ym]at hE;delta E4.c67k11 oO oN oM oG oS oK oF oL oV oI oX oP oH oB oD oE oJ;simp (maxSteps:=9^7) -implicitDefEqProofs only[E4.rv67,chR,msD,p0,p1,p2,not_true_eq_false,not_false_eq_true,WU,V,W3,↓reduceIte,seval,reduceCtorEq];exact hE
 . simp only[b,if_true,if_false,ym]at hE;delta E4.c67k11 oO oN oM oG oS oK oF oL oV oI oX oP oH oB oD oE oJ;simp (maxSteps:=9^7) -implicitDefEqProofs only[E4.rv67,chR,msD,p0,p1,p2,s1,not_true_eq_false,not_false_eq_true,WU,V,W3,↓reduceIte,seval,reduceCtorEq];exact hgo hE
 . simp only[b,if_true,if_false,ym]at hE;delta E4.c67k11 oO oN oM oG oS oK oF oL oV oI oX oP oH oB oD oE oJ;simp (maxSteps:=9^7) -implicitDefEqProofs only[E4.rv67,chR,msD,p0,p1,p2,s1,not_true_eq_false,not_false_eq_true,WU,V,W3,↓reduceIte,seval,reduceCtorEq];exact hE
 . simp only[b,if_true,if_false,ym]at hE;delta E4.c67k11 oO oN oM oG oS oK oF oL oV oI oX oP oH oB oD oE oJ;simp (maxSteps:=9^7) -implicitDefEqProofs only[E4.rv67,chR,msD,p0,p1,p2,not_true_eq_false,not_false_eq_true,WU,V,W3,↓reduceIte,seval,reduceCtorEq];exact hE
 . simp only[b,if_true,if_false,ym]at hE;delta E4.c67k11 oO oN oM oG oS oK oF oL oV oI oX oP oH oB oD oE oJ;simp (maxSteps:=9^7) -implicitDefEqProofs only[E4.rv67,chR,msD,p0,p1,p2,s1,not_true_eq_false,not_false_eq_true,WU,V,W3,↓reduceIte,seval,reduceCtorEq];exact hgo hE
 . simp only[b,if_true,if_false,ym]at hE;delta E4.c67k11 oO oN oM oG oS oK oF oL oV oI oX oP oH oB oD oE oJ;simp (maxSteps:=9^7) -implicitDefEqProofs only[E4.rv67,chR,msD,p0,p1,p2,s1,not_true_eq_false,not_false_eq_true,WU,V,W3,↓reduceIte,seval,reduceCtorEq];exact hE
 . simp only[b,if_true,if_false,ym]at hE;delta E4.c67k11 oO oN oM oG oS oK oF oL oV oI oX oP oH oB oD oE oJ;simp (maxSteps:=9^7) -implicitDefEqProofs only[E4.rv67,chR,msD,p1,not_true_eq_false,not_false_eq_true,WU,V,W3,↓reduceIte,seval,reduceCtorEq];exact hE
 . simp only[b,if_true,if_false,ym]at hE;delta E4.c67k11 oO oN oM oG oS oK oF oL oV oI oX oP oH oB oD oE oJ;simp (maxSteps:=9^7) -implicitDefEqProofs only[E4.rv67,chR,msD,p1,p2,not_true_eq_false,not_false_eq_true,WU,V,W3,↓reduceIte,seval,reduceCtorEq];exact hE
 . simp only[b,if_true,if_false,ym]at hE;delta E4.c67k11 oO oN oM oG oS oK oF oL oV oI oX oP oH oB oD oE oJ;simp (maxSteps:=9^7) -implicitDefEqProofs only[E4.rv67,chR,msD,p1,p2,s1,not_true_eq_false,not_false_eq_true,WU,V,W3,↓reduceIte,seval,reduceCtorEq];exact hgo hE
 . simp only[b,if_true,if_false,ym]at hE;delta E4.c67k11 oO oN oM oG oS oK oF oL oV oI oX oP oH oB oD oE oJ;simp (maxSteps:=9^7) -implicitDefEqProofs only[E4.rv67,chR,msD,p1,p2,s1,s2,not_true_eq_false,not_false_eq_true,WU,V,W3,↓reduceIte,seval,reduceCtorEq];exact hgo hE
 . simp only[b,if_true,if_false,ym]at hE;delta E4.c67k11 oO oN oM oG oS oK oF oL oV oI oX oP oH oB oD oE oJ;simp (maxSteps:=9^7) -implicitDefEqProofs only[E4.rv67,chR,msD,p1,p2,s1,s2,not_true_eq_false,not_false_eq_true,WU,V,W3,↓reduceIte,seval,reduceCtorEq];exact hE
 . simp only[b,if_true,if_false,ym]at hE;delta E4.c67k11 oO oN oM oG oS oK oF oL oV oI oX oP oH oB oD oE oJ;simp (maxSteps:=9^7) -implicitDefEqProofs only[E4.rv67,chR,msD,p1,p2,s1,not_true_eq_false,not_false_eq_true,WU,V,W3,↓reduceIte,seval,reduceCtorEq];exact hgo hE
 . simp only[b,if_true,if_false,ym]at hE;delta E4.c67k11 oO oN oM oG oS oK oF oL oV oI oX oP oH oB oD oE oJ;simp (maxSteps:=9^7) -implicitDefEqProofs only[E4.rv67,chR,msD,p1,p2,s1,not_true_eq_false,not_false_eq_true,WU,V,W3,↓reduceIte,seval,reduceCtorEq];exact hE
end Go.Proofs.YtcbabnbiinkafaaGreatDoor
end
