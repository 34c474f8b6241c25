/- Part 3 of the proof of: MoveStays returns true for every input and never panics: the stays and the longest outage of a log are as the reference says, stays follow one another, and no outage takes longer than the limit; conditions: those of the given statement, that the package variables it lists hold what their initialisers lay. -/
import Derived.Test.YtcbabnbiinkafaaGreatDoorMoveStays2
set_option linter.all false
section
open Go Go.Am
open Go.Am.Dat (cells)
namespace Go.Proofs.YtcbabnbiinkafaaGreatDoor
set_option maxHeartbeats 4000000
set_option maxRecDepth 100000
theorem Ax (a b:List T3):FC Tryz.prog 57 [enc a,enc b] [] (enc (decide (a=b))) []:=by
 refine eh is57 (by simp) (fun cx hl=>dC [] 800 ?_);simp only[V,W3,↓reduceIte,seval,reduceCtorEq]at hl;have hlen:=hl.1.list;delta c57 oO oM oS oK oV oI oX oB o4 o9;simp (maxSteps:=9^7) -implicitDefEqProofs only[rv57,Ent.of0,Ent.of1,Ent.of2,Ent.of3,Ent.of4,V,W3,↓reduceIte,seval,reduceCtorEq];by_cases hab:a.length=b.length
 . rw[if_neg (by simp[hab])];refine S_for a.length (fun i=>⟨[(0,enc a),(1,enc b),(5,.s (.int .i64 i))],[]⟩) (fun i=>decide (a=b)=decide (a.drop i=b.drop i)) (by simp) ?_ (fun i hi hv=>dC [] 800 ?_)
   . simp only[V,W3,↓reduceIte,seval,reduceCtorEq] <;> simp
   . by_cases h:i < a.length
     rotate_left
     . delta c57l1 oO oN oA oM oT oR oQ oS oK oI oX oB o3 o4 o5 o9;simp (maxSteps:=9^7) -implicitDefEqProofs only[Ent.of0,Ent.of1,Ent.of2,Ent.of3,Ent.of4,V,W3,↓reduceIte,seval,reduceCtorEq];rw[if_neg (by omega),hv,zv (by omega),zv (by omega)];simp
     have g1:=wl a i h;have g2:=wl b i (by omega);have hi2:(i:Int) < (a.length:Int):=by omega
     have hi3:(i:Int) < (b.length:Int):=by omega
     have hi0:(0:Int)<=i:=by omega
     rw[eg ⟨0,0,0⟩ h,eg ⟨0,0,0⟩ (by omega:i < b.length)]at hv;delta c57l1 oO oN oA oM oT oR oQ oS oK oI oX oB o3 o4 o5 o9;simp (maxSteps:=9^7) -implicitDefEqProofs only[hJ,g1,g2,hi2,hi3,hi0,Ent.of0,Ent.of1,Ent.of2,Ent.of3,Ent.of4,V,W3,↓reduceIte,seval,reduceCtorEq];rw[hv];generalize a.getD i ⟨0,0,0⟩=x at *;generalize b.getD i ⟨0,0,0⟩=y at *;obtain⟨x1,x2,x3⟩:=x;obtain⟨y1,y2,y3⟩:=y;by_cases e1:x1=y1 <;> by_cases e2:x2=y2 <;> by_cases e3:x3=y3 <;> simp[e1,e2,e3,h,InR]
     all_goals omega
 . rw[if_pos (by omega)];grind
def ent57 : Ent Tryz.prog:=.of2 57 (fun _ _=>True) (fun a b:List T3=>enc (decide (a=b))) (fun _ _=>trivial) (fun a b _=>Ax a b)
theorem Bp (n:Nw) (c:Int) (l:List T3) (hn:NwS n):FC Tryz.prog 53 [enc n,enc c,enc l] [] (enc (gT n c l).2) []:=by
 have hdn:=gO n;by_cases hd:cellR n c=0
 rotate_left
 . rw[y7 n c l hd];refine dD [] is53 (by simp) (by simp[bk]) (by simp[an,ag]) (by simp[an,ag]) (by simp[aB]) (fun cx _ _ _=>dC [ent40] 1500 ?_);delta c53 oO oN oA oM oS oK oV oC oW oI oX oB oZ o5 o7 o8;simp (maxSteps:=9^7) -implicitDefEqProofs only[rv53,ent40,ed,hdn,hn,hd,not_true_eq_false,not_false_eq_true,WU,Ent.of0,Ent.of1,Ent.of2,Ent.of3,Ent.of4,V,W3,↓reduceIte,seval,reduceCtorEq]
 . obtain⟨net,hc⟩:=AA hd;rw[AH n c l hd];have h42:=AW n c l hn net hc;generalize rpE n c l=R at *;generalize rpS n c l=S at *;refine dD [] is53 (by simp) (by simp[bk]) (by simp[an,ag]) (by simp[an,ag]) (by simp[aB]) (fun cx _ _ _=>dC [ent40,entX 42 _ _ h42 ⟨xL _,trivial,trivial,trivial⟩] 1500 ?_);delta c53 oO oN oA oM oS oK oV oC oW oI oX oB oZ o5 o7 o8;simp (maxSteps:=9^7) -implicitDefEqProofs only[rv53,ent40,entX,ed,kN,hdn,hn,hd,not_true_eq_false,not_false_eq_true,WU,Ent.of0,Ent.of1,Ent.of2,Ent.of3,Ent.of4,V,W3,↓reduceIte,seval,reduceCtorEq]
def Ah : Ent Tryz.prog:=.of3 53 (fun n _ _=>NwS n) (fun (n:Nw) (c:Int) (l:List T3)=>enc (gT n c l).2) (fun _ _ _=>trivial) (fun n c l h=>Bp n c l h)
theorem AY (l:List T3) (a b t:Int) (h:0 < l.length/\l.length<=1000000):FC Tryz.prog 111 [.own 100000,enc a,enc b,enc t] [(100000,.row 3 138 (l.map Dat.cells))] (.own 100000) [(100000,.row 3 138 ((chg l a b t).map Dat.cells))]:=by
 refine dD [100000] is111 (by simp) (by simp[bk]) (by simp[an,ag,av]) (by simp[an,ag,av]) (by simp[aB,lk]) (fun cx _ hl _=>dC [] 800 ?_);by_cases h0:a=b
 . delta c111 oO oN oA oM oS oK oF oW oI oX oB o3 o4;simp (maxSteps:=9^7) -implicitDefEqProofs only[rv111,chg,h0,WU,Ent.of0,Ent.of1,Ent.of2,Ent.of3,Ent.of4,V,W3,↓reduceIte,seval,reduceCtorEq]
 . have hl1:(0:Int)<=(l.length:Int) - 1:=by omega
   have hl2:(l.length:Int) - 1 < (l.length:Int):=by omega
   have hl3:((l.length:Int) - 1).toNat=l.length - 1:=by omega
   have hl4:l.length - 1 < l.length:=by omega
   have hset:(l.map Dat.cells).set (l.length - 1) [C.s (.int .i64 (l.getD (l.length - 1) ⟨0,0,0⟩).x),.s (.int .i64 (l.getD (l.length - 1) ⟨0,0,0⟩).y),.s (.int .i64 t)]++[[C.s (.int .i64 b),.s (.int .i64 t),.s (.int .i64 0)]]=((jL l t)++[(⟨b,t,0⟩:T3)]).map Dat.cells:=by
    simp only[jL,yg,List.map_set] <;> rfl
   have hgd:=rH l _ hl4;delta c111 oO oN oA oM oS oK oF oW oI oX oB o3 o4;simp (maxSteps:=9^7) -implicitDefEqProofs only[rv111,chg,h0,hl1,hl2,hl3,hl4,hgd,hset,hJ,gW,fK,InR,aJ,yD,List.take_zero,yw,List.drop_nil,yq,yb,z4,List.length_set,zy,WU,Ent.of0,Ent.of1,Ent.of2,Ent.of3,Ent.of4,V,W3,↓reduceIte,seval,reduceCtorEq];omega
def xt (l:List T3) (a b t:Int) (h:0 < l.length/\l.length<=1000000):Ent Tryz.prog where
 id:=111
 tk:=[0]
 sp:=fun args chs=>some (args=[.own 100000,enc a,enc b,enc t]/\chs=[(100000,.row 3 138 (l.map Dat.cells))],.own 100000,[(100000,.row 3 138 ((chg l a b t).map Dat.cells))],[])
 ok:=by
  intro args chs pp r' chs' nk hs hp;simp only[zn,zf]at hs;obtain⟨rfl,rfl,rfl,rfl⟩:=hs;obtain⟨rfl,rfl⟩:=hp;refine⟨AY l a b t h,⟨fun k c hm=>.inr ?_,fun k cs hm=>?_,by simp[dF],fun k c hm=>?_⟩⟩
  . simp only[zl,zA,or_false,zf]at hm ⊢;exact⟨_,hm.1,rfl⟩
  . simp at hm
  . simp only[zl,zA,or_false,zf]at hm;obtain⟨_,rfl⟩:=hm;trivial
theorem Pass_d (n:Nw) (m:Ms) (t:Int) (hn:NwS n) (h:MsS m) (hl:0 < m.buf.length) (hi:ej m=true->InR .i64 (m.since+n.limit)):FC Tryz.prog 110 [enc n,enc m,enc t] [] (.tup [enc (qN n m t),enc (xq n m t)]) []:=by
 have:=FC.frz (AV n m t hn h hl hi) (x:=.sl 1 ((qN n m t).buf.map Dat.cells)) (by simp[bz,fP];intro a _;rfl);exact this
theorem xU (n:Nw):∀ (l:List T3) (w:Rw) (e:T3),xj n w (l++[e])=xz n (xj n w l) e
 |[],w,e=>rfl
 | x :: l,w,e=>xU n l _ e
def xu (l:List Gs):Prop:=∀ o∈l,(0<=o.re/\o.re<=1000000000)/\0<=o.im/\o.im<=1000000000
theorem xu.hi {l:List Gs} {t:Int} (h:xu l) (ht:0<=t/\t<=1000000000):xu (xm l t):=fun o ho=>by
 unfold xm at ho;rcases List.mem_or_eq_of_mem_set ho with q | rfl
 . exact h o q
 . refine⟨?_,ht⟩;rcases yu (l.length - 1) l.length with q | q
   . have e:l.getD (l.length - 1) ⟨0,0⟩=l[l.length - 1]:=by rw[zb,ze q];rfl
     rw[e];exact (h _ (yy q)).1
   . rw[zb,List.getElem?_eq_none q];show (0:Int)<=0/\(0:Int)<=1000000000
     omega
theorem xu.step {n:Nw} {p:Ph} {w:Rw} {e:T3} (hn:NetOk n) (a:All n p w) (h:xu w.ouw) (he:gi n p.m e=0):xu (xz n w e).ouw:=by
 have hy:=(ev_ok (sw he)).2.1;have hb:xu (xp n w e.y).ouw:=by
  unfold xp;by_cases hp:jJ n w.m e.y=true
  . rw[if_pos hp];simp only[jJ,zm,decide_eq_true_eq]at hp;have h1:=a.g.since;rw[<- a.r.m]at h1;have:=hn.lim;exact h.hi (by omega)
  . rw[if_neg hp];exact h
 unfold xz xo;generalize xp n w e.y=b at *;have h1:xu (if ej b.m=false/\ej (rf n w.m e)=true then b.ouw++[⟨e.y,0⟩]else b.ouw):=by
  split
  . intro o ho;rcases zW.1 ho with q | q
    . exact hb o q
    . rw[zg]at q;subst q;exact⟨hy,by show (0:Int)<=0;omega,by show (0:Int)<=1000000000;omega⟩
  . exact hb
 show xu (if _ then xm _ _ else _)
 split
 . exact h1.hi hy
 . exact h1
theorem xu.steps {n:Nw} (hn:NetOk n):∀ (l:List T3) (p:Ph) (w:Rw) (i:Int),All n p w->xu w.ouw->(iW n p.m l i).2=0->xu (xj n w l).ouw
 |[],p,w,i,a,o,_=>o
 | e :: l,p,w,i,a,o,h=>by
  rw[iW]at h;by_cases h0:gi n p.m e=0
  . rw[if_pos h0,<- rc]at h;exact xu.steps hn l _ _ (i+1) (a.apply hn h0) (o.step hn a h0) h
  . rw[if_neg h0]at h;exact absurd h h0
theorem xu.end {n:Nw} (hn:NetOk n) {c:Int} (hc:isC n c=true) (l:List T3) (h:(iW n (eR n c) l 0).2=0):xu (xB (xj n (xi n c) l)).2:=by
 have a:=All.steps hn l (gz n c) (xi n c) 0 (All.begin hn hc) h;have o:=xu.steps hn l (gz n c) (xi n c) 0 (All.begin hn hc) (fun o ho=>by cases ho) h;unfold xB;show xu (if _ then xm _ _ else _)
 split
 . refine o.hi ?_;rw[a.r.m];exact a.g.at_
 . exact o
theorem xG (l:List Gs) (t:Int):(l.map Dat.cells).set (l.length - 1) [C.s (.int .i64 (l.getD (l.length - 1) ⟨0,0⟩).re),.s (.int .i64 t)]=(xm l t).map Dat.cells:=by
 simp only[xm,List.map_set] <;> rfl
theorem Ay (l:List T3) (t:Int):(l.map Dat.cells).set (l.length - 1) [C.s (.int .i64 (l.getD (l.length - 1) ⟨0,0,0⟩).x),.s (.int .i64 (l.getD (l.length - 1) ⟨0,0,0⟩).y),.s (.int .i64 t)]=(jL l t).map Dat.cells:=by
 simp only[jL,List.map_set] <;> rfl
theorem xN (xs:List Gs) (i:Nat) (h:i < xs.length):List.getD (xs.map Dat.cells) i []=[C.s (.int .i64 (xs.getD i ⟨0,0⟩).re),.s (.int .i64 (xs.getD i ⟨0,0⟩).im)]:=by
 rw[zb,zb,zh,ze h];rfl
def AD (n:Nw) (m:Ms) (t:Int) (hn:NwS n) (h:MsS m) (hl:0 < m.buf.length) (hi:ej m=true->InR .i64 (m.since+n.limit)):Ent Tryz.prog:=entX 110 [enc n,enc m,enc t] (.tup [enc (qN n m t),enc (xq n m t)]) (Pass_d n m t hn h hl hi) ⟨xL _,trivial,trivial⟩
def msX (m:Ms):List C:=[.s (.int .i64 m.at_),.s (.int .i64 m.phase),.s (.int .i64 m.since),.s (.int .i64 m.serving),.s (.int .i64 m.target),.s (.int .i64 m.source),.s (.int .i64 m.path),.s (.int .i64 m.fresh),.s (.int .i64 m.got),.sl 1 (m.buf.map Dat.cells)]
theorem Br (n:Nw) (c:Int) (l:List T3) (hn:NwS n) (net:NetOk n) (hc:isC n c=true) (hl:l.length<=1000) (hok:(iW n (eR n c) l 0).2=0):FC Tryz.prog 58 [enc n,enc c,enc l] [] (.tup [enc (xB (xj n (xi n c) l)).1,enc (xB (xj n (xi n c) l)).2]) []:=by
 have hdn:=gO n;have hlim:=net.lim;have hlen0:=net.len;refine dD [] D9.is58 (by simp) (by simp[bk]) (by simp[an,ag]) (by simp[an,ag]) (by simp[aB]) (fun cx _ _ _=>dC [Ag] 1500 ?_);delta D9.c58 oO oN oA oM oR oS oK oF oL oV oC oW oI oX oB o2 o3 oZ o4 o5 o7;simp (maxSteps:=9^7) -implicitDefEqProofs only[D9.rv58,Ag,ed,kN,hdn,hn,WU,Ent.of0,Ent.of1,Ent.of2,Ent.of3,Ent.of4,V,W3,↓reduceIte,seval,reduceCtorEq];obtain⟨wf,hwf⟩:∃ wf:Nat->Rw,∀ i,wf i=xj n (xi n c) (l.take i):=⟨_,fun _=>rfl⟩;obtain⟨pf,hpf⟩:∃ pf:Nat->Ph,∀ i,pf i=jy n (gz n c) (l.take i):=⟨_,fun _=>rfl⟩;have hw0:wf 0=xi n c:=hwf 0;have hp0:pf 0=gz n c:=hpf 0;have hwe:wf l.length=xj n (xi n c) l:=by rw[hwf,yo]
 rw[<- hwe];have a0:All n (pf 0) (wf 0):=by rw[hw0,hp0];exact All.begin net hc
 have k0:PhK 0 (pf 0):=by rw[hp0];exact⟨by simp[gz],by simp[gz],by simp[gz],by simp[gz]⟩
 have s0:(iW n (wf 0).m (l.drop 0) 0).2=0:=by rw[hw0];exact hok
 have o0:(wf 0).ouw.length<=0:=by rw[hw0];exact zw _
 refine eN l.length (fun i=>[(11,.s (.int .i64 (i:Int)))]) (fun i=>[(17,.row 3 138 ((wf i).st.map Dat.cells)),(9,.row 2 93 ((wf i).ouw.map Dat.cells)),(10,.box (msX (wf i).m))]) (fun i=>All n (pf i) (wf i)/\PhK i (pf i)/\(iW n (wf i).m (l.drop i) (i:Int)).2=0/\(wf i).ouw.length<=i) ⟨a0,k0,s0,o0⟩ ?_ (fun i hi hv=>?_)
 . simp (maxSteps:=9^7) -implicitDefEqProofs only[hw0,msX,xi,zR,Ent.of0,Ent.of1,Ent.of2,Ent.of3,Ent.of4,V,W3,↓reduceIte,seval,reduceCtorEq]
   all_goals rfl
 . obtain⟨a,k,hv,ho⟩:=hv;have g:=a.g;have r:=a.r;have hst:=k.s0;have hst1:=k.s1;rw[<- r.m]at g;rw[<- r.st]at hst hst1;by_cases h:i < l.length
   . have hi2:(i:Int) < (l.length:Int):=by omega
     have hi0:(0:Int)<=i:=by omega
     have hgd:=wl l i h;have hd:=eg (d:=(⟨0,0,0⟩:T3)) h;have hge:l.getD i ⟨0,0,0⟩=l[i]:=by rw[zb,ze h];rfl
     have hnw:wf (i+1)=xz n (wf i) (l.getD i ⟨0,0,0⟩):=by rw[hwf,hwf,yI h,xU,hge]
     have hnp:pf (i+1)=kL n (pf i) (l.getD i ⟨0,0,0⟩):=by rw[hpf,hpf,yI h,m6,hge]
     rw[hd]at hv;generalize l.getD i ⟨0,0,0⟩=e at *;rw[iW]at hv;have h0:gi n (wf i).m e=0:=by
      rcases Classical.em (gi n (wf i).m e=0)with q | q
      . exact q
      . rw[if_neg q]at hv;exact absurd hv q
     rw[if_pos h0]at hv;have eta:(⟨e.x,e.y,e.z⟩:T3)=e:=rfl;have hA:xy n (wf i).m e=rf n (wf i).m e:=by rw[xy,if_neg (by simp[h0])]
     have a':All n (pf (i+1)) (wf (i+1)):=by rw[hnp,hnw];exact a.apply net (by rw[<- r.m];exact h0)
     have k':PhK (i+1) (pf (i+1)):=by rw[hnp];exact k.apply (ev_ok (sw h0)).2.1
     have hv':(iW n (wf (i+1)).m (l.drop (i+1)) ((i+1:Nat):Int)).2=0:=by
      rw[a'.r.m,hnp,rc,<- r.m];exact Aa n _ _ _ _ hv
     have S:=g.msS net;have hlen:=g.len;have hsi:=g.since;have hat:=g.at_;have hy:=(ev_ok (sw h0)).2.1;refine dC [] 800 ?_;delta D9.c58l1 oO oN oA oM oT oG oR oQ oS oK oF oL oC oW oI oX oP oB o2 o3 oZ o4 o5 o8;simp (maxSteps:=9^7) -implicitDefEqProofs only[D9.rv58,msX,hi0,hi2,h,hgd,hJ,InR,WU,Ent.of0,Ent.of1,Ent.of2,Ent.of3,Ent.of4,V,W3,↓reduceIte,seval,reduceCtorEq];refine xM [AD n (wf i).m e.y hn S (by omega) (fun _=>by simp only[InR];omega)] 800 [7] ?_;simp (maxSteps:=9^7) -implicitDefEqProofs only[xC,mFin2,xW,ml,pF,ops2,jo,reM2,oU,qO,qP,mE,finM,kE,ia,ip,gh,ft,fW,fW.fixBs,fV,ndE2,an,ag,av,aU,aF,kF,eQ,a6,bF,AD,entX,ed,kN,dY,hi0,hi2,h,hgd,hJ,InR,WU,Ent.of0,Ent.of1,Ent.of2,Ent.of3,Ent.of4,V,W3,↓reduceIte,seval,reduceCtorEq];refine⟨rfl,?_⟩;have hsl:∀ l:List T3,0 < l.length->(0:Int)<=(l.length:Int) - 1:=fun l q=>by omega
     obtain⟨b,hb⟩:∃ b,xp n (wf i) e.y=b:=⟨_,rfl⟩;obtain⟨Y,hY⟩:∃ Y,qN n (wf i).m e.y=Y:=⟨_,rfl⟩;obtain⟨x,hx⟩:∃ x,rf n (wf i).m e=x:=⟨_,rfl⟩;have hbm:b.m=Y:=by
      rw[<- hb,<- hY];unfold xp qN;split <;> rfl
     have r':RwOk n (eP n (pf i) e.y) b:=by rw[<- hb];exact r.pass net (by rw[<- r.m];omega) e.y
     have hbl:0 < b.st.length/\b.st.length<=1000000:=by
      rw[<- hb];unfold xp;split
      . have:=pA (wf i).st (wf i).m.serving (qN n (wf i).m e.y).serving ((wf i).m.since+n.limit);show 0 < (chg _ _ _ _).length/\(chg _ _ _ _).length<=1000000
        omega
      . omega
     have hN:wf (i+1)=xo b x e.y:=by rw[hnw,xz,hb,hx]
     have N1:(wf (i+1)).st=chg b.st b.m.serving x.serving e.y:=by rw[hN];rfl
     rw[hbm]at N1;have N3:(wf (i+1)).m=x:=by rw[hN];rfl
     rw[N3]at hv';have hdY:=xl Y;have hdx:=xl x;have hyes:ej Y=true->0 < b.ouw.length:=fun q=>by
      rw[<- hbm,r'.m]at q;obtain⟨_,lo,q2,_⟩:=r'.yes q;rw[q2];simp
     have hbo:b.ouw.length<=i:=by
      rw[<- hb];unfold xp;split
      . show (xm _ _).length<=i
        simp only[xm,List.length_set];exact ho
      . exact ho
     have hol:(wf (i+1)).ouw.length<=i+1:=by
      rw[hN];unfold xo;simp only;split
      . simp only[xm,List.length_set];split
        . rw[zK];simp;omega
        . omega
      . split
        . rw[zK];simp;omega
        . omega
     rw[hx]at hA;rw[hY];by_cases hp:jJ n (wf i).m e.y=true
     . have hpq:=hp;simp only[jJ,zm,decide_eq_true_eq]at hpq;have hag:xq n (wf i).m e.y=(wf i).m.since+n.limit:=by unfold xq;rw[if_pos hp]
       have hpos:(0:Int)<=(wf i).m.since+n.limit:=by omega
       have hbe:b=⟨Y,chg (wf i).st (wf i).m.serving Y.serving ((wf i).m.since+n.limit),xm (wf i).ouw ((wf i).m.since+n.limit)⟩:=by
        rw[<- hb];unfold xp;rw[if_pos hp,hY]
       have hb1:chg (wf i).st (wf i).m.serving Y.serving ((wf i).m.since+n.limit)=b.st:=by rw[hbe]
       have hb2:(xm (wf i).ouw ((wf i).m.since+n.limit)).map Dat.cells=b.ouw.map Dat.cells:=by rw[hbe]
       have hou:0 < (wf i).ouw.length:=by
        have q:=hpq.1;rw[r.m]at q;obtain⟨_,lo,q2,_⟩:=r.yes q;rw[q2];simp
       have o1:(0:Int)<=((wf i).ouw.length:Int) - 1:=by omega
       have o2:((wf i).ouw.length:Int) - 1 < ((wf i).ouw.length:Int):=by omega
       have o3:(((wf i).ouw.length:Int) - 1).toNat=(wf i).ouw.length - 1:=by omega
       have o4:(wf i).ouw.length - 1 < (wf i).ouw.length:=by omega
       have hgo:=xN (wf i).ouw _ o4;have hso:=xG (wf i).ouw ((wf i).m.since+n.limit);rw[hag];generalize (wf i).m.since+n.limit=agw at *;refine dC [xt (wf i).st (wf i).m.serving Y.serving agw ⟨hst,by omega⟩] 800 ?_;simp (maxSteps:=9^7) -implicitDefEqProofs only[D9.rv58,xt,hpos,o1,o2,o3,o4,hgo,hso,hb1,hb2,getD_gs,nc,sz_gs,aJ,InR,WU,Ent.of0,Ent.of1,Ent.of2,Ent.of3,Ent.of4,V,W3,↓reduceIte,seval,reduceCtorEq];refine⟨by omega,?_⟩;refine xM [xZ n (wf i).m e hn net g] 800 [6] ?_;simp (maxSteps:=9^7) -implicitDefEqProofs only[xC,mFin2,xW,ml,pF,ops2,jo,reM2,oU,qO,qP,mE,finM,kE,ia,ip,gh,ft,fW,fW.fixBs,fV,ndE2,an,ag,av,aU,aF,kF,eQ,a6,bF,xZ,entX,ed,kN,dY,hA,h0,hi0,hi2,h,hgd,hJ,InR,WU,Ent.of0,Ent.of1,Ent.of2,Ent.of3,Ent.of4,V,W3,↓reduceIte,seval,reduceCtorEq];refine⟨rfl,?_⟩;refine dC [xf,xt b.st Y.serving x.serving e.y hbl] 800 ?_;cases A1:ej Y <;> cases A2:ej x
       . have N2:(wf (i+1)).ouw=b.ouw:=by rw[hN];simp[xo,hbm,A1,A2]
         rw[N2]at hol;simp (maxSteps:=9^7) -implicitDefEqProofs only[D9.rv58,xf,xt,kN,hdY,hdx,N1,N2,N3,msX,gW,fK,A1,A2,InR,not_true_eq_false,not_false_eq_true,hi0,hi2,h,hgd,hJ,WU,Ent.of0,Ent.of1,Ent.of2,Ent.of3,Ent.of4,V,W3,↓reduceIte,seval,reduceCtorEq];exact⟨by omega,⟨a',k',hv',hol⟩,by omega⟩
       . have N2:(wf (i+1)).ouw=b.ouw++[⟨e.y,0⟩]:=by rw[hN];simp[xo,hbm,A1,A2]
         rw[N2]at hol;have hap:b.ouw.map Dat.cells++[[C.s (.int .i64 e.y),.s (.int .i64 0)]]=(b.ouw++[(⟨e.y,0⟩:Gs)]).map Dat.cells:=by rw[yg];rfl
         simp (maxSteps:=9^7) -implicitDefEqProofs only[D9.rv58,xf,xt,kN,hdY,hdx,N1,N2,N3,msX,gW,fK,A1,A2,hap,hi0,hi2,h,hgd,hJ,zy,InR,not_true_eq_false,not_false_eq_true,WU,Ent.of0,Ent.of1,Ent.of2,Ent.of3,Ent.of4,V,W3,↓reduceIte,seval,reduceCtorEq];exact⟨by omega,by omega,⟨a',k',hv',hol⟩,by omega⟩
       . have N2:(wf (i+1)).ouw=xm b.ouw e.y:=by rw[hN];simp[xo,hbm,A1,A2]
         rw[N2]at hol;have q0:=hyes A1;have q1:(0:Int)<=(b.ouw.length:Int) - 1:=by omega
         have q2:(b.ouw.length:Int) - 1 < (b.ouw.length:Int):=by omega
         have q3:((b.ouw.length:Int) - 1).toNat=b.ouw.length - 1:=by omega
         have q4:b.ouw.length - 1 < b.ouw.length:=by omega
         have hgo2:=xN b.ouw _ q4;have hso2:=xG b.ouw e.y;simp (maxSteps:=9^7) -implicitDefEqProofs only[D9.rv58,xf,xt,kN,hdY,hdx,N1,N2,N3,msX,gW,fK,A1,A2,q1,q2,q3,q4,hgo2,hso2,getD_gs,nc,sz_gs,aJ,hi0,hi2,h,hgd,hJ,zy,InR,not_true_eq_false,not_false_eq_true,WU,Ent.of0,Ent.of1,Ent.of2,Ent.of3,Ent.of4,V,W3,↓reduceIte,seval,reduceCtorEq];exact⟨by omega,by omega,⟨a',k',hv',hol⟩,by omega⟩
       . have N2:(wf (i+1)).ouw=b.ouw:=by rw[hN];simp[xo,hbm,A1,A2]
         rw[N2]at hol;simp (maxSteps:=9^7) -implicitDefEqProofs only[D9.rv58,xf,xt,kN,hdY,hdx,N1,N2,N3,msX,gW,fK,A1,A2,InR,not_true_eq_false,not_false_eq_true,hi0,hi2,h,hgd,hJ,WU,Ent.of0,Ent.of1,Ent.of2,Ent.of3,Ent.of4,V,W3,↓reduceIte,seval,reduceCtorEq];exact⟨by omega,⟨a',k',hv',hol⟩,by omega⟩
     . have hbe:b=wf i:=by rw[<- hb];unfold xp;rw[if_neg hp]
       subst hbe;subst hbm;have hag:xq n (wf i).m e.y=-1:=by unfold xq;rw[if_neg hp]
       rw[hag];refine dC [] 800 ?_;simp (maxSteps:=9^7) -implicitDefEqProofs only[D9.rv58,InR,WU,Ent.of0,Ent.of1,Ent.of2,Ent.of3,Ent.of4,V,W3,↓reduceIte,seval,reduceCtorEq];refine xM [xZ n (wf i).m e hn net g] 800 [6] ?_;simp (maxSteps:=9^7) -implicitDefEqProofs only[xC,mFin2,xW,ml,pF,ops2,jo,reM2,oU,qO,qP,mE,finM,kE,ia,ip,gh,ft,fW,fW.fixBs,fV,ndE2,an,ag,av,aU,aF,kF,eQ,a6,bF,xZ,entX,ed,kN,dY,hA,h0,hi0,hi2,h,hgd,hJ,InR,WU,Ent.of0,Ent.of1,Ent.of2,Ent.of3,Ent.of4,V,W3,↓reduceIte,seval,reduceCtorEq];refine⟨rfl,?_⟩;refine dC [xf,xt (wf i).st (wf i).m.serving x.serving e.y hbl] 800 ?_;cases A1:ej (wf i).m <;> cases A2:ej x
       . have N2:(wf (i+1)).ouw=(wf i).ouw:=by rw[hN];simp[xo,A1,A2]
         rw[N2]at hol;simp (maxSteps:=9^7) -implicitDefEqProofs only[D9.rv58,xf,xt,kN,hdY,hdx,N1,N2,N3,msX,gW,fK,A1,A2,InR,not_true_eq_false,not_false_eq_true,hi0,hi2,h,hgd,hJ,WU,Ent.of0,Ent.of1,Ent.of2,Ent.of3,Ent.of4,V,W3,↓reduceIte,seval,reduceCtorEq];exact⟨by omega,⟨a',k',hv',hol⟩,by omega⟩
       . have N2:(wf (i+1)).ouw=(wf i).ouw++[⟨e.y,0⟩]:=by rw[hN];simp[xo,A1,A2]
         rw[N2]at hol;have hap:(wf i).ouw.map Dat.cells++[[C.s (.int .i64 e.y),.s (.int .i64 0)]]=((wf i).ouw++[(⟨e.y,0⟩:Gs)]).map Dat.cells:=by rw[yg];rfl
         simp (maxSteps:=9^7) -implicitDefEqProofs only[D9.rv58,xf,xt,kN,hdY,hdx,N1,N2,N3,msX,gW,fK,A1,A2,hap,hi0,hi2,h,hgd,hJ,zy,InR,not_true_eq_false,not_false_eq_true,WU,Ent.of0,Ent.of1,Ent.of2,Ent.of3,Ent.of4,V,W3,↓reduceIte,seval,reduceCtorEq];exact⟨by omega,by omega,⟨a',k',hv',hol⟩,by omega⟩
       . have N2:(wf (i+1)).ouw=xm (wf i).ouw e.y:=by rw[hN];simp[xo,A1,A2]
         rw[N2]at hol;have q0:=hyes A1;have q1:(0:Int)<=((wf i).ouw.length:Int) - 1:=by omega
         have q2:((wf i).ouw.length:Int) - 1 < ((wf i).ouw.length:Int):=by omega
         have q3:(((wf i).ouw.length:Int) - 1).toNat=(wf i).ouw.length - 1:=by omega
         have q4:(wf i).ouw.length - 1 < (wf i).ouw.length:=by omega
         have hgo2:=xN (wf i).ouw _ q4;have hso2:=xG (wf i).ouw e.y;simp (maxSteps:=9^7) -implicitDefEqProofs only[D9.rv58,xf,xt,kN,hdY,hdx,N1,N2,N3,msX,gW,fK,A1,A2,q1,q2,q3,q4,hgo2,hso2,getD_gs,nc,sz_gs,aJ,hi0,hi2,h,hgd,hJ,zy,InR,not_true_eq_false,not_false_eq_true,WU,Ent.of0,Ent.of1,Ent.of2,Ent.of3,Ent.of4,V,W3,↓reduceIte,seval,reduceCtorEq];exact⟨by omega,by omega,⟨a',k',hv',hol⟩,by omega⟩
       . have N2:(wf (i+1)).ouw=(wf i).ouw:=by rw[hN];simp[xo,A1,A2]
         rw[N2]at hol;simp (maxSteps:=9^7) -implicitDefEqProofs only[D9.rv58,xf,xt,kN,hdY,hdx,N1,N2,N3,msX,gW,fK,A1,A2,InR,not_true_eq_false,not_false_eq_true,hi0,hi2,h,hgd,hJ,WU,Ent.of0,Ent.of1,Ent.of2,Ent.of3,Ent.of4,V,W3,↓reduceIte,seval,reduceCtorEq];exact⟨by omega,⟨a',k',hv',hol⟩,by omega⟩
   . have hil:i=l.length:=by omega
     subst hil;have hi2:¬ ((l.length:Nat):Int) < (l.length:Int):=by omega
     have s1:(0:Int)<=((wf l.length).st.length:Int) - 1:=by omega
     have s2:((wf l.length).st.length:Int) - 1 < ((wf l.length).st.length:Int):=by omega
     have s3:(((wf l.length).st.length:Int) - 1).toNat=(wf l.length).st.length - 1:=by omega
     have s4:(wf l.length).st.length - 1 < (wf l.length).st.length:=by omega
     have hgs:=rH (wf l.length).st _ s4;have hss:=Ay (wf l.length).st (wf l.length).m.at_;have hdm:=xl (wf l.length).m;have hyes:ej (wf l.length).m=true->0 < (wf l.length).ouw.length:=fun q=>by
      rw[r.m]at q;obtain⟨_,lo,q2,_⟩:=r.yes q;rw[q2];simp
     have E1:(xB (wf l.length)).1=jL (wf l.length).st (wf l.length).m.at_:=rfl;have E2:(xB (wf l.length)).2=if ej (wf l.length).m=true then xm (wf l.length).ouw (wf l.length).m.at_ else (wf l.length).ouw:=rfl
     refine dC [xf] 800 ?_;rw[E1,E2];cases A1:ej (wf l.length).m
     . delta D9.c58l1 oO oN oA oM oT oG oR oQ oS oK oF oL oC oW oI oX oP oB o2 o3 oZ o4 o5 o8;simp (maxSteps:=9^7) -implicitDefEqProofs only[D9.rv58,msX,xf,kN,hdm,A1,hi2,s1,s2,s3,s4,hgs,hss,hJ,gW,fK,aJ,yD,List.take_zero,yw,List.drop_nil,yq,yb,z4,List.length_set,zy,InR,WU,Ent.of0,Ent.of1,Ent.of2,Ent.of3,Ent.of4,V,W3,↓reduceIte,seval,reduceCtorEq];omega
     . have q0:=hyes A1;have q1:(0:Int)<=((wf l.length).ouw.length:Int) - 1:=by omega
       have q2:((wf l.length).ouw.length:Int) - 1 < ((wf l.length).ouw.length:Int):=by omega
       have q3:(((wf l.length).ouw.length:Int) - 1).toNat=(wf l.length).ouw.length - 1:=by omega
       have q4:(wf l.length).ouw.length - 1 < (wf l.length).ouw.length:=by omega
       have hgo2:=xN (wf l.length).ouw _ q4;have hso2:=xG (wf l.length).ouw (wf l.length).m.at_;delta D9.c58l1 oO oN oA oM oT oG oR oQ oS oK oF oL oC oW oI oX oP oB o2 o3 oZ o4 o5 o8;simp (maxSteps:=9^7) -implicitDefEqProofs only[D9.rv58,msX,xf,kN,hdm,A1,hi2,s1,s2,s3,s4,hgs,hss,q1,q2,q3,q4,hgo2,hso2,getD_gs,nc,sz_gs,hJ,gW,fK,aJ,yD,List.take_zero,yw,List.drop_nil,yq,yb,z4,List.length_set,zy,InR,WU,Ent.of0,Ent.of1,Ent.of2,Ent.of3,Ent.of4,V,W3,↓reduceIte,seval,reduceCtorEq];omega
theorem Bu (xs:List Gs) (i:Nat) (h:i < xs.length):List.getD (xs.map Dat.cells) i [C.s (.int .i64 0),.s (.int .i64 0)]=[C.s (.int .i64 (xs.getD i ⟨0,0⟩).re),.s (.int .i64 (xs.getD i ⟨0,0⟩).im)]:=by
 rw[zb,zb,zh,ze h];rfl
theorem AR (n:Nw) (w:Rw) (t:Int):(xp n w t).ouw.length=w.ouw.length:=by
 unfold xp;split
 . show (xm _ _).length=_
   simp only[xm,List.length_set]
 . rfl
theorem AS (n:Nw) (w:Rw) (e:T3):(xz n w e).ouw.length<=w.ouw.length+1:=by
 have h:=AR n w e.y;unfold xz xo;simp only;split
 . simp only[xm,List.length_set];split
   . rw[zK];simp;omega
   . omega
 . split
   . rw[zK];simp;omega
   . omega
theorem x8 (n:Nw):∀ (l:List T3) (w:Rw),(xj n w l).ouw.length<=w.ouw.length+l.length
 |[],w=>by simp[xj]
 | e :: l,w=>by
  have h1:=x8 n l (xz n w e);have h2:=AS n w e;rw[xj,zQ];omega
theorem Bl (n:Nw) (c:Int) (l:List T3):(xB (xj n (xi n c) l)).2.length<=l.length:=by
 have h:=x8 n l (xi n c);have h0:(xi n c).ouw.length=0:=rfl;unfold xB;simp only;split
 . simp only[xm,List.length_set];omega
 . omega
theorem Aw (haw:Awake) (n:Nw) (c:Int) (l:List T3):FC Tryz.prog 9 [enc n,enc c,enc l] [] (enc true) []:=by
 have hdn:=gO n;by_cases hfew:few n=true
 rotate_left
 . have hf:few n=false:=by simpa using hfew
   refine dD [] is9 (by simp) (by simp[bk]) (by simp[an,ag]) (by simp[an,ag]) (by simp[aB]) (fun cx _ _ _=>dC [ent21 haw,ent34] 1500 ?_);delta c9 oO oN oA oM oG oS oK oV oC oI oX oP oH oB oD oE oJ o5 o7 o8 o9;simp (maxSteps:=9^7) -implicitDefEqProofs only[rv9,ent21,ent34,ed,hdn,hf,not_true_eq_false,WU,Ent.of0,Ent.of1,Ent.of2,Ent.of3,Ent.of4,V,W3,↓reduceIte,seval,reduceCtorEq]
 by_cases hsh:l.length<=40\/(200 < l.length/\l.length<=202)
 rotate_left
 . have hs:=decide_eq_false hsh;refine dD [] is9 (by simp) (by simp[bk]) (by simp[an,ag]) (by simp[an,ag]) (by simp[aB]) (fun cx _ _ _=>dC [ent21 haw,ent34,xY] 1500 ?_);delta c9 oO oN oA oM oG oS oK oV oC oI oX oP oH oB oD oE oJ o5 o7 o8 o9;simp (maxSteps:=9^7) -implicitDefEqProofs only[rv9,ent21,ent34,xY,ed,hdn,hfew,hs,not_true_eq_false,WU,Ent.of0,Ent.of1,Ent.of2,Ent.of3,Ent.of4,V,W3,↓reduceIte,seval,reduceCtorEq]
 have hs:=decide_eq_true hsh;have hn:=few_nws hfew;have hl:l.length<=1000000:=by omega
 have h55:=Stays_c n c l hn;have h56:=AU n c l hn;by_cases hd:(gT n c l).2=0
 rotate_left
 . rw[if_neg hd]at h55 h56;refine dD [] is9 (by simp) (by simp[bk]) (by simp[an,ag]) (by simp[an,ag]) (by simp[aB]) (fun cx _ _ _=>dC [ent21 haw,ent34,xY,ent37,Af,Ah,entX 55 _ _ h55 ⟨trivial,trivial,trivial⟩,entX 56 _ _ h56 ⟨trivial,trivial,trivial⟩] 1500 ?_);delta c9 oO oN oA oM oG oS oK oV oC oI oX oP oH oB oD oE oJ o5 o7 o8 o9;simp (maxSteps:=9^7) -implicitDefEqProofs only[rv9,ent21,ent34,xY,ent37,Af,Ah,entX,ed,hdn,hfew,hs,hn,hl,hd,not_true_eq_false,not_false_eq_true,WU,Ent.of0,Ent.of1,Ent.of2,Ent.of3,Ent.of4,V,W3,↓reduceIte,seval,reduceCtorEq]
 have hcell:cellR n c=0:=by
  rcases Classical.em (cellR n c=0)with q | q
  . exact q
  . rw[y7 n c l q]at hd;exact absurd hd q
 obtain⟨net,hc⟩:=AA hcell;have hok:=hd;rw[AH n c l hcell]at hok;have h3:=(Bk hok).2.2;have h40:l.length<=40:=by
  have:=(Bk hok).2.1;omega
 obtain⟨q1,q2,q3,q4,_⟩:=Bn net hc l (by omega) h3;have h58:=Br n c l hn net hc (by omega) h3;have hou:=xu.end net hc l h3;have houl:=Bl n c l;rw[if_pos hd]at h55 h56;rw[<- q1]at h58;generalize (xB (xj n (xi n c) l)).2=ouw at *;generalize (lR n c l).stays=st at *;generalize (lR n c l).longest=lgw at *;refine dD [] is9 (by simp) (by simp[bk]) (by simp[an,ag]) (by simp[an,ag]) (by simp[aB]) (fun cx _ _ _=>dC [ent21 haw,ent34,xY,ent37,Af,Ah,entX 55 _ _ h55 ⟨trivial,trivial,trivial⟩,entX 56 _ _ h56 ⟨trivial,trivial,trivial⟩,entX 58 _ _ h58 ⟨trivial,trivial,trivial⟩] 1500 ?_);delta c9 oO oN oA oM oG oS oK oV oC oI oX oP oH oB oD oE oJ o5 o7 o8 o9;simp (maxSteps:=9^7) -implicitDefEqProofs only[rv9,ent21,ent34,xY,ent37,Af,Ah,entX,ed,hdn,hfew,hs,hn,hl,hd,not_true_eq_false,not_false_eq_true,WU,Ent.of0,Ent.of1,Ent.of2,Ent.of3,Ent.of4,V,W3,↓reduceIte,seval,reduceCtorEq];refine eN ouw.length (fun i=>[(14,.s (.int .i64 (xw (ouw.take i)))),(15,.s (.int .i64 (i:Int)))]) (fun _=>[]) (fun _=>True) trivial ?_ (fun i hi _=>dC [ent47,ent57] 1500 ?_)
 . simp (maxSteps:=9^7) -implicitDefEqProofs only[Ent.of0,Ent.of1,Ent.of2,Ent.of3,Ent.of4,V,W3,↓reduceIte,seval,reduceCtorEq]
   all_goals rfl
 . by_cases h:i < ouw.length
   . have hi2:(i:Int) < (ouw.length:Int):=by omega
     have hi0:(0:Int)<=i:=by omega
     have hgd:=Bu ouw i h;have hge:ouw.getD i ⟨0,0⟩=ouw[i]:=by rw[zb,ze h];rfl
     have hb:=hou _ (yy h);have hnx:xw (ouw.take (i+1))=max (xw (ouw.take i)) ((ouw.getD i ⟨0,0⟩).im - (ouw.getD i ⟨0,0⟩).re):=by
      rw[yI h,xJ,hge]
     rw[<- hge]at hb;generalize ouw.getD i ⟨0,0⟩=o at *;generalize xw (ouw.take i)=M at *;have hmx:(if o.im - o.re > M then o.im - o.re else M)=max M (o.im - o.re):=by omega
     delta c9l1 oO oN oA oM oT oR oQ oS oK oF oL oX oB o2 o4;simp (maxSteps:=9^7) -implicitDefEqProofs only[ent47,ent57,hi0,hi2,h,hgd,hnx,hmx,sz_gs,InR,WU,Ent.of0,Ent.of1,Ent.of2,Ent.of3,Ent.of4,V,W3,↓reduceIte,seval,reduceCtorEq];exact⟨by omega,by omega,by omega⟩
   . have hi2:¬ (i:Int) < (ouw.length:Int):=by omega
     have hil:i=ouw.length:=by omega
     subst hil;have hmx:xw (ouw.take ouw.length)=lgw:=by rw[yo];exact q2.symm
     delta c9l1 oO oN oA oM oT oR oQ oS oK oF oL oX oB o2 o4;simp (maxSteps:=9^7) -implicitDefEqProofs only[rv9,ent47,ent57,ed,hdn,hn,hi2,hmx,q3,q4,InR,not_true_eq_false,not_false_eq_true,WU,Ent.of0,Ent.of1,Ent.of2,Ent.of3,Ent.of4,V,W3,↓reduceIte,seval,reduceCtorEq]
end Go.Proofs.YtcbabnbiinkafaaGreatDoor
end
section
open Go Go.Am
open Go.Am.Dat (cells)
namespace Go.Proofs.YtcbabnbiinkafaaGreatDoor
open Go.ChangeShapes Go.WideShapes Go.ChangeAt Go.RowKit
open Go.ChangeMaps (open_string shut_string)
set_option maxRecDepth 100000
theorem rEv : ReadsP Tryz.prog 83 T3 (fun _=>True):=by
 refine⟨by kernel_rfl,by decide,fun en w sp fuel cs x h=>?_⟩;obtain⟨l,a0,p0,e0,h0⟩:=lY rInt Tryz.underlying83 h 0 rfl rfl;obtain⟨_,a1,p1,e1,h1⟩:=lY rInt Tryz.underlying83 h 1 rfl rfl;obtain⟨_,a2,p2,e2,h2⟩:=lY rInt Tryz.underlying83 h 2 rfl rfl;refine⟨⟨a0,a1,a2⟩,trivial,rfl,l.trans (by kernel_rfl),fun j c hj=>?_⟩
 match j,hj with
 | 0,hj=>cases hj;exact h0 0 _ rfl
 | 1,hj=>cases hj;exact h1 0 _ rfl
 | 2,hj=>cases hj;exact h2 0 _ rfl
theorem rEvs : ReadsP Tryz.prog 48 (List T3) (fun l=>∀ a∈l,True):=ReadsP.list rEv Tryz.underlying48 (by kernel_rfl)
theorem lifted9 (os:Os) (started:os.Started) (H:Type) (en:TypeId×Value->H) :
 ReturnsInHanded {} Tryz.checked os 9 .any (fun w args=>(Rows.moveStaysSpec.pre en Tryz.prog Tryz.f9 Rows.moveStaysRow.domain false w args/\laidMetH Tryz.prog Rows.moveStaysRow.laid w)/\sizedMet en Tryz.prog Tryz.f9 (OpenSpec.ofChange Rows.moveStaysSpec) false w args)
  (Rows.moveStaysSpec.post en Tryz.prog Tryz.f9 false true false false):=by
 refine returnsInHanded_of_change_and (C:=Tryz.checked) (X:=fun w _=>laidMetH Tryz.prog Rows.moveStaysRow.laid w) (fun _ _ _ hh h=>h.of_heap hh) ownOk started (by kernel_rfl) Tryz.func9
  (ChangeSpec.witness_shaped (enc:=en) (C:=Tryz.checked) (os:=os) (X:=fun w _=>laidMetH Tryz.prog Rows.moveStaysRow.laid w) false (World.doorLaid Tryz.prog 89 os) #[.agg #[.slice none 0 0,.slice none 0 0,.int .i64 0],.int .i64 0,.slice none 0 0] 8 rfl (doorShaped os _) (by kernel_rfl) (by kernel_rfl) (by kernel_rfl) (door_met os _)) ?_
 intro W base args ds gs before hval0 hW hcnd hsz hL _;have hval:∀ (j:Nat) t v,Tryz.f9.params[j]? = some t->args[j]? = some v->Value.okWide Tryz.prog W .any base t v:=hval0;have hW':=hW;obtain⟨p,q,hA0,hV,rfl,hfz,hnd⟩:=hW;have hA:DataW.TrodAll en Tryz.prog W 0 (fun _=>true) true Tryz.f9.params.toList args.toList ds p:=hA0;rw[Tryz.params9]at hA hval;obtain⟨v0,vs0,d0w,ds0,p0,q0,hargs,rfl,rfl,h0,r0w⟩:=trodAll_cons hA;obtain⟨v1,vs1,d1,ds1,p1,q1,rfl,rfl,rfl,h1,r1⟩:=trodAll_cons r0w;obtain⟨v2,vs2,d2,ds2,p2,q2,rfl,rfl,rfl,h2,r2⟩:=trodAll_cons r1;obtain⟨rfl,rfl,rfl⟩:=trodAll_nil r2;obtain rfl:args=#[v0,v1,v2]:=by cases args;simp_all
 obtain⟨rfl,rfl⟩:=trodVars_none hV;have lt0:∀ x∈p0,x.block < W.heap.size:=by obtain⟨m,hm⟩:=h0;exact DataW.trod_lt m _ _ _ hm
 have lt2:∀ x∈p2,x.block < W.heap.size:=by obtain⟨m,hm⟩:=h2;exact DataW.trod_lt m _ _ _ hm
 obtain⟨x0,g0,hx0⟩:=rNw.argS rfl Tryz.underlying47 (hval 0 47 v0 rfl rfl) h0;obtain⟨x1,rfl,rfl,rfl,w1⟩:=open_int Tryz.underlying3 (hval 1 3 v1 rfl rfl) h1;obtain⟨x2,g2,hx2⟩:=rEvs.arg Tryz.underlying48 (hval 2 48 v2 rfl rfl) h2;clear hA0 hval0;refine (law_walkG (Aw awake_c x0 x1 x2) (W:=W) (vs:=#[v0,.int .i64 x1,v2]) (glAll hL) rfl (fun j c hj E=>?_)).mono fun e W' ⟨he,bel⟩=>?_
 . match j,hj with
   | 0,hj=>cases hj;exact hx0 E
   | 1,hj=>cases hj;exact .d (.s _)
   | 2,hj=>cases hj;exact hx2 E
 . subst he;exact⟨_,rfl,_,_,_,[],_,[],hW',trodAll_mk1 (shut_bool Tryz.underlying4 _),(trodAll_cons_mk (Below.trod laidOut (by kernel_rfl) (of_decide_eq_true (by kernel_rfl)) h0 bel lt0) (trodAll_cons_mk (shut_int Tryz.underlying3 w1) (trodAll_cons_mk (Below.trod laidOut (by kernel_rfl) (of_decide_eq_true (by kernel_rfl)) h2 bel lt2) trodAll_mk0))),rfl,bel.frame _,fun h=>by cases h⟩
theorem jPlace9 : (Rows.moveStaysRow.inPlace == Tryz.prog.inPlace 9)=true:=by kernel_rfl
theorem jUnf9 : (Rows.moveStaysRow.unfollowed == Tryz.prog.unfollowed 9)=true:=by kernel_rfl
theorem jRec9 : (Rows.moveStaysRow.recurses == Tryz.prog.recurses 9)=true:=by kernel_rfl
theorem jNamed9 : (Rows.moveStaysRow.named == Tryz.prog.varsNamed 9)=true:=by kernel_rfl
theorem jKeys9 : (Rows.moveStaysRow.plainKeys == Tryz.prog.plainKeys)=true:=jKeys
theorem jLift9 : (Rows.moveStaysRow.lifted == Tryz.prog.liftsFinal)=true:=jLift
theorem jMake9 : (Tryz.prog.make == some Rows.moveStaysRow.make)=true:=jMake
theorem jVeil9 : Rows.moveStaysRow.veiledFits Tryz.prog Tryz.f9.params.toList (Tryz.f9.params.toList++Rows.moveStaysSpec.plain.varTypes Tryz.prog++Tryz.f9.resultTypes.toList)=true:=by kernel_rfl
end Go.Proofs.YtcbabnbiinkafaaGreatDoor
end
