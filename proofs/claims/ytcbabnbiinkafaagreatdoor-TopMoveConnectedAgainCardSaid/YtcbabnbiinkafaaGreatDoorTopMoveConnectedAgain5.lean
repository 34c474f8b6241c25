/- Part 5 of the proof of: TopMoveConnectedAgain returns true for every input and never panics: a phone that fails at any time is connected again within the limit, to its own cell or to the first one, its outage is as long, and what waited waits still; conditions: those of the given statement, that the package variables it lists hold what their initialisers lay. -/
import Derived.Test.YtcbabnbiinkafaaGreatDoorTopMoveConnectedAgain4
set_option linter.all false
section
open Go Go.Am
open Go.Am.Dat (cells)
namespace Go.Proofs.YtcbabnbiinkafaaGreatDoor
set_option maxHeartbeats 4000000
set_option maxRecDepth 100000
theorem rst_7 (n:Nw) (m:Ms) (hm:MsB m) (hf:0<=m.fresh/\m.fresh<=1000000) (hg:0<=m.got/\m.got<=m.fresh) (cx:Cx) (E:Int) (tgw srw:Bool) (htg:tgw=!decide (m.target=-1)) (hsr:srw=!decide (m.source=-1)) (hE:(if pkL m.fresh [] m.buf≠0 then pkL m.fresh [] m.buf else if wz m=false then 23 else if wI m=false then 14 else 0)=E):SG Tryz.prog cx (cz [RV.tmp 4] [] (enc E) []) [It.c E4.c67k7.cut] ⟨[(3,.ptr 3 0),(5,.s (.bool tgw)),(6,.s (.bool srw))],chR n m⟩:=by
 have hml:=hm.l;have hdm:=vR m;refine iJ (dC [] 500 ?_);delta E4.c67k7 oS oK oV oX;simp (maxSteps:=9^7) -implicitDefEqProofs only[E4.rv67,chR,msD,InR,WU,V,W3,↓reduceIte,seval,reduceCtorEq];refine fI m.buf.length (fun i=>[(8,.s (.int .i64 (i:Int)))]) (fun _=>[]) (fun i=>pkL m.fresh [] m.buf=pkL m.fresh (m.buf.take i).flatten (m.buf.drop i)) rfl ?_ (fun i hi hv=>dC [] 800 ?_)
 . simp (maxSteps:=9^7) -implicitDefEqProofs only[V,W3,↓reduceIte,seval,reduceCtorEq]
   all_goals simp
 . by_cases h:i < m.buf.length
   . have hi2:(i:Int) < (m.buf.length:Int):=by omega
     have hi0:(0:Int)<=i:=by omega
     have hile:=eq_true (show (i:Int)<=(m.buf.length:Int) by omega);have hgx:List.getD (m.buf.map Dat.cells) i [C.sl 0 []]=[C.sl 1 ((m.buf.getD i []).map Dat.cells)]:=by
      rw[zb,zb,zh,ze h];rfl
     have hfs:=xq h;rw[fJ [] h,pkL]at hv;rw[<- hfs]at hv;have hll:(m.buf.getD i []).length<=1000:=by
      rw[zb,ze h];exact hm.r _ (yy h)
     have hwh:=fun v=>xZ (m.buf.take i) v 0
     generalize m.buf.getD i []=l at *;delta E4.c67l2 oO oN oA oM oR oS oK oF oL oV oX oB o0 o4;simp (maxSteps:=9^7) -implicitDefEqProofs only[E4.rv67,hi0,hi2,h,hgx,zy,InR,WU,V,W3,↓reduceIte,seval,reduceCtorEq];generalize hS:(m.buf.take i).flatten=seen at *;refine fI l.length (fun k=>[(10,.s (.int .i64 (k:Int)))]) (fun _=>[]) (fun k=>we m.fresh seen (-1) l=we m.fresh seen (if k=0 then -1 else l.getD (k - 1) 0) (l.drop k)) rfl ?_ (fun k hk hw=>dC [vQ,wF] 800 ?_)
     . simp (maxSteps:=9^7) -implicitDefEqProofs only[V,W3,↓reduceIte,seval,reduceCtorEq]
       all_goals simp
     . by_cases hkl:k < l.length
       . have hk2:(k:Int) < (l.length:Int):=by omega
         have hk0:(0:Int)<=k:=by omega
         rw[yZ hkl]at hw;obtain⟨u,hu⟩:∃ u,l.getD k 0=u:=⟨_,rfl⟩;rw[hu]at hw;have hgl:List.getD (l.map Dat.cells) k [C.s (.int .i64 0)]=[C.s (.int .i64 u)]:=by
          rw[zb,zh,ze hkl,<- hu,zb,ze hkl];rfl
         have hgp:∀ j,j < l.length->List.getD (l.map Dat.cells) j [C.s (.int .i64 0)]=[C.s (.int .i64 (l.getD j 0))]:=fun j hj=>by
          rw[zb,zh,ze hj,zb,ze hj];rfl
         by_cases hr:0<=u/\u < m.fresh
         rotate_left
         . rw[if_pos hr]at hw;rw[hw,if_pos (by decide)]at hv;rw[hv,if_pos (by decide)]at hE;subst hE;have hwi:=eq_false (show ¬ (0<=u/\u<=m.fresh - 1) by omega);delta E4.c67l1 oO oN oA oM oT oG oR oQ oS oK oF oL oV oI oX oB oD oJ o1 o4 o5;simp (maxSteps:=9^7) -implicitDefEqProofs only[E4.rv67,vQ,hwi,h,hi0,hi2,hk0,hk2,hkl,hgl,hgx,zy,InR,not_true_eq_false,not_false_eq_true,WU,Ent.of3,V,W3,↓reduceIte,seval,reduceCtorEq];omega
         rw[if_neg (fun q=>q hr)]at hw;have hwi:=eq_true (show (0<=u/\u<=m.fresh - 1) by omega);by_cases ho:u<=(if k=0 then -1 else l.getD (k - 1) 0)
         . have hk00:¬ k=0:=fun q=>by
            rw[if_pos q]at ho;omega
           rw[if_pos ho]at hw;rw[hw,if_pos (by decide)]at hv;rw[hv,if_pos (by decide)]at hE;subst hE;rw[if_neg hk00]at ho;have hgt:=eq_true ho;have hkI:=eq_true (show (0:Int) < (k:Int) by omega);have e1:(k:Int) - 1=((k - 1:Nat):Int):=by omega
           have e2:(0:Int)<=((k - 1:Nat):Int):=by omega
           have e3:((k - 1:Nat):Int) < (l.length:Int):=by omega
           have e4:k - 1 < l.length:=by omega
           have hgl1:=hgp (k - 1) e4;delta E4.c67l1 oO oN oA oM oT oG oR oQ oS oK oF oL oV oI oX oB oD oJ o1 o4 o5;simp (maxSteps:=9^7) -implicitDefEqProofs only[E4.rv67,vQ,hwi,hgt,hkI,e1,e2,e3,e4,hgl1,h,hi0,hi2,hk0,hk2,hkl,hgl,hgx,zy,InR,not_true_eq_false,not_false_eq_true,WU,Ent.of3,V,W3,↓reduceIte,seval,reduceCtorEq];exact⟨by omega,by omega⟩
         rw[if_neg ho]at hw;have hord:k=0\/(¬ k=0/\(u<=l.getD (k - 1) 0)=False):=by
          by_cases q:k=0
          . exact .inl q
          . rw[if_neg q]at ho;exact .inr ⟨q,eq_false ho⟩
         by_cases hsn:u∈seen
         . rw[if_pos hsn]at hw;rw[hw,if_pos (by decide)]at hv;rw[hv,if_pos (by decide)]at hE;subst hE;have hwn:=eq_true ((hwh u).2 hsn);rcases hord with hk00 | ⟨hk00,hgt⟩
           . have hkI:=eq_false (show ¬ (0:Int) < (k:Int) by omega);delta E4.c67l1 oO oN oA oM oT oG oR oQ oS oK oF oL oV oI oX oB oD oJ o1 o4 o5;simp (maxSteps:=9^7) -implicitDefEqProofs only[E4.rv67,vQ,wF,qD,hdm,hml,hile,hwi,hkI,hwn,h,hi0,hi2,hk0,hk2,hkl,hgl,hgx,zy,InR,not_true_eq_false,not_false_eq_true,WU,Ent.of3,V,W3,↓reduceIte,seval,reduceCtorEq];omega
           . have hkI:=eq_true (show (0:Int) < (k:Int) by omega);have e1:(k:Int) - 1=((k - 1:Nat):Int):=by omega
             have e2:(0:Int)<=((k - 1:Nat):Int):=by omega
             have e3:((k - 1:Nat):Int) < (l.length:Int):=by omega
             have e4:k - 1 < l.length:=by omega
             have hgl1:=hgp (k - 1) e4;delta E4.c67l1 oO oN oA oM oT oG oR oQ oS oK oF oL oV oI oX oB oD oJ o1 o4 o5;simp (maxSteps:=9^7) -implicitDefEqProofs only[E4.rv67,vQ,wF,qD,hdm,hml,hile,hwi,hkI,hwn,hgt,e1,e2,e3,e4,hgl1,h,hi0,hi2,hk0,hk2,hkl,hgl,hgx,zy,InR,not_true_eq_false,not_false_eq_true,WU,Ent.of3,V,W3,↓reduceIte,seval,reduceCtorEq];exact⟨by omega,by omega⟩
         . rw[if_neg hsn]at hw;have hwn:=eq_false (fun q=>hsn ((hwh u).1 q));have hnx:we m.fresh seen (-1) l=we m.fresh seen (if k+1=0 then -1 else l.getD (k+1 - 1) 0) (l.drop (k+1)):=by
            rw[if_neg (by omega),Nat.add_sub_cancel,hu];exact hw
           rcases hord with hk00 | ⟨hk00,hgt⟩
           . have hkI:=eq_false (show ¬ (0:Int) < (k:Int) by omega);delta E4.c67l1 oO oN oA oM oT oG oR oQ oS oK oF oL oV oI oX oB oD oJ o1 o4 o5;simp (maxSteps:=9^7) -implicitDefEqProofs only[E4.rv67,vQ,wF,qD,hdm,hml,hile,hwi,hkI,hwn,h,hi0,hi2,hk0,hk2,hkl,hgl,hgx,zy,InR,not_true_eq_false,not_false_eq_true,WU,Ent.of3,V,W3,↓reduceIte,seval,reduceCtorEq];exact⟨by omega,by omega,hu ▸ hw,by omega⟩
           . have hkI:=eq_true (show (0:Int) < (k:Int) by omega);have e1:(k:Int) - 1=((k - 1:Nat):Int):=by omega
             have e2:(0:Int)<=((k - 1:Nat):Int):=by omega
             have e3:((k - 1:Nat):Int) < (l.length:Int):=by omega
             have e4:k - 1 < l.length:=by omega
             have hgl1:=hgp (k - 1) e4;delta E4.c67l1 oO oN oA oM oT oG oR oQ oS oK oF oL oV oI oX oB oD oJ o1 o4 o5;simp (maxSteps:=9^7) -implicitDefEqProofs only[E4.rv67,vQ,wF,qD,hdm,hml,hile,hwi,hkI,hwn,hgt,e1,e2,e3,e4,hgl1,h,hi0,hi2,hk0,hk2,hkl,hgl,hgx,zy,InR,not_true_eq_false,not_false_eq_true,WU,Ent.of3,V,W3,↓reduceIte,seval,reduceCtorEq];exact⟨by omega,by omega,by omega,hu ▸ hw,by omega⟩
       . have hke:k=l.length:=by omega
         subst hke;have hk2:¬ ((l.length:Nat):Int) < (l.length:Int):=by omega
         rw[List.drop_length,we]at hw;rw[hw,if_neg (fun q=>q rfl)]at hv;delta E4.c67l1 oO oN oA oM oT oG oR oQ oS oK oF oL oV oI oX oB oD oJ o1 o4 o5;simp (maxSteps:=9^7) -implicitDefEqProofs only[E4.rv67,hk2,InR,WU,V,W3,↓reduceIte,seval,reduceCtorEq];exact⟨by omega,h,hv,by omega⟩
   . have hi2:¬ (i:Int) < (m.buf.length:Int):=by omega
     have hie:i=m.buf.length:=by omega
     rw[hie,List.drop_length,pkL]at hv;rw[hv,if_neg (fun q=>q rfl)]at hE;delta E4.c67l2 oO oN oA oM oR oS oK oF oL oV oX oB o0 o4;simp (maxSteps:=9^7) -implicitDefEqProofs only[E4.rv67,hi2,InR,WU,V,W3,↓reduceIte,seval,reduceCtorEq];exact rst_6 n m hm hf hg cx E tgw srw htg hsr hE
theorem rst_8 (n:Nw) (m:Ms) (hm:MsB m) (hf:0<=m.fresh/\m.fresh<=1000000) (hg:0<=m.got/\m.got<=m.fresh) (hp:fc m.buf<=1000000000) (cx:Cx) (E:Int) (tgw srw:Bool) (htg:tgw=!decide (m.target=-1)) (hsr:srw=!decide (m.source=-1)) (hE:pkE m=E):SG Tryz.prog cx (cz [RV.tmp 4] [] (enc E) []) [It.c E4.c67k8.cut] ⟨[(3,.ptr 3 0),(5,.s (.bool tgw)),(6,.s (.bool srw))],chR n m⟩:=by
 have hml:=hm.l;have hdm:=vR m;unfold pkE at hE;have hpk:=mK m.buf;refine iJ (dC [xn] 500 ?_);by_cases h60:60 < m.buf.flatten.length
 . rw[if_pos h60]at hE;subst hE;have h60':=eq_true (show fc m.buf > 60 by omega);delta E4.c67k8 oO oN oS oK oV oC oI oX oB o5;simp (maxSteps:=9^7) -implicitDefEqProofs only[E4.rv67,xn,qD,hdm,hml,hp,chR,msD,h60',not_true_eq_false,not_false_eq_true,WU,Ent.of1,V,W3,↓reduceIte,seval,reduceCtorEq]
 . rw[if_neg h60]at hE;have h60':=eq_false (show ¬ fc m.buf > 60 by omega);delta E4.c67k8 oO oN oS oK oV oC oI oX oB o5;simp (maxSteps:=9^7) -implicitDefEqProofs only[E4.rv67,xn,qD,hdm,hml,hp,chR,msD,h60',not_true_eq_false,not_false_eq_true,WU,Ent.of1,V,W3,↓reduceIte,seval,reduceCtorEq];exact rst_7 n m hm hf hg cx E tgw srw htg hsr hE
theorem rst_9 (n:Nw) (m:Ms) (hm:MsB m) (net:NetOk n) (hlen:m.buf.length=n.cells.length) (q2:rgB m=true) (q3:msB n m=true) (cx:Cx) (E:Int) (tgw srw:Bool) (htg:tgw=!decide (m.target=-1)) (hsr:srw=!decide (m.source=-1)) (hE:(if stB n m=false then 22 else pkE m)=E):SG Tryz.prog cx (cz [RV.tmp 4] [] (enc E) []) [It.c E4.c67k9.cut] ⟨[(2,.ptr 2 0),(3,.ptr 3 0),(5,.s (.bool tgw)),(6,.s (.bool srw))],chR n m⟩:=by
 have hml:=hm.l;have hdm:=vR m;have q2':=q2;simp only[rgB,zm,decide_eq_true_eq]at q2';obtain⟨⟨⟨r1,r2⟩,r3⟩,r4⟩:=q2';have hlim:=net.lim;have hI:(-9223372036854775808<=m.since+n.limit/\m.since+n.limit<=9223372036854775807):=by omega
 simp only[msB,zm,zV,decide_eq_true_eq]at q3;have hso:srw=true->0<=m.source/\m.source < (m.buf.length:Int)/\m.source.toNat < m.buf.length:=fun h=>by
  rcases q3.2 with h2 | h2
  . rw[h2]at hsr;rw[hsr]at h;cases h
  . have:=fH h2;rw[hlen];omega
 have hpk:fc m.buf<=1000000000:=by
  rw[mK];have h1:=yV m.buf 1000 hm.r;have h2:=net.len;have:m.buf.length*1000<=6*1000:=zB _ (by omega);omega
 have hgo:=rst_8 n m hm r3 r4 hpk cx E tgw srw htg hsr;have hst:stB n m=(!(ed m && decide (m.since+n.limit<=m.at_)) && !(srw && decide (m.path=m.serving) && (dO m m.source).isEmpty)):=by rw[hsr];rfl
 refine iJ (dC [vP] 500 ?_);have hc:(ed m=true/\(m.since+n.limit<=m.at_)=True/\stB n m=false)\/((ed m=false\/(ed m=true/\(m.since+n.limit<=m.at_)=False))/\stB n m=!(srw && decide (m.path=m.serving) && (dO m m.source).isEmpty)):=by
  rw[hst];cases ed m <;> rcases Classical.propComplete (m.since+n.limit<=m.at_)with h | h <;> simp[h]
 rcases hc with⟨a1,a2,a3⟩ | ⟨a0,a3⟩
 . rw[if_pos a3]at hE;subst hE;delta E4.c67k9 oO oN oM oG oS oK oV oC oI oX oP oH oD oE oJ o0 o5;simp (maxSteps:=9^7) -implicitDefEqProofs only[E4.rv67,vP,qD,hdm,hI,chR,msD,a1,a2,InR,not_true_eq_false,not_false_eq_true,WU,Ent.of1,V,W3,↓reduceIte,seval,reduceCtorEq]
 . cases hs:srw
   . subst hs;have h1:stB n m=true:=by rw[a3];rfl
     rw[if_neg (by simp[h1])]at hE;rcases a0 with a1 | ⟨a1,a2⟩
     . delta E4.c67k9 oO oN oM oG oS oK oV oC oI oX oP oH oD oE oJ o0 o5;simp (maxSteps:=9^7) -implicitDefEqProofs only[E4.rv67,vP,qD,hdm,hI,chR,msD,a1,InR,not_true_eq_false,not_false_eq_true,WU,Ent.of1,V,W3,↓reduceIte,seval,reduceCtorEq];exact hgo hE
     . delta E4.c67k9 oO oN oM oG oS oK oV oC oI oX oP oH oD oE oJ o0 o5;simp (maxSteps:=9^7) -implicitDefEqProofs only[E4.rv67,vP,qD,hdm,hI,chR,msD,a1,a2,InR,not_true_eq_false,not_false_eq_true,WU,Ent.of1,V,W3,↓reduceIte,seval,reduceCtorEq];exact hgo hE
   . subst hs;obtain⟨i0,i2,i3⟩:=hso rfl;have hgx:List.getD (m.buf.map Dat.cells) m.source.toNat [C.sl 0 []]=[C.sl 1 ((dO m m.source).map Dat.cells)]:=by
      rw[dO,zb,zb,zh,ze i3];rfl
     have hb:(((dO m m.source).length:Int)=0)=((dO m m.source).isEmpty=true):=by
      cases dO m m.source <;> simp <;> omega
     have hc2:((dO m m.source).isEmpty=false/\stB n m=true)\/((dO m m.source).isEmpty=true/\(m.path=m.serving)=True/\stB n m=false)\/((dO m m.source).isEmpty=true/\(m.path=m.serving)=False/\stB n m=true):=by
      rw[a3];cases (dO m m.source).isEmpty <;> rcases Classical.propComplete (m.path=m.serving)with h | h <;> simp[h]
     clear hst a3;generalize dO m m.source=B at *;rcases hc2 with⟨b1,b3⟩ | ⟨b1,b2,b3⟩ | ⟨b1,b2,b3⟩
     . rw[if_neg (by simp[b3])]at hE;rcases a0 with a1 | ⟨a1,a2⟩
       . delta E4.c67k9 oO oN oM oG oS oK oV oC oI oX oP oH oD oE oJ o0 o5;simp (maxSteps:=9^7) -implicitDefEqProofs only[E4.rv67,vP,qD,hdm,hI,chR,msD,a1,i0,i2,i3,hgx,hb,b1,zy,InR,not_true_eq_false,not_false_eq_true,WU,Ent.of1,V,W3,↓reduceIte,seval,reduceCtorEq];exact hgo hE
       . delta E4.c67k9 oO oN oM oG oS oK oV oC oI oX oP oH oD oE oJ o0 o5;simp (maxSteps:=9^7) -implicitDefEqProofs only[E4.rv67,vP,qD,hdm,hI,chR,msD,a1,a2,i0,i2,i3,hgx,hb,b1,zy,InR,not_true_eq_false,not_false_eq_true,WU,Ent.of1,V,W3,↓reduceIte,seval,reduceCtorEq];exact hgo hE
     . rw[if_pos b3]at hE;subst hE;rcases a0 with a1 | ⟨a1,a2⟩
       . delta E4.c67k9 oO oN oM oG oS oK oV oC oI oX oP oH oD oE oJ o0 o5;simp (maxSteps:=9^7) -implicitDefEqProofs only[E4.rv67,vP,qD,hdm,hI,chR,msD,a1,i0,i2,i3,hgx,hb,b1,b2,zy,InR,not_true_eq_false,not_false_eq_true,WU,Ent.of1,V,W3,↓reduceIte,seval,reduceCtorEq]
       . delta E4.c67k9 oO oN oM oG oS oK oV oC oI oX oP oH oD oE oJ o0 o5;simp (maxSteps:=9^7) -implicitDefEqProofs only[E4.rv67,vP,qD,hdm,hI,chR,msD,a1,a2,i0,i2,i3,hgx,hb,b1,b2,zy,InR,not_true_eq_false,not_false_eq_true,WU,Ent.of1,V,W3,↓reduceIte,seval,reduceCtorEq]
     . rw[if_neg (by simp[b3])]at hE;rcases a0 with a1 | ⟨a1,a2⟩
       . delta E4.c67k9 oO oN oM oG oS oK oV oC oI oX oP oH oD oE oJ o0 o5;simp (maxSteps:=9^7) -implicitDefEqProofs only[E4.rv67,vP,qD,hdm,hI,chR,msD,a1,i0,i2,i3,hgx,hb,b1,b2,zy,InR,not_true_eq_false,not_false_eq_true,WU,Ent.of1,V,W3,↓reduceIte,seval,reduceCtorEq];exact hgo hE
       . delta E4.c67k9 oO oN oM oG oS oK oV oC oI oX oP oH oD oE oJ o0 o5;simp (maxSteps:=9^7) -implicitDefEqProofs only[E4.rv67,vP,qD,hdm,hI,chR,msD,a1,a2,i0,i2,i3,hgx,hb,b1,b2,zy,InR,not_true_eq_false,not_false_eq_true,WU,Ent.of1,V,W3,↓reduceIte,seval,reduceCtorEq];exact hgo hE
theorem rst_10 (n:Nw) (m:Ms) (hn:NwS n) (hm:MsB m) (net:NetOk n) (hlen:m.buf.length=n.cells.length) (q2:rgB m=true) (q3:msB n m=true) (cx:Cx) (E:Int) (tgw srw:Bool) (htg:tgw=!decide (m.target=-1)) (hsr:srw=!decide (m.source=-1)) (hE:(if clB n m=false then 13 else if stB n m=false then 22 else pkE m)=E):SG Tryz.prog cx (cz [RV.tmp 4] [] (enc E) []) [It.c E4.c67k10.cut] ⟨[(2,.ptr 2 0),(3,.ptr 3 0),(5,.s (.bool tgw)),(6,.s (.bool srw))],chR n m⟩:=by
 have hdn:=je n;have hgo:=rst_9 n m hm net hlen q2 q3 cx E tgw srw htg hsr;refine iJ (dC [wk] 500 ?_);have hcl:clB n m=((!tgw || nbr n m.target m.serving) && (!srw || nbr n m.source m.serving)):=by rw[htg,hsr];simp[clB]
 have hc:(tgw=true/\nbr n m.target m.serving=false/\clB n m=false)\/((tgw=false\/(tgw=true/\nbr n m.target m.serving=true))/\((srw=false/\clB n m=true)\/(srw=true/\nbr n m.source m.serving=false/\clB n m=false)\/(srw=true/\nbr n m.source m.serving=true/\clB n m=true))):=by
  rw[hcl];cases tgw <;> cases srw <;> cases nbr n m.target m.serving <;> cases nbr n m.source m.serving <;> simp
 clear hcl;rcases hc with⟨rfl,a2,a3⟩ | ⟨rfl | ⟨rfl,a2⟩,⟨rfl,a3⟩ | ⟨rfl,a4,a3⟩ | ⟨rfl,a4,a3⟩⟩
 . rw[if_pos a3]at hE;subst hE;delta E4.c67k10 oO oM oG oS oK oV oI oX oP oH oD oE oJ;simp (maxSteps:=9^7) -implicitDefEqProofs only[E4.rv67,wk,eO,hdn,hn,chR,msD,a2,not_true_eq_false,not_false_eq_true,WU,Ent.of3,V,W3,↓reduceIte,seval,reduceCtorEq]
 . rw[if_neg (by simp[a3])]at hE;delta E4.c67k10 oO oM oG oS oK oV oI oX oP oH oD oE oJ;simp (maxSteps:=9^7) -implicitDefEqProofs only[E4.rv67,wk,eO,hdn,hn,chR,msD,not_true_eq_false,not_false_eq_true,WU,Ent.of3,V,W3,↓reduceIte,seval,reduceCtorEq];exact hgo hE
 . rw[if_pos a3]at hE;subst hE;delta E4.c67k10 oO oM oG oS oK oV oI oX oP oH oD oE oJ;simp (maxSteps:=9^7) -implicitDefEqProofs only[E4.rv67,wk,eO,hdn,hn,chR,msD,a4,not_true_eq_false,not_false_eq_true,WU,Ent.of3,V,W3,↓reduceIte,seval,reduceCtorEq]
 . rw[if_neg (by simp[a3])]at hE;delta E4.c67k10 oO oM oG oS oK oV oI oX oP oH oD oE oJ;simp (maxSteps:=9^7) -implicitDefEqProofs only[E4.rv67,wk,eO,hdn,hn,chR,msD,a4,not_true_eq_false,not_false_eq_true,WU,Ent.of3,V,W3,↓reduceIte,seval,reduceCtorEq];exact hgo hE
 . rw[if_neg (by simp[a3])]at hE;delta E4.c67k10 oO oM oG oS oK oV oI oX oP oH oD oE oJ;simp (maxSteps:=9^7) -implicitDefEqProofs only[E4.rv67,wk,eO,hdn,hn,chR,msD,a2,not_true_eq_false,not_false_eq_true,WU,Ent.of3,V,W3,↓reduceIte,seval,reduceCtorEq];exact hgo hE
 . rw[if_pos a3]at hE;subst hE;delta E4.c67k10 oO oM oG oS oK oV oI oX oP oH oD oE oJ;simp (maxSteps:=9^7) -implicitDefEqProofs only[E4.rv67,wk,eO,hdn,hn,chR,msD,a2,a4,not_true_eq_false,not_false_eq_true,WU,Ent.of3,V,W3,↓reduceIte,seval,reduceCtorEq]
 . rw[if_neg (by simp[a3])]at hE;delta E4.c67k10 oO oM oG oS oK oV oI oX oP oH oD oE oJ;simp (maxSteps:=9^7) -implicitDefEqProofs only[E4.rv67,wk,eO,hdn,hn,chR,msD,a2,a4,not_true_eq_false,not_false_eq_true,WU,Ent.of3,V,W3,↓reduceIte,seval,reduceCtorEq];exact hgo hE
theorem rst_11 (n:Nw) (m:Ms) (hn:NwS n) (hm:MsB m) (net:NetOk n) (hlen:m.buf.length=n.cells.length) (q2:rgB m=true) (q3:msB n m=true) (cx:Cx) (E:Int) (tgw srw:Bool) (htg:tgw=!decide (m.target=-1)) (hsr:srw=!decide (m.source=-1)) (hE:(if fmB m=false then 3 else if clB n m=false then 13 else if stB n m=false then 22 else pkE m)=E):SG Tryz.prog cx (cz [RV.tmp 4] [] (enc E) []) [It.c E4.c67k11.cut] ⟨[(2,.ptr 2 0),(3,.ptr 3 0),(5,.s (.bool tgw)),(6,.s (.bool srw))],chR n m⟩:=by
 have hgo:=rst_10 n m hn hm net hlen q2 q3 cx E tgw srw htg hsr;refine iJ (dC [] 800 ?_);have hfm:fmB m=!((tgw && decide (m.phase=0)) || (!tgw && (decide (m.phase=1) || decide (m.phase=2))) || (srw && ((decide (m.phase=1) || decide (m.phase=2)) || tgw)) || (!decide (m.path=m.serving) && (!srw || !decide (m.path=m.source)))):=by
  rw[htg,hsr];simp[fmB,bsyB]
 have hc:(tgw=true/\(m.phase=0)=True/\(m.phase=1)=False/\(m.phase=2)=False/\fmB m=false)\/(tgw=true/\(m.phase=0)=False/\((m.phase=1)=True\/((m.phase=1)=False/\(m.phase=2)=True)\/((m.phase=1)=False/\(m.phase=2)=False))/\((srw=true/\fmB m=false)\/(srw=false/\(((m.path=m.serving)=True/\fmB m=true)\/((m.path=m.serving)=False/\fmB m=false)))))\/(tgw=false/\((((m.phase=1)=True\/((m.phase=1)=False/\(m.phase=2)=True))/\fmB m=false)\/((m.phase=1)=False/\(m.phase=2)=False/\((srw=true/\(((m.path=m.serving)=True/\fmB m=true)\/((m.path=m.serving)=False/\(m.path=m.source)=True/\fmB m=true)\/((m.path=m.serving)=False/\(m.path=m.source)=False/\fmB m=false)))\/(srw=false/\(((m.path=m.serving)=True/\fmB m=true)\/((m.path=m.serving)=False/\fmB m=false))))))):=by
  rw[hfm];by_cases h0:m.phase=0
  . rcases Classical.propComplete (m.path=m.serving)with s1 | s1 <;> rcases Classical.propComplete (m.path=m.source)with s2 | s2 <;> cases tgw <;> cases srw <;> simp[h0,s1,s2]
  . rcases Classical.propComplete (m.phase=1)with h1 | h1 <;> rcases Classical.propComplete (m.phase=2)with h2 | h2 <;> rcases Classical.propComplete (m.path=m.serving)with s1 | s1 <;> rcases Classical.propComplete (m.path=m.source)with s2 | s2 <;> cases tgw <;> cases srw <;> simp[h0,h1,h2,s1,s2]
 clear hfm;rcases hc with⟨rfl,p0,p1,p2,b⟩ | ⟨rfl,p0,p1 | ⟨p1,p2⟩ | ⟨p1,p2⟩,⟨rfl,b⟩ | ⟨rfl,⟨s1,b⟩ | ⟨s1,b⟩⟩⟩ | ⟨rfl,⟨p1 | ⟨p1,p2⟩,b⟩ | ⟨p1,p2,⟨rfl,⟨s1,b⟩ | ⟨s1,s2,b⟩ | ⟨s1,s2,b⟩⟩ | ⟨rfl,⟨s1,b⟩ | ⟨s1,b⟩⟩⟩⟩
 . simp only[b,if_true,if_false,ym]at hE;delta E4.c67k11 oO oN oM oG oS oK oF oL oV oI oX oP oH oB oD oE oJ;simp (maxSteps:=9^7) -implicitDefEqProofs only[E4.rv67,chR,msD,p0,p1,p2,not_true_eq_false,not_false_eq_true,WU,V,W3,↓reduceIte,seval,reduceCtorEq];exact hE
 . simp only[b,if_true,if_false,ym]at hE;delta E4.c67k11 oO oN oM oG oS oK oF oL oV oI oX oP oH oB oD oE oJ;simp (maxSteps:=9^7) -implicitDefEqProofs only[E4.rv67,chR,msD,p0,p1,not_true_eq_false,not_false_eq_true,WU,V,W3,↓reduceIte,seval,reduceCtorEq];exact hE
 . simp only[b,if_true,if_false,ym]at hE;delta E4.c67k11 oO oN oM oG oS oK oF oL oV oI oX oP oH oB oD oE oJ;simp (maxSteps:=9^7) -implicitDefEqProofs only[E4.rv67,chR,msD,p0,p1,s1,not_true_eq_false,not_false_eq_true,WU,V,W3,↓reduceIte,seval,reduceCtorEq];exact hgo hE
 . simp only[b,if_true,if_false,ym]at hE;delta E4.c67k11 oO oN oM oG oS oK oF oL oV oI oX oP oH oB oD oE oJ;simp (maxSteps:=9^7) -implicitDefEqProofs only[E4.rv67,chR,msD,p0,p1,s1,not_true_eq_false,not_false_eq_true,WU,V,W3,↓reduceIte,seval,reduceCtorEq];exact hE
 . simp only[b,if_true,if_false,ym]at hE;delta E4.c67k11 oO oN oM oG oS oK oF oL oV oI oX oP oH oB oD oE oJ;simp (maxSteps:=9^7) -implicitDefEqProofs only[E4.rv67,chR,msD,p0,p1,p2,not_true_eq_false,not_false_eq_true,WU,V,W3,↓reduceIte,seval,reduceCtorEq];exact hE
 . simp only[b,if_true,if_false,ym]at hE;delta E4.c67k11 oO oN oM oG oS oK oF oL oV oI oX oP oH oB oD oE oJ;simp (maxSteps:=9^7) -implicitDefEqProofs only[E4.rv67,chR,msD,p0,p1,p2,s1,not_true_eq_false,not_false_eq_true,WU,V,W3,↓reduceIte,seval,reduceCtorEq];exact hgo hE
 . simp only[b,if_true,if_false,ym]at hE;delta E4.c67k11 oO oN oM oG oS oK oF oL oV oI oX oP oH oB oD oE oJ;simp (maxSteps:=9^7) -implicitDefEqProofs only[E4.rv67,chR,msD,p0,p1,p2,s1,not_true_eq_false,not_false_eq_true,WU,V,W3,↓reduceIte,seval,reduceCtorEq];exact hE
 . simp only[b,if_true,if_false,ym]at hE;delta E4.c67k11 oO oN oM oG oS oK oF oL oV oI oX oP oH oB oD oE oJ;simp (maxSteps:=9^7) -implicitDefEqProofs only[E4.rv67,chR,msD,p0,p1,p2,not_true_eq_false,not_false_eq_true,WU,V,W3,↓reduceIte,seval,reduceCtorEq];exact hE
 . simp only[b,if_true,if_false,ym]at hE;delta E4.c67k11 oO oN oM oG oS oK oF oL oV oI oX oP oH oB oD oE oJ;simp (maxSteps:=9^7) -implicitDefEqProofs only[E4.rv67,chR,msD,p0,p1,p2,s1,not_true_eq_false,not_false_eq_true,WU,V,W3,↓reduceIte,seval,reduceCtorEq];exact hgo hE
 . simp only[b,if_true,if_false,ym]at hE;delta E4.c67k11 oO oN oM oG oS oK oF oL oV oI oX oP oH oB oD oE oJ;simp (maxSteps:=9^7) -implicitDefEqProofs only[E4.rv67,chR,msD,p0,p1,p2,s1,not_true_eq_false,not_false_eq_true,WU,V,W3,↓reduceIte,seval,reduceCtorEq];exact hE
 . simp only[b,if_true,if_false,ym]at hE;delta E4.c67k11 oO oN oM oG oS oK oF oL oV oI oX oP oH oB oD oE oJ;simp (maxSteps:=9^7) -implicitDefEqProofs only[E4.rv67,chR,msD,p1,not_true_eq_false,not_false_eq_true,WU,V,W3,↓reduceIte,seval,reduceCtorEq];exact hE
 . simp only[b,if_true,if_false,ym]at hE;delta E4.c67k11 oO oN oM oG oS oK oF oL oV oI oX oP oH oB oD oE oJ;simp (maxSteps:=9^7) -implicitDefEqProofs only[E4.rv67,chR,msD,p1,p2,not_true_eq_false,not_false_eq_true,WU,V,W3,↓reduceIte,seval,reduceCtorEq];exact hE
 . simp only[b,if_true,if_false,ym]at hE;delta E4.c67k11 oO oN oM oG oS oK oF oL oV oI oX oP oH oB oD oE oJ;simp (maxSteps:=9^7) -implicitDefEqProofs only[E4.rv67,chR,msD,p1,p2,s1,not_true_eq_false,not_false_eq_true,WU,V,W3,↓reduceIte,seval,reduceCtorEq];exact hgo hE
 . simp only[b,if_true,if_false,ym]at hE;delta E4.c67k11 oO oN oM oG oS oK oF oL oV oI oX oP oH oB oD oE oJ;simp (maxSteps:=9^7) -implicitDefEqProofs only[E4.rv67,chR,msD,p1,p2,s1,s2,not_true_eq_false,not_false_eq_true,WU,V,W3,↓reduceIte,seval,reduceCtorEq];exact hgo hE
 . simp only[b,if_true,if_false,ym]at hE;delta E4.c67k11 oO oN oM oG oS oK oF oL oV oI oX oP oH oB oD oE oJ;simp (maxSteps:=9^7) -implicitDefEqProofs only[E4.rv67,chR,msD,p1,p2,s1,s2,not_true_eq_false,not_false_eq_true,WU,V,W3,↓reduceIte,seval,reduceCtorEq];exact hE
 . simp only[b,if_true,if_false,ym]at hE;delta E4.c67k11 oO oN oM oG oS oK oF oL oV oI oX oP oH oB oD oE oJ;simp (maxSteps:=9^7) -implicitDefEqProofs only[E4.rv67,chR,msD,p1,p2,s1,not_true_eq_false,not_false_eq_true,WU,V,W3,↓reduceIte,seval,reduceCtorEq];exact hgo hE
 . simp only[b,if_true,if_false,ym]at hE;delta E4.c67k11 oO oN oM oG oS oK oF oL oV oI oX oP oH oB oD oE oJ;simp (maxSteps:=9^7) -implicitDefEqProofs only[E4.rv67,chR,msD,p1,p2,s1,not_true_eq_false,not_false_eq_true,WU,V,W3,↓reduceIte,seval,reduceCtorEq];exact hE
theorem rst_12 (n:Nw) (m:Ms) (hn:NwS n) (hm:MsB m) (net:NetOk n) (hlen:m.buf.length=n.cells.length) (q2:rgB m=true) (cx:Cx) (E:Int) (hE:(if msB n m=false then 6 else if fmB m=false then 3 else if clB n m=false then 13 else if stB n m=false then 22 else pkE m)=E):SG Tryz.prog cx (cz [RV.tmp 4] [] (enc E) []) [It.c E4.c67k12.cut] ⟨[(2,.ptr 2 0),(3,.ptr 3 0)],chR n m⟩:=by
 have hdn:=je n;have hgo:=fun q3 tgw srw htg hsr=>rst_11 n m hn hm net hlen q2 q3 cx E tgw srw htg hsr
 refine iJ (dC [v6] 800 ?_);have hms:msB n m=(isC n m.serving && isC n m.path && (decide (m.target=-1) || isC n m.target) && (decide (m.source=-1) || isC n m.source)):=rfl;have hc:(isC n m.serving=false/\msB n m=false)\/(isC n m.serving=true/\isC n m.path=false/\msB n m=false)\/(isC n m.serving=true/\isC n m.path=true/\((((m.target=-1)=False/\isC n m.target=false)/\msB n m=false)\/(((m.target=-1)=True\/((m.target=-1)=False/\isC n m.target=true))/\(((m.source=-1)=True/\msB n m=true)\/((m.source=-1)=False/\isC n m.source=false/\msB n m=false)\/((m.source=-1)=False/\isC n m.source=true/\msB n m=true))))):=by
  rw[hms];rcases Classical.propComplete (m.target=-1)with h1 | h1 <;> rcases Classical.propComplete (m.source=-1)with h2 | h2 <;> cases isC n m.serving <;> cases isC n m.path <;> cases isC n m.target <;> cases isC n m.source <;> simp[h1,h2]
 clear hms;rcases hc with⟨a1,b⟩ | ⟨a1,a2,b⟩ | ⟨a1,a2,⟨⟨a3,a4⟩,b⟩ | ⟨a3 | ⟨a3,a4⟩,⟨a5,b⟩ | ⟨a5,a6w,b⟩ | ⟨a5,a6w,b⟩⟩⟩
 . simp only[b,if_true,if_false,ym]at hE;delta E4.c67k12 oO oN oA oM oT oG oQ oS oK oF oL oV oC oI oX oH oB oD oE oJ o5;simp (maxSteps:=9^7) -implicitDefEqProofs only[E4.rv67,v6,eO,hdn,hn,chR,msD,a1,not_true_eq_false,not_false_eq_true,WU,Ent.of2,V,W3,↓reduceIte,seval,reduceCtorEq];exact hE
 . simp only[b,if_true,if_false,ym]at hE;delta E4.c67k12 oO oN oA oM oT oG oQ oS oK oF oL oV oC oI oX oH oB oD oE oJ o5;simp (maxSteps:=9^7) -implicitDefEqProofs only[E4.rv67,v6,eO,hdn,hn,chR,msD,a1,a2,not_true_eq_false,not_false_eq_true,WU,Ent.of2,V,W3,↓reduceIte,seval,reduceCtorEq];exact hE
 . simp only[b,if_true,if_false,ym]at hE;delta E4.c67k12 oO oN oA oM oT oG oQ oS oK oF oL oV oC oI oX oH oB oD oE oJ o5;simp (maxSteps:=9^7) -implicitDefEqProofs only[E4.rv67,v6,eO,hdn,hn,chR,msD,a1,a2,a3,a4,not_true_eq_false,not_false_eq_true,WU,Ent.of2,V,W3,↓reduceIte,seval,reduceCtorEq];exact hE
 . simp only[b,if_true,if_false,ym]at hE;delta E4.c67k12 oO oN oA oM oT oG oQ oS oK oF oL oV oC oI oX oH oB oD oE oJ o5;simp (maxSteps:=9^7) -implicitDefEqProofs only[E4.rv67,v6,eO,hdn,hn,chR,msD,a1,a2,a3,a5,not_true_eq_false,not_false_eq_true,WU,Ent.of2,V,W3,↓reduceIte,seval,reduceCtorEq];exact hgo b _ _ (by simp[a3]) (by simp[a5]) hE
 . simp only[b,if_true,if_false,ym]at hE;delta E4.c67k12 oO oN oA oM oT oG oQ oS oK oF oL oV oC oI oX oH oB oD oE oJ o5;simp (maxSteps:=9^7) -implicitDefEqProofs only[E4.rv67,v6,eO,hdn,hn,chR,msD,a1,a2,a3,a5,a6w,not_true_eq_false,not_false_eq_true,WU,Ent.of2,V,W3,↓reduceIte,seval,reduceCtorEq];exact hE
 . simp only[b,if_true,if_false,ym]at hE;delta E4.c67k12 oO oN oA oM oT oG oQ oS oK oF oL oV oC oI oX oH oB oD oE oJ o5;simp (maxSteps:=9^7) -implicitDefEqProofs only[E4.rv67,v6,eO,hdn,hn,chR,msD,a1,a2,a3,a5,a6w,not_true_eq_false,not_false_eq_true,WU,Ent.of2,V,W3,↓reduceIte,seval,reduceCtorEq];exact hgo b _ _ (by simp[a3]) (by simp[a5]) hE
 . simp only[b,if_true,if_false,ym]at hE;delta E4.c67k12 oO oN oA oM oT oG oQ oS oK oF oL oV oC oI oX oH oB oD oE oJ o5;simp (maxSteps:=9^7) -implicitDefEqProofs only[E4.rv67,v6,eO,hdn,hn,chR,msD,a1,a2,a3,a4,a5,not_true_eq_false,not_false_eq_true,WU,Ent.of2,V,W3,↓reduceIte,seval,reduceCtorEq];exact hgo b _ _ (by simp[a3]) (by simp[a5]) hE
 . simp only[b,if_true,if_false,ym]at hE;delta E4.c67k12 oO oN oA oM oT oG oQ oS oK oF oL oV oC oI oX oH oB oD oE oJ o5;simp (maxSteps:=9^7) -implicitDefEqProofs only[E4.rv67,v6,eO,hdn,hn,chR,msD,a1,a2,a3,a4,a5,a6w,not_true_eq_false,not_false_eq_true,WU,Ent.of2,V,W3,↓reduceIte,seval,reduceCtorEq];exact hE
 . simp only[b,if_true,if_false,ym]at hE;delta E4.c67k12 oO oN oA oM oT oG oQ oS oK oF oL oV oC oI oX oH oB oD oE oJ o5;simp (maxSteps:=9^7) -implicitDefEqProofs only[E4.rv67,v6,eO,hdn,hn,chR,msD,a1,a2,a3,a4,a5,a6w,not_true_eq_false,not_false_eq_true,WU,Ent.of2,V,W3,↓reduceIte,seval,reduceCtorEq];exact hgo b _ _ (by simp[a3]) (by simp[a5]) hE
theorem x4 (n:Nw) (m:Ms) (hn:NwS n) (hm:MsB m) (net:NetOk n):FC Tryz.prog 67 [enc n,enc m] [] (enc (wZ n m)) []:=by
 obtain⟨E,hE⟩:∃ E,wZ n m=E:=⟨_,rfl⟩;rw[hE];unfold wZ at hE;refine dD [] E4.is67 (by simp) (by simp[bn]) (by simp[ap,ag]) (by simp[ap,ag]) (by simp[aC]) (fun cx _ hl _=>dC [vQ] 1500 ?_);by_cases h2:m.buf.length=n.cells.length
 rotate_left
 . rw[if_pos h2]at hE;have h2':=eq_false (show ¬ (m.buf.length:Int)=(n.cells.length:Int) by omega);delta E4.c67 oO oN oA oM oG oS oK oF oL oV oC oI oX oH oB oE oJ o4 o7;simp (maxSteps:=9^7) -implicitDefEqProofs only[E4.rv67,eO,qD,h2',InR,not_true_eq_false,not_false_eq_true,WU,V,W3,↓reduceIte,seval,reduceCtorEq];exact hE
 rw[if_neg (by simp[h2])]at hE;have h2':=eq_true (show (m.buf.length:Int)=(n.cells.length:Int) by omega);by_cases h3:0<=m.phase/\m.phase<=3
 rotate_left
 . rw[if_pos h3]at hE;have h3':=eq_false h3;delta E4.c67 oO oN oA oM oG oS oK oF oL oV oC oI oX oH oB oE oJ o4 o7;simp (maxSteps:=9^7) -implicitDefEqProofs only[E4.rv67,vQ,eO,qD,h2',h3',InR,not_true_eq_false,not_false_eq_true,WU,Ent.of3,V,W3,↓reduceIte,seval,reduceCtorEq];exact hE
 rw[if_neg (fun q=>q h3)]at hE;have h3':=eq_true h3;have hc:((0<=m.at_/\m.at_<=1000000000)=False/\rgB m=false)\/((0<=m.at_/\m.at_<=1000000000)=True/\(0<=m.since/\m.since<=m.at_)=False/\rgB m=false)\/((0<=m.at_/\m.at_<=1000000000)=True/\(0<=m.since/\m.since<=m.at_)=True/\(0<=m.fresh/\m.fresh<=1000000)=False/\rgB m=false)\/((0<=m.at_/\m.at_<=1000000000)=True/\(0<=m.since/\m.since<=m.at_)=True/\(0<=m.fresh/\m.fresh<=1000000)=True/\(0<=m.got/\m.got<=m.fresh)=False/\rgB m=false)\/((0<=m.at_/\m.at_<=1000000000)=True/\(0<=m.since/\m.since<=m.at_)=True/\(0<=m.fresh/\m.fresh<=1000000)=True/\(0<=m.got/\m.got<=m.fresh)=True/\rgB m=true):=by
  rcases Classical.propComplete (0<=m.at_/\m.at_<=1000000000)with g1 | g1 <;> rcases Classical.propComplete (0<=m.since/\m.since<=m.at_)with g2 | g2 <;> rcases Classical.propComplete (0<=m.fresh/\m.fresh<=1000000)with g3 | g3 <;> rcases Classical.propComplete (0<=m.got/\m.got<=m.fresh)with g4 | g4 <;> simp[rgB,g1,g2,g3,g4]
 rcases hc with⟨g1,b⟩ | ⟨g1,g2,b⟩ | ⟨g1,g2,g3,b⟩ | ⟨g1,g2,g3,g4,b⟩ | ⟨g1,g2,g3,g4,b⟩
 . simp only[b,if_true,if_false,ym]at hE;delta E4.c67 oO oN oA oM oG oS oK oF oL oV oC oI oX oH oB oE oJ o4 o7;simp (maxSteps:=9^7) -implicitDefEqProofs only[E4.rv67,vQ,eO,qD,h2',h3',g1,InR,not_true_eq_false,not_false_eq_true,WU,Ent.of3,V,W3,↓reduceIte,seval,reduceCtorEq];exact hE
 . simp only[b,if_true,if_false,ym]at hE;delta E4.c67 oO oN oA oM oG oS oK oF oL oV oC oI oX oH oB oE oJ o4 o7;simp (maxSteps:=9^7) -implicitDefEqProofs only[E4.rv67,vQ,eO,qD,h2',h3',g1,g2,InR,not_true_eq_false,not_false_eq_true,WU,Ent.of3,V,W3,↓reduceIte,seval,reduceCtorEq];exact hE
 . simp only[b,if_true,if_false,ym]at hE;delta E4.c67 oO oN oA oM oG oS oK oF oL oV oC oI oX oH oB oE oJ o4 o7;simp (maxSteps:=9^7) -implicitDefEqProofs only[E4.rv67,vQ,eO,qD,h2',h3',g1,g2,g3,InR,not_true_eq_false,not_false_eq_true,WU,Ent.of3,V,W3,↓reduceIte,seval,reduceCtorEq];exact hE
 . simp only[b,if_true,if_false,ym]at hE;delta E4.c67 oO oN oA oM oG oS oK oF oL oV oC oI oX oH oB oE oJ o4 o7;simp (maxSteps:=9^7) -implicitDefEqProofs only[E4.rv67,vQ,eO,qD,h2',h3',g1,g2,g3,g4,InR,not_true_eq_false,not_false_eq_true,WU,Ent.of3,V,W3,↓reduceIte,seval,reduceCtorEq];exact hE
 . simp only[b,if_true,if_false,ym]at hE;delta E4.c67 oO oN oA oM oG oS oK oF oL oV oC oI oX oH oB oE oJ o4 o7;simp (maxSteps:=9^7) -implicitDefEqProofs only[E4.rv67,vQ,eO,qD,h2',h3',g1,g2,g3,g4,InR,not_true_eq_false,not_false_eq_true,WU,Ent.of3,V,W3,↓reduceIte,seval,reduceCtorEq];exact rst_12 n m hn hm net h2 b cx E hE
theorem MsB.bs {m:Ms} (h:MsB m):BufS m.buf:=⟨h.l,fun x hx=>by have:=h.r x hx;omega⟩
theorem AU (m:Ms) (h:BufS m.buf):FC Tryz.prog 65 [enc m] [] (enc m) []:=by
 refine dD [] is65 (by simp) (by simp[bn]) (by simp[ap,ag]) (by simp[ap,ag]) (by simp[aC]) (fun cx _ hl _=>dC [ent60] 800 ?_);delta c65 oO oA oF oL oC oW oX oZ o5 o7;simp (maxSteps:=9^7) -implicitDefEqProofs only[rv65,ent60,qD,h,WU,Ent.of1,V,W3,↓reduceIte,seval,reduceCtorEq]
def ent65 : Ent Tryz.prog:=.of1 65 (fun m:Ms=>BufS m.buf) (fun m=>enc m) (fun m=>by simp[qD,dG,dG.keysIns]) (fun m h=>AU m h)
theorem Ab {n:Nw} {c:Int} {l:List T3} (h:(gI n c l).2=0):(gP n).2=0/\isC n c=true/\(iH n (eM n c) l 0).2=0:=by
 unfold gI at h;by_cases h1:gc n c l=0
 . rw[if_neg (fun q=>q h1)]at h;have hc:=(uX (n:=n) (c:=c) (log:=l) (by rw[pr];exact h1)).1;refine⟨?_,hc,h⟩;rw[<- pr]at h1;unfold dS at h1;by_cases h2:(gP n).2=0
   . exact h2
   . rw[if_pos h2]at h1;exact h1
 . rw[if_pos h1]at h;exact absurd h h1
theorem wy {n:Nw} {m:Ms} (net:NetOk n) (g:dN n m):MsB m:=by
 have h1:=net.len;have h2:m.buf.length=n.cells.length:=g.len;have h3:m.buf.flatten.length<=60:=g.large;have h4:0<=m.fresh/\m.fresh<=1000000:=g.fresh;refine⟨by omega,fun x hx=>?_,fun x hx=>?_⟩
 . have:=(List.sublist_flatten_of_mem hx).length_le;omega
 . have:=g.rng x hx;simp only[InR];omega
theorem Ck {n:Nw} {m:Ms} (h:(gP n).2=0) (g:dN n m):opE n m=0:=by
 unfold opE;rw[if_neg (by simp[h])];exact xU g
theorem moved_c : FC Tryz.prog 87 [] [] (enc true) []:=by
 refine dD [] is87 (by simp) (by simp[bn]) (by simp[ap,ag]) (by simp[ap,ag]) (by simp[aC]) (fun cx _ hl _=>dC [ent89,ent90,ent30,vS 39 _ _ law_recv_c ⟨trivial,trivial,trivial⟩,vS 36 _ _ law_rep_c ⟨by rw[qD];simp[dG,dG.keysIns],trivial,trivial,trivial⟩,vS 80 _ _ law_fmt_c trivial] 2500 ?_);delta c87 oO oN oA oM oG oC oW oX oP oB oD o1 oZ o8 o9;simp (maxSteps:=9^7) -implicitDefEqProofs only[rv87,ent89,ent90,ent30,vS,lawRule,gW,jh,eO,enc_rul,qD,qf,qt,zt,zR,uH,yD,List.take_zero,yB,not_true_eq_false,WU,Ent.of0,Ent.of2,V,W3,↓reduceIte,seval,reduceCtorEq]
def wV : Ent Tryz.prog:=vS 87 [] (enc true) moved_c trivial
theorem Bo {n:Nw} {c:Int} {l:List T3} (hN:(gP n).2=0) (hc:isC n c=true) (hl:l.length<=200) (h:(iH n (eM n c) l 0).2=0):(gI n c l).2=0:=by
 have hd:wa n c=0:=by unfold wa;rw[if_neg (by simp[hN]),if_pos hc]
 rw[yW n c l hd,rpE,if_neg (by omega)];exact h
structure AgOk (n:Nw) (c:Int) (l:List T3) (s a b:Ms) (x1 x2 p:Int):Prop where
 ra:(gI n c (l++[⟨9,x1,0⟩,⟨10,x1+x2,s.serving⟩])).2=0
 rb:(gI n c (l++[⟨9,x1,0⟩,⟨11,x1+n.limit,0⟩])).2=0
 ea:(lu n c (l++[⟨9,x1,0⟩,⟨10,x1+x2,s.serving⟩])).m=a
 eb:(lu n c (l++[⟨9,x1,0⟩,⟨11,x1+n.limit,0⟩])).m=b
 la:(lu n c (l++[⟨9,x1,0⟩,⟨10,x1+x2,s.serving⟩])).longest=p
 lb:(lu n c (l++[⟨9,x1,0⟩,⟨11,x1+n.limit,0⟩])).longest=n.limit
 hp:x2<=p/\p<=n.limit
 ga:dN n a
 gb:dN n b
 pa:a.phase=0
 sa:a.serving=s.serving
 pb:b.phase=0
 sbw:b.serving=0
 ibw:b.since=x1+n.limit
 faw:a.got=s.got/\a.fresh=s.fresh
 fbw:b.got=s.got/\b.fresh=s.fresh
theorem ag_ok {n:Nw} {c:Int} {l:List T3} (hl:l.length<=30) (hr:(gI n c l).2=0) {x1 x2:Int} (ha:ed (lu n c l).m=false) (h1:(lu n c l).m.at_<=x1) (h2:x1<=1000000000 - n.limit) (h3:0<=x2/\x2<=n.limit - 1) :
 ∃ a b p,AgOk n c l (lu n c l).m a b x1 x2 p:=by
 obtain⟨hN,hc,hst⟩:=Ab hr;have net:=qS hN;obtain⟨⟨a1,a2,a3,a4⟩,b1,b2,b3⟩:=BE net hc l (by omega) hst x1 x2 ha h1 h2 h3;have ga:=(xW net hc _ a1).1;have gb:=(xW net hc _ b1).1;have len:∀ u v:T3,(l++[u,v]).length<=200:=fun u v=>by simp;omega
 exact⟨_,_,_,Bo hN hc (len _ _) a1,Bo hN hc (len _ _) b1,rfl,rfl,rfl,b3,⟨a3,a4⟩,ga,gb,by rw[a2];rfl,by rw[a2];rfl,by rw[b2];rfl,by rw[b2];rfl,by rw[b2];rfl,by rw[a2];exact⟨rfl,rfl⟩,by rw[b2];exact⟨rfl,rfl⟩⟩
def BO : Ent Tryz.prog:=.of2 67 (fun (n:Nw) (m:Ms)=>NwS n/\NetOk n/\dN n m) (fun _ _=>enc (0:Int)) (fun _ _=>trivial) (fun n m h=>by
 have:=x4 n m h.1 (wy h.2.1 h.2.2) h.2.1;rw[xU h.2.2]at this
 exact this)
def BP : Ent Tryz.prog:=.of2 72 (fun (n:Nw) (m:Ms)=>NwS n/\NetOk n/\(gP n).2=0/\dN n m) (fun _ m=>.tup [enc (wD m),enc (0:Int)]) (fun _ _=>⟨trivial,trivial,trivial⟩) (fun n m h=>by
 have:=BD n m h.1 (wy h.2.1 h.2.2.2);rw[Ar,if_neg (by simp[Ck h.2.2.1 h.2.2.2])]at this
 exact this)
def chG (n:Nw) (s a b:Ms) (c x1 x2:Int):Chs:=[(16,.box (msD b)),(13,.box (msD a)),(7,.box (msD s)),(5,.box [.s (.int .i64 c),.s (.int .i64 x1),.s (.int .i64 x2)]),(3,.box [.sl 1 (n.cells.map Dat.cells),.sl 2 (n.nb.map Dat.cells),.s (.int .i64 n.limit)])]
theorem Ca (n:Nw) (l A B:List T3) (c x1 x2 p:Int) (s a b:Ms) (W:List Int) (hn:NwS n) (net:NetOk n) (hA:A=l++[⟨9,x1,0⟩,⟨10,x1+x2,s.serving⟩]) (hB:B=l++[⟨9,x1,0⟩,⟨11,x1+n.limit,0⟩]) (hlA:A.length<=1000000) (hlB:B.length<=1000000) (q:AgOk n c l s a b x1 x2 p) (cx:Cx):SG Tryz.prog cx (cz [RV.tmp 6] [] (.s (.bool true)) []) [It.c E6.c19k1.cut] ⟨[(12,.sl 3 (B.map Dat.cells)),(11,.sl 3 (A.map Dat.cells)),(3,.ptr 3 0),(5,.ptr 5 0),(19,.sl 1 (W.map Dat.cells)),(20,.s (.int .i64 0)),(21,.sl 1 (W.map Dat.cells)),(22,.s (.int .i64 0)),(23,.sl 1 (W.map Dat.cells)),(24,.s (.int .i64 0))],chG n s a b c x1 x2⟩:=by
 have hdn:=je n;have hp:=eq_true q.hp;have h56a:=yX n c A hn;have h56b:=yX n c B hn;rw[if_pos (hA ▸ q.ra),hA,q.la,<- hA]at h56a;rw[if_pos (hB ▸ q.rb),hB,q.lb,<- hB]at h56b;refine iJ ?_;delta E6.c19k1 oO oN oA oM oT oG oS oK oL oC oI oX oP oH oB oD oE oJ o5 o8 o9;refine dC [ent30] 500 ?_;simp (maxSteps:=9^7) -implicitDefEqProofs only[ent30,chG,msD,not_true_eq_false,not_false_eq_true,WU,Ent.of2,V,W3,↓reduceIte,seval,reduceCtorEq];refine wb [ent37,wB,vS 56 _ _ h56a ⟨trivial,trivial,trivial⟩] 800 [1,5,6] ?_;simp (maxSteps:=9^7) -implicitDefEqProofs only[wg,mFin2,wu,lP,oq,ops2,jb,reM2,nQ,p8,p9,l6,finM,kd,gQ,hJ,fY,ff,fO,fO.fixBs,fM,ndE2,ap,ag,av,aU,aE,ke,eL,a6,bF,ent37,wB,vS,eO,qf,hdn,hn,hlA,InR,WU,Ent.of1,V,W3,↓reduceIte,seval,reduceCtorEq];refine⟨rfl,?_⟩;refine dC [] 500 ?_;simp (maxSteps:=9^7) -implicitDefEqProofs only[InR,WU,V,W3,↓reduceIte,seval,reduceCtorEq];refine wb [ent37,wB,vS 56 _ _ h56b ⟨trivial,trivial,trivial⟩] 800 [1,5,6] ?_;simp (maxSteps:=9^7) -implicitDefEqProofs only[wg,mFin2,wu,lP,oq,ops2,jb,reM2,nQ,p8,p9,l6,finM,kd,gQ,hJ,fY,ff,fO,fO.fixBs,fM,ndE2,ap,ag,av,aU,aE,ke,eL,a6,bF,ent37,wB,vS,eO,qf,hdn,hn,hlB,InR,WU,Ent.of1,V,W3,↓reduceIte,seval,reduceCtorEq];refine⟨rfl,?_⟩;refine dC [vQ] 500 ?_;simp (maxSteps:=9^7) -implicitDefEqProofs only[E6.rv19,vQ,hp,InR,not_true_eq_false,not_false_eq_true,WU,Ent.of3,V,W3,↓reduceIte,seval,reduceCtorEq]
theorem Cb (n:Nw) (l A B:List T3) (c x1 x2 p:Int) (s a b:Ms) (hn:NwS n) (net:NetOk n) (hN:(gP n).2=0) (gs:dN n s) (hA:A=l++[⟨9,x1,0⟩,⟨10,x1+x2,s.serving⟩]) (hB:B=l++[⟨9,x1,0⟩,⟨11,x1+n.limit,0⟩]) (hlA:A.length<=1000000) (hlB:B.length<=1000000) (q:AgOk n c l s a b x1 x2 p) (cx:Cx):SG Tryz.prog cx (cz [RV.tmp 6] [] (.s (.bool true)) []) [It.c E6.c19k2.cut] ⟨[(16,.ptr 16 0),(13,.ptr 13 0),(12,.sl 3 (B.map Dat.cells)),(11,.sl 3 (A.map Dat.cells)),(7,.ptr 7 0),(3,.ptr 3 0),(5,.ptr 5 0)],chG n s a b c x1 x2⟩:=by
 have hdn:=je n;have hds:=vR s;have hda:=vR a;have hdb:=vR b;have hbs:=(wy net gs).bs;have hba:=(wy net q.ga).bs;have hbb:=(wy net q.gb).bs;have ga:=q.ga;have gb:=q.gb;have hwa:wD a=wD s:=by unfold wD;rw[q.faw.1,q.faw.2]
 have hwb:wD b=wD s:=by unfold wD;rw[q.fbw.1,q.fbw.2]
 refine iJ ?_;delta E6.c19k2 oO oM oT oQ oS oK oC o5 o8;refine dC [ent37,ent65,BP] 900 ?_;simp (maxSteps:=9^7) -implicitDefEqProofs only[ent37,ent65,BP,chG,msD,eO,qD,hdn,hds,hda,hdb,hn,net,hN,hbs,hba,hbb,gs,ga,gb,hwa,hwb,not_true_eq_false,not_false_eq_true,WU,Ent.of1,Ent.of2,V,W3,↓reduceIte,seval,reduceCtorEq];have hfin:=Ca n l A B c x1 x2 p s a b (wD s) hn net hA hB hlA hlB q;unfold chG msD at hfin;exact hfin cx
theorem Cc (n:Nw) (l A B:List T3) (c x1 x2 p:Int) (s a b:Ms) (hn:NwS n) (net:NetOk n) (hN:(gP n).2=0) (gs:dN n s) (hI:(-9223372036854775808<=x1+n.limit/\x1+n.limit<=9223372036854775807)) (hA:A=l++[⟨9,x1,0⟩,⟨10,x1+x2,s.serving⟩]) (hB:B=l++[⟨9,x1,0⟩,⟨11,x1+n.limit,0⟩]) (hlA:A.length<=1000000) (hlB:B.length<=1000000) (q:AgOk n c l s a b x1 x2 p) (cx:Cx):SG Tryz.prog cx (cz [RV.tmp 6] [] (.s (.bool true)) []) [It.c E6.c19k3.cut] ⟨[(16,.ptr 16 0),(18,.s (.int .i64 0)),(13,.ptr 13 0),(15,.s (.int .i64 0)),(12,.sl 3 (B.map Dat.cells)),(11,.sl 3 (A.map Dat.cells)),(7,.ptr 7 0),(3,.ptr 3 0),(5,.ptr 5 0)],chG n s a b c x1 x2⟩:=by
 have hdn:=je n;have hda:=vR a;have hdb:=vR b;have ga:=q.ga;have gb:=q.gb;have pa:=eq_true q.pa;have sa:=eq_true q.sa;have pb:=eq_true q.pb;have sbw:=eq_true q.sbw;have ibw:=eq_true q.ibw;have hfin:=Cb n l A B c x1 x2 p s a b hn net hN gs hA hB hlA hlB q;unfold chG msD at hfin;refine iJ ?_;delta E6.c19k3 oO oN oM oG oS oK oF oL oI oX oH oB oD oE oJ o9;refine dC [BO] 900 ?_;simp (maxSteps:=9^7) -implicitDefEqProofs only[BO,chG,msD,eO,qD,hdn,hda,hdb,hn,net,ga,gb,pa,sa,pb,sbw,ibw,hI,InR,not_true_eq_false,not_false_eq_true,WU,Ent.of2,V,W3,↓reduceIte,seval,reduceCtorEq];exact hfin cx
theorem Cd (n:Nw) (l:List T3) (c x1 x2 p:Int) (s a b:Ms) (hn:NwS n) (net:NetOk n) (hN:(gP n).2=0) (hl:l.length<=30) (gs:dN n s) (h1:s.at_<=x1/\x1<=1000000000 - n.limit) (h2:0<=x2/\x2<=n.limit - 1) (q:AgOk n c l s a b x1 x2 p) (cx:Cx):SG Tryz.prog cx (cz [RV.tmp 6] [] (.s (.bool true)) []) [It.c E6.c19k4.cut] ⟨[(7,.ptr 7 0),(1,.sl 3 (l.map Dat.cells)),(3,.ptr 3 0),(5,.ptr 5 0)],[(7,.box (msD s)),(5,.box [.s (.int .i64 c),.s (.int .i64 x1),.s (.int .i64 x2)]),(3,.box [.sl 1 (n.cells.map Dat.cells),.sl 2 (n.nb.map Dat.cells),.s (.int .i64 n.limit)])]⟩:=by
 have hdn:=je n;have hlim:=net.lim;have hat:=gs.at_;have hI2:(-9223372036854775808<=x1+x2/\x1+x2<=9223372036854775807):=by omega
 have hI3:(-9223372036854775808<=x1+n.limit/\x1+n.limit<=9223372036854775807):=by omega
 obtain⟨F,hF⟩:∃ F,F=l++[(⟨9,x1,0⟩:T3)]:=⟨_,rfl⟩;have hFc:l.map Dat.cells++[[C.s (.int .i64 9),C.s (.int .i64 x1),C.s (.int .i64 0)]]=F.map Dat.cells:=by rw[hF,yg];rfl
 obtain⟨A,hA⟩:∃ A,A=l++[(⟨9,x1,0⟩:T3),⟨10,x1+x2,s.serving⟩]:=⟨_,rfl⟩;have hAc:F.map Dat.cells++[[C.s (.int .i64 10),C.s (.int .i64 (x1+x2)),C.s (.int .i64 s.serving)]]=A.map Dat.cells:=by rw[hF,hA,yg,yg,ye];rfl
 obtain⟨B,hB⟩:∃ B,B=l++[(⟨9,x1,0⟩:T3),⟨11,x1+n.limit,0⟩]:=⟨_,rfl⟩;have hBc:F.map Dat.cells++[[C.s (.int .i64 11),C.s (.int .i64 (x1+n.limit)),C.s (.int .i64 0)]]=B.map Dat.cells:=by rw[hF,hB,yg,yg,ye];rfl
 have hlF:F.length<=1000000:=by rw[hF,zK,List.length_singleton];omega
 have hlA:A.length<=1000000:=by rw[hA];simp;omega
 have hlB:B.length<=1000000:=by rw[hB];simp;omega
 have hll:l.length<=1000000:=by omega
 have hlF2:F.length<=31:=by rw[hF,zK,List.length_singleton];omega
 have h36a:=uy n c A hn;have h36b:=uy n c B hn;rw[ow,xX (hA ▸ q.ra),if_pos rfl,hA,q.ea,<- hA]at h36a;rw[ow,xX (hB ▸ q.rb),if_pos rfl,hB,q.eb,<- hB]at h36b;refine iJ ?_;delta E6.c19k4 oO oN oA oM oT oS oK oF oL oC oW oB o3 oZ o5 o8;refine dC [] 500 ?_;simp (maxSteps:=9^7) -implicitDefEqProofs only[hdn,msD,WU,V,W3,↓reduceIte,seval,reduceCtorEq];refine wb [xg l hll] 800 [] ?_;simp (maxSteps:=9^7) -implicitDefEqProofs only[wg,mFin2,wu,lP,oq,ops2,jb,reM2,nQ,p8,p9,l6,finM,kd,gQ,hJ,fY,ff,fO,fO.fixBs,fM,ndE2,ap,ag,av,aU,aE,ke,eL,a6,bF,xg,vY,eO,dV,qf,hdn,InR,WU,V,W3,↓reduceIte,seval,reduceCtorEq];refine⟨rfl,by omega,?_⟩;refine dC [] 500 ?_;simp (maxSteps:=9^7) -implicitDefEqProofs only[hFc,InR,WU,V,W3,↓reduceIte,seval,reduceCtorEq];refine wb [xg F hlF] 800 [] ?_;simp (maxSteps:=9^7) -implicitDefEqProofs only[wg,mFin2,wu,lP,oq,ops2,jb,reM2,nQ,p8,p9,l6,finM,kd,gQ,hJ,fY,ff,fO,fO.fixBs,fM,ndE2,ap,ag,av,aU,aE,ke,eL,a6,bF,xg,vY,eO,dV,qf,hdn,hI2,InR,WU,V,W3,↓reduceIte,seval,reduceCtorEq];refine⟨rfl,by omega,?_⟩;refine dC [] 500 ?_;simp (maxSteps:=9^7) -implicitDefEqProofs only[hAc,InR,WU,V,W3,↓reduceIte,seval,reduceCtorEq];refine wb [xg F hlF] 800 [] ?_;simp (maxSteps:=9^7) -implicitDefEqProofs only[wg,mFin2,wu,lP,oq,ops2,jb,reM2,nQ,p8,p9,l6,finM,kd,gQ,hJ,fY,ff,fO,fO.fixBs,fM,ndE2,ap,ag,av,aU,aE,ke,eL,a6,bF,xg,vY,eO,dV,qf,hdn,hI3,InR,WU,V,W3,↓reduceIte,seval,reduceCtorEq];refine⟨rfl,by omega,?_⟩;refine dC [] 500 ?_;simp (maxSteps:=9^7) -implicitDefEqProofs only[hBc,InR,WU,V,W3,↓reduceIte,seval,reduceCtorEq];refine wb [ent37,wB,vS 36 _ _ h36a ⟨by simp[qD,dG,dG.keysIns],trivial,trivial,trivial⟩] 800 [1,5,6] ?_;simp (maxSteps:=9^7) -implicitDefEqProofs only[wg,mFin2,wu,lP,oq,ops2,jb,reM2,nQ,p8,p9,l6,finM,kd,gQ,hJ,fY,ff,fO,fO.fixBs,fM,ndE2,ap,ag,av,aU,aE,ke,eL,a6,bF,ent37,wB,vS,eO,qD,qf,hdn,hn,hlA,InR,WU,Ent.of1,V,W3,↓reduceIte,seval,reduceCtorEq];refine⟨rfl,?_⟩;refine dC [] 500 ?_;simp (maxSteps:=9^7) -implicitDefEqProofs only[InR,WU,V,W3,↓reduceIte,seval,reduceCtorEq];refine wb [ent37,wB,vS 36 _ _ h36b ⟨by simp[qD,dG,dG.keysIns],trivial,trivial,trivial⟩] 800 [1,5,6] ?_;simp (maxSteps:=9^7) -implicitDefEqProofs only[wg,mFin2,wu,lP,oq,ops2,jb,reM2,nQ,p8,p9,l6,finM,kd,gQ,hJ,fY,ff,fO,fO.fixBs,fM,ndE2,ap,ag,av,aU,aE,ke,eL,a6,bF,ent37,wB,vS,eO,qD,qf,hdn,hn,hlB,InR,WU,Ent.of1,V,W3,↓reduceIte,seval,reduceCtorEq];refine⟨rfl,?_⟩;refine dC [] 500 ?_;simp (maxSteps:=9^7) -implicitDefEqProofs only[InR,WU,V,W3,↓reduceIte,seval,reduceCtorEq];have hfin:=Cc n l A B c x1 x2 p s a b hn net hN gs hI3 hA hB hlA hlB q;unfold chG msD at hfin;exact hfin cx
theorem Again_c (n:Nw) (l:List T3) (x:T3):FC Tryz.prog 19 [enc n,enc l,enc x] [] (enc true) []:=by
 have hdn:=je n;obtain⟨c,x1,x2⟩:=x;by_cases hfew:few n=true
 rotate_left
 . have hf:few n=false:=by simpa using hfew
   refine dD [] E6.is19 (by simp) (by simp[bn]) (by simp[ap,ag]) (by simp[ap,ag]) (by simp[aC]) (fun cx _ _ _=>dC [wV,ent34] 1500 ?_);delta E6.c19 oO oN oA oM oT oG oS oK oF oL oC oW oI oX oH oB oD oE oJ oZ o5 o7 o8 o9;simp (maxSteps:=9^7) -implicitDefEqProofs only[E6.rv19,wV,ent34,vS,eO,dV,hdn,hf,not_true_eq_false,WU,Ent.of1,V,W3,↓reduceIte,seval,reduceCtorEq]
 by_cases h30:l.length<=30
 rotate_left
 . have hs:=eq_true (show (l.length:Int) > 30 by omega);refine dD [] E6.is19 (by simp) (by simp[bn]) (by simp[ap,ag]) (by simp[ap,ag]) (by simp[aC]) (fun cx _ _ _=>dC [wV,ent34] 1500 ?_);delta E6.c19 oO oN oA oM oT oG oS oK oF oL oC oW oI oX oH oB oD oE oJ oZ o5 o7 o8 o9;simp (maxSteps:=9^7) -implicitDefEqProofs only[E6.rv19,wV,ent34,vS,eO,dV,hdn,hfew,hs,not_true_eq_false,WU,Ent.of1,V,W3,↓reduceIte,seval,reduceCtorEq]
 have hs:=eq_false (show ¬ (l.length:Int) > 30 by omega);have hn:=few_nws hfew;have h53:=B7 n c l hn;by_cases hR:(gI n c l).2=0
 rotate_left
 . generalize (gI n c l).2=E at *;refine dD [] E6.is19 (by simp) (by simp[bn]) (by simp[ap,ag]) (by simp[ap,ag]) (by simp[aC]) (fun cx _ _ _=>dC [wV,ent34,vS 53 _ _ h53 trivial] 1500 ?_);delta E6.c19 oO oN oA oM oT oG oS oK oF oL oC oW oI oX oH oB oD oE oJ oZ o5 o7 o8 o9;simp (maxSteps:=9^7) -implicitDefEqProofs only[E6.rv19,wV,ent34,vS,eO,dV,hdn,hfew,hs,hR,not_true_eq_false,not_false_eq_true,WU,Ent.of1,V,W3,↓reduceIte,seval,reduceCtorEq]
 rw[hR]at h53;obtain⟨hN,hc,hst⟩:=Ab hR;have net:=qS hN;obtain⟨g,_,_⟩:=xW net hc l hst;have key:=fun h1 h2 h3 h4=>ag_ok (x1:=x1) (x2:=x2) h30 hR h1 h2 h3 h4
 have h36:=uy n c l hn;rw[ow,xX hR,if_pos rfl]at h36;generalize (lu n c l).m=s at *;have hm:=wy net g;have hbs:=hm.bs;have hds:=vR s;have h67:=x4 n s hn hm net;rw[xU g]at h67;have hll:l.length<=1000000:=by omega
 have hlim:=net.lim;have hat:=g.at_;refine dD [] E6.is19 (by simp) (by simp[bn]) (by simp[ap,ag]) (by simp[ap,ag]) (by simp[aC]) (fun cx _ _ _=>dC [wV,ent34,vS 53 _ _ h53 trivial] 1500 ?_);delta E6.c19 oO oN oA oM oT oG oS oK oF oL oC oW oI oX oH oB oD oE oJ oZ o5 o7 o8 o9;simp (maxSteps:=9^7) -implicitDefEqProofs only[E6.rv19,wV,ent34,vS,eO,dV,hdn,hfew,hs,not_true_eq_false,not_false_eq_true,WU,Ent.of1,V,W3,↓reduceIte,seval,reduceCtorEq];refine wb [ent37,wB,vS 36 _ _ h36 ⟨by simp[qD,dG,dG.keysIns],trivial,trivial,trivial⟩] 800 [1,5,6] ?_;simp (maxSteps:=9^7) -implicitDefEqProofs only[wg,mFin2,wu,lP,oq,ops2,jb,reM2,nQ,p8,p9,l6,finM,kd,gQ,hJ,fY,ff,fO,fO.fixBs,fM,ndE2,ap,ag,av,aU,aE,ke,eL,a6,bF,ent37,wB,vS,eO,qD,hdn,hn,hll,hds,InR,not_true_eq_false,not_false_eq_true,WU,Ent.of1,V,W3,↓reduceIte,seval,reduceCtorEq];refine⟨rfl,?_⟩;have hI1:(-9223372036854775808<=1000000000 - n.limit/\1000000000 - n.limit<=9223372036854775807)/\(-9223372036854775808<=n.limit - 1/\n.limit - 1<=9223372036854775807):=by omega
 obtain⟨hIa,hIb⟩:=hI1;cases ha:ed s
 rotate_left
 . have hp:(s.phase=2)=True\/((s.phase=2)=False/\(s.phase=3)=True):=by
    simp[ed]at ha;rcases Classical.propComplete (s.phase=2)with h | h
    . exact .inl h
    . right;refine⟨h,eq_true ?_⟩;rcases ha with ha | ha
      . exact absurd ha (by rw[h];exact id)
      . exact ha
   rcases hp with hp2 | ⟨hp2,hp3⟩
   . refine dC [vS 67 _ _ h67 trivial] 1500 ?_;simp (maxSteps:=9^7) -implicitDefEqProofs only[E6.rv19,vS,eO,qD,hdn,hp2,hIa,hIb,InR,not_true_eq_false,not_false_eq_true,WU,V,W3,↓reduceIte,seval,reduceCtorEq]
   . refine dC [vS 67 _ _ h67 trivial] 1500 ?_;simp (maxSteps:=9^7) -implicitDefEqProofs only[E6.rv19,vS,eO,qD,hdn,hp2,hp3,hIa,hIb,InR,not_true_eq_false,not_false_eq_true,WU,V,W3,↓reduceIte,seval,reduceCtorEq]
 have hp2:(s.phase=2)=False:=eq_false (by simp[ed]at ha;exact ha.1);have hp3:(s.phase=3)=False:=eq_false (by simp[ed]at ha;exact ha.2);rcases Classical.propComplete (s.at_<=x1/\x1<=1000000000 - n.limit)with h1 | h1
 rotate_left
 . refine dC [vS 67 _ _ h67 trivial,vQ] 1500 ?_;simp (maxSteps:=9^7) -implicitDefEqProofs only[E6.rv19,vS,vQ,eO,qD,hdn,hp2,hp3,h1,hIa,hIb,InR,not_true_eq_false,not_false_eq_true,WU,Ent.of3,V,W3,↓reduceIte,seval,reduceCtorEq]
 rcases Classical.propComplete (0<=x2/\x2<=n.limit - 1)with h2 | h2
 rotate_left
 . refine dC [vS 67 _ _ h67 trivial,vQ] 1500 ?_;simp (maxSteps:=9^7) -implicitDefEqProofs only[E6.rv19,vS,vQ,eO,qD,hdn,hp2,hp3,h1,h2,hIa,hIb,InR,not_true_eq_false,not_false_eq_true,WU,Ent.of3,V,W3,↓reduceIte,seval,reduceCtorEq]
 obtain⟨a,b,p,q⟩:=key ha (of_eq_true h1).1 (of_eq_true h1).2 (of_eq_true h2);have hfin:=Cd n l c x1 x2 p s a b hn net hN h30 g (of_eq_true h1) (of_eq_true h2) q;unfold msD at hfin;refine dC [vS 67 _ _ h67 trivial,vQ] 1500 ?_;simp (maxSteps:=9^7) -implicitDefEqProofs only[E6.rv19,vS,vQ,eO,qD,hdn,hp2,hp3,h1,h2,hIa,hIb,qf,InR,not_true_eq_false,not_false_eq_true,WU,Ent.of3,V,W3,↓reduceIte,seval,reduceCtorEq];exact hfin cx
end Go.Proofs.YtcbabnbiinkafaaGreatDoor
end
section
open Go Go.Am
open Go.Am.Dat (cells)
namespace Go.Proofs.YtcbabnbiinkafaaGreatDoor
open Go.ChangeShapes Go.WideShapes Go.ChangeAt Go.RowKit
open Go.ChangeMaps (open_string shut_string)
set_option maxRecDepth 100000
theorem rTri : ReadsP Tryz.prog 79 T3 (fun _=>True):=by
 refine⟨by kernel_rfl,by decide,fun en w sp fuel cs x h=>?_⟩;obtain⟨xs,m,_,rfl,hl,hlen,hel⟩:=DataW.trod_array Tryz.underlying79 h;have c3:Tryz.prog.cellsOf 3=1:=by kernel_rfl
 have hl2:cs.length=3:=hl.trans (by kernel_rfl)
 match cs,hl2 with
 |[b0,b1,b2],_=>
  match xs,hlen with
  |[y0,y1,y2],_=>
   have h0:DataW.trod en Tryz.prog w 0 sp true m 3 (([b0,b1,b2].drop (0*Tryz.prog.cellsOf 3)).take (Tryz.prog.cellsOf 3))=some y0:=hel 0 (by decide);have h1:DataW.trod en Tryz.prog w 0 sp true m 3 (([b0,b1,b2].drop (1*Tryz.prog.cellsOf 3)).take (Tryz.prog.cellsOf 3))=some y1:=hel 1 (by decide);have h2:DataW.trod en Tryz.prog w 0 sp true m 3 (([b0,b1,b2].drop (2*Tryz.prog.cellsOf 3)).take (Tryz.prog.cellsOf 3))=some y2:=hel 2 (by decide);rw[c3]at h0 h1 h2;obtain⟨n0,e0,_,_⟩:=DataW.trod_int Tryz.underlying3 h0;obtain⟨n1,e1,_,_⟩:=DataW.trod_int Tryz.underlying3 h1;obtain⟨n2,e2,_,_⟩:=DataW.trod_int Tryz.underlying3 h2;have e0':b0=.int .i64 n0:=by simpa using e0
   have e1':b1=.int .i64 n1:=by simpa using e1
   have e2':b2=.int .i64 n2:=by simpa using e2
   subst e0' e1' e2';refine⟨⟨n0,n1,n2⟩,trivial,rfl,rfl,fun j c hj=>?_⟩
   match j,hj with
   | 0,hj=>cases hj;exact⟨.s _,rfl⟩
   | 1,hj=>cases hj;exact⟨.s _,rfl⟩
   | 2,hj=>cases hj;exact⟨.s _,rfl⟩
theorem argA {t te:TypeId} {n:Nat} {α:Type} [DatL α] {p:α->Prop} (h:ReadsP Tryz.prog t α p) (hag:Dat.agg α=true) (ht:Tryz.prog.underlying t=some (.array n te)) {H:Type} {en:TypeId×Value->H} {W:World} {r:Reach} {base:Nat} {sp:Nat->Bool} {v:Value} {d:DataW H} {ps:List MemPlace}
 (hval:Value.okWide Tryz.prog W r base t v) (hd:DataW.Trod en Tryz.prog W 0 sp true t v d ps):∃ a:α,p a/\∀ E,Rep E (fun b=>b < W.heap.size) W.heap (enc a) v:=by
 have hv2:∃ cs,v=.agg cs:=by
  simp only[Value.okWide,ht]at hval;obtain⟨cs,h2,_⟩:=hval;exact⟨cs,h2⟩
 obtain⟨vs,rfl⟩:=hv2;obtain⟨fuel,hf⟩:=hd;obtain⟨a,h0,h1,h2,h3⟩:=h.rd en W sp fuel _ _ hf;have hc:(Value.agg vs).cells=vs:=by simp[Value.cells]
 rw[hc]at h2 h3;have e:∀ j,vs.toList.getD j undef=vs.getD j undef:=fun j=>by simp[zb,zc]
 refine⟨a,h0,fun E=>?_⟩;rw[enc,if_pos hag];refine .agg _ vs (by simpa[h1]using h2) (fun j c hj=>.d (by have:=(h3 j c hj).1;rwa[e]at this)) (fun j hj=>?_);have hj':j < (Dat.cells a).length:=by rw[h1,<- h2];simpa using hj
 have:=(h3 j _ (ze hj')).2;rwa[e]at this
theorem rEv : ReadsP Tryz.prog 83 T3 (fun _=>True):=by
 refine⟨by kernel_rfl,by decide,fun en w sp fuel cs x h=>?_⟩;obtain⟨l,a0,p0,e0,h0⟩:=lB rInt Tryz.underlying83 h 0 rfl rfl;obtain⟨_,a1,p1,e1,h1⟩:=lB rInt Tryz.underlying83 h 1 rfl rfl;obtain⟨_,a2,p2,e2,h2⟩:=lB rInt Tryz.underlying83 h 2 rfl rfl;refine⟨⟨a0,a1,a2⟩,trivial,rfl,l.trans (by kernel_rfl),fun j c hj=>?_⟩
 match j,hj with
 | 0,hj=>cases hj;exact h0 0 _ rfl
 | 1,hj=>cases hj;exact h1 0 _ rfl
 | 2,hj=>cases hj;exact h2 0 _ rfl
theorem rEvs : ReadsP Tryz.prog 48 (List T3) (fun l=>∀ a∈l,True):=ReadsP.list rEv Tryz.underlying48 (by kernel_rfl)
theorem Cp (os:Os) (started:os.Started) (H:Type) (en:TypeId×Value->H) :
 ReturnsInHanded {} Tryz.checked os 19 .any (fun w args=>(Rows.topMoveConnectedAgainSpec.pre en Tryz.prog Tryz.f19 Rows.topMoveConnectedAgainRow.domain false w args/\laidMetH Tryz.prog Rows.topMoveConnectedAgainRow.laid w)/\sizedMet en Tryz.prog Tryz.f19 (OpenSpec.ofChange Rows.topMoveConnectedAgainSpec) false w args)
  (Rows.topMoveConnectedAgainSpec.post en Tryz.prog Tryz.f19 false true false false):=by
 refine returnsInHanded_of_change_and (C:=Tryz.checked) (X:=fun w _=>laidMetH Tryz.prog Rows.topMoveConnectedAgainRow.laid w) (fun _ _ _ hh h=>h.of_heap hh) ownOk started (by kernel_rfl) Tryz.func19
  (ChangeSpec.witness_shaped (enc:=en) (C:=Tryz.checked) (os:=os) (X:=fun w _=>laidMetH Tryz.prog Rows.topMoveConnectedAgainRow.laid w) false (World.doorLaid Tryz.prog 89 os) #[.agg #[.slice none 0 0,.slice none 0 0,.int .i64 0],.slice none 0 0,.agg #[.int .i64 0,.int .i64 0,.int .i64 0]] 8 rfl (doorShaped os _) (by kernel_rfl) (by kernel_rfl) (by kernel_rfl) (door_met os _)) ?_
 intro W base args ds gs before hval0 hW hcnd hsz hL _;have hval:∀ (j:Nat) t v,Tryz.f19.params[j]? = some t->args[j]? = some v->Value.okWide Tryz.prog W .any base t v:=hval0;have hW':=hW;obtain⟨p,q,hA0,hV,rfl,hfz,hnd⟩:=hW;have hA:DataW.TrodAll en Tryz.prog W 0 (fun _=>true) true Tryz.f19.params.toList args.toList ds p:=hA0;rw[Tryz.params19]at hA hval;obtain⟨v0,vs0,d0w,ds0,p0,q0,hargs,rfl,rfl,h0,r0w⟩:=trodAll_cons hA;obtain⟨v1,vs1,d1,ds1,p1,q1,rfl,rfl,rfl,h1,r1⟩:=trodAll_cons r0w;obtain⟨v2,vs2,d2,ds2,p2,q2,rfl,rfl,rfl,h2,r2⟩:=trodAll_cons r1;obtain⟨rfl,rfl,rfl⟩:=trodAll_nil r2;obtain rfl:args=#[v0,v1,v2]:=by cases args;simp_all
 obtain⟨rfl,rfl⟩:=trodVars_none hV;have lt0:∀ x∈p0,x.block < W.heap.size:=by obtain⟨m,hm⟩:=h0;exact DataW.trod_lt m _ _ _ hm
 have lt1:∀ x∈p1,x.block < W.heap.size:=by obtain⟨m,hm⟩:=h1;exact DataW.trod_lt m _ _ _ hm
 have lt2:∀ x∈p2,x.block < W.heap.size:=by obtain⟨m,hm⟩:=h2;exact DataW.trod_lt m _ _ _ hm
 obtain⟨x0,g0,hx0⟩:=rNw.argS rfl Tryz.underlying47 (hval 0 47 v0 rfl rfl) h0;obtain⟨x1,g1,hx1⟩:=rEvs.arg Tryz.underlying48 (hval 1 48 v1 rfl rfl) h1;obtain⟨x2,g2,hx2⟩:=argA rTri rfl Tryz.underlying79 (hval 2 79 v2 rfl rfl) h2;clear hA0 hval0;refine (law_walkG (Again_c x0 x1 x2) (W:=W) (vs:=#[v0,v1,v2]) (glAll hL) rfl (fun j c hj E=>?_)).mono fun e W' ⟨he,bel⟩=>?_
 . match j,hj with
   | 0,hj=>cases hj;exact hx0 E
   | 1,hj=>cases hj;exact hx1 E
   | 2,hj=>cases hj;exact hx2 E
 . subst he;exact⟨_,rfl,_,_,_,[],_,[],hW',trodAll_mk1 (shut_bool Tryz.underlying4 _),(trodAll_cons_mk (Below.trod laidOut (by kernel_rfl) (of_decide_eq_true (by kernel_rfl)) h0 bel lt0) (trodAll_cons_mk (Below.trod laidOut (by kernel_rfl) (of_decide_eq_true (by kernel_rfl)) h1 bel lt1) (trodAll_cons_mk (Below.trod laidOut (by kernel_rfl) (of_decide_eq_true (by kernel_rfl)) h2 bel lt2) trodAll_mk0))),rfl,bel.frame _,fun h=>by cases h⟩
theorem Cm : (Rows.topMoveConnectedAgainRow.inPlace == Tryz.prog.inPlace 19)=true:=by kernel_rfl
theorem jUnf19 : (Rows.topMoveConnectedAgainRow.unfollowed == Tryz.prog.unfollowed 19)=true:=by kernel_rfl
theorem jRec19 : (Rows.topMoveConnectedAgainRow.recurses == Tryz.prog.recurses 19)=true:=by kernel_rfl
theorem Cl : (Rows.topMoveConnectedAgainRow.named == Tryz.prog.varsNamed 19)=true:=by kernel_rfl
theorem jKeys19 : (Rows.topMoveConnectedAgainRow.plainKeys == Tryz.prog.plainKeys)=true:=jKeys
theorem jLift19 : (Rows.topMoveConnectedAgainRow.lifted == Tryz.prog.liftsFinal)=true:=jLift
theorem jMake19 : (Tryz.prog.make == some Rows.topMoveConnectedAgainRow.make)=true:=jMake
theorem jVeil19 : Rows.topMoveConnectedAgainRow.veiledFits Tryz.prog Tryz.f19.params.toList (Tryz.f19.params.toList++Rows.topMoveConnectedAgainSpec.plain.varTypes Tryz.prog++Tryz.f19.resultTypes.toList)=true:=by kernel_rfl
end Go.Proofs.YtcbabnbiinkafaaGreatDoor
end
