/- Part 4 of the proof of: TopMoveOnceInOrder returns true for every input and never panics: behind any log the phone can get all packets that wait, once and in order; conditions: those of the given statement, that the package variables it lists hold what their initialisers lay. -/
import Derived.Test.YtcbabnbiinkafaaGreatDoorTopMoveOnceInOrder3
set_option linter.all false
section
open Go Go.Am
open Go.Am.Dat (cells)
namespace Go.Proofs.YtcbabnbiinkafaaGreatDoor
set_option maxHeartbeats 4000000
set_option maxRecDepth 100000
theorem rst_12 (n:Nw) (m:Ms) (hn:NwS n) (hm:MsB m) (net:NetOk n) (hlen:m.buf.length=n.cells.length) (q2:rgB m=true) (cx:Cx) (E:Int) (hE:(if msB n m=false then 6 else if fmB m=false then 3 else if clB n m=false then 13 else if stB n m=false then 22 else pkE m)=E):SG Tryz.prog cx (cz [RV.tmp 4] [] (enc E) []) [It.c E4.c67k12.cut] ⟨[(2,.ptr 2 0),(3,.ptr 3 0)],chR n m⟩:=by
 have hdn:=je n;have hgo:=fun q3 tgw srw htg hsr=>rst_11 n m hn hm net hlen q2 q3 cx E tgw srw htg hsr
 refine iJ (dC [vZ] 800 ?_);have hms:msB n m=(isC n m.serving && isC n m.path && (decide (m.target=-1) || isC n m.target) && (decide (m.source=-1) || isC n m.source)):=rfl;have hc:(isC n m.serving=false/\msB n m=false)\/(isC n m.serving=true/\isC n m.path=false/\msB n m=false)\/(isC n m.serving=true/\isC n m.path=true/\((((m.target=-1)=False/\isC n m.target=false)/\msB n m=false)\/(((m.target=-1)=True\/((m.target=-1)=False/\isC n m.target=true))/\(((m.source=-1)=True/\msB n m=true)\/((m.source=-1)=False/\isC n m.source=false/\msB n m=false)\/((m.source=-1)=False/\isC n m.source=true/\msB n m=true))))):=by
  rw[hms];rcases Classical.propComplete (m.target=-1)with h1 | h1 <;> rcases Classical.propComplete (m.source=-1)with h2 | h2 <;> cases isC n m.serving <;> cases isC n m.path <;> cases isC n m.target <;> cases isC n m.source <;> simp[h1,h2]
 clear hms;rcases hc with⟨a1,b⟩ | ⟨a1,a2,b⟩ | ⟨a1,a2,⟨⟨a3,a4⟩,b⟩ | ⟨a3 | ⟨a3,a4⟩,⟨a5,b⟩ | ⟨a5,a6w,b⟩ | ⟨a5,a6w,b⟩⟩⟩
 . simp only[b,if_true,if_false,ym]at hE;delta E4.c67k12 oO oN oA oM oT oG oQ oS oK oF oL oV oC oI oX oH oB oD oE oJ o5;simp (maxSteps:=9^7) -implicitDefEqProofs only[E4.rv67,vZ,eO,hdn,hn,chR,msD,a1,not_true_eq_false,not_false_eq_true,WU,Ent.of2,V,W3,↓reduceIte,seval,reduceCtorEq];exact hE
 . simp only[b,if_true,if_false,ym]at hE;delta E4.c67k12 oO oN oA oM oT oG oQ oS oK oF oL oV oC oI oX oH oB oD oE oJ o5;simp (maxSteps:=9^7) -implicitDefEqProofs only[E4.rv67,vZ,eO,hdn,hn,chR,msD,a1,a2,not_true_eq_false,not_false_eq_true,WU,Ent.of2,V,W3,↓reduceIte,seval,reduceCtorEq];exact hE
 . simp only[b,if_true,if_false,ym]at hE;delta E4.c67k12 oO oN oA oM oT oG oQ oS oK oF oL oV oC oI oX oH oB oD oE oJ o5;simp (maxSteps:=9^7) -implicitDefEqProofs only[E4.rv67,vZ,eO,hdn,hn,chR,msD,a1,a2,a3,a4,not_true_eq_false,not_false_eq_true,WU,Ent.of2,V,W3,↓reduceIte,seval,reduceCtorEq];exact hE
 . simp only[b,if_true,if_false,ym]at hE;delta E4.c67k12 oO oN oA oM oT oG oQ oS oK oF oL oV oC oI oX oH oB oD oE oJ o5;simp (maxSteps:=9^7) -implicitDefEqProofs only[E4.rv67,vZ,eO,hdn,hn,chR,msD,a1,a2,a3,a5,not_true_eq_false,not_false_eq_true,WU,Ent.of2,V,W3,↓reduceIte,seval,reduceCtorEq];exact hgo b _ _ (by simp[a3]) (by simp[a5]) hE
 . simp only[b,if_true,if_false,ym]at hE;delta E4.c67k12 oO oN oA oM oT oG oQ oS oK oF oL oV oC oI oX oH oB oD oE oJ o5;simp (maxSteps:=9^7) -implicitDefEqProofs only[E4.rv67,vZ,eO,hdn,hn,chR,msD,a1,a2,a3,a5,a6w,not_true_eq_false,not_false_eq_true,WU,Ent.of2,V,W3,↓reduceIte,seval,reduceCtorEq];exact hE
 . simp only[b,if_true,if_false,ym]at hE;delta E4.c67k12 oO oN oA oM oT oG oQ oS oK oF oL oV oC oI oX oH oB oD oE oJ o5;simp (maxSteps:=9^7) -implicitDefEqProofs only[E4.rv67,vZ,eO,hdn,hn,chR,msD,a1,a2,a3,a5,a6w,not_true_eq_false,not_false_eq_true,WU,Ent.of2,V,W3,↓reduceIte,seval,reduceCtorEq];exact hgo b _ _ (by simp[a3]) (by simp[a5]) hE
 . simp only[b,if_true,if_false,ym]at hE;delta E4.c67k12 oO oN oA oM oT oG oQ oS oK oF oL oV oC oI oX oH oB oD oE oJ o5;simp (maxSteps:=9^7) -implicitDefEqProofs only[E4.rv67,vZ,eO,hdn,hn,chR,msD,a1,a2,a3,a4,a5,not_true_eq_false,not_false_eq_true,WU,Ent.of2,V,W3,↓reduceIte,seval,reduceCtorEq];exact hgo b _ _ (by simp[a3]) (by simp[a5]) hE
 . simp only[b,if_true,if_false,ym]at hE;delta E4.c67k12 oO oN oA oM oT oG oQ oS oK oF oL oV oC oI oX oH oB oD oE oJ o5;simp (maxSteps:=9^7) -implicitDefEqProofs only[E4.rv67,vZ,eO,hdn,hn,chR,msD,a1,a2,a3,a4,a5,a6w,not_true_eq_false,not_false_eq_true,WU,Ent.of2,V,W3,↓reduceIte,seval,reduceCtorEq];exact hE
 . simp only[b,if_true,if_false,ym]at hE;delta E4.c67k12 oO oN oA oM oT oG oQ oS oK oF oL oV oC oI oX oH oB oD oE oJ o5;simp (maxSteps:=9^7) -implicitDefEqProofs only[E4.rv67,vZ,eO,hdn,hn,chR,msD,a1,a2,a3,a4,a5,a6w,not_true_eq_false,not_false_eq_true,WU,Ent.of2,V,W3,↓reduceIte,seval,reduceCtorEq];exact hgo b _ _ (by simp[a3]) (by simp[a5]) hE
theorem Al (n:Nw) (m:Ms) (hn:NwS n) (hm:MsB m) (net:NetOk n):FC Tryz.prog 67 [enc n,enc m] [] (enc (rstE n m)) []:=by
 obtain⟨E,hE⟩:∃ E,rstE n m=E:=⟨_,rfl⟩;rw[hE];unfold rstE at hE;refine dD [] E4.is67 (by simp) (by simp[bn]) (by simp[ap,ag]) (by simp[ap,ag]) (by simp[aC]) (fun cx _ hl _=>dC [vW] 1500 ?_);by_cases h2:m.buf.length=n.cells.length
 rotate_left
 . rw[if_pos h2]at hE;have h2':=eq_false (show ¬ (m.buf.length:Int)=(n.cells.length:Int) by omega);delta E4.c67 oO oN oA oM oG oS oK oF oL oV oC oI oX oH oB oE oJ o4 o7;simp (maxSteps:=9^7) -implicitDefEqProofs only[E4.rv67,eO,qD,h2',InR,not_true_eq_false,not_false_eq_true,WU,V,W3,↓reduceIte,seval,reduceCtorEq];exact hE
 rw[if_neg (by simp[h2])]at hE;have h2':=eq_true (show (m.buf.length:Int)=(n.cells.length:Int) by omega);by_cases h3:0<=m.phase/\m.phase<=3
 rotate_left
 . rw[if_pos h3]at hE;have h3':=eq_false h3;delta E4.c67 oO oN oA oM oG oS oK oF oL oV oC oI oX oH oB oE oJ o4 o7;simp (maxSteps:=9^7) -implicitDefEqProofs only[E4.rv67,vW,eO,qD,h2',h3',InR,not_true_eq_false,not_false_eq_true,WU,Ent.of3,V,W3,↓reduceIte,seval,reduceCtorEq];exact hE
 rw[if_neg (fun q=>q h3)]at hE;have h3':=eq_true h3;have hc:((0<=m.at_/\m.at_<=1000000000)=False/\rgB m=false)\/((0<=m.at_/\m.at_<=1000000000)=True/\(0<=m.since/\m.since<=m.at_)=False/\rgB m=false)\/((0<=m.at_/\m.at_<=1000000000)=True/\(0<=m.since/\m.since<=m.at_)=True/\(0<=m.fresh/\m.fresh<=1000000)=False/\rgB m=false)\/((0<=m.at_/\m.at_<=1000000000)=True/\(0<=m.since/\m.since<=m.at_)=True/\(0<=m.fresh/\m.fresh<=1000000)=True/\(0<=m.got/\m.got<=m.fresh)=False/\rgB m=false)\/((0<=m.at_/\m.at_<=1000000000)=True/\(0<=m.since/\m.since<=m.at_)=True/\(0<=m.fresh/\m.fresh<=1000000)=True/\(0<=m.got/\m.got<=m.fresh)=True/\rgB m=true):=by
  rcases Classical.propComplete (0<=m.at_/\m.at_<=1000000000)with g1 | g1 <;> rcases Classical.propComplete (0<=m.since/\m.since<=m.at_)with g2 | g2 <;> rcases Classical.propComplete (0<=m.fresh/\m.fresh<=1000000)with g3 | g3 <;> rcases Classical.propComplete (0<=m.got/\m.got<=m.fresh)with g4 | g4 <;> simp[rgB,g1,g2,g3,g4]
 rcases hc with⟨g1,b⟩ | ⟨g1,g2,b⟩ | ⟨g1,g2,g3,b⟩ | ⟨g1,g2,g3,g4,b⟩ | ⟨g1,g2,g3,g4,b⟩
 . simp only[b,if_true,if_false,ym]at hE;delta E4.c67 oO oN oA oM oG oS oK oF oL oV oC oI oX oH oB oE oJ o4 o7;simp (maxSteps:=9^7) -implicitDefEqProofs only[E4.rv67,vW,eO,qD,h2',h3',g1,InR,not_true_eq_false,not_false_eq_true,WU,Ent.of3,V,W3,↓reduceIte,seval,reduceCtorEq];exact hE
 . simp only[b,if_true,if_false,ym]at hE;delta E4.c67 oO oN oA oM oG oS oK oF oL oV oC oI oX oH oB oE oJ o4 o7;simp (maxSteps:=9^7) -implicitDefEqProofs only[E4.rv67,vW,eO,qD,h2',h3',g1,g2,InR,not_true_eq_false,not_false_eq_true,WU,Ent.of3,V,W3,↓reduceIte,seval,reduceCtorEq];exact hE
 . simp only[b,if_true,if_false,ym]at hE;delta E4.c67 oO oN oA oM oG oS oK oF oL oV oC oI oX oH oB oE oJ o4 o7;simp (maxSteps:=9^7) -implicitDefEqProofs only[E4.rv67,vW,eO,qD,h2',h3',g1,g2,g3,InR,not_true_eq_false,not_false_eq_true,WU,Ent.of3,V,W3,↓reduceIte,seval,reduceCtorEq];exact hE
 . simp only[b,if_true,if_false,ym]at hE;delta E4.c67 oO oN oA oM oG oS oK oF oL oV oC oI oX oH oB oE oJ o4 o7;simp (maxSteps:=9^7) -implicitDefEqProofs only[E4.rv67,vW,eO,qD,h2',h3',g1,g2,g3,g4,InR,not_true_eq_false,not_false_eq_true,WU,Ent.of3,V,W3,↓reduceIte,seval,reduceCtorEq];exact hE
 . simp only[b,if_true,if_false,ym]at hE;delta E4.c67 oO oN oA oM oG oS oK oF oL oV oC oI oX oH oB oE oJ o4 o7;simp (maxSteps:=9^7) -implicitDefEqProofs only[E4.rv67,vW,eO,qD,h2',h3',g1,g2,g3,g4,InR,not_true_eq_false,not_false_eq_true,WU,Ent.of3,V,W3,↓reduceIte,seval,reduceCtorEq];exact rst_12 n m hn hm net h2 b cx E hE
def smB (m:Ms):Bool:=decide (m.buf.length<=8) && m.buf.all fun x=>decide (x.length<=64)
theorem Small_c (m:Ms):FC Tryz.prog 63 [enc m] [] (enc (smB m)) []:=by
 obtain⟨B,hB⟩:∃ B,smB m=B:=⟨_,rfl⟩;rw[hB];unfold smB at hB;refine dD [] is63 (by simp) (by simp[bn]) (by simp[ap,ag]) (by simp[ap,ag]) (by simp[aC]) (fun cx _ hl _=>dC [] 800 ?_);by_cases h8:m.buf.length<=8
 rotate_left
 . have h8':¬ (m.buf.length:Int)<=8:=by omega
   have h9':(m.buf.length:Int) > 8:=by omega
   simp only[h8,decide_false,z7]at hB;subst hB;delta c63 oN oS oK oF oL oV oI oX oB o4 o7 o9;simp (maxSteps:=9^7) -implicitDefEqProofs only[rv63,qD,h9',not_true_eq_false,not_false_eq_true,WU,V,W3,↓reduceIte,seval,reduceCtorEq]
 have h9':¬ (m.buf.length:Int) > 8:=by omega
 simp only[h8,decide_true,zY]at hB;delta c63 oN oS oK oF oL oV oI oX oB o4 o7 o9;simp (maxSteps:=9^7) -implicitDefEqProofs only[rv63,qD,h9',not_true_eq_false,not_false_eq_true,WU,V,W3,↓reduceIte,seval,reduceCtorEq];refine fI m.buf.length (fun i=>[(3,.s (.int .i64 (i:Int)))]) (fun _=>[]) (fun i=>B=(m.buf.drop i).all fun x=>decide (x.length<=64)) (by rw[<- hB];rfl) ?_ (fun i hi hv=>dC [] 800 ?_)
 . simp (maxSteps:=9^7) -implicitDefEqProofs only[V,W3,↓reduceIte,seval,reduceCtorEq]
   all_goals simp
 . by_cases h:i < m.buf.length
   . have hi2:(i:Int) < (m.buf.length:Int):=by omega
     have hi0:(0:Int)<=i:=by omega
     have hgx:List.getD (m.buf.map Dat.cells) i [C.sl 0 []]=[C.sl 1 ((m.buf.getD i []).map Dat.cells)]:=by
      rw[zb,zb,zh,ze h];rfl
     rw[fJ [] h,List.all_cons]at hv;generalize m.buf.getD i []=q at *;by_cases hq:q.length<=64
     . have hq':¬ (q.length:Int) > 64:=by omega
       simp only[hq,decide_true,zY]at hv;delta xO oO oN oA oM oR oS oK oF oL oI oX oB o0 o4 o9;simp (maxSteps:=9^7) -implicitDefEqProofs only[rv63,hi0,hi2,h,hgx,hq',zy,InR,not_true_eq_false,not_false_eq_true,WU,V,W3,↓reduceIte,seval,reduceCtorEq];exact⟨⟨by omega,by omega⟩,hv,by omega⟩
     . have hq':(q.length:Int) > 64:=by omega
       simp only[hq,decide_false,z7]at hv;subst hv;delta xO oO oN oA oM oR oS oK oF oL oI oX oB o0 o4 o9;simp (maxSteps:=9^7) -implicitDefEqProofs only[rv63,hi0,hi2,h,hgx,hq',zy,InR,not_true_eq_false,not_false_eq_true,WU,V,W3,↓reduceIte,seval,reduceCtorEq]
   . have hi2:¬ (i:Int) < (m.buf.length:Int):=by omega
     have hd:m.buf.drop i=[]:=zv (by omega);rw[hd,List.all_nil]at hv;subst hv;delta xO oO oN oA oM oR oS oK oF oL oI oX oB o0 o4 o9;simp (maxSteps:=9^7) -implicitDefEqProofs only[rv63,hi2,InR,WU,V,W3,↓reduceIte,seval,reduceCtorEq]
def ent63 : Ent Tryz.prog:=.of1 63 (fun _=>True) (fun m:Ms=>enc (smB m)) (fun _=>trivial) (fun m _=>Small_c m)
theorem xF {n:Nw} {c:Int} {l:List T3} (h:(gI n c l).2=0):(gP n).2=0/\isC n c=true/\(iH n (eM n c) l 0).2=0:=by
 unfold gI at h;by_cases h1:gc n c l=0
 . rw[if_neg (fun q=>q h1)]at h;have hc:=(uX (n:=n) (c:=c) (log:=l) (by rw[pr];exact h1)).1;refine⟨?_,hc,h⟩;rw[<- pr]at h1;unfold dS at h1;by_cases h2:(gP n).2=0
   . exact h2
   . rw[if_pos h2]at h1;exact h1
 . rw[if_pos h1]at h;exact absurd h h1
theorem yQ {n:Nw} {m:Ms} (net:NetOk n) (g:dN n m):MsB m:=by
 have h1:=net.len;have h2:m.buf.length=n.cells.length:=g.len;have h3:m.buf.flatten.length<=60:=g.large;have h4:0<=m.fresh/\m.fresh<=1000000:=g.fresh;refine⟨by omega,fun x hx=>?_,fun x hx=>?_⟩
 . have:=(List.sublist_flatten_of_mem hx).length_le;omega
 . have:=g.rng x hx;simp only[InR];omega
theorem AG (xs:List Int) (i:Nat) (h:i < xs.length):List.getD (xs.map Dat.cells) i [C.s (.int .i64 0)]=[C.s (.int .i64 (xs.getD i 0))]:=by
 rw[zb,zb,zh,ze h];rfl
theorem Ay (n:Nw) (m:Ms) (e:T3):(qm n m e).at_=e.y:=by
 have h:=at_done (p7 n m e.y) e e.y;unfold qm kW;rw[<- h]
theorem Bc {n:Nw} {m:Ms} (net:NetOk n) (g:dN n m):smB m=true:=by
 have h1:=net.len;have h2:m.buf.length=n.cells.length:=g.len;have h3:m.buf.flatten.length<=60:=g.large;simp only[smB,zm,decide_eq_true_eq,zx];refine⟨by omega,fun x hx=>?_⟩;have:=(List.sublist_flatten_of_mem hx).length_le;omega
theorem moved_c : FC Tryz.prog 87 [] [] (enc true) []:=by
 refine dD [] is87 (by simp) (by simp[bn]) (by simp[ap,ag]) (by simp[ap,ag]) (by simp[aC]) (fun cx _ hl _=>dC [ent89,ent90,ent30,v7 39 _ _ law_recv_c ⟨trivial,trivial,trivial⟩,v7 36 _ _ law_rep_c ⟨by rw[qD];simp[dG,dG.keysIns],trivial,trivial,trivial⟩,v7 80 _ _ law_fmt_c trivial] 2500 ?_);delta c87 oO oN oA oM oG oC oW oX oP oB oD o1 oZ o8 o9;simp (maxSteps:=9^7) -implicitDefEqProofs only[rv87,ent89,ent90,ent30,v7,lawRule,gW,jh,eO,enc_rul,qD,qf,qt,zt,zR,uH,yD,List.take_zero,yB,not_true_eq_false,WU,Ent.of0,Ent.of2,V,W3,↓reduceIte,seval,reduceCtorEq]
def wx : Ent Tryz.prog:=v7 87 [] (enc true) moved_c trivial
theorem refR_of {n:Nw} {c:Int} {l:List T3} (hN:(gP n).2=0) (hc:isC n c=true) (hl:l.length<=200) (h:(iH n (eM n c) l 0).2=0):(gI n c l).2=0:=by
 have hd:v8 n c=0:=by unfold v8;rw[if_neg (by simp[hN]),if_pos hc]
 rw[xw n c l hd,rpE,if_neg (by omega)];exact h
structure AgOk (n:Nw) (c:Int) (l:List T3) (s a b:Ms) (x1 x2 p:Int):Prop where
 ra:(gI n c (l++[⟨9,x1,0⟩,⟨10,x1+x2,s.serving⟩])).2=0
 rb:(gI n c (l++[⟨9,x1,0⟩,⟨11,x1+n.limit,0⟩])).2=0
 ea:(lu n c (l++[⟨9,x1,0⟩,⟨10,x1+x2,s.serving⟩])).m=a
 eb:(lu n c (l++[⟨9,x1,0⟩,⟨11,x1+n.limit,0⟩])).m=b
 la:(lu n c (l++[⟨9,x1,0⟩,⟨10,x1+x2,s.serving⟩])).longest=p
 lb:(lu n c (l++[⟨9,x1,0⟩,⟨11,x1+n.limit,0⟩])).longest=n.limit
 hp:x2<=p/\p<=n.limit
 ga:dN n a
 gb:dN n b
 pa:a.phase=0
 sa:a.serving=s.serving
 pb:b.phase=0
 sbw:b.serving=0
 ibw:b.since=x1+n.limit
 faw:a.got=s.got/\a.fresh=s.fresh
 fbw:b.got=s.got/\b.fresh=s.fresh
def AE : Ent Tryz.prog:=.of2 67 (fun (n:Nw) (m:Ms)=>NwS n/\NetOk n/\dN n m) (fun _ _=>enc (0:Int)) (fun _ _=>trivial) (fun n m h=>by
 have:=Al n m h.1 (yQ h.2.1 h.2.2) h.2.1;rw[Bb h.2.2]at this
 exact this)
theorem xy (t:Int):∀ k,vQ t (k+1)=vQ t k++[⟨2,t,0⟩,⟨1,t,0⟩]
 | 0=>rfl
 | k+1=>by
  show (⟨2,t,0⟩:T3) :: ⟨1,t,0⟩ :: vQ t (k+1)=(⟨2,t,0⟩ :: ⟨1,t,0⟩ :: vQ t k)++_
  rw[xy t k];rfl
theorem xY (t:Int):∀ k,(vQ t k).length=2*k
 | 0=>rfl
 | k+1=>by rw[vQ,zQ,zQ,xY t k];omega
theorem Bm (e:T3) (k:Nat):List.replicate (k+1) e=List.replicate k e++[e]:=List.replicate_succ'
theorem end_at {n:Nw} {c:Int} {l:List T3} (h:l≠[]):(lu n c l).m.at_=(l.getD (l.length - 1) ⟨0,0,0⟩).y:=by
 obtain⟨k,e,rfl⟩:∃ k e,l=k++[e]:=⟨l.dropLast,l.getLast h,(List.dropLast_concat_getLast h).symm⟩;rw[wH,List.foldl_append,List.foldl_cons,List.foldl_nil,Ay];have:(k++[e]).getD ((k++[e]).length - 1) ⟨0,0,0⟩=e:=by
  rw[zb,zK,List.length_singleton,Nat.add_sub_cancel,List.getElem?_append_right (zw _),Nat.sub_self];rfl
 rw[this]
theorem ord_ok {n:Nw} {c:Int} {l:List T3} (hr:(gI n c l).2=0) (hl:ed (lu n c l).m=true->(lu n c l).m.since+n.limit<=1000000000) (h2:(l++we n (lu n c l).m).length<=200) :
 (gI n c (l++we n (lu n c l).m)).2=0/\(lu n c (l++we n (lu n c l).m)).m.got=(lu n c l).m.fresh/\(lu n c (l++we n (lu n c l).m)).m.fresh=(lu n c l).m.fresh/\(lu n c (l++we n (lu n c l).m)).recv=upL 0 (lu n c l).m.fresh.toNat:=by
 obtain⟨hN,hc,hst⟩:=xF hr;obtain⟨a,b⟩:=AK (qS hN) hc l hst hl;exact⟨refR_of hN hc h2 a,b⟩
theorem xC (l:List T3) (e d:T3):(l++[e]).getD ((l++[e]).length - 1) d=e:=by
 rw[zb,zK,List.length_singleton,Nat.add_sub_cancel,List.getElem?_append_right (zw _),Nat.sub_self];rfl
theorem AR {n:Nw} {c:Int} {l:List T3} {s:Ms} (hs:(lu n c l).m=s):(l++vU n s=[]->s.at_=vT n s)/\(l++vU n s≠[]->((l++vU n s).getD ((l++vU n s).length - 1) ⟨0,0,0⟩).y=vT n s):=by
 unfold vU vT;by_cases ha:ed s=true
 . rw[if_pos ha,if_pos ha];exact⟨fun q=>by simp at q,fun _=>by rw[xC]⟩
 . rw[if_neg ha,if_neg ha];by_cases h1:s.phase=1
   . rw[if_pos h1];exact⟨fun _=>rfl,fun _=>by rw[xC]⟩
   . rw[if_neg h1,z4];exact⟨fun _=>rfl,fun q=>by rw[<- end_at (n:=n) (c:=c) q,hs]⟩
def chS (n:Nw) (s:Ms) (L:List T3):Chs:=[(61,.row 3 83 (L.map Dat.cells)),(7,.box (msD s)),(3,.box [.sl 1 (n.cells.map Dat.cells),.sl 2 (n.nb.map Dat.cells),.s (.int .i64 n.limit)])]
def slS (c T:Int):dJ:=[(1,.s (.int .i64 c)),(3,.ptr 3 0),(7,.ptr 7 0),(10,.own 61),(11,.s (.int .i64 T))]
theorem Bi (n:Nw) (c:Int) (L:List T3) (s:Ms) (hn:NwS n) (hf:0<=s.fresh/\s.fresh<=1000000) (h:L.length<=200->(gI n c L).2=0/\(lu n c L).m.got=s.fresh/\(lu n c L).m.fresh=s.fresh/\(lu n c L).recv=upL 0 s.fresh.toNat) (cx:Cx):SG Tryz.prog cx (cz [RV.tmp 6] [] (.s (.bool true)) []) [It.c E6.c18k4.cut] ⟨[(1,.s (.int .i64 c)),(3,.ptr 3 0),(7,.ptr 7 0),(10,.sl 3 (L.map Dat.cells))],[(7,.box (msD s)),(3,.box [.sl 1 (n.cells.map Dat.cells),.sl 2 (n.nb.map Dat.cells),.s (.int .i64 n.limit)])]⟩:=by
 have hdn:=je n;refine iJ ?_;delta E6.c18k4 oO oN oA oM oG oS oK oV oC oW oI oX oH oB oD oE oJ oZ o4 o5 o8 o9;by_cases h2:L.length<=200
 rotate_left
 . have h2':(L.length:Int) > 200:=by omega
   refine dC [] 900 ?_;simp (maxSteps:=9^7) -implicitDefEqProofs only[E6.rv18,qf,h2',zy,WU,V,W3,↓reduceIte,seval,reduceCtorEq]
 have h2':¬ (L.length:Int) > 200:=by omega
 obtain⟨q1,q2,q3,q4⟩:=h h2;have h36:=uy n c L hn;have h39:=sc n c L hn;rw[ow,yW q1,if_pos rfl]at h36;rw[if_pos q1,q4]at h39;have hll:L.length<=1000000:=by omega
 obtain⟨y,hy⟩:∃ y,(lu n c L).m=y:=⟨_,rfl⟩;rw[hy]at h36 q2 q3;have e1:=eq_true (show y.got=y.fresh by rw[q2,q3]);have e2:=eq_true q3;obtain⟨K,hK⟩:∃ K,s.fresh.toNat=K:=⟨_,rfl⟩;rw[hK]at h39;have hKf:(K:Int)=s.fresh:=by omega
 have hLK:=upL_len K 0;have hgK:=Bo K 0;generalize upL 0 K=R at *;refine dC [ent37,xP,v7 36 _ _ h36 ⟨by simp[qD,dG,dG.keysIns],trivial,trivial,trivial⟩,v7 39 _ _ h39 ⟨trivial,trivial,trivial⟩] 900 ?_;simp (maxSteps:=9^7) -implicitDefEqProofs only[E6.rv18,ent37,xP,v7,eO,qD,qf,hdn,hn,hll,h2',msD,e1,e2,hLK,hKf,zy,InR,not_true_eq_false,not_false_eq_true,WU,Ent.of1,V,W3,↓reduceIte,seval,reduceCtorEq];refine fI K (fun i=>[(19,.s (.int .i64 (i:Int)))]) (fun _=>[]) (fun _=>True) trivial ?_ (fun i hi _=>dC [] 800 ?_)
 . simp (maxSteps:=9^7) -implicitDefEqProofs only[V,W3,↓reduceIte,seval,reduceCtorEq]
   all_goals simp
 . by_cases h:i < K
   . have hi2:(i:Int) < (K:Int):=by omega
     have hi2':=eq_true (show (i:Int) < s.fresh by omega);have hi0:(0:Int)<=i:=by omega
     have hgd:=AG R i (by omega);rw[hgK i h,Int.zero_add]at hgd;delta E6.c18l3 oO oN oA oM oR oS oK oL oI oX oB o1 o4 o9;simp (maxSteps:=9^7) -implicitDefEqProofs only[E6.rv18,hi0,hi2,hi2',h,hgd,hLK,hKf,zy,InR,WU,V,W3,↓reduceIte,seval,reduceCtorEq];exact⟨⟨by omega,by omega⟩,by omega⟩
   . have hie:i=K:=by omega
     subst hie;have hi2:¬ ((i:Nat):Int) < (i:Int):=by omega
     have hi2':=eq_false (show ¬ s.fresh < s.fresh by omega);delta E6.c18l3 oO oN oA oM oR oS oK oL oI oX oB o1 o4 o9;simp (maxSteps:=9^7) -implicitDefEqProofs only[E6.rv18,hi2,hi2',hLK,hKf,zy,WU,V,W3,↓reduceIte,seval,reduceCtorEq]
theorem xf (n:Nw) (c T:Int) (M:List T3) (s:Ms) (hn:NwS n) (g:dN n s) (hM:M.length<=200) (h:(M++vQ T (s.fresh - s.got).toNat).length<=200->(gI n c (M++vQ T (s.fresh - s.got).toNat)).2=0/\(lu n c (M++vQ T (s.fresh - s.got).toNat)).m.got=s.fresh/\(lu n c (M++vQ T (s.fresh - s.got).toNat)).m.fresh=s.fresh/\(lu n c (M++vQ T (s.fresh - s.got).toNat)).recv=upL 0 s.fresh.toNat) (cx:Cx):SG Tryz.prog cx (cz [RV.tmp 6] [] (.s (.bool true)) []) [It.c E6.c18k5.cut] ⟨slS c T,chS n s M⟩:=by
 have hgt:=g.got;have hft:=g.fresh;refine iJ ?_;delta E6.c18k5 oM oS oK oF oL oX;refine dC [] 900 ?_;simp (maxSteps:=9^7) -implicitDefEqProofs only[slS,chS,msD,WU,V,W3,↓reduceIte,seval,reduceCtorEq];obtain⟨J,hJw⟩:∃ J,(s.fresh - s.got).toNat=J:=⟨_,rfl⟩;rw[hJw]at h;refine fI J (fun i=>[(13,.s (.int .i64 (s.got+(i:Int))))]) (fun i=>[(61,.row 3 83 ((M++vQ T i).map Dat.cells))]) (fun _=>True) trivial ?_ (fun i hi _=>dC [] 800 ?_)
 . simp (maxSteps:=9^7) -implicitDefEqProofs only[vQ,z4,V,W3,↓reduceIte,seval,reduceCtorEq]
   all_goals simp
 . by_cases hlt:i < J
   . have hi2:=eq_true (show s.got+(i:Int) < s.fresh by omega);have hal:=xY T i;have hll:(M++vQ T i).length<=3000000:=by rw[zK];omega
     have hap:(M++vQ T i).map Dat.cells++[[C.s (.int .i64 2),C.s (.int .i64 T),C.s (.int .i64 0)],[C.s (.int .i64 1),C.s (.int .i64 T),C.s (.int .i64 0)]]=(M++vQ T (i+1)).map Dat.cells:=by
      rw[xy,<- ye,yg (l₂:=[_,_])];rfl
     delta E6.c18l2 oO oN oA oM oR oS oK oF oL oX oB o3;simp (maxSteps:=9^7) -implicitDefEqProofs only[hi2,hap,InR,WU,V,W3,↓reduceIte,seval,reduceCtorEq];exact⟨⟨by omega,by omega⟩,⟨by omega,by omega⟩,hlt,by omega⟩
   . have hie:i=J:=by omega
     subst hie;have hi2:=eq_false (show ¬ s.got+(i:Int) < s.fresh by omega);delta E6.c18l2 oO oN oA oM oR oS oK oF oL oX oB o3;simp (maxSteps:=9^7) -implicitDefEqProofs only[hi2,InR,WU,V,W3,↓reduceIte,seval,reduceCtorEq];have hfin:=Bi n c (M++vQ T i) s hn hft h;unfold msD at hfin;exact hfin cx
theorem Bj (n:Nw) (c T:Int) (M:List T3) (s:Ms) (hn:NwS n) (g:dN n s) (hM:M.length<=100) (h:∀ N,N=M++wb n s->N.length<=200->((N++vQ T (s.fresh - s.got).toNat).length<=200->(gI n c (N++vQ T (s.fresh - s.got).toNat)).2=0/\(lu n c (N++vQ T (s.fresh - s.got).toNat)).m.got=s.fresh/\(lu n c (N++vQ T (s.fresh - s.got).toNat)).m.fresh=s.fresh/\(lu n c (N++vQ T (s.fresh - s.got).toNat)).recv=upL 0 s.fresh.toNat)) (hT:T=vT n s) (cx:Cx):SG Tryz.prog cx (cz [RV.tmp 6] [] (.s (.bool true)) []) [It.c E6.c18k6.cut] ⟨slS c T,chS n s M⟩:=by
 have hlarge:s.buf.flatten.length<=60:=g.large;have hblen:=g.len;refine iJ ?_;delta E6.c18k6 oO oN oM oG oS oK oF oL oV oI oX oP oB oE oJ;rcases Classical.propComplete (s.phase=0)with h0 | h0
 rotate_left
 . have hF:wb n s=[]:=by unfold wb;rw[if_neg (fun q=>of_eq_false h0 q.1)]
   have hfin:=xf n c T M s hn g (by omega) (h M (by rw[hF,z4]) (by omega));unfold slS chS msD at hfin;refine dC [] 900 ?_;simp (maxSteps:=9^7) -implicitDefEqProofs only[slS,chS,msD,h0,not_true_eq_false,not_false_eq_true,WU,V,W3,↓reduceIte,seval,reduceCtorEq];exact hfin cx
 rcases Classical.propComplete (s.source=-1)with h1 | h1
 . have hF:wb n s=[]:=by unfold wb;rw[if_neg (fun q=>q.2 (of_eq_true h1))]
   have hfin:=xf n c T M s hn g (by omega) (h M (by rw[hF,z4]) (by omega));unfold slS chS msD at hfin;refine dC [] 900 ?_;simp (maxSteps:=9^7) -implicitDefEqProofs only[slS,chS,msD,h0,h1,not_true_eq_false,not_false_eq_true,WU,V,W3,↓reduceIte,seval,reduceCtorEq];exact hfin cx
 have hsrc:=g.src (of_eq_false h1);have hix:=g.ix hsrc;have hs0:(0:Int)<=s.source/\s.source < (s.buf.length:Int):=by
  have h1:=fH hsrc;omega
 obtain⟨hs0,hs1⟩:=hs0;have hF:wb n s=List.replicate (dO s s.source).length ⟨7,T,0⟩:=by unfold wb;rw[if_pos ⟨of_eq_true h0,of_eq_false h1⟩,hT]
 have hgx:List.getD (s.buf.map Dat.cells) s.source.toNat [C.sl 0 []]=[C.sl 1 ((dO s s.source).map Dat.cells)]:=by
  unfold dO;rw[zb,zb,zh,ze hix];rfl
 have hbl:(dO s s.source).length<=60:=by
  have:dO s s.source∈s.buf:=by unfold dO;rw[zb,ze hix];exact yy hix
  have:=(List.sublist_flatten_of_mem this).length_le;omega
 generalize dO s s.source=q at *;refine dC [] 900 ?_;simp (maxSteps:=9^7) -implicitDefEqProofs only[slS,chS,msD,h0,h1,not_true_eq_false,not_false_eq_true,WU,V,W3,↓reduceIte,seval,reduceCtorEq];refine fI q.length (fun i=>[(12,.s (.int .i64 (i:Int)))]) (fun i=>[(61,.row 3 83 ((M++List.replicate i (⟨7,T,0⟩:T3)).map Dat.cells))]) (fun _=>True) trivial ?_ (fun i hi _=>dC [] 800 ?_)
 . simp (maxSteps:=9^7) -implicitDefEqProofs only[List.replicate_zero,z4,V,W3,↓reduceIte,seval,reduceCtorEq]
   all_goals simp
 . by_cases hlt:i < q.length
   . have hi2:=eq_true (show (i:Int) < (q.length:Int) by omega);have hll:(M++List.replicate i (⟨7,T,0⟩:T3)).length<=3000000:=by rw[zK,List.length_replicate];omega
     have hap:(M++List.replicate i (⟨7,T,0⟩:T3)).map Dat.cells++[[C.s (.int .i64 7),C.s (.int .i64 T),C.s (.int .i64 0)]]=(M++List.replicate (i+1) (⟨7,T,0⟩:T3)).map Dat.cells:=by
      rw[Bm,<- ye,yg (l₂:=[_])];rfl
     delta E6.c18l1 oO oN oA oM oR oS oK oF oL oX oB o0 o3 o4;simp (maxSteps:=9^7) -implicitDefEqProofs only[hi2,hs0,hs1,hix,hgx,hap,zy,InR,WU,V,W3,↓reduceIte,seval,reduceCtorEq];exact⟨⟨by omega,by omega⟩,⟨by omega,by omega⟩,hlt,by omega⟩
   . have hie:i=q.length:=by omega
     subst hie;have hi2:=eq_false (show ¬ (q.length:Int) < (q.length:Int) by omega);delta E6.c18l1 oO oN oA oM oR oS oK oF oL oX oB o0 o3 o4;simp (maxSteps:=9^7) -implicitDefEqProofs only[hi2,hs0,hs1,hix,hgx,zy,InR,WU,V,W3,↓reduceIte,seval,reduceCtorEq];have hfin:=xf n c T (M++List.replicate q.length (⟨7,T,0⟩:T3)) s hn g (by rw[zK,List.length_replicate];omega) (h _ (by rw[hF]) (by rw[zK,List.length_replicate];omega));unfold slS chS msD at hfin;exact hfin cx
theorem AQ (n:Nw) (s:Ms):(vU n s).length<=1:=by
 unfold vU;split
 . exact zw _
 . split <;> simp
theorem Bk (n:Nw) (c:Int) (l:List T3) (s:Ms) (hs:(lu n c l).m=s) (hn:NwS n) (g:dN n s) (h30:l.length<=30) (h:∀ N,N=l++vU n s++wb n s->N.length<=200->((N++vQ (vT n s) (s.fresh - s.got).toNat).length<=200->(gI n c (N++vQ (vT n s) (s.fresh - s.got).toNat)).2=0/\(lu n c (N++vQ (vT n s) (s.fresh - s.got).toNat)).m.got=s.fresh/\(lu n c (N++vQ (vT n s) (s.fresh - s.got).toNat)).m.fresh=s.fresh/\(lu n c (N++vQ (vT n s) (s.fresh - s.got).toNat)).recv=upL 0 s.fresh.toNat)) (cx:Cx):SG Tryz.prog cx (cz [RV.tmp 6] [] (.s (.bool true)) []) [It.c E6.c18k7.cut] ⟨[(1,.s (.int .i64 c)),(3,.ptr 3 0),(7,.ptr 7 0),(10,.own 61)],chS n s (l++vU n s)⟩:=by
 obtain⟨q1,q2⟩:=AR (n:=n) (c:=c) hs;have hta:=AQ n s;have hml:(l++vU n s).length<=31:=by rw[zK];omega
 generalize l++vU n s=M at *;have hfin:=Bj n c (vT n s) M s hn g (by omega) h rfl;unfold slS chS msD at hfin;refine iJ ?_;delta E6.c18k7 oO oN oA oM oR oS oK oF oL oI oX oB o3 o4;refine dC [] 900 ?_;by_cases hM:M=[]
 . have hM0:M.length=0:=by rw[hM];rfl
   have h0:¬ ((0:Nat):Int) > 0:=by decide
   simp (maxSteps:=9^7) -implicitDefEqProofs only[chS,msD,hM0,h0,zy,WU,V,W3,↓reduceIte,seval,reduceCtorEq];rw[<- q1 hM]at hfin;exact hfin cx
 . have hM0:0 < M.length:=List.length_pos_iff.2 hM;have hM1:(M.length:Int) > 0:=by omega
   have hI:(-9223372036854775808<=(M.length:Int) - 1/\(M.length:Int) - 1<=9223372036854775807):=by omega
   have hI0:(0:Int)<=(M.length:Int) - 1:=by omega
   have hI1:(M.length:Int) - 1 < (M.length:Int):=by omega
   have hI2:((M.length:Int) - 1).toNat=M.length - 1:=by omega
   have hI3:M.length - 1 < M.length:=by omega
   have hgd:List.getD (M.map Dat.cells) (M.length - 1) []=[C.s (.int .i64 (M.getD (M.length - 1) ⟨0,0,0⟩).x),C.s (.int .i64 (M.getD (M.length - 1) ⟨0,0,0⟩).y),C.s (.int .i64 (M.getD (M.length - 1) ⟨0,0,0⟩).z)]:=by
    rw[zb,zb,zh,ze hI3];rfl
   rw[q2 hM]at hgd;simp (maxSteps:=9^7) -implicitDefEqProofs only[chS,msD,hM1,hI,hI0,hI1,hI2,hI3,hgd,qf,zy,InR,WU,V,W3,↓reduceIte,seval,reduceCtorEq];exact hfin cx
theorem yU (n:Nw) (c:Int) (l:List T3) (s:Ms) (hs:(lu n c l).m=s) (hn:NwS n) (g:dN n s) (h30:l.length<=30) (h:∀ N,N=l++vU n s++wb n s->N.length<=200->((N++vQ (vT n s) (s.fresh - s.got).toNat).length<=200->(gI n c (N++vQ (vT n s) (s.fresh - s.got).toNat)).2=0/\(lu n c (N++vQ (vT n s) (s.fresh - s.got).toNat)).m.got=s.fresh/\(lu n c (N++vQ (vT n s) (s.fresh - s.got).toNat)).m.fresh=s.fresh/\(lu n c (N++vQ (vT n s) (s.fresh - s.got).toNat)).recv=upL 0 s.fresh.toNat)) (cx:Cx):SG Tryz.prog cx (cz [RV.tmp 6] [] (.s (.bool true)) []) [It.c E6.c18k8.cut] ⟨[(1,.s (.int .i64 c)),(3,.ptr 3 0),(7,.ptr 7 0),(10,.own 61)],chS n s (if ed s=true then l++vU n s else l)⟩:=by
 have hfin:=Bk n c l s hs hn g h30 h;unfold chS msD at hfin;refine iJ ?_;delta E6.c18k8 oO oN oA oM oR oS oK oF oL oI oX oB o3;refine dC [] 900 ?_;rcases Classical.propComplete (s.phase=1)with h1 | h1
 . have ha:¬ ed s=true:=by simp[ed,of_eq_true h1]
   have hA:vU n s=[⟨4,s.at_,0⟩]:=by unfold vU;rw[if_neg ha,if_pos (of_eq_true h1)]
   have hap:l.map Dat.cells++[[C.s (.int .i64 4),C.s (.int .i64 s.at_),C.s (.int .i64 0)]]=(l++vU n s).map Dat.cells:=by rw[hA,yg];rfl
   rw[if_neg ha];simp (maxSteps:=9^7) -implicitDefEqProofs only[chS,msD,h1,hap,qf,InR,WU,V,W3,↓reduceIte,seval,reduceCtorEq];exact⟨by omega,hfin cx⟩
 . have hL:(if ed s=true then l++vU n s else l)=l++vU n s:=by
    by_cases ha:ed s=true
    . rw[if_pos ha]
    . rw[if_neg ha];unfold vU;rw[if_neg ha,if_neg (of_eq_false h1),z4]
   rw[hL];simp (maxSteps:=9^7) -implicitDefEqProofs only[chS,msD,h1,qf,InR,WU,V,W3,↓reduceIte,seval,reduceCtorEq];exact hfin cx
theorem Bl (n:Nw) (c:Int) (l:List T3) (s:Ms) (hs:(lu n c l).m=s) (hn:NwS n) (net:NetOk n) (g:dN n s) (h30:l.length<=30) (hh:(ed s=true->s.since+n.limit<=1000000000)->∀ N,N=l++vU n s++wb n s->N.length<=200->((N++vQ (vT n s) (s.fresh - s.got).toNat).length<=200->(gI n c (N++vQ (vT n s) (s.fresh - s.got).toNat)).2=0/\(lu n c (N++vQ (vT n s) (s.fresh - s.got).toNat)).m.got=s.fresh/\(lu n c (N++vQ (vT n s) (s.fresh - s.got).toNat)).m.fresh=s.fresh/\(lu n c (N++vQ (vT n s) (s.fresh - s.got).toNat)).recv=upL 0 s.fresh.toNat)) (cx:Cx):SG Tryz.prog cx (cz [RV.tmp 6] [] (.s (.bool true)) []) [It.c E6.c18k9.cut] ⟨[(1,.s (.int .i64 c)),(2,.sl 3 (l.map Dat.cells)),(3,.ptr 3 0),(7,.ptr 7 0)],[(7,.box (msD s)),(3,.box [.sl 1 (n.cells.map Dat.cells),.sl 2 (n.nb.map Dat.cells),.s (.int .i64 n.limit)])]⟩:=by
 have hll:l.length<=1000000:=by omega
 have hlim:=net.lim;have hat:=g.at_;have hsi:=g.since;have hI:(-9223372036854775808<=s.since+n.limit/\s.since+n.limit<=9223372036854775807):=by omega
 refine iJ ?_;delta E6.c18k9 oO oN oA oM oG oR oS oK oF oL oC oI oX oH oB oE oJ o3 o9;cases ha:ed s
 . have hp2:(s.phase=2)=False:=eq_false (by simp[ed]at ha;exact ha.1);have hp3:(s.phase=3)=False:=eq_false (by simp[ed]at ha;exact ha.2);have hfin:=yU n c l s hs hn g h30 (hh (fun q=>by rw[ha]at q;cases q));rw[if_neg (by simp[ha])]at hfin;unfold chS msD at hfin;refine dC [wd l hll] 900 ?_;simp (maxSteps:=9^7) -implicitDefEqProofs only[wd,vX,msD,hp2,hp3,qf,InR,not_true_eq_false,not_false_eq_true,WU,V,W3,↓reduceIte,seval,reduceCtorEq];exact hfin cx
 . have hp:(s.phase=2)=True\/((s.phase=2)=False/\(s.phase=3)=True):=by
    simp[ed]at ha;rcases Classical.propComplete (s.phase=2)with h | h
    . exact .inl h
    . right;refine⟨h,eq_true ?_⟩;rcases ha with ha | ha
      . exact absurd ha (by rw[h];exact id)
      . exact ha
   by_cases hv:s.since+n.limit > 1000000000
   . rcases hp with hp2 | ⟨hp2,hp3⟩
     . refine dC [wd l hll] 900 ?_;simp (maxSteps:=9^7) -implicitDefEqProofs only[E6.rv18,wd,vX,msD,hp2,hv,hI,qf,InR,not_true_eq_false,not_false_eq_true,WU,V,W3,↓reduceIte,seval,reduceCtorEq]
     . refine dC [wd l hll] 900 ?_;simp (maxSteps:=9^7) -implicitDefEqProofs only[E6.rv18,wd,vX,msD,hp2,hp3,hv,hI,qf,InR,not_true_eq_false,not_false_eq_true,WU,V,W3,↓reduceIte,seval,reduceCtorEq]
   . have hfin:=yU n c l s hs hn g h30 (hh (fun _=>by omega));have hA:vU n s=[⟨11,s.since+n.limit,0⟩]:=by unfold vU;rw[if_pos ha]
     have hap:l.map Dat.cells++[[C.s (.int .i64 11),C.s (.int .i64 (s.since+n.limit)),C.s (.int .i64 0)]]=(l++vU n s).map Dat.cells:=by rw[hA,yg];rfl
     rw[if_pos ha]at hfin;unfold chS msD at hfin;rcases hp with hp2 | ⟨hp2,hp3⟩
     . refine dC [wd l hll] 900 ?_;simp (maxSteps:=9^7) -implicitDefEqProofs only[wd,vX,msD,hp2,hv,hI,hap,qf,InR,not_true_eq_false,not_false_eq_true,WU,V,W3,↓reduceIte,seval,reduceCtorEq];exact⟨by omega,hfin cx⟩
     . refine dC [wd l hll] 900 ?_;simp (maxSteps:=9^7) -implicitDefEqProofs only[wd,vX,msD,hp2,hp3,hv,hI,hap,qf,InR,not_true_eq_false,not_false_eq_true,WU,V,W3,↓reduceIte,seval,reduceCtorEq];exact⟨by omega,hfin cx⟩
theorem Order_c (n:Nw) (c:Int) (l:List T3):FC Tryz.prog 18 [enc n,enc c,enc l] [] (enc true) []:=by
 have hdn:=je n;by_cases hfew:few n=true
 rotate_left
 . have hf:few n=false:=by simpa using hfew
   refine dD [] E6.is18 (by simp) (by simp[bn]) (by simp[ap,ag]) (by simp[ap,ag]) (by simp[aC]) (fun cx _ _ _=>dC [wx,ent34] 1500 ?_);delta E6.c18 oO oN oA oM oG oS oK oC oW oI oX oH oB oD oZ o5 o7 o8 o9;simp (maxSteps:=9^7) -implicitDefEqProofs only[E6.rv18,wx,ent34,v7,eO,dV,hdn,hf,not_true_eq_false,WU,Ent.of1,V,W3,↓reduceIte,seval,reduceCtorEq]
 by_cases h30:l.length<=30
 rotate_left
 . have hs:=eq_true (show (l.length:Int) > 30 by omega);refine dD [] E6.is18 (by simp) (by simp[bn]) (by simp[ap,ag]) (by simp[ap,ag]) (by simp[aC]) (fun cx _ _ _=>dC [wx,ent34] 1500 ?_);delta E6.c18 oO oN oA oM oG oS oK oC oW oI oX oH oB oD oZ o5 o7 o8 o9;simp (maxSteps:=9^7) -implicitDefEqProofs only[E6.rv18,wx,ent34,v7,eO,dV,hdn,hfew,hs,not_true_eq_false,WU,Ent.of1,V,W3,↓reduceIte,seval,reduceCtorEq]
 have hs:=eq_false (show ¬ (l.length:Int) > 30 by omega);have hn:=few_nws hfew;have h53:=AU n c l hn;by_cases hR:(gI n c l).2=0
 rotate_left
 . generalize (gI n c l).2=E at *;refine dD [] E6.is18 (by simp) (by simp[bn]) (by simp[ap,ag]) (by simp[ap,ag]) (by simp[aC]) (fun cx _ _ _=>dC [wx,ent34,v7 53 _ _ h53 trivial] 1500 ?_);delta E6.c18 oO oN oA oM oG oS oK oC oW oI oX oH oB oD oZ o5 o7 o8 o9;simp (maxSteps:=9^7) -implicitDefEqProofs only[E6.rv18,wx,ent34,v7,eO,dV,hdn,hfew,hs,hR,not_true_eq_false,not_false_eq_true,WU,Ent.of1,V,W3,↓reduceIte,seval,reduceCtorEq]
 rw[hR]at h53;obtain⟨hN,hc,hst⟩:=xF hR;have net:=qS hN;obtain⟨g,_,_⟩:=xe net hc l hst;have h36:=uy n c l hn;rw[ow,yW hR,if_pos rfl]at h36;obtain⟨s,hs0⟩:∃ s,(lu n c l).m=s:=⟨_,rfl⟩;rw[hs0]at h36 g;have hm:=yQ net g;have hds:=vV s;have hsm:=Bc net g;have hll:l.length<=1000000:=by omega
 refine dD [] E6.is18 (by simp) (by simp[bn]) (by simp[ap,ag]) (by simp[ap,ag]) (by simp[aC]) (fun cx _ _ _=>dC [wx,ent34,v7 53 _ _ h53 trivial,ent37,xP,v7 36 _ _ h36 ⟨by simp[qD,dG,dG.keysIns],trivial,trivial,trivial⟩,ent63,AE] 1500 ?_);delta E6.c18 oO oN oA oM oG oS oK oC oW oI oX oH oB oD oZ o5 o7 o8 o9;simp (maxSteps:=9^7) -implicitDefEqProofs only[E6.rv18,wx,ent34,ent37,xP,ent63,AE,v7,eO,qD,dV,qf,hdn,hds,hn,net,g,hsm,hll,hfew,hs,not_true_eq_false,not_false_eq_true,WU,Ent.of1,Ent.of2,V,W3,↓reduceIte,seval,reduceCtorEq]
 have hfin:=Bl n c l s hs0 hn net g h30 (fun hl N hN hNl h2=>by
  have hE:N++vQ (vT n s) (s.fresh - s.got).toNat=l++we n s:=by rw[hN,we,<- ye,<- ye]
  rw[hE]at h2 ⊢;subst hs0
  exact ord_ok hR hl h2)
 unfold msD at hfin;exact hfin cx
end Go.Proofs.YtcbabnbiinkafaaGreatDoor
end
section
open Go Go.Am
open Go.Am.Dat (cells)
namespace Go.Proofs.YtcbabnbiinkafaaGreatDoor
open Go.ChangeShapes Go.WideShapes Go.ChangeAt Go.RowKit
open Go.ChangeMaps (open_string shut_string)
set_option maxRecDepth 100000
theorem rEv : ReadsP Tryz.prog 83 T3 (fun _=>True):=by
 refine⟨by kernel_rfl,by decide,fun en w sp fuel cs x h=>?_⟩;obtain⟨l,a0,p0,e0,h0⟩:=lB rInt Tryz.underlying83 h 0 rfl rfl;obtain⟨_,a1,p1,e1,h1⟩:=lB rInt Tryz.underlying83 h 1 rfl rfl;obtain⟨_,a2,p2,e2,h2⟩:=lB rInt Tryz.underlying83 h 2 rfl rfl;refine⟨⟨a0,a1,a2⟩,trivial,rfl,l.trans (by kernel_rfl),fun j c hj=>?_⟩
 match j,hj with
 | 0,hj=>cases hj;exact h0 0 _ rfl
 | 1,hj=>cases hj;exact h1 0 _ rfl
 | 2,hj=>cases hj;exact h2 0 _ rfl
theorem rEvs : ReadsP Tryz.prog 48 (List T3) (fun l=>∀ a∈l,True):=ReadsP.list rEv Tryz.underlying48 (by kernel_rfl)
theorem Bg (os:Os) (started:os.Started) (H:Type) (en:TypeId×Value->H) :
 ReturnsInHanded {} Tryz.checked os 18 .any (fun w args=>(Rows.topMoveOnceInOrderSpec.pre en Tryz.prog Tryz.f18 Rows.topMoveOnceInOrderRow.domain false w args/\laidMetH Tryz.prog Rows.topMoveOnceInOrderRow.laid w)/\sizedMet en Tryz.prog Tryz.f18 (OpenSpec.ofChange Rows.topMoveOnceInOrderSpec) false w args)
  (Rows.topMoveOnceInOrderSpec.post en Tryz.prog Tryz.f18 false true false false):=by
 refine returnsInHanded_of_change_and (C:=Tryz.checked) (X:=fun w _=>laidMetH Tryz.prog Rows.topMoveOnceInOrderRow.laid w) (fun _ _ _ hh h=>h.of_heap hh) ownOk started (by kernel_rfl) Tryz.func18
  (ChangeSpec.witness_shaped (enc:=en) (C:=Tryz.checked) (os:=os) (X:=fun w _=>laidMetH Tryz.prog Rows.topMoveOnceInOrderRow.laid w) false (World.doorLaid Tryz.prog 89 os) #[.agg #[.slice none 0 0,.slice none 0 0,.int .i64 0],.int .i64 0,.slice none 0 0] 8 rfl (doorShaped os _) (by kernel_rfl) (by kernel_rfl) (by kernel_rfl) (door_met os _)) ?_
 intro W base args ds gs before hval0 hW hcnd hsz hL _;have hval:∀ (j:Nat) t v,Tryz.f18.params[j]? = some t->args[j]? = some v->Value.okWide Tryz.prog W .any base t v:=hval0;have hW':=hW;obtain⟨p,q,hA0,hV,rfl,hfz,hnd⟩:=hW;have hA:DataW.TrodAll en Tryz.prog W 0 (fun _=>true) true Tryz.f18.params.toList args.toList ds p:=hA0;rw[Tryz.params18]at hA hval;obtain⟨v0,vs0,d0w,ds0,p0,q0,hargs,rfl,rfl,h0,r0w⟩:=trodAll_cons hA;obtain⟨v1,vs1,d1,ds1,p1,q1,rfl,rfl,rfl,h1,r1⟩:=trodAll_cons r0w;obtain⟨v2,vs2,d2,ds2,p2,q2,rfl,rfl,rfl,h2,r2⟩:=trodAll_cons r1;obtain⟨rfl,rfl,rfl⟩:=trodAll_nil r2;obtain rfl:args=#[v0,v1,v2]:=by cases args;simp_all
 obtain⟨rfl,rfl⟩:=trodVars_none hV;have lt0:∀ x∈p0,x.block < W.heap.size:=by obtain⟨m,hm⟩:=h0;exact DataW.trod_lt m _ _ _ hm
 have lt2:∀ x∈p2,x.block < W.heap.size:=by obtain⟨m,hm⟩:=h2;exact DataW.trod_lt m _ _ _ hm
 obtain⟨x0,g0,hx0⟩:=rNw.argS rfl Tryz.underlying47 (hval 0 47 v0 rfl rfl) h0;obtain⟨x1,rfl,rfl,rfl,w1⟩:=open_int Tryz.underlying3 (hval 1 3 v1 rfl rfl) h1;obtain⟨x2,g2,hx2⟩:=rEvs.arg Tryz.underlying48 (hval 2 48 v2 rfl rfl) h2;clear hA0 hval0;refine (law_walkG (Order_c x0 x1 x2) (W:=W) (vs:=#[v0,.int .i64 x1,v2]) (glAll hL) rfl (fun j c hj E=>?_)).mono fun e W' ⟨he,bel⟩=>?_
 . match j,hj with
   | 0,hj=>cases hj;exact hx0 E
   | 1,hj=>cases hj;exact .d (.s _)
   | 2,hj=>cases hj;exact hx2 E
 . subst he;exact⟨_,rfl,_,_,_,[],_,[],hW',trodAll_mk1 (shut_bool Tryz.underlying4 _),(trodAll_cons_mk (Below.trod laidOut (by kernel_rfl) (of_decide_eq_true (by kernel_rfl)) h0 bel lt0) (trodAll_cons_mk (shut_int Tryz.underlying3 w1) (trodAll_cons_mk (Below.trod laidOut (by kernel_rfl) (of_decide_eq_true (by kernel_rfl)) h2 bel lt2) trodAll_mk0))),rfl,bel.frame _,fun h=>by cases h⟩
theorem Be : (Rows.topMoveOnceInOrderRow.inPlace == Tryz.prog.inPlace 18)=true:=by kernel_rfl
theorem jUnf18 : (Rows.topMoveOnceInOrderRow.unfollowed == Tryz.prog.unfollowed 18)=true:=by kernel_rfl
theorem jRec18 : (Rows.topMoveOnceInOrderRow.recurses == Tryz.prog.recurses 18)=true:=by kernel_rfl
theorem Bd : (Rows.topMoveOnceInOrderRow.named == Tryz.prog.varsNamed 18)=true:=by kernel_rfl
theorem jKeys18 : (Rows.topMoveOnceInOrderRow.plainKeys == Tryz.prog.plainKeys)=true:=jKeys
theorem jLift18 : (Rows.topMoveOnceInOrderRow.lifted == Tryz.prog.liftsFinal)=true:=jLift
theorem jMake18 : (Tryz.prog.make == some Rows.topMoveOnceInOrderRow.make)=true:=jMake
theorem jVeil18 : Rows.topMoveOnceInOrderRow.veiledFits Tryz.prog Tryz.f18.params.toList (Tryz.f18.params.toList++Rows.topMoveOnceInOrderSpec.plain.varTypes Tryz.prog++Tryz.f18.resultTypes.toList)=true:=by kernel_rfl
end Go.Proofs.YtcbabnbiinkafaaGreatDoor
end
