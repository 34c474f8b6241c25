/- Part 2 of the proof of: MoveReplays returns true for every input and never panics: the state behind a log, or the number of a wrong event and the error, and the numbers that the phone takes, are as the reference says; conditions: those of the given statement, that the package variables it lists hold what their initialisers lay. -/
import Derived.Test.YtcbabnbiinkafaaGreatDoorMoveReplays1
set_option linter.all false
section
open Go Go.Am
open Go.Am.Dat (cells)
namespace Go.Proofs.YtcbabnbiinkafaaGreatDoor
set_option maxHeartbeats 4000000
set_option maxRecDepth 100000
theorem All.apply {n:Nw} {p:Ph} {w:Rw} {e:T3} (hn:NetOk n) (a:All n p w) (h:gh n p.m e=0):All n (kK n p e) (rwStep n w e):=by
 have hev:=r7 h
 obtain ⟨hx,hy,hcz⟩:=ev_ok hev
 have hE:=h
 rw [gh,if_neg (by simp [hev]),qB] at hE
 have hat:p.m.at_≤e.y:=by
  rcases Classical.em (e.y < p.m.at_) with q | q
  · rw [if_pos q] at hE; cases hE
  · omega
 rw [if_neg (by omega)] at hE
 have G:dO n (lA n p.m e.y):=a.g.pass hn hat hy.2
 have hq:lA n p.m e.y=(atP (eO n p e.y) e.y).m:=by
  show _=({ (eO n p e.y).m with at_:=e.y }:Ms)
  rw [pm]; rfl
 have hd:ez n (eO n p e.y).m e=0:=by
  rw [← hE,hq]; rfl
 have r1:=a.r.pass hn a.g.since.1 e.y
 have c1:=a.c.pass hn a.g hat
 have G':dO n (atP (eO n p e.y) e.y).m:=hq ▸ G
 refine ⟨by rw [qH]; exact a.g.apply hn h,?_,?_⟩
 · refine RwOk.act hn r1 hx hy.1 G'.since.1 (fun q=>?_) hd ?_
   · exact G'.due q
   · rw [a.r.m]
     exact (qH n p e).symm
 · exact Chn.doP (p:=eO n p e.y) (fun h2=>G'.tgt (fun q=>(G'.f2 q).2 h2)) c1 hy.1 hev hd
theorem xO (n:Nw):∀ (l:List T3) (m:Ms) (i j:Int),(iV n m l i).2=0→(iV n m l j).2=0
 | [],m,i,j,h=>h
 | e :: l,m,i,j,h=>by
  rw [iV] at h ⊢
  by_cases h0:gh n m e=0
  · rw [if_pos h0] at h ⊢; exact xO n l _ _ _ h
  · rw [if_neg h0] at h; exact absurd h h0
theorem xu (n:Nw):∀ (l:List T3) (m:Ms) (i:Int),(iV n m l i).2=0→iV n m l i=(0,0)
 | [],m,i,h=>rfl
 | e :: l,m,i,h=>by
  rw [iV] at h ⊢
  by_cases h0:gh n m e=0
  · rw [if_pos h0] at h ⊢; exact xu n l _ _ h
  · rw [if_neg h0] at h; exact absurd h h0
theorem endP_m (n:Nw) (c:Int) (l:List T3):(lQ n c l).m=l.foldl (qI n) (eQ n c):=by
 have key:∀ (l:List T3) (p:Ph),(jx n p l).m=l.foldl (qI n) p.m:=by
  intro l
  induction l with
  | nil=>intro p; rfl
  | cons e l ih=>intro p; rw [jx,ih,qH]; rfl
 exact key l _
def wP (f:FuncId) (as0:List C) (r:C) (k:Nat) (c:Ch) (hr:dE [k] r) (hc:gk [k] c) (h:FC Tryz.prog f as0 [] r [(k,c)]):Ent Tryz.prog:=.mk3 f (fun args chs=>some (args=as0∧chs=[],r,[(k,c)],[k])) (by
 intro args chs pp r' chs' nk hs hq
 simp only [Option.some.injEq,Prod.mk.injEq] at hs
 obtain ⟨rfl,rfl,rfl,rfl⟩:=hs
 obtain ⟨rfl,rfl⟩:=hq
 refine ⟨h,⟨fun k' c' hm=>.inl ?_,fun k cs hm=>(by simp at hm),hr,fun k' c' hm=>?_⟩⟩
 · simp only [List.mem_singleton,Prod.mk.injEq] at hm ⊢; exact hm.1
 · simp only [List.mem_singleton,Prod.mk.injEq] at hm
   obtain ⟨rfl,rfl⟩:=hm
   exact hc)
theorem yo (l:List Int) (h:l.length≤1000000):FC Tryz.prog 24 [enc l] [] (.own 3) [(3,.row 1 3 (l.map Dat.cells))]:=by
 refine dC [3] is24 (by simp) (by simp [bj]) (by simp [an,ag]) (by simp [an,ag,av]) (by simp [aB,lk]) (fun cx _ hl _=>dB [] 800 ?_)
 delta c24 oO oN oA oM oT oG oR oQ oS oK oF oL
 simp (maxSteps:=4000000) -implicitDefEqProofs only [rv24,InR,WU,Ent.of0,Ent.of1,Ent.of2,Ent.of3,Ent.of4,V,W3,↓reduceIte,seval,reduceCtorEq]
 omega
def xC (l:List Int) (h:l.length≤1000000):Ent Tryz.prog:=wP 24 [enc l] (.own 3) 3 (.row 1 3 (l.map Dat.cells)) (by simp [dE]) (by simp [gk]) (yo l h)
structure BufS (b:List (List Int)):Prop where
 l:b.length≤1000000
 r:∀ x∈b,x.length≤1000000
theorem yf (b:List (List Int)) (h:BufS b):FC Tryz.prog 60 [enc b] [] (.own 3) [(3,.deep 1 3 24 none (fO b))]:=by
 have h1:=h.l
 refine dC [3] D7.is60 (by simp) (by simp [bj]) (by simp [an,ag]) (by simp [an,ag,av]) (by simp [aB,lk]) (fun cx _ hl _=>dB [] 800 ?_)
 delta D7.c60 oO oN oA oM oT oG oR oQ oS oK oF oL
 simp (maxSteps:=4000000) -implicitDefEqProofs only [D7.rv60,InR,WU,Ent.of0,Ent.of1,Ent.of2,Ent.of3,Ent.of4,V,W3,↓reduceIte,seval,reduceCtorEq]
 refine ⟨by simp,?_⟩
 refine eM b.length (fun i=>[(4,.s (.int .i64 (i:Int)))]) (fun i=>[(3,.deep 1 3 24 none (fO (b.take i)))]) (fun _=>True) trivial ?_ (fun i hi _=>?_)
 · simp (maxSteps:=4000000) -implicitDefEqProofs only [Ent.of0,Ent.of1,Ent.of2,Ent.of3,Ent.of4,V,W3,↓reduceIte,seval,reduceCtorEq]
   all_goals rfl
 · by_cases hlt:i < b.length
   · have hi2:(i:Int) < (b.length:Int):=by omega
     have hi0:(0:Int)≤i:=by omega
     have hgx:List.getD (b.map Dat.cells) i [C.sl 0 []]=[C.sl 1 ((b.getD i []).map Dat.cells)]:=by
      rw [List.getD_eq_getElem?_getD,List.getD_eq_getElem?_getD,List.getElem?_map,List.getElem?_eq_getElem hlt]; rfl
     have hx:=h.r _ (List.getElem_mem hlt)
     have hgd:b.getD i []=b[i]:=by rw [List.getD_eq_getElem?_getD,List.getElem?_eq_getElem hlt]; rfl
     have hap:fO (b.take i)++[(b.getD i []).map Dat.cells]=fO (b.take (i+1)):=by
      rw [hgd,List.take_succ_eq_append_getElem hlt,fO,fO,List.map_append]; rfl
     have hlen:(b.take i).length=i:=by rw [List.length_take]; omega
     rw [← hgd] at hx
     refine dB [xC (b.getD i []) hx] 800 ?_
     delta D7.c60l1 oO oN oA oM oT oG oR oQ oS oK oF oL
     simp (maxSteps:=4000000) -implicitDefEqProofs only [xC,wP,hi0,hi2,hlt,hgx,hap,et,hlen,InR,WU,Ent.of0,Ent.of1,Ent.of2,Ent.of3,Ent.of4,V,W3,↓reduceIte,seval,reduceCtorEq]
     omega
   · have hi2:¬ (i:Int) < (b.length:Int):=by omega
     have htk:b.take i=b:=List.take_of_length_le (by omega)
     refine dB [] 800 ?_
     delta D7.c60l1 oO oN oA oM oT oG oR oQ oS oK oF oL
     simp (maxSteps:=4000000) -implicitDefEqProofs only [D7.rv60,hi2,htk,WU,Ent.of0,Ent.of1,Ent.of2,Ent.of3,Ent.of4,V,W3,↓reduceIte,seval,reduceCtorEq]
def yE (b:List (List Int)) (h:BufS b):Ent Tryz.prog:=wP 60 [enc b] (.own 3) 3 (.deep 1 3 24 none (fO b)) (by simp [dE]) (by simp [gk]) (yf b h)
def msA (m:Ms) (k:Nat):C:=.agg (msC m k)
theorem xz (m:Ms) (k:Nat):dE [k] (msA m k):=by simp [msA,msC,dE,dE.keysIns]
theorem Copy_o (m:Ms) (h:BufS m.buf):FC Tryz.prog 65 [enc m] [] (msA m 5) [(5,.deep 1 3 24 none (fO m.buf))]:=by
 refine dC [5] D7.is65 (by simp) (by simp [bj]) (by simp [an,ag]) (by simp [an,ag,av]) (by simp [aB,lk]) (fun cx _ hl _=>dB [yE m.buf h] 800 ?_)
 delta D7.c65 oO oN oA oM oT oG oR oQ oS oK oF oL
 simp (maxSteps:=4000000) -implicitDefEqProofs only [D7.rv65,yE,wP,kM,msA,msC,InR,WU,Ent.of0,Ent.of1,Ent.of2,Ent.of3,Ent.of4,V,W3,↓reduceIte,seval,reduceCtorEq]
def xi (m:Ms) (h:BufS m.buf):Ent Tryz.prog:=wP 65 [enc m] (msA m 5) 5 (.deep 1 3 24 none (fO m.buf)) (xz m 5) (by simp [gk]) (Copy_o m h)
theorem Raway_c (m:Ms):FC Tryz.prog 112 [enc m] [] (enc (ei m)) []:=by
 refine dC [] is112 (by simp) trivial trivial trivial trivial (fun cx _ hl _=>dB [] 800 ?_)
 by_cases h1:m.phase=2 <;> by_cases h2:m.phase=3
 all_goals
  delta c112 oO oN oA oM oT oG oR oQ oS oK oF oL
  simp (maxSteps:=4000000) -implicitDefEqProofs only [rv112,kM,ei,h1,h2,WU,Ent.of0,Ent.of1,Ent.of2,Ent.of3,Ent.of4,V,W3,↓reduceIte,seval,reduceCtorEq]
def wQ : Ent Tryz.prog:=.of1 112 (fun _=>True) (fun m:Ms=>enc (ei m)) (fun _=>trivial) (fun m _=>Raway_c m)
theorem yN (l:List Int) (g:Int) (h:l.length≤1000000):FC Tryz.prog 164 [enc l,enc g] [] (.own 5) [(5,.row 1 3 ((frm l g).map Dat.cells))]:=by
 refine dC [5] D7.is164 (by simp) (by simp [bj]) (by simp [an,ag]) (by simp [an,ag,av]) (by simp [aB,lk]) (fun cx _ hl _=>dB [] 800 ?_)
 delta D7.c164 oO oN oA oM oT oG oR oQ oS oK oF oL
 simp (maxSteps:=4000000) -implicitDefEqProofs only [D7.rv164,InR,WU,Ent.of0,Ent.of1,Ent.of2,Ent.of3,Ent.of4,V,W3,↓reduceIte,seval,reduceCtorEq]
 refine eM l.length (fun i=>[(6,.s (.int .i64 (i:Int)))]) (fun i=>[(5,.row 1 3 ((frm (l.take i) g).map Dat.cells))]) (fun _=>True) trivial ?_ (fun i hi _=>?_)
 · simp (maxSteps:=4000000) -implicitDefEqProofs only [Ent.of0,Ent.of1,Ent.of2,Ent.of3,Ent.of4,V,W3,↓reduceIte,seval,reduceCtorEq]
   all_goals rfl
 · by_cases hlt:i < l.length
   · have hi2:(i:Int) < (l.length:Int):=by omega
     have hi0:(0:Int)≤i:=by omega
     have hgd:l.getD i 0=l[i]:=by rw [List.getD_eq_getElem?_getD,List.getElem?_eq_getElem hlt]; rfl
     have hf:frm (l.take (i+1)) g=frm (l.take i) g++(if g≤l.getD i 0 then [l.getD i 0] else []):=by
      rw [hgd,List.take_succ_eq_append_getElem hlt,frm,frm,List.filter_append]
      by_cases hg:g≤l[i] <;> simp [hg]
     have hfl:(frm (l.take i) g).length≤i:=by
      refine Nat.le_trans (List.length_filter_le _ _) ?_
      rw [List.length_take]; omega
     refine dB [] 800 ?_
     delta D7.c164l1 oO oN oA oM oT oG oR oQ oS oK oF oL
     simp (maxSteps:=4000000) -implicitDefEqProofs only [hi0,hi2,hlt,hf,List.map_append,List.length_map,InR,WU,Ent.of0,Ent.of1,Ent.of2,Ent.of3,Ent.of4,V,W3,↓reduceIte,seval,reduceCtorEq]
     generalize l.getD i 0=y at *
     by_cases hg:g≤y
     · rw [if_pos hg,if_pos hg]
       exact ⟨by omega,by omega,by omega,rfl⟩
     · rw [if_neg hg,if_neg hg,List.map_nil,List.append_nil]
       exact ⟨by omega,by omega,rfl⟩
   · have hi2:¬ (i:Int) < (l.length:Int):=by omega
     have htk:l.take i=l:=List.take_of_length_le (by omega)
     refine dB [] 800 ?_
     delta D7.c164l1 oO oN oA oM oT oG oR oQ oS oK oF oL
     simp (maxSteps:=4000000) -implicitDefEqProofs only [D7.rv164,hi2,htk,WU,Ent.of0,Ent.of1,Ent.of2,Ent.of3,Ent.of4,V,W3,↓reduceIte,seval,reduceCtorEq]
def xm (l:List Int) (g:Int) (h:l.length≤1000000):Ent Tryz.prog:=wP 164 [enc l,enc g] (.own 5) 5 (.row 1 3 ((frm l g).map Dat.cells)) (by simp [dE]) (by simp [gk]) (yN l g h)
theorem yK (l:List Int) (n:Int) (i:Nat) (h:i < l.length→¬ l.getD i 0 < n):fZ (l.drop i) n=n :: l.drop i:=by
 by_cases hi:i < l.length
 · rw [ee 0 hi,fZ,if_neg (h hi)]
 · rw [List.drop_eq_nil_of_le (by omega)]; rfl
theorem put_o (l:List Int) (n:Int) (h:l.length≤1000000):FC Tryz.prog 163 [enc l,enc n] [] (.own 5) [(5,.row 1 3 ((fZ l n).map Dat.cells))]:=by
 generalize hR:fZ l n=R
 refine dC [5,31,35] D7.is163 (by simp) (by simp [bj]) (by simp [an,ag]) (by simp [an,ag,av]) (by simp [aB,lk]) (fun cx _ hl _=>dB [] 800 ?_)
 delta D7.c163 oO oN oA oM oT oG oR oQ oS oK oF oL
 simp (maxSteps:=4000000) -implicitDefEqProofs only [D7.rv163,InR,WU,Ent.of0,Ent.of1,Ent.of2,Ent.of3,Ent.of4,V,W3,↓reduceIte,seval,reduceCtorEq]
 refine eM l.length (fun i=>[(6,.s (.int .i64 (i:Int)))]) (fun i=>[(5,.row 1 3 ((l.take i).map Dat.cells))]) (fun i=>R=l.take i++fZ (l.drop i) n) (by rw [← hR]; rfl) ?_ (fun i hi hv=>?_)
 · simp (maxSteps:=4000000) -implicitDefEqProofs only [Ent.of0,Ent.of1,Ent.of2,Ent.of3,Ent.of4,V,W3,↓reduceIte,seval,reduceCtorEq]
   all_goals rfl
 · have hlt0:(l.take i).length=i:=by rw [List.length_take]; omega
   have hi0:(0:Int)≤i:=by omega
   have hi4:(i:Int)≤(l.length:Int):=by omega
   have htl:List.take l.length (List.map Dat.cells l)=List.map Dat.cells l:=List.take_of_length_le (by simp)
   by_cases hc:i < l.length∧l.getD i 0 < n
   · obtain ⟨hlt,hg⟩:=hc
     have hi2:(i:Int) < (l.length:Int):=by omega
     have hd:=ee (d:=(0:Int)) hlt
     have hgd:l.getD i 0=l[i]:=by rw [List.getD_eq_getElem?_getD,List.getElem?_eq_getElem hlt]; rfl
     have htk:l.take (i+1)=l.take i++[l.getD i 0]:=by rw [hgd,List.take_succ_eq_append_getElem hlt]
     rw [hd,fZ,if_pos hg] at hv
     refine dB [] 800 ?_
     delta D7.c163l1 oO oN oA oM oT oG oR oQ oS oK oF oL
     simp (maxSteps:=4000000) -implicitDefEqProofs only [hi0,hi2,hlt,hg,htk,hlt0,List.map_append,List.length_map,InR,WU,Ent.of0,Ent.of1,Ent.of2,Ent.of3,Ent.of4,V,W3,↓reduceIte,seval,reduceCtorEq]
     exact ⟨by omega,by omega,by rw [hv]; simp,by omega⟩
   · rw [yK l n i (fun q q2=>hc ⟨q,q2⟩)] at hv
     have hcc:(((i:Int) < (l.length:Int))=True∧(i < l.length)=True∧(l.getD i 0 < n)=False)∨(((i:Int) < (l.length:Int))=False∧True∧True):=by
      by_cases hlt:i < l.length
      · exact .inl ⟨eq_true (by omega),eq_true hlt,eq_false fun q=>hc ⟨hlt,q⟩⟩
      · exact .inr ⟨eq_false (by omega),trivial,trivial⟩
     refine dB [] 800 ?_
     rcases hcc with ⟨h1,h2,h3⟩ | ⟨h1,h2,h3⟩
     all_goals
      delta D7.c163l1 oO oN oA oM oT oG oR oQ oS oK oF oL
      simp (maxSteps:=4000000) -implicitDefEqProofs only [hi0,h1,h2,h3,hlt0,List.length_map,not_false_eq_true,not_true_eq_false,InR,WU,Ent.of0,Ent.of1,Ent.of2,Ent.of3,Ent.of4,V,W3,↓reduceIte,seval,reduceCtorEq]
      refine nB [] 800 ?_
      simp (maxSteps:=4000000) -implicitDefEqProofs only [drS,lB,robC,reC,fixS,eP,AOp.reads,kE,true_or,or_true,false_or,hi0,hi4,hlt0,htl,List.length_map,Option.toList_some,Option.toList_none,List.append_nil,List.cons_append,List.nil_append,InR,WU,Ent.of0,Ent.of1,Ent.of2,Ent.of3,Ent.of4,V,W3,↓reduceIte,seval,reduceCtorEq]
      refine ⟨by omega,by omega,by simp; omega,by omega,dB [] 400 ?_⟩
      simp (maxSteps:=4000000) -implicitDefEqProofs only [Ent.of0,Ent.of1,Ent.of2,Ent.of3,Ent.of4,V,W3,↓reduceIte,seval,reduceCtorEq]
      rw [hv]
      simp
      rfl
theorem put_c (l:List Int) (n:Int) (h:l.length≤1000000):FC Tryz.prog 163 [enc l,enc n] [] (enc (fZ l n)) []:=FC.frz (put_o l n h) (x:=.sl 1 ((fZ l n).map Dat.cells)) rfl
def yD : Ent Tryz.prog:=.of2 163 (fun l _=>l.length≤1000000) (fun (l:List Int) (n:Int)=>enc (fZ l n)) (fun _ _=>trivial) (fun l n h=>put_c l n h)
theorem xJ (b:List (List Int)):xF (.deep 1 3 24 none (fO b)):=fun es hes e he c hc=>by
 simp only [fO,List.mem_map] at hes
 obtain ⟨l,_,rfl⟩:=hes
 obtain ⟨x,_,rfl⟩:=List.mem_map.1 he
 exact ⟨_,List.mem_singleton.1 hc⟩
structure MsS (m:Ms):Prop where
 b:BufS m.buf
 f:m.buf.flatten.length≤1000000
def wY (bs:List (List Int)) (i:Nat):List Int:=(bs.take i).flatten.foldl fZ []
def wX (bs:List (List Int)) (i:Nat):List (List Int):=(bs.take i).map (fun _=>[])++bs.drop i
theorem xq (l acc:List Int):(l.foldl fZ acc).length=acc.length+l.length:=by
 rw [(l0 l acc).length_eq,List.length_append]
theorem xS (bs:List (List Int)) (i:Nat) (h:i < bs.length):(bs.take i).flatten.length+(bs.getD i []).length≤bs.flatten.length:=by
 have e:bs.flatten=(bs.take i).flatten++((bs.getD i [])++(bs.drop (i+1)).flatten):=by
  conv=>lhs; rw [← List.take_append_drop i bs,ee [] h]
  rw [List.flatten_append,List.flatten_cons]
 rw [e,List.length_append,List.length_append]; omega
theorem yz (bs:List (List Int)) (i:Nat) (h:i < bs.length):wY bs (i+1)=(bs.getD i []).foldl fZ (wY bs i):=by
 have hgd:bs.getD i []=bs[i]:=by rw [List.getD_eq_getElem?_getD,List.getElem?_eq_getElem h]; rfl
 rw [wY,wY,List.take_succ_eq_append_getElem h,hgd,List.flatten_append,List.foldl_append,List.flatten_cons,List.flatten_nil,List.append_nil]
theorem yA (bs:List (List Int)) (i:Nat) (h:i < bs.length):(wX bs i).set i []=wX bs (i+1):=by
 have hl:((bs.take i).map fun _=>([]:List Int)).length=i:=by simp; omega
 rw [wX,wX,ee [] h,List.set_append_right _ _ (by omega),hl,Nat.sub_self,List.set_cons_zero,List.take_succ_eq_append_getElem h,List.map_append,List.append_assoc]
 rfl
theorem xx (bs:List (List Int)) (i:Nat):(wX bs i).length=bs.length:=by simp [wX]; omega
theorem yQ (bs:List (List Int)):wX bs bs.length=bs.map fun _=>[]:=by simp [wX]
theorem xp (m:Ms) (c t:Int) (h:MsS m) (hc:0≤c∧c.toNat < m.buf.length):FC Tryz.prog 142 [enc m,enc c,enc t] [] (msA (iO m c t) 12) [(12,.deep 1 3 24 none (fO (iO m c t).buf))]:=by
 have h1:=h.b.l
 refine dC [12] D7.is142 (by simp) (by simp [bj]) (by simp [an,ag]) (by simp [an,ag,av]) (by simp [aB,lk]) (fun cx _ hl _=>dB [xi m h.b] 800 ?_)
 delta D7.c142 oO oN oA oM oT oG oR oQ oS oK oF oL
 simp (maxSteps:=4000000) -implicitDefEqProofs only [D7.rv142,xi,wP,kM,msA,msC,InR,WU,Ent.of0,Ent.of1,Ent.of2,Ent.of3,Ent.of4,V,W3,↓reduceIte,seval,reduceCtorEq]
 have hcl:c < (m.buf.length:Int):=by omega
 refine eM m.buf.length (fun i=>[(8,enc (wY m.buf i)),(9,.s (.int .i64 (i:Int)))]) (fun i=>[(12,.deep 1 3 24 none (fO (wX m.buf i)))]) (fun _=>True) trivial ?_ (fun i hi _=>dB [] 800 ?_)
 · simp (maxSteps:=4000000) -implicitDefEqProofs only [wX,wY,List.take_zero,List.drop_zero,List.map_nil,List.nil_append,List.flatten_nil,List.foldl_nil,Ent.of0,Ent.of1,Ent.of2,Ent.of3,Ent.of4,V,W3,↓reduceIte,seval,reduceCtorEq]
   all_goals rfl
 · by_cases hlt:i < m.buf.length
   · have hi2:(i:Int) < (m.buf.length:Int):=by omega
     have hi0:(0:Int)≤i:=by omega
     have hgx:List.getD (m.buf.map Dat.cells) i [C.sl 0 []]=[C.sl 1 ((m.buf.getD i []).map Dat.cells)]:=by
      rw [List.getD_eq_getElem?_getD,List.getD_eq_getElem?_getD,List.getElem?_map,List.getElem?_eq_getElem hlt]; rfl
     have hfl:=xS m.buf i hlt
     have hA:(wY m.buf i).length=(m.buf.take i).flatten.length:=by rw [wY,xq]; simp
     have hff:=h.f
     have has:=yz m.buf i hlt
     have hcs:=yA m.buf i hlt
     have hst:(fO (wX m.buf i)).set i []=fO (wX m.buf (i+1)):=by rw [← hcs]; exact jR _ i []
     delta D7.c142l2 oO oN oA oM oT oG oR oQ oS oK oF oL
     simp (maxSteps:=4000000) -implicitDefEqProofs only [hi0,hi2,hlt,hgx,InR,WU,Ent.of0,Ent.of1,Ent.of2,Ent.of3,Ent.of4,V,W3,↓reduceIte,seval,reduceCtorEq]
     generalize wY m.buf i=A at *
     generalize hL:m.buf.getD i []=L at *
     refine eM L.length (fun k=>[(8,enc ((L.take k).foldl fZ A)),(10,.s (.int .i64 (k:Int)))]) (fun k=>[]) (fun _=>True) trivial ?_ (fun k hk _=>dB [yD] 800 ?_)
     · simp (maxSteps:=4000000) -implicitDefEqProofs only [List.take_zero,List.foldl_nil,Ent.of0,Ent.of1,Ent.of2,Ent.of3,Ent.of4,V,W3,↓reduceIte,seval,reduceCtorEq]
       all_goals rfl
     · by_cases hkl:k < L.length
       · have hk2:(k:Int) < (L.length:Int):=by omega
         have hk0:(0:Int)≤k:=by omega
         have hle:((L.take k).foldl fZ A).length≤1000000:=by rw [xq,List.length_take]; omega
         have hgd:L.getD k 0=L[k]:=by rw [List.getD_eq_getElem?_getD,List.getElem?_eq_getElem hkl]; rfl
         have hnx:(L.take (k+1)).foldl fZ A=fZ ((L.take k).foldl fZ A) (L.getD k 0):=by
          rw [hgd,List.take_succ_eq_append_getElem hkl,List.foldl_append]; rfl
         delta D7.c142l1 oO oN oA oM oT oG oR oQ oS oK oF oL
         simp (maxSteps:=4000000) -implicitDefEqProofs only [yD,hi0,hi2,hlt,hgx,hk0,hk2,hkl,hle,hnx,InR,WU,Ent.of0,Ent.of1,Ent.of2,Ent.of3,Ent.of4,V,W3,↓reduceIte,seval,reduceCtorEq]
         omega
       · have hke:k=L.length:=by omega
         subst hke
         have hk2:¬ ((L.length:Nat):Int) < (L.length:Int):=by omega
         delta D7.c142l1 oO oN oA oM oT oG oR oQ oS oK oF oL
         simp (maxSteps:=4000000) -implicitDefEqProofs only [hi0,hi2,hlt,hgx,hk2,et,xx,hst,List.take_length,has,InR,WU,Ent.of0,Ent.of1,Ent.of2,Ent.of3,Ent.of4,V,W3,↓reduceIte,seval,reduceCtorEq]
         refine o7 rfl (OpM.nilled 99 1 3 (by decide) (.f (by simp [ai,yb,ya,aq,gt,lk,af,ae,ah,bE]; rfl) (by simp [et,xx]; omega))) (fun ef he=>?_)
         subst he
         refine ny [] 800 ?_
         simp (maxSteps:=4000000) -implicitDefEqProofs only [aZ,bE,et,xx,hst,has,hlt,InR,WU,Ent.of0,Ent.of1,Ent.of2,Ent.of3,Ent.of4,V,W3,↓reduceIte,seval,reduceCtorEq]
         omega
   · have hie:i=m.buf.length:=by omega
     subst hie
     have hi2:¬ ((m.buf.length:Nat):Int) < (m.buf.length:Int):=by omega
     have hall:wY m.buf m.buf.length=mrg m.buf:=by rw [wY,List.take_length]; rfl
     have hml:(mrg m.buf).length≤1000000:=by rw [(lw m.buf).length_eq]; exact h.f
     have hst:=jR (m.buf.map fun _=>[]) c.toNat (frm (mrg m.buf) m.got)
     have hbl:(fO (m.buf.map fun _=>[])).length=m.buf.length:=by rw [et,List.length_map]
     rw [yQ,hall]
     obtain ⟨hc0,hc2⟩:=hc
     delta D7.c142l2 oO oN oA oM oT oG oR oQ oS oK oF oL
     simp (maxSteps:=4000000) -implicitDefEqProofs only [hi2,InR,WU,Ent.of0,Ent.of1,Ent.of2,Ent.of3,Ent.of4,V,W3,↓reduceIte,seval,reduceCtorEq]
     refine nB [xm (mrg m.buf) m.got hml] 800 ?_
     simp (maxSteps:=4000000) -implicitDefEqProofs only [drS,lB,robC,reC,fixS,eP,AOp.reads,kE,true_or,or_true,false_or,xm,wP,hc0,hc2,hcl,hbl,InR,WU,Ent.of0,Ent.of1,Ent.of2,Ent.of3,Ent.of4,V,W3,↓reduceIte,seval,reduceCtorEq]
     refine dB [] 600 ?_
     simp (maxSteps:=4000000) -implicitDefEqProofs only [D7.rv142,hst,iO,InR,WU,Ent.of0,Ent.of1,Ent.of2,Ent.of3,Ent.of4,V,W3,↓reduceIte,seval,reduceCtorEq]
def yj (m:Ms) (c t:Int) (h:MsS m) (hc:0≤c∧c.toNat < m.buf.length):Ent Tryz.prog:=wP 142 [enc m,enc c,enc t] (msA (iO m c t) 12) 12 (.deep 1 3 24 none (fO (iO m c t).buf)) (xz _ 12) (by simp [gk]) (xp m c t h hc)
def xg (n:Nw) (m:Ms) (t:Int):Int:=if jI n m t=true then m.since+n.limit else -1
theorem Pass_o (n:Nw) (m:Ms) (t:Int) (hn:NwS n) (h:MsS m) (hl:0 < m.buf.length) (hi:ei m=true→InR .i64 (m.since+n.limit)):FC Tryz.prog 110 [enc n,enc m,enc t] [] (.tup [msA (qu n m t) 25,enc (xg n m t)]) [(25,.deep 1 3 24 none (fO (qu n m t).buf))]:=by
 have hdm:=wN m
 by_cases hp:jI n m t=true
 · have hq:=hp
   simp only [jI,Bool.and_eq_true,decide_eq_true_eq] at hq
   have hI:=hi hq.1
   simp only [InR] at hI
   have hP:qu n m t=iO m 0 (m.since+n.limit):=by unfold qu; rw [if_pos hp]
   have hA:xg n m t=m.since+n.limit:=by unfold xg; rw [if_pos hp]
   rw [hP,hA]
   refine dC [25] D7.is110 (by simp) (by simp [bj]) (by simp [an,ag]) (by simp [an,ag,av]) (by simp [aB,lk]) (fun cx _ _ _=>dB [wQ] 800 ?_)
   delta D7.c110 oO oN oA oM oT oG oR oQ oS oK oF oL
   simp (maxSteps:=4000000) -implicitDefEqProofs only [D7.rv110,ec,kM,hdm,wQ,hq,hI,InR,WU,Ent.of0,Ent.of1,Ent.of2,Ent.of3,Ent.of4,V,W3,↓reduceIte,seval,reduceCtorEq]
   refine qG [yj m 0 (m.since+n.limit) h ⟨by decide,by simpa using hl⟩] 800 ?_
   simp (maxSteps:=4000000) -implicitDefEqProofs only [gK,mFin2,mj,pj,ops2,jn,reM2,oz,qv,qw,mD,finM,kD,hJ,io,gg,fq,fV,fV.fixBs,fU,ndE2,an,ag,av,aT,aF,kE,eP,aZ,bE,yj,wP,msA,msC,kM,hI,InR,WU,Ent.of0,Ent.of1,Ent.of2,Ent.of3,Ent.of4,V,W3,↓reduceIte,seval,reduceCtorEq]
   refine ⟨rfl,dB [] 600 ?_⟩
   simp (maxSteps:=4000000) -implicitDefEqProofs only [D7.rv110,InR,WU,Ent.of0,Ent.of1,Ent.of2,Ent.of3,Ent.of4,V,W3,↓reduceIte,seval,reduceCtorEq]
 · have hP:qu n m t=m:=by unfold qu; rw [if_neg hp]
   have hA:xg n m t=-1:=by unfold xg; rw [if_neg hp]
   rw [hP,hA]
   have key:FC Tryz.prog 110 [enc n,enc m,enc t] [] (.tup [msA m 32,enc (-1:Int)]) [(32,.deep 1 3 24 none (fO m.buf))]:=by
    refine dC [32] D7.is110 (by simp) (by simp [bj]) (by simp [an,ag]) (by simp [an,ag,av]) (by simp [aB,lk]) (fun cx _ _ _=>dB [wQ,xi m h.b] 800 ?_)
    cases ha:ei m
    · delta D7.c110 oO oN oA oM oT oG oR oQ oS oK oF oL
      simp (maxSteps:=4000000) -implicitDefEqProofs only [D7.rv110,ec,kM,hdm,wQ,xi,wP,msA,msC,ha,InR,WU,Ent.of0,Ent.of1,Ent.of2,Ent.of3,Ent.of4,V,W3,↓reduceIte,seval,reduceCtorEq]
    · have hI:=hi ha
      simp only [InR] at hI
      have hq:¬ m.since+n.limit≤t:=fun q=>hp (by simp [jI,ha,q])
      delta D7.c110 oO oN oA oM oT oG oR oQ oS oK oF oL
      simp (maxSteps:=4000000) -implicitDefEqProofs only [D7.rv110,ec,kM,hdm,wQ,xi,wP,msA,msC,ha,hI,hq,InR,WU,Ent.of0,Ent.of1,Ent.of2,Ent.of3,Ent.of4,V,W3,↓reduceIte,seval,reduceCtorEq]
   exact FC.rekey key 25 rfl (xJ m.buf)
theorem RevE_c (n:Nw) (e:T3) (h:NwS n):FC Tryz.prog 68 [enc n,enc e] [] (enc (evE n e)) []:=by
 have hdn:=gN n
 generalize hE:evE n e=E
 unfold evE at hE
 refine dC [] is68 (by simp) trivial trivial trivial trivial (fun cx _ hl _=>dB [n9,mw] 800 ?_)
 have htk:eL e.y=decide (0≤e.y∧e.y≤1000000000):=rfl
 rw [htk] at hE
 unfold iM at hE
 rcases Classical.propComplete (0≤e.x∧e.x≤11) with h1 | h1
 rotate_left
 · simp [h1] at hE
   subst hE
   delta c68 oO oN oA oM oT oG oR oQ oS oK oF oL
   simp (maxSteps:=4000000) -implicitDefEqProofs only [rv68,n9,ec,dX,h1,WU,Ent.of0,Ent.of1,Ent.of2,Ent.of3,Ent.of4,V,W3,↓reduceIte,seval,reduceCtorEq]
 rcases Classical.propComplete (0≤e.y∧e.y≤1000000000) with h2 | h2
 rotate_left
 · simp [h1,h2] at hE
   subst hE
   delta c68 oO oN oA oM oT oG oR oQ oS oK oF oL
   simp (maxSteps:=4000000) -implicitDefEqProofs only [rv68,n9,ec,dX,h1,h2,WU,Ent.of0,Ent.of1,Ent.of2,Ent.of3,Ent.of4,V,W3,↓reduceIte,seval,reduceCtorEq]
 have h34:((e.x=3)=True∧True)∨((e.x=3)=False∧(e.x=10)=True)∨((e.x=3)=False∧(e.x=10)=False):=by
  by_cases q:e.x=3
  · exact .inl ⟨eq_true q,trivial⟩
  · by_cases q2:e.x=10
    · exact .inr (.inl ⟨eq_false q,eq_true q2⟩)
    · exact .inr (.inr ⟨eq_false q,eq_false q2⟩)
 rcases h34 with ⟨h3,h4⟩ | ⟨h3,h4⟩ | ⟨h3,h4⟩
 rotate_left 2
 · rcases Classical.propComplete (e.z=0) with h6 | h6
   all_goals
    simp [h1,h2,h3,h4,h6] at hE
    subst hE
    delta c68 oO oN oA oM oT oG oR oQ oS oK oF oL
    simp (maxSteps:=4000000) -implicitDefEqProofs only [rv68,n9,ec,dX,h1,h2,h3,h4,h6,not_true_eq_false,not_false_eq_true,WU,Ent.of0,Ent.of1,Ent.of2,Ent.of3,Ent.of4,V,W3,↓reduceIte,seval,reduceCtorEq]
 all_goals
  cases h5:isC n e.z
  all_goals
   simp [h1,h2,h3,h4,h5] at hE
   subst hE
   delta c68 oO oN oA oM oT oG oR oQ oS oK oF oL
   simp (maxSteps:=4000000) -implicitDefEqProofs only [rv68,n9,mw,ec,dX,hdn,h,h1,h2,h3,h4,h5,not_true_eq_false,WU,Ent.of0,Ent.of1,Ent.of2,Ent.of3,Ent.of4,V,W3,↓reduceIte,seval,reduceCtorEq]
def xW : Ent Tryz.prog:=.of2 68 (fun n _=>NwS n) (fun (n:Nw) (e:T3)=>enc (evE n e)) (fun _ _=>trivial) (fun n e h=>RevE_c n e h)
theorem Rways_c (m:Ms):FC Tryz.prog 167 [enc m] [] (.tup [enc (dV m),enc (toC m)]) []:=by
 unfold dV toC
 refine dC [] is167 (by simp) trivial trivial trivial trivial (fun cx _ hl _=>dB [] 800 ?_)
 by_cases h1:m.phase=2
 · rw [if_pos h1,if_pos h1]
   delta c167 oO oN oA oM oT oG oR oQ oS oK oF oL
   simp (maxSteps:=4000000) -implicitDefEqProofs only [rv167,kM,h1,WU,Ent.of0,Ent.of1,Ent.of2,Ent.of3,Ent.of4,V,W3,↓reduceIte,seval,reduceCtorEq]
 · rw [if_neg h1,if_neg h1]
   delta c167 oO oN oA oM oT oG oR oQ oS oK oF oL
   simp (maxSteps:=4000000) -implicitDefEqProofs only [rv167,kM,h1,WU,Ent.of0,Ent.of1,Ent.of2,Ent.of3,Ent.of4,V,W3,↓reduceIte,seval,reduceCtorEq]
def xa : Ent Tryz.prog:=.of1 167 (fun _=>True) (fun m:Ms=>.tup [enc (dV m),enc (toC m)]) (fun _=>⟨trivial,trivial,trivial⟩) (fun m _=>Rways_c m)
def InB (m:Ms) (c:Int):Prop:=0≤c∧c.toNat < m.buf.length
theorem xw (m:Ms) (c:Int) (h:c.toNat < m.buf.length):List.getD (m.buf.map Dat.cells) c.toNat [C.sl 0 []]=[C.sl 1 ((dP m c).map Dat.cells)]:=by
 rw [List.getD_eq_getElem?_getD,List.getElem?_map,List.getElem?_eq_getElem h,dP,List.getD_eq_getElem?_getD,List.getElem?_eq_getElem h]; rfl
theorem does_c (n:Nw) (m:Ms) (e:T3) (hn:NwS n) (h:MsS m) (hk:0≤e.x∧e.x≤11) (hs:InB m m.serving) (hf:m.phase=2∨(m.phase=0∧m.source≠-1)→InB m (dV m)):FC Tryz.prog 152 [enc n,enc m,enc e] [] (enc (ez n m e)) []:=by
 have hdn:=gN n
 have hdm:=wN m
 have hp1:=h.b.l
 have hp2:fi m.buf≤1000000000:=by rw [nq]; have:=h.f; omega
 have hp3:=sH m.buf
 generalize hE:ez n m e=E
 unfold ez at hE
 obtain ⟨ex,ey,ezw⟩:=e
 simp only at hk hE
 refine dC [] D7.is152 (by simp) trivial trivial trivial trivial (fun cx _ hl _=>dB [] 1200 ?_)
 have k:ex=0∨ex=1∨ex=2∨ex=3∨ex=4∨ex=5∨ex=6∨ex=7∨ex=8∨ex=9∨ex=10∨ex=11:=by omega
 rcases k with rfl | rfl | rfl | rfl | rfl | rfl | rfl | rfl | rfl | rfl | rfl | rfl <;> simp only [Int.reduceEq,if_true,if_false] at hE
 ·
  delta D7.c152 oO oN oA oM oT oG oR oQ oS oK oF oL
  simp (maxSteps:=4000000) -implicitDefEqProofs only [D7.rv152,ec,kM,dX,InR,WU,Ent.of0,Ent.of1,Ent.of2,Ent.of3,Ent.of4,V,W3,↓reduceIte,seval,reduceCtorEq]
  refine iv (dB [yC] 800 ?_)
  have hc:((60≤fi m.buf)=True∧True)∨((60≤fi m.buf)=False∧(1000000≤m.fresh)=True)∨((60≤fi m.buf)=False∧(1000000≤m.fresh)=False):=by
   rcases Classical.propComplete (60≤fi m.buf) with h1 | h1 <;> rcases Classical.propComplete (1000000≤m.fresh) with h2 | h2 <;> simp only [h1,h2] <;> simp
  rcases hc with ⟨h1,h2⟩ | ⟨h1,h2⟩ | ⟨h1,h2⟩
  all_goals
   simp [h1,h2] at hE
   subst hE
   delta D7.c152k1 oO oN oA oM oT oG oR oQ oS oK oF oL
   simp (maxSteps:=4000000) -implicitDefEqProofs only [D7.rv152,yC,ec,kM,dX,hdm,hp1,hp2,h1,h2,not_true_eq_false,WU,Ent.of0,Ent.of1,Ent.of2,Ent.of3,Ent.of4,V,W3,↓reduceIte,seval,reduceCtorEq]
 ·
  delta D7.c152 oO oN oA oM oT oG oR oQ oS oK oF oL
  simp (maxSteps:=4000000) -implicitDefEqProofs only [D7.rv152,ec,kM,dX,InR,WU,Ent.of0,Ent.of1,Ent.of2,Ent.of3,Ent.of4,V,W3,↓reduceIte,seval,reduceCtorEq]
  refine iv (dB [wQ] 800 ?_)
  cases h1:ei m
  rotate_left
  · simp [h1] at hE
    subst hE
    delta D7.c152k2 oO oN oA oM oT oG oR oQ oS oK oF oL
    simp (maxSteps:=4000000) -implicitDefEqProofs only [D7.rv152,wQ,ec,kM,dX,hdm,h1,WU,Ent.of0,Ent.of1,Ent.of2,Ent.of3,Ent.of4,V,W3,↓reduceIte,seval,reduceCtorEq]
  obtain ⟨s0,s2⟩:=hs
  have s3:m.serving < (m.buf.length:Int):=by omega
  have hg:=xw m m.serving s2
  cases hb:dP m m.serving with
  | nil=>
   simp [h1,hb] at hE
   subst hE
   rw [hb] at hg
   delta D7.c152k2 oO oN oA oM oT oG oR oQ oS oK oF oL
   simp (maxSteps:=4000000) -implicitDefEqProofs only [D7.rv152,wQ,ec,kM,dX,hdm,h1,s0,s2,s3,hg,List.map_nil,InR,WU,Ent.of0,Ent.of1,Ent.of2,Ent.of3,Ent.of4,V,W3,↓reduceIte,seval,reduceCtorEq]
  | cons x l=>
   rw [hb] at hg hE
   have hl0:¬ ((l.length:Int)+1=0):=by omega
   have hl1:(0:Int) < (l.length:Int)+1:=by omega
   rcases Classical.propComplete (m.got < x) with h2 | h2
   all_goals
    simp [h1,h2] at hE
    subst hE
    delta D7.c152k2 oO oN oA oM oT oG oR oQ oS oK oF oL
    simp (maxSteps:=4000000) -implicitDefEqProofs only [D7.rv152,wQ,ec,kM,dX,hdm,h1,h2,s0,s2,s3,hg,hl0,hl1,List.map_cons,List.length_cons,Int.natCast_add,List.length_map,InR,not_true_eq_false,not_false_eq_true,WU,Ent.of0,Ent.of1,Ent.of2,Ent.of3,Ent.of4,V,W3,↓reduceIte,seval,reduceCtorEq]
 ·
  delta D7.c152 oO oN oA oM oT oG oR oQ oS oK oF oL
  simp (maxSteps:=4000000) -implicitDefEqProofs only [D7.rv152,ec,kM,dX,InR,WU,Ent.of0,Ent.of1,Ent.of2,Ent.of3,Ent.of4,V,W3,↓reduceIte,seval,reduceCtorEq]
  refine iv (dB [wQ] 800 ?_)
  cases h1:ei m
  all_goals
   simp [h1] at hE
   subst hE
   delta D7.c152k3 oO oN oA oM oT oG oR oQ oS oK oF oL
   simp (maxSteps:=4000000) -implicitDefEqProofs only [D7.rv152,wQ,ec,kM,dX,hdm,h1,WU,Ent.of0,Ent.of1,Ent.of2,Ent.of3,Ent.of4,V,W3,↓reduceIte,seval,reduceCtorEq]
 ·
  delta D7.c152 oO oN oA oM oT oG oR oQ oS oK oF oL
  simp (maxSteps:=4000000) -implicitDefEqProofs only [D7.rv152,ec,kM,dX,InR,WU,Ent.of0,Ent.of1,Ent.of2,Ent.of3,Ent.of4,V,W3,↓reduceIte,seval,reduceCtorEq]
  refine iv (dB [yB] 800 ?_)
  have hc:((m.phase=0)=False∧True∧True)∨((m.phase=0)=True∧(m.source=-1)=False∧True)∨((m.phase=0)=True∧(m.source=-1)=True∧nbr n ezw m.serving=true)∨((m.phase=0)=True∧(m.source=-1)=True∧nbr n ezw m.serving=false):=by
   rcases Classical.propComplete (m.phase=0) with h1 | h1 <;> rcases Classical.propComplete (m.source=-1) with h2 | h2 <;> cases h3:nbr n ezw m.serving <;> simp only [h1,h2] <;> simp
  rcases hc with ⟨h1,h2,h3⟩ | ⟨h1,h2,h3⟩ | ⟨h1,h2,h3⟩ | ⟨h1,h2,h3⟩
  all_goals
   simp [h1,h2,h3] at hE
   subst hE
   delta D7.c152k4 oO oN oA oM oT oG oR oQ oS oK oF oL
   simp (maxSteps:=4000000) -implicitDefEqProofs only [D7.rv152,yB,ec,kM,dX,hdn,hn,h1,h2,h3,not_true_eq_false,not_false_eq_true,WU,Ent.of0,Ent.of1,Ent.of2,Ent.of3,Ent.of4,V,W3,↓reduceIte,seval,reduceCtorEq]
 ·
  delta D7.c152 oO oN oA oM oT oG oR oQ oS oK oF oL
  simp (maxSteps:=4000000) -implicitDefEqProofs only [D7.rv152,ec,kM,dX,InR,WU,Ent.of0,Ent.of1,Ent.of2,Ent.of3,Ent.of4,V,W3,↓reduceIte,seval,reduceCtorEq]
  refine iv (dB [] 800 ?_)
  rcases Classical.propComplete (m.phase=1) with h1 | h1
  all_goals
   simp [h1] at hE
   subst hE
   delta D7.c152k5 oO oN oA oM oT oG oR oQ oS oK oF oL
   simp (maxSteps:=4000000) -implicitDefEqProofs only [D7.rv152,ec,kM,dX,h1,not_true_eq_false,not_false_eq_true,WU,Ent.of0,Ent.of1,Ent.of2,Ent.of3,Ent.of4,V,W3,↓reduceIte,seval,reduceCtorEq]
 ·
  delta D7.c152 oO oN oA oM oT oG oR oQ oS oK oF oL
  simp (maxSteps:=4000000) -implicitDefEqProofs only [D7.rv152,ec,kM,dX,InR,WU,Ent.of0,Ent.of1,Ent.of2,Ent.of3,Ent.of4,V,W3,↓reduceIte,seval,reduceCtorEq]
  refine iv (dB [] 800 ?_)
  rcases Classical.propComplete (m.phase=1) with h1 | h1
  all_goals
   simp [h1] at hE
   subst hE
   delta D7.c152k5 oO oN oA oM oT oG oR oQ oS oK oF oL
   simp (maxSteps:=4000000) -implicitDefEqProofs only [D7.rv152,ec,kM,dX,h1,not_true_eq_false,not_false_eq_true,WU,Ent.of0,Ent.of1,Ent.of2,Ent.of3,Ent.of4,V,W3,↓reduceIte,seval,reduceCtorEq]
 ·
  delta D7.c152 oO oN oA oM oT oG oR oQ oS oK oF oL
  simp (maxSteps:=4000000) -implicitDefEqProofs only [D7.rv152,ec,kM,dX,InR,WU,Ent.of0,Ent.of1,Ent.of2,Ent.of3,Ent.of4,V,W3,↓reduceIte,seval,reduceCtorEq]
  refine iv (dB [] 800 ?_)
  rcases Classical.propComplete (m.phase=2) with h1 | h1
  all_goals
   simp [h1] at hE
   subst hE
   delta D7.c152k6 oO oN oA oM oT oG oR oQ oS oK oF oL
   simp (maxSteps:=4000000) -implicitDefEqProofs only [D7.rv152,ec,kM,dX,h1,not_true_eq_false,not_false_eq_true,WU,Ent.of0,Ent.of1,Ent.of2,Ent.of3,Ent.of4,V,W3,↓reduceIte,seval,reduceCtorEq]
 ·
  delta D7.c152 oO oN oA oM oT oG oR oQ oS oK oF oL
  simp (maxSteps:=4000000) -implicitDefEqProofs only [D7.rv152,ec,kM,dX,InR,WU,Ent.of0,Ent.of1,Ent.of2,Ent.of3,Ent.of4,V,W3,↓reduceIte,seval,reduceCtorEq]
  refine iv (dB [xa] 800 ?_)
  by_cases hq:m.phase=2∨(m.phase=0∧m.source≠-1)
  · obtain ⟨s0,s2⟩:=hf hq
    have s3:dV m < (m.buf.length:Int):=by omega
    have hg:=xw m (dV m) s2
    have hq2:¬ (¬ m.phase=2∧(¬ m.phase=0∨m.source=-1)):=fun ⟨q1,q2⟩=>by
     rcases hq with q | ⟨q3,q4⟩
     · exact q1 q
     · rcases q2 with q | q
       · exact q q3
       · exact q4 q
    rw [if_neg hq2] at hE
    have hph:((m.phase=2)=True∧True∧True)∨((m.phase=2)=False∧(m.phase=0)=True∧(m.source=-1)=False):=by
     by_cases q:m.phase=2
     · exact .inl ⟨eq_true q,trivial,trivial⟩
     · rcases hq with q2 | ⟨q3,q4⟩
       · exact absurd q2 q
       · exact .inr ⟨eq_false q,eq_true q3,eq_false q4⟩
    cases hb:dP m (dV m) with
    | nil=>
     rw [hb] at hg hE
     simp at hE
     subst hE
     rcases hph with ⟨h1,h2,h3⟩ | ⟨h1,h2,h3⟩
     all_goals
      delta D7.c152k7 oO oN oA oM oT oG oR oQ oS oK oF oL
      simp (maxSteps:=4000000) -implicitDefEqProofs only [D7.rv152,xa,ec,kM,dX,hdm,h1,h2,h3,s0,s2,s3,hg,List.map_nil,InR,not_true_eq_false,not_false_eq_true,WU,Ent.of0,Ent.of1,Ent.of2,Ent.of3,Ent.of4,V,W3,↓reduceIte,seval,reduceCtorEq]
    | cons x l=>
     rw [hb] at hg hE
     simp at hE
     subst hE
     have hl0:¬ ((l.length:Int)+1=0):=by omega
     rcases hph with ⟨h1,h2,h3⟩ | ⟨h1,h2,h3⟩
     all_goals
      delta D7.c152k7 oO oN oA oM oT oG oR oQ oS oK oF oL
      simp (maxSteps:=4000000) -implicitDefEqProofs only [D7.rv152,xa,ec,kM,dX,hdm,h1,h2,h3,s0,s2,s3,hg,hl0,List.map_cons,List.length_cons,Int.natCast_add,List.length_map,InR,not_true_eq_false,not_false_eq_true,WU,Ent.of0,Ent.of1,Ent.of2,Ent.of3,Ent.of4,V,W3,↓reduceIte,seval,reduceCtorEq]
  · have hq2:¬ m.phase=2∧(¬ m.phase=0∨m.source=-1):=⟨fun q=>hq (.inl q),by
     by_cases q1:m.phase=0
     · exact .inr (Classical.byContradiction fun q2=>hq (.inr ⟨q1,q2⟩))
     · exact .inl q1⟩
    rw [if_pos hq2] at hE
    subst hE
    obtain ⟨h1,h2⟩:=hq2
    have h1':=eq_false h1
    by_cases h3:m.phase=0
    · have h4:m.source=-1:=h2.resolve_left fun q=>q h3
      delta D7.c152k7 oO oN oA oM oT oG oR oQ oS oK oF oL
      simp (maxSteps:=4000000) -implicitDefEqProofs only [D7.rv152,xa,ec,kM,dX,hdm,h1',h3,h4,not_true_eq_false,not_false_eq_true,WU,Ent.of0,Ent.of1,Ent.of2,Ent.of3,Ent.of4,V,W3,↓reduceIte,seval,reduceCtorEq]
    · delta D7.c152k7 oO oN oA oM oT oG oR oQ oS oK oF oL
      simp (maxSteps:=4000000) -implicitDefEqProofs only [D7.rv152,xa,ec,kM,dX,hdm,h1',h3,not_true_eq_false,not_false_eq_true,WU,Ent.of0,Ent.of1,Ent.of2,Ent.of3,Ent.of4,V,W3,↓reduceIte,seval,reduceCtorEq]
 ·
  delta D7.c152 oO oN oA oM oT oG oR oQ oS oK oF oL
  simp (maxSteps:=4000000) -implicitDefEqProofs only [D7.rv152,ec,kM,dX,InR,WU,Ent.of0,Ent.of1,Ent.of2,Ent.of3,Ent.of4,V,W3,↓reduceIte,seval,reduceCtorEq]
  refine iv (dB [] 800 ?_)
  have hc:((m.source=-1)=True∧True∧True)∨((m.source=-1)=False∧(m.phase=3)=True∧True)∨((m.source=-1)=False∧(m.phase=3)=False∧(m.path=m.serving)=True)∨((m.source=-1)=False∧(m.phase=3)=False∧(m.path=m.serving)=False):=by
   rcases Classical.propComplete (m.source=-1) with h1 | h1 <;> rcases Classical.propComplete (m.phase=3) with h2 | h2 <;> rcases Classical.propComplete (m.path=m.serving) with h3 | h3 <;> simp only [h1,h2,h3] <;> simp
  rcases hc with ⟨h1,h2,h3⟩ | ⟨h1,h2,h3⟩ | ⟨h1,h2,h3⟩ | ⟨h1,h2,h3⟩
  all_goals
   simp [h1,h2,h3] at hE
   subst hE
   delta D7.c152k8 oO oN oA oM oT oG oR oQ oS oK oF oL
   simp (maxSteps:=4000000) -implicitDefEqProofs only [D7.rv152,ec,kM,dX,h1,h2,h3,not_true_eq_false,not_false_eq_true,WU,Ent.of0,Ent.of1,Ent.of2,Ent.of3,Ent.of4,V,W3,↓reduceIte,seval,reduceCtorEq]
 ·
  delta D7.c152 oO oN oA oM oT oG oR oQ oS oK oF oL
  simp (maxSteps:=4000000) -implicitDefEqProofs only [D7.rv152,ec,kM,dX,InR,WU,Ent.of0,Ent.of1,Ent.of2,Ent.of3,Ent.of4,V,W3,↓reduceIte,seval,reduceCtorEq]
  refine iv (dB [] 800 ?_)
  rcases Classical.propComplete (m.phase=3) with h1 | h1
  all_goals
   simp [h1] at hE
   subst hE
   delta D7.c152k9 oO oN oA oM oT oG oR oQ oS oK oF oL
   simp (maxSteps:=4000000) -implicitDefEqProofs only [D7.rv152,ec,kM,dX,h1,not_true_eq_false,not_false_eq_true,WU,Ent.of0,Ent.of1,Ent.of2,Ent.of3,Ent.of4,V,W3,↓reduceIte,seval,reduceCtorEq]
 ·
  delta D7.c152 oO oN oA oM oT oG oR oQ oS oK oF oL
  simp (maxSteps:=4000000) -implicitDefEqProofs only [D7.rv152,ec,kM,dX,InR,WU,Ent.of0,Ent.of1,Ent.of2,Ent.of3,Ent.of4,V,W3,↓reduceIte,seval,reduceCtorEq]
  refine iv (dB [] 800 ?_)
  rcases Classical.propComplete (m.phase=3) with h1 | h1
  rotate_left
  · simp [h1] at hE
    subst hE
    delta D7.c152k10 oO oN oA oM oT oG oR oQ oS oK oF oL
    simp (maxSteps:=4000000) -implicitDefEqProofs only [D7.rv152,ec,kM,dX,h1,not_true_eq_false,not_false_eq_true,WU,Ent.of0,Ent.of1,Ent.of2,Ent.of3,Ent.of4,V,W3,↓reduceIte,seval,reduceCtorEq]
  have hc:((ezw=m.serving)=True∧True∧True)∨((ezw=m.serving)=False∧(m.target=-1)=False∧(ezw=m.target)=True)∨((ezw=m.serving)=False∧(m.target=-1)=True∧True)∨((ezw=m.serving)=False∧(m.target=-1)=False∧(ezw=m.target)=False):=by
   rcases Classical.propComplete (ezw=m.serving) with h1 | h1 <;> rcases Classical.propComplete (m.target=-1) with h2 | h2 <;> rcases Classical.propComplete (ezw=m.target) with h3 | h3 <;> simp only [h1,h2,h3] <;> simp
  have hd:((m.source=-1)=True∧True)∨((m.source=-1)=False∧(ezw=m.source)=True)∨((m.source=-1)=False∧(ezw=m.source)=False):=by
   rcases Classical.propComplete (m.source=-1) with h2 | h2 <;> rcases Classical.propComplete (ezw=m.source) with h3 | h3 <;> simp only [h2,h3] <;> simp
  rcases hc with ⟨h2,h3,h4⟩ | ⟨h2,h3,h4⟩ | ⟨h2,h3,h4⟩ | ⟨h2,h3,h4⟩
  rotate_left 2
  all_goals
   first
    | (simp [h1,h2,h3,h4] at hE
       subst hE
       delta D7.c152k10 oO oN oA oM oT oG oR oQ oS oK oF oL
       simp (maxSteps:=4000000) -implicitDefEqProofs only [D7.rv152,ec,kM,dX,h1,h2,h3,h4,not_true_eq_false,not_false_eq_true,WU,Ent.of0,Ent.of1,Ent.of2,Ent.of3,Ent.of4,V,W3,↓reduceIte,seval,reduceCtorEq]
       done)
    | (rcases hd with ⟨h5,h6⟩ | ⟨h5,h6⟩ | ⟨h5,h6⟩
       all_goals
        simp [h1,h2,h3,h4,h5,h6] at hE
        subst hE
        delta D7.c152k10 oO oN oA oM oT oG oR oQ oS oK oF oL
        simp (maxSteps:=4000000) -implicitDefEqProofs only [D7.rv152,ec,kM,dX,h1,h2,h3,h4,h5,h6,not_true_eq_false,not_false_eq_true,WU,Ent.of0,Ent.of1,Ent.of2,Ent.of3,Ent.of4,V,W3,↓reduceIte,seval,reduceCtorEq])
 ·
  subst hE
  delta D7.c152 oO oN oA oM oT oG oR oQ oS oK oF oL
  simp (maxSteps:=4000000) -implicitDefEqProofs only [D7.rv152,ec,kM,dX,WU,Ent.of0,Ent.of1,Ent.of2,Ent.of3,Ent.of4,V,W3,↓reduceIte,seval,reduceCtorEq]
abbrev dpC (m:Ms):Ch:=.deep 1 3 24 none (fO m.buf)
theorem yM (m:Ms) (h:m.source≠-1→InB m m.source):FC Tryz.prog 168 [enc m] [] (enc (settle m)) []:=by
 refine dC [] is168 (by simp) trivial trivial trivial trivial (fun cx _ _ _=>dB [] 800 ?_)
 by_cases h1:m.source=-1
 · have hs:settle m=m:=by unfold Go.Proofs.YtcbabnbiinkafaaGreatDoor.settle; rw [if_neg (by simp [fT,h1])]
   rw [hs]
   delta c168 oO oN oA oM oT oG oR oQ oS oK oF oL
   simp (maxSteps:=4000000) -implicitDefEqProofs only [xE,kM,h1,not_true_eq_false,WU,Ent.of0,Ent.of1,Ent.of2,Ent.of3,Ent.of4,V,W3,↓reduceIte,seval,reduceCtorEq]
 · by_cases h2:m.path=m.serving
   · obtain ⟨s0,s2⟩:=h h1
     have s3:m.source < (m.buf.length:Int):=by omega
     have hg:=xw m m.source s2
     cases hq:dP m m.source with
     | nil=>
      have hs:settle m={ m with source:=-1 }:=by unfold Go.Proofs.YtcbabnbiinkafaaGreatDoor.settle; rw [if_pos (by simp [fT,h1,h2,hq])]
      rw [hs]
      rw [hq] at hg
      delta c168 oO oN oA oM oT oG oR oQ oS oK oF oL
      simp (maxSteps:=4000000) -implicitDefEqProofs only [xE,kM,h1,h2,s0,s2,s3,hg,List.map_nil,InR,not_true_eq_false,not_false_eq_true,WU,Ent.of0,Ent.of1,Ent.of2,Ent.of3,Ent.of4,V,W3,↓reduceIte,seval,reduceCtorEq]
     | cons x l=>
      have hs:settle m=m:=by unfold Go.Proofs.YtcbabnbiinkafaaGreatDoor.settle; rw [if_neg (by simp [fT,h1,h2,hq])]
      rw [hs]
      rw [hq] at hg
      have hl0:¬ ((l.length:Int)+1=0):=by omega
      delta c168 oO oN oA oM oT oG oR oQ oS oK oF oL
      simp (maxSteps:=4000000) -implicitDefEqProofs only [xE,kM,h1,h2,s0,s2,s3,hg,hl0,List.map_cons,List.length_cons,Int.natCast_add,List.length_map,InR,not_true_eq_false,not_false_eq_true,WU,Ent.of0,Ent.of1,Ent.of2,Ent.of3,Ent.of4,V,W3,↓reduceIte,seval,reduceCtorEq]
   · have hs:settle m=m:=by unfold Go.Proofs.YtcbabnbiinkafaaGreatDoor.settle; rw [if_neg (by simp [fT,h1,h2])]
     rw [hs]
     delta c168 oO oN oA oM oT oG oR oQ oS oK oF oL
     simp (maxSteps:=4000000) -implicitDefEqProofs only [xE,kM,h1,h2,not_true_eq_false,not_false_eq_true,WU,Ent.of0,Ent.of1,Ent.of2,Ent.of3,Ent.of4,V,W3,↓reduceIte,seval,reduceCtorEq]
def wL : Ent Tryz.prog:=.of1 168 (fun m:Ms=>m.source≠-1→InB m m.source) (fun m=>enc (settle m)) (fun m=>by rw [kM]; simp [dE,dE.keysIns]) (fun m h=>yM m h)
abbrev wU (m:Ms) (e:T3) (m1:Ms):Prop:=FC Tryz.prog 153 [msA m 100000,enc e] [(100000,dpC m)] (enc (settle m1)) []
theorem wM (b:List (List Int)):(fO b).map (fun es=>[C.sl 1 es])=b.map Dat.cells:=by rw [fO,List.map_map]; rfl
theorem yl {ch:Chs} {m:Ms} {k:Nat} (h:lk ch k=some (dpC m)):Lend ch (.agg (msC m k)) (enc m):=by
 have hx:bw (dpC m)=some (.sl 1 (m.buf.map Dat.cells)):=by rw [dpC,bw,wM]
 refine .agg rfl (fun j a b ha hb=>?_)
 match j,ha,hb with
 | 0,ha,hb=>cases ha; cases hb; exact .same _
 | 1,ha,hb=>cases ha; cases hb; exact .same _
 | 2,ha,hb=>cases ha; cases hb; exact .same _
 | 3,ha,hb=>cases ha; cases hb; exact .same _
 | 4,ha,hb=>cases ha; cases hb; exact .same _
 | 5,ha,hb=>cases ha; cases hb; exact .same _
 | 6,ha,hb=>cases ha; cases hb; exact .same _
 | 7,ha,hb=>cases ha; cases hb; exact .same _
 | 8,ha,hb=>cases ha; cases hb; exact .same _
 | 9,ha,hb=>cases ha; cases hb; exact .own h hx
theorem xI (l:List Int):∀ e∈l.map Dat.cells,∀ c∈e,∃ v,c=C.s v:=fun e he c hc=>by
 obtain ⟨x,_,rfl⟩:=List.mem_map.1 he
 exact ⟨_,List.mem_singleton.1 hc⟩
theorem done_0 (m:Ms) (y z:Int) (hi:InB m m.path) (hg:InR .i64 (m.fresh+1)) (hb1:(dP m m.path).length≤1000000) (m1:Ms) (hm:m1={ m with buf:=m.buf.set m.path.toNat (dP m m.path++[m.fresh]),fresh:=m.fresh+1 }) (hs:m1.source≠-1→InB m1 m1.source):wU m ⟨0,y,z⟩ m1:=by
 have hdm1:=wN m1
 have hs1:=eq_true hs
 refine dC [] D7.is153 (by simp) (by simp [bj]) (by simp [an,ag,av]) (by simp [an,ag]) (by simp [aB]) (fun cx _ _ _=>dB [] 1500 ?_)
 obtain ⟨hi0,hi2⟩:=hi
 have hi3:m.path < (m.buf.length:Int):=by omega
 have hbg:=fH m.buf m.path.toNat
 rw [show m.buf.getD m.path.toNat []=dP m m.path from rfl] at hbg
 have hst:=jR m.buf m.path.toNat (dP m m.path++[m.fresh])
 have hap:(dP m m.path).map Dat.cells++[[C.s (.int .i64 m.fresh)]]=(dP m m.path++[m.fresh]).map Dat.cells:=by rw [List.map_append]; rfl
 simp only [InR] at hg
 delta D7.c153 oO oN oA oM oT oG oR oQ oS oK oF oL
 simp (maxSteps:=4000000) -implicitDefEqProofs only [D7.rv153,msA,msC,dpC,dX,InR,WU,Ent.of0,Ent.of1,Ent.of2,Ent.of3,Ent.of4,V,W3,↓reduceIte,seval,reduceCtorEq]
 refine nB [] 800 ?_
 simp (maxSteps:=4000000) -implicitDefEqProofs only [drS,lB,robC,reC,fixS,eP,AOp.reads,kE,true_or,or_true,false_or,hi0,hi2,hi3,et,hbg,hap,List.length_map,InR,WU,Ent.of0,Ent.of1,Ent.of2,Ent.of3,Ent.of4,V,W3,↓reduceIte,seval,reduceCtorEq]
 refine ⟨by omega,dB [] 600 ?_⟩
 simp (maxSteps:=4000000) -implicitDefEqProofs only [D7.rv153,hg,hst,msA,msC,dpC,InR,WU,Ent.of0,Ent.of1,Ent.of2,Ent.of3,Ent.of4,V,W3,↓reduceIte,seval,reduceCtorEq]
 refine iv (dB [wL] 600 ?_)
 try subst hm
 try simp only [ne_eq] at hdm1 hs1
 delta D7.c153k5 oO oN oA oM oT oG oR oQ oS oK oF oL
 simp (maxSteps:=4000000) -implicitDefEqProofs only [D7.rv153,wL,hdm1,hs1,kM,wM,InR,WU,Ent.of0,Ent.of1,Ent.of2,Ent.of3,Ent.of4,V,W3,↓reduceIte,seval,reduceCtorEq]
theorem done_1 (m:Ms) (y z:Int) (hi:InB m m.serving) (x:Int) (l:List Int) (hb:dP m m.serving=x :: l) (hg:InR .i64 (m.got+1)) (m1:Ms) (hm:m1=if x=m.got then { m with got:=m.got+1 } else m) (hs:m1.source≠-1→InB m1 m1.source):wU m ⟨1,y,z⟩ m1:=by
 have hdm1:=wN m1
 have hs1:=eq_true hs
 refine dC [] D7.is153 (by simp) (by simp [bj]) (by simp [an,ag,av]) (by simp [an,ag]) (by simp [aB]) (fun cx _ _ _=>dB [] 1500 ?_)
 obtain ⟨hi0,hi2⟩:=hi
 have hi3:m.serving < (m.buf.length:Int):=by omega
 have hbg:=fH m.buf m.serving.toNat
 rw [show m.buf.getD m.serving.toNat []=x :: l from hb] at hbg
 have hl1:(0:Int) < (l.length:Int)+1:=by omega
 simp only [InR] at hg
 delta D7.c153 oO oN oA oM oT oG oR oQ oS oK oF oL
 simp (maxSteps:=4000000) -implicitDefEqProofs only [D7.rv153,msA,msC,dpC,dX,InR,WU,Ent.of0,Ent.of1,Ent.of2,Ent.of3,Ent.of4,V,W3,↓reduceIte,seval,reduceCtorEq]
 refine iv (dB [] 600 ?_)
 by_cases hx:x=m.got
 · subst hx
   rw [if_pos rfl] at hm
   delta D7.c153k1 oO oN oA oM oT oG oR oQ oS oK oF oL
   simp (maxSteps:=4000000) -implicitDefEqProofs only [D7.rv153,hi0,hi2,hi3,hl1,hg,et,hbg,List.map_cons,List.length_cons,Int.natCast_add,List.length_map,InR,WU,Ent.of0,Ent.of1,Ent.of2,Ent.of3,Ent.of4,V,W3,↓reduceIte,seval,reduceCtorEq]
   try refine ⟨by omega,?_⟩
   refine iv (dB [wL] 600 ?_)
   try subst hm
   try simp only [ne_eq] at hdm1 hs1
   delta D7.c153k5 oO oN oA oM oT oG oR oQ oS oK oF oL
   simp (maxSteps:=4000000) -implicitDefEqProofs only [D7.rv153,wL,hdm1,hs1,kM,wM,InR,WU,Ent.of0,Ent.of1,Ent.of2,Ent.of3,Ent.of4,V,W3,↓reduceIte,seval,reduceCtorEq]
 · rw [if_neg hx] at hm
   delta D7.c153k1 oO oN oA oM oT oG oR oQ oS oK oF oL
   simp (maxSteps:=4000000) -implicitDefEqProofs only [D7.rv153,hi0,hi2,hi3,hl1,hx,et,hbg,List.map_cons,List.length_cons,Int.natCast_add,List.length_map,InR,WU,Ent.of0,Ent.of1,Ent.of2,Ent.of3,Ent.of4,V,W3,↓reduceIte,seval,reduceCtorEq]
   try refine ⟨by omega,?_⟩
   refine iv (dB [wL] 600 ?_)
   try subst hm
   try simp only [ne_eq] at hdm1 hs1
   delta D7.c153k5 oO oN oA oM oT oG oR oQ oS oK oF oL
   simp (maxSteps:=4000000) -implicitDefEqProofs only [D7.rv153,wL,hdm1,hs1,kM,wM,InR,WU,Ent.of0,Ent.of1,Ent.of2,Ent.of3,Ent.of4,V,W3,↓reduceIte,seval,reduceCtorEq]
theorem done_8 (m:Ms) (y z:Int) (m1:Ms) (hm:m1={ m with path:=m.serving }) (hs:m1.source≠-1→InB m1 m1.source):wU m ⟨8,y,z⟩ m1:=by
 have hdm1:=wN m1
 have hs1:=eq_true hs
 refine dC [] D7.is153 (by simp) (by simp [bj]) (by simp [an,ag,av]) (by simp [an,ag]) (by simp [aB]) (fun cx _ _ _=>dB [] 1500 ?_)
 delta D7.c153 oO oN oA oM oT oG oR oQ oS oK oF oL
 simp (maxSteps:=4000000) -implicitDefEqProofs only [D7.rv153,msA,msC,dpC,dX,InR,WU,Ent.of0,Ent.of1,Ent.of2,Ent.of3,Ent.of4,V,W3,↓reduceIte,seval,reduceCtorEq]
 refine iv (dB [wL] 600 ?_)
 try subst hm
 try simp only [ne_eq] at hdm1 hs1
 delta D7.c153k5 oO oN oA oM oT oG oR oQ oS oK oF oL
 simp (maxSteps:=4000000) -implicitDefEqProofs only [D7.rv153,wL,hdm1,hs1,kM,wM,InR,WU,Ent.of0,Ent.of1,Ent.of2,Ent.of3,Ent.of4,V,W3,↓reduceIte,seval,reduceCtorEq]
theorem done_9 (m:Ms) (y z:Int) (m1:Ms) (hm:m1={ m with since:=if m.phase=2 then m.since else y,phase:=3 }) (hs:m1.source≠-1→InB m1 m1.source):wU m ⟨9,y,z⟩ m1:=by
 have hdm1:=wN m1
 have hs1:=eq_true hs
 refine dC [] D7.is153 (by simp) (by simp [bj]) (by simp [an,ag,av]) (by simp [an,ag]) (by simp [aB]) (fun cx _ _ _=>dB [] 1500 ?_)
 delta D7.c153 oO oN oA oM oT oG oR oQ oS oK oF oL
 simp (maxSteps:=4000000) -implicitDefEqProofs only [D7.rv153,msA,msC,dpC,dX,InR,WU,Ent.of0,Ent.of1,Ent.of2,Ent.of3,Ent.of4,V,W3,↓reduceIte,seval,reduceCtorEq]
 refine iv (dB [] 600 ?_)
 by_cases h2:m.phase=2
 all_goals
  simp only [h2,if_true,if_false] at hm
  delta D7.c153k3 oO oN oA oM oT oG oR oQ oS oK oF oL
  simp (maxSteps:=4000000) -implicitDefEqProofs only [D7.rv153,h2,not_true_eq_false,not_false_eq_true,InR,WU,Ent.of0,Ent.of1,Ent.of2,Ent.of3,Ent.of4,V,W3,↓reduceIte,seval,reduceCtorEq]
  refine iv (dB [wL] 600 ?_)
  try subst hm
  try simp only [ne_eq] at hdm1 hs1
  delta D7.c153k5 oO oN oA oM oT oG oR oQ oS oK oF oL
  simp (maxSteps:=4000000) -implicitDefEqProofs only [D7.rv153,wL,hdm1,hs1,kM,wM,InR,WU,Ent.of0,Ent.of1,Ent.of2,Ent.of3,Ent.of4,V,W3,↓reduceIte,seval,reduceCtorEq]
theorem done_11 (m:Ms) (y z:Int) (hs:m.source≠-1→InB m m.source):wU m ⟨11,y,z⟩ m:=by
 have hdm1:=wN m
 have hs1:=eq_true hs
 refine dC [] D7.is153 (by simp) (by simp [bj]) (by simp [an,ag,av]) (by simp [an,ag]) (by simp [aB]) (fun cx _ _ _=>dB [] 1500 ?_)
 delta D7.c153 oO oN oA oM oT oG oR oQ oS oK oF oL
 simp (maxSteps:=4000000) -implicitDefEqProofs only [D7.rv153,msA,msC,dpC,dX,InR,WU,Ent.of0,Ent.of1,Ent.of2,Ent.of3,Ent.of4,V,W3,↓reduceIte,seval,reduceCtorEq]
 refine iv (dB [wL] 600 ?_)
 try subst hm
 try simp only [ne_eq] at hdm1 hs1
 delta D7.c153k5 oO oN oA oM oT oG oR oQ oS oK oF oL
 simp (maxSteps:=4000000) -implicitDefEqProofs only [D7.rv153,wL,hdm1,hs1,kM,wM,InR,WU,Ent.of0,Ent.of1,Ent.of2,Ent.of3,Ent.of4,V,W3,↓reduceIte,seval,reduceCtorEq]
theorem done_10 (m:Ms) (y z:Int) (h:MsS m) (hz:InB m z):FC Tryz.prog 153 [msA m 100000,enc (⟨10,y,z⟩:T3)] [(100000,dpC m)] (enc (iO m z y)) []:=by
 refine dC [] D7.is153 (by simp) (by simp [bj]) (by simp [an,ag,av]) (by simp [an,ag]) (by simp [aB]) (fun cx _ _ _=>dB [] 1500 ?_)
 delta D7.c153 oO oN oA oM oT oG oR oQ oS oK oF oL
 simp (maxSteps:=4000000) -implicitDefEqProofs only [D7.rv153,msA,msC,dpC,dX,InR,WU,Ent.of0,Ent.of1,Ent.of2,Ent.of3,Ent.of4,V,W3,↓reduceIte,seval,reduceCtorEq]
 refine iv (dB [] 600 ?_)
 delta D7.c153k4 oO oN oA oM oT oG oR oQ oS oK oF oL
 simp (maxSteps:=4000000) -implicitDefEqProofs only [D7.rv153,InR,WU,Ent.of0,Ent.of1,Ent.of2,Ent.of3,Ent.of4,V,W3,↓reduceIte,seval,reduceCtorEq]
 refine o7 rfl (OpM.lend1 (xp m z y h hz) rfl ⟨yl rfl,.same _,.same _,trivial⟩ rfl (xJ _)) (fun ef he=>?_)
 subst he
 refine ny [] 800 ?_
 simp (maxSteps:=4000000) -implicitDefEqProofs only [D7.rv153,msA,msC,kM,dpC,wM,ak,ak.renCs,rn,InR,WU,Ent.of0,Ent.of1,Ent.of2,Ent.of3,Ent.of4,V,W3,↓reduceIte,seval,reduceCtorEq]
theorem done_2 (m:Ms) (y z:Int) (hi:InB m m.serving) (hb1:(dP m m.serving).length≤1000000) (m1:Ms) (hm:m1={ m with buf:=m.buf.set m.serving.toNat (frm (dP m m.serving) m.got) }) (hs:m1.source≠-1→InB m1 m1.source):wU m ⟨2,y,z⟩ m1:=by
 have hdm1:=wN m1
 have hs1:=eq_true hs
 refine dC [] D7.is153 (by simp) (by simp [bj]) (by simp [an,ag,av]) (by simp [an,ag]) (by simp [aB]) (fun cx _ _ _=>dB [] 1500 ?_)
 obtain ⟨hi0,hi2⟩:=hi
 have hi3:m.serving < (m.buf.length:Int):=by omega
 have hbg:=fH m.buf m.serving.toNat
 rw [show m.buf.getD m.serving.toNat []=dP m m.serving from rfl] at hbg
 have hst:=jR m.buf m.serving.toNat (frm (dP m m.serving) m.got)
 delta D7.c153 oO oN oA oM oT oG oR oQ oS oK oF oL
 simp (maxSteps:=4000000) -implicitDefEqProofs only [D7.rv153,msA,msC,dpC,dX,InR,WU,Ent.of0,Ent.of1,Ent.of2,Ent.of3,Ent.of4,V,W3,↓reduceIte,seval,reduceCtorEq]
 refine qG [xm (dP m m.serving) m.got hb1] 800 ?_
 simp (maxSteps:=4000000) -implicitDefEqProofs only [gK,mFin2,mj,pj,ops2,jn,reM2,oz,qv,qw,mD,finM,kD,hJ,io,gg,fq,fV,fV.fixBs,fU,ndE2,an,ag,av,aT,aF,kE,eP,aZ,bE,xm,wP,hi0,hi2,hi3,hbg,et,InR,WU,Ent.of0,Ent.of1,Ent.of2,Ent.of3,Ent.of4,V,W3,↓reduceIte,seval,reduceCtorEq]
 refine ⟨rfl,⟨xI _,.inl trivial⟩,dB [] 600 ?_⟩
 simp (maxSteps:=4000000) -implicitDefEqProofs only [D7.rv153,hst,WU,Ent.of0,Ent.of1,Ent.of2,Ent.of3,Ent.of4,V,W3,↓reduceIte,seval,reduceCtorEq]
 refine iv (dB [wL] 600 ?_)
 subst hm
 simp only [ne_eq] at hdm1 hs1
 delta D7.c153k5 oO oN oA oM oT oG oR oQ oS oK oF oL
 simp (maxSteps:=4000000) -implicitDefEqProofs only [D7.rv153,wL,hdm1,hs1,kM,wM,InR,WU,Ent.of0,Ent.of1,Ent.of2,Ent.of3,Ent.of4,V,W3,↓reduceIte,seval,reduceCtorEq]
theorem done_3 (m:Ms) (y z:Int) (m1:Ms) (hm:m1={ m with phase:=1,since:=y,target:=z }) (hs:m1.source≠-1→InB m1 m1.source):wU m ⟨3,y,z⟩ m1:=by
 have hdm1:=wN m1
 have hs1:=eq_true hs
 refine dC [] D7.is153 (by simp) (by simp [bj]) (by simp [an,ag,av]) (by simp [an,ag]) (by simp [aB]) (fun cx _ _ _=>dB [] 1500 ?_)
 delta D7.c153 oO oN oA oM oT oG oR oQ oS oK oF oL
 simp (maxSteps:=4000000) -implicitDefEqProofs only [D7.rv153,msA,msC,dpC,dX,InR,WU,Ent.of0,Ent.of1,Ent.of2,Ent.of3,Ent.of4,V,W3,↓reduceIte,seval,reduceCtorEq]
 refine kH [] 800 ?_
 simp (maxSteps:=4000000) -implicitDefEqProofs only [drM,mFin,kw,ly,ia,reM,it,gU,gJ,ndE,an,ag,av,aT,aF,WU,Ent.of0,Ent.of1,Ent.of2,Ent.of3,Ent.of4,V,W3,↓reduceIte,seval,reduceCtorEq]
 refine dB [] 400 ?_
 simp (maxSteps:=4000000) -implicitDefEqProofs only [D7.rv153,WU,Ent.of0,Ent.of1,Ent.of2,Ent.of3,Ent.of4,V,W3,↓reduceIte,seval,reduceCtorEq]
 refine iv (dB [wL] 600 ?_)
 subst hm
 simp only [ne_eq] at hdm1 hs1
 delta D7.c153k5 oO oN oA oM oT oG oR oQ oS oK oF oL
 simp (maxSteps:=4000000) -implicitDefEqProofs only [D7.rv153,wL,hdm1,hs1,kM,wM,InR,WU,Ent.of0,Ent.of1,Ent.of2,Ent.of3,Ent.of4,V,W3,↓reduceIte,seval,reduceCtorEq]
theorem done_4 (m:Ms) (y z:Int) (m1:Ms) (hm:m1={ m with phase:=0,since:=y,target:=-1 }) (hs:m1.source≠-1→InB m1 m1.source):wU m ⟨4,y,z⟩ m1:=by
 have hdm1:=wN m1
 have hs1:=eq_true hs
 refine dC [] D7.is153 (by simp) (by simp [bj]) (by simp [an,ag,av]) (by simp [an,ag]) (by simp [aB]) (fun cx _ _ _=>dB [] 1500 ?_)
 delta D7.c153 oO oN oA oM oT oG oR oQ oS oK oF oL
 simp (maxSteps:=4000000) -implicitDefEqProofs only [D7.rv153,msA,msC,dpC,dX,InR,WU,Ent.of0,Ent.of1,Ent.of2,Ent.of3,Ent.of4,V,W3,↓reduceIte,seval,reduceCtorEq]
 refine kH [] 800 ?_
 simp (maxSteps:=4000000) -implicitDefEqProofs only [drM,mFin,kw,ly,ia,reM,it,gU,gJ,ndE,an,ag,av,aT,aF,WU,Ent.of0,Ent.of1,Ent.of2,Ent.of3,Ent.of4,V,W3,↓reduceIte,seval,reduceCtorEq]
 refine dB [] 400 ?_
 simp (maxSteps:=4000000) -implicitDefEqProofs only [D7.rv153,WU,Ent.of0,Ent.of1,Ent.of2,Ent.of3,Ent.of4,V,W3,↓reduceIte,seval,reduceCtorEq]
 refine iv (dB [wL] 600 ?_)
 subst hm
 simp only [ne_eq] at hdm1 hs1
 delta D7.c153k5 oO oN oA oM oT oG oR oQ oS oK oF oL
 simp (maxSteps:=4000000) -implicitDefEqProofs only [D7.rv153,wL,hdm1,hs1,kM,wM,InR,WU,Ent.of0,Ent.of1,Ent.of2,Ent.of3,Ent.of4,V,W3,↓reduceIte,seval,reduceCtorEq]
theorem done_5 (m:Ms) (y z:Int) (m1:Ms) (hm:m1={ m with phase:=2,since:=y }) (hs:m1.source≠-1→InB m1 m1.source):wU m ⟨5,y,z⟩ m1:=by
 have hdm1:=wN m1
 have hs1:=eq_true hs
 refine dC [] D7.is153 (by simp) (by simp [bj]) (by simp [an,ag,av]) (by simp [an,ag]) (by simp [aB]) (fun cx _ _ _=>dB [] 1500 ?_)
 delta D7.c153 oO oN oA oM oT oG oR oQ oS oK oF oL
 simp (maxSteps:=4000000) -implicitDefEqProofs only [D7.rv153,msA,msC,dpC,dX,InR,WU,Ent.of0,Ent.of1,Ent.of2,Ent.of3,Ent.of4,V,W3,↓reduceIte,seval,reduceCtorEq]
 refine kH [] 800 ?_
 simp (maxSteps:=4000000) -implicitDefEqProofs only [drM,mFin,kw,ly,ia,reM,it,gU,gJ,ndE,an,ag,av,aT,aF,WU,Ent.of0,Ent.of1,Ent.of2,Ent.of3,Ent.of4,V,W3,↓reduceIte,seval,reduceCtorEq]
 refine dB [] 400 ?_
 simp (maxSteps:=4000000) -implicitDefEqProofs only [D7.rv153,WU,Ent.of0,Ent.of1,Ent.of2,Ent.of3,Ent.of4,V,W3,↓reduceIte,seval,reduceCtorEq]
 refine iv (dB [wL] 600 ?_)
 subst hm
 simp only [ne_eq] at hdm1 hs1
 delta D7.c153k5 oO oN oA oM oT oG oR oQ oS oK oF oL
 simp (maxSteps:=4000000) -implicitDefEqProofs only [D7.rv153,wL,hdm1,hs1,kM,wM,InR,WU,Ent.of0,Ent.of1,Ent.of2,Ent.of3,Ent.of4,V,W3,↓reduceIte,seval,reduceCtorEq]
theorem done_6 (m:Ms) (y z:Int) (m1:Ms) (hm:m1={ m with phase:=0,since:=y,source:=m.serving,serving:=m.target,target:=-1 }) (hs:m1.source≠-1→InB m1 m1.source):wU m ⟨6,y,z⟩ m1:=by
 have hdm1:=wN m1
 have hs1:=eq_true hs
 refine dC [] D7.is153 (by simp) (by simp [bj]) (by simp [an,ag,av]) (by simp [an,ag]) (by simp [aB]) (fun cx _ _ _=>dB [] 1500 ?_)
 delta D7.c153 oO oN oA oM oT oG oR oQ oS oK oF oL
 simp (maxSteps:=4000000) -implicitDefEqProofs only [D7.rv153,msA,msC,dpC,dX,InR,WU,Ent.of0,Ent.of1,Ent.of2,Ent.of3,Ent.of4,V,W3,↓reduceIte,seval,reduceCtorEq]
 refine kH [] 800 ?_
 simp (maxSteps:=4000000) -implicitDefEqProofs only [drM,mFin,kw,ly,ia,reM,it,gU,gJ,ndE,an,ag,av,aT,aF,WU,Ent.of0,Ent.of1,Ent.of2,Ent.of3,Ent.of4,V,W3,↓reduceIte,seval,reduceCtorEq]
 refine dB [] 400 ?_
 simp (maxSteps:=4000000) -implicitDefEqProofs only [D7.rv153,WU,Ent.of0,Ent.of1,Ent.of2,Ent.of3,Ent.of4,V,W3,↓reduceIte,seval,reduceCtorEq]
 refine iv (dB [wL] 600 ?_)
 subst hm
 simp only [ne_eq] at hdm1 hs1
 delta D7.c153k5 oO oN oA oM oT oG oR oQ oS oK oF oL
 simp (maxSteps:=4000000) -implicitDefEqProofs only [D7.rv153,wL,hdm1,hs1,kM,wM,InR,WU,Ent.of0,Ent.of1,Ent.of2,Ent.of3,Ent.of4,V,W3,↓reduceIte,seval,reduceCtorEq]
def yk (l:List Int) (n:Int) (h:l.length≤1000000):Ent Tryz.prog:=wP 163 [enc l,enc n] (.own 5) 5 (.row 1 3 ((fZ l n).map Dat.cells)) (by simp [dE]) (by simp [gk]) (put_o l n h)
theorem done_7 (m:Ms) (y z:Int) (hf:InB m (dV m)) (ht:InB m (toC m)) (hne:dV m≠toC m) (x:Int) (B:List Int) (hb:dP m (dV m)=x :: B) (hl1:(dP m (toC m)).length≤1000000) (hl2:B.length≤1000000) (m1:Ms)
 (hm:m1={ m with buf:=(m.buf.set (toC m).toNat (fZ (dP m (toC m)) x)).set (dV m).toNat B }) (hs:m1.source≠-1→InB m1 m1.source):wU m ⟨7,y,z⟩ m1:=by
 have hdm:=wN m
 obtain ⟨i0,i2⟩:=hf
 obtain ⟨j0w,j2w⟩:=ht
 have i3:dV m < (m.buf.length:Int):=by omega
 have j3w:toC m < (m.buf.length:Int):=by omega
 have hnn:(toC m).toNat≠(dV m).toNat:=by omega
 have hbf:=fH m.buf (dV m).toNat
 rw [show m.buf.getD (dV m).toNat []=x :: B from hb] at hbf
 have hbt:=fH m.buf (toC m).toNat
 rw [show m.buf.getD (toC m).toNat []=dP m (toC m) from rfl] at hbt
 have hst:=jR m.buf (toC m).toNat (fZ (dP m (toC m)) x)
 have hbf2:(fO (m.buf.set (toC m).toNat (fZ (dP m (toC m)) x))).getD (dV m).toNat []=(x :: B).map Dat.cells:=by
  rw [fH,fy,if_neg (fun q=>hnn q.1)]
  rw [show m.buf.getD (dV m).toNat []=x :: B from hb]
 have hlen1:(m.buf.set (toC m).toNat (fZ (dP m (toC m)) x)).length=m.buf.length:=by simp
 have hst2:=jR (m.buf.set (toC m).toNat (fZ (dP m (toC m)) x)) (dV m).toNat B
 have hl00:(0:Int) < (B.length:Int)+1:=by omega
 have hl01:(1:Int)≤(B.length:Int)+1:=by omega
 have hdt:List.drop 1 (List.take ((B.length:Int)+1).toNat ([C.s (.int .i64 x)] :: B.map Dat.cells))=B.map Dat.cells:=by
  have e1:((B.length:Int)+1).toNat=B.length+1:=by omega
  rw [e1,List.take_succ_cons,List.drop_succ_cons,List.drop_zero,List.take_of_length_le (by simp)]
 have hdm1:=wN m1
 have hs1:=eq_true hs
 refine dC [] D7.is153 (by simp) (by simp [bj]) (by simp [an,ag,av]) (by simp [an,ag]) (by simp [aB]) (fun cx _ _ _=>dB [] 1500 ?_)
 delta D7.c153 oO oN oA oM oT oG oR oQ oS oK oF oL
 simp (maxSteps:=4000000) -implicitDefEqProofs only [D7.rv153,msA,msC,dpC,dX,InR,WU,Ent.of0,Ent.of1,Ent.of2,Ent.of3,Ent.of4,V,W3,↓reduceIte,seval,reduceCtorEq]
 refine iv (dB [xa] 600 ?_)
 delta D7.c153k2 oO oN oA oM oT oG oR oQ oS oK oF oL
 simp (maxSteps:=4000000) -implicitDefEqProofs only [D7.rv153,xa,hdm,kM,wM,InR,WU,Ent.of0,Ent.of1,Ent.of2,Ent.of3,Ent.of4,V,W3,↓reduceIte,seval,reduceCtorEq]
 generalize hF:dV m=F at *
 generalize hG:toC m=G at *
 refine qG [yk (dP m G) x hl1] 800 ?_
 simp (maxSteps:=4000000) -implicitDefEqProofs only [gK,mFin2,mj,pj,ops2,jn,reM2,oz,qv,qw,mD,finM,kD,hJ,io,gg,fq,fV,fV.fixBs,fU,ndE2,an,ag,av,aT,aF,kE,eP,aZ,bE,yk,wP,i0,i2,i3,j0w,j2w,j3w,hl00,hbf,hbt,et,List.map_cons,List.length_cons,Int.natCast_add,List.length_map,InR,WU,Ent.of0,Ent.of1,Ent.of2,Ent.of3,Ent.of4,V,W3,↓reduceIte,seval,reduceCtorEq]
 refine ⟨rfl,⟨by omega,xI _,.inl trivial⟩,dB [] 600 ?_⟩
 simp (maxSteps:=4000000) -implicitDefEqProofs only [D7.rv153,hst,WU,Ent.of0,Ent.of1,Ent.of2,Ent.of3,Ent.of4,V,W3,↓reduceIte,seval,reduceCtorEq]
 refine qG [xC B hl2] 800 ?_
 simp (maxSteps:=4000000) -implicitDefEqProofs only [gK,mFin2,mj,pj,ops2,jn,reM2,oz,qv,qw,mD,finM,kD,hJ,io,gg,fq,fV,fV.fixBs,fU,ndE2,an,ag,av,aT,aF,kE,eP,aZ,bE,xC,wP,i0,i2,i3,hl00,hl01,hbf2,hlen1,hdt,et,List.map_cons,List.length_cons,Int.natCast_add,List.length_map,InR,WU,Ent.of0,Ent.of1,Ent.of2,Ent.of3,Ent.of4,V,W3,↓reduceIte,seval,reduceCtorEq]
 refine ⟨rfl,⟨Int.le_refl _,xI _,.inr trivial⟩,dB [] 600 ?_⟩
 simp (maxSteps:=4000000) -implicitDefEqProofs only [D7.rv153,hst2,WU,Ent.of0,Ent.of1,Ent.of2,Ent.of3,Ent.of4,V,W3,↓reduceIte,seval,reduceCtorEq]
 refine iv (dB [wL] 600 ?_)
 subst hm
 simp only [ne_eq] at hdm1 hs1
 delta D7.c153k5 oO oN oA oM oT oG oR oQ oS oK oF oL
 simp (maxSteps:=4000000) -implicitDefEqProofs only [D7.rv153,wL,hdm1,hs1,kM,wM,InR,WU,Ent.of0,Ent.of1,Ent.of2,Ent.of3,Ent.of4,V,W3,↓reduceIte,seval,reduceCtorEq]
theorem G0.inB {n:Nw} {m:Ms} (g:G0 n m) {c:Int} (h:isC n c=true):InB m c:=⟨(fR h).1,g.ix h⟩
theorem dO.msS {n:Nw} {m:Ms} (net:NetOk n) (g:dO n m):MsS m:=by
 have h1:=g.len
 have h2:=g.large
 have h3:=net.len
 refine ⟨⟨by omega,fun x hx=>?_⟩,by omega⟩
 have:=(List.sublist_flatten_of_mem hx).length_le
 omega
theorem bufA_le {n:Nw} {m:Ms} (net:NetOk n) (g:dO n m) (c:Int):(dP m c).length≤1000000:=by
 rcases Nat.lt_or_ge c.toNat m.buf.length with h | h
 · have e:dP m c=m.buf[c.toNat]:=by rw [dP,List.getD_eq_getElem?_getD,List.getElem?_eq_getElem h]; rfl
   rw [e]
   exact (g.msS net).b.r _ (List.getElem_mem h)
 · have e:dP m c=[]:=by rw [dP,List.getD_eq_getElem?_getD,List.getElem?_eq_none h]; rfl
   rw [e]; simp
theorem yH {m:Ms} {t:Int} (h:MsS { m with at_:=t }):MsS m:=⟨h.b,h.f⟩
theorem yn {n:Nw} {m:Ms} (net:NetOk n) (g:dO n m) (h:m.phase=2∨(m.phase=0∧m.source≠-1)):InB m (dV m)∧InB m (toC m)∧dV m≠toC m:=by
 by_cases p:m.phase=2
 · have htn:m.target≠-1:=fun q=>(g.f2 q).2 p
   rw [dV,toC,if_pos p,if_pos p]
   exact ⟨g.inB g.srv,g.inB (g.tgt htn),fun q=>net.ne _ _ (g.c1 htn) q.symm⟩
 · have hs:m.source≠-1:=by
    rcases h with q | q
    · exact absurd q p
    · exact q.2
   rw [dV,toC,if_neg p,if_neg p]
   exact ⟨g.inB (g.src hs),g.inB g.srv,net.ne _ _ (g.c2 hs)⟩
theorem Rdone_c (n:Nw) (m:Ms) (e:T3) (net:NetOk n) (G:dO n { m with at_:=e.y }) (hev:evE n e=0) (hd:ez n m e=0):FC Tryz.prog 153 [msA m 100000,enc e] [(100000,dpC m)] (enc (kb m e)) []:=by
 obtain ⟨hk,hy,hcz⟩:=ev_ok hev
 have S:=yH (G.msS net)
 have hd':ez n { m with at_:=e.y } e=0:=hd
 have hI:∀ c,isC n c=true→InB m c:=fun c h=>G.inB h
 have hB:∀ c,(dP m c).length≤1000000:=fun c=>bufA_le net G c
 obtain ⟨ex,ey,ezw⟩:=e
 simp only at hk hy hcz hd hd' G
 by_cases h10:ex=10
 · subst h10
   rw [kb,if_pos rfl]
   exact done_10 m ey ezw S (hI _ (hcz rfl))
 have hdn:kb m ⟨ex,ey,ezw⟩=settle (eJ m ⟨ex,ey,ezw⟩):=by rw [kb,if_neg h10]
 rw [hdn]
 have A:=G.toG0.act net hev rfl hd' h10
 rw [← at_act] at A
 have hs:(eJ m ⟨ex,ey,ezw⟩).source≠-1→InB (eJ m ⟨ex,ey,ezw⟩) (eJ m ⟨ex,ey,ezw⟩).source:=fun q=>A.inB (A.src q)
 clear A
 have k:ex=0∨ex=1∨ex=2∨ex=3∨ex=4∨ex=5∨ex=6∨ex=7∨ex=8∨ex=9∨ex=11:=by omega
 generalize hm:eJ m ⟨ex,ey,ezw⟩=m1 at *
 unfold eJ at hm
 unfold ez at hd
 rcases k with rfl | rfl | rfl | rfl | rfl | rfl | rfl | rfl | rfl | rfl | rfl <;> simp only [Int.reduceEq,if_true,if_false] at hm hd
 · have hfr:=G.fresh
   exact done_0 m ey ezw (hI _ G.pth) (by simp only [InR]; simp only at hfr; omega) (hB _) m1 hm.symm hs
 · have hgt:=G.got
   have hfr:=G.fresh
   simp only at hgt hfr
   cases hb:dP m m.serving with
   | nil=>
    rw [hb] at hd
    simp at hd
    split at hd <;> cases hd
   | cons x l=>
    rw [hb] at hm
    exact done_1 m ey ezw (hI _ G.srv) x l hb (by simp only [InR]; omega) m1 hm.symm hs
 · exact done_2 m ey ezw (hI _ G.srv) (hB _) m1 hm.symm hs
 · exact done_3 m ey ezw m1 hm.symm hs
 · exact done_4 m ey ezw m1 hm.symm hs
 · exact done_5 m ey ezw m1 hm.symm hs
 · exact done_6 m ey ezw m1 hm.symm hs
 · have hq:m.phase=2∨(m.phase=0∧m.source≠-1):=by
    by_cases q:m.phase=2
    · exact .inl q
    · by_cases q0:m.phase=0
      · by_cases qs:m.source=-1
        · rw [if_pos ⟨q,.inr qs⟩] at hd; cases hd
        · exact .inr ⟨q0,qs⟩
      · rw [if_pos ⟨q,.inl q0⟩] at hd; cases hd
   obtain ⟨w1,w2,w3⟩:=yn net G hq
   have hne:dP m (dV m)≠[]:=fun q=>by
    split at hd
    · cases hd
    · first | cases hd | (rw [if_pos q] at hd; cases hd)
   cases hb:dP m (dV m) with
   | nil=>exact absurd hb hne
   | cons x B=>
    rw [hb] at hm
    have hbl:=hB (dV m)
    rw [hb] at hbl
    exact done_7 m ey ezw w1 w2 w3 x B hb (hB _) (by simp at hbl; omega) m1 hm.symm hs
 · exact done_8 m ey ezw m1 hm.symm hs
 · exact done_9 m ey ezw m1 hm.symm hs
 · subst hm
   exact done_11 m ey ezw hs
theorem FC.keys {f:FuncId} {cs:List C} {r:C} {c:Ch} (k:Nat) (h:FC Tryz.prog f cs [(100000,c)] r []) (hr:ak [(100000,k)] r=r) (hk:dE [100000] r) (hc:aG [(100000,k)] c=c):FC Tryz.prog f (cs.map (ak [(100000,k)])) [(k,c)] r []:=by
 have:=FC.ren h [(100000,k)] [100000] (by simp [rn,lk]) (fun k' c' hm=>by simp at hm ⊢; exact hm.1) (fun k' c' hm=>by simp at hm) hk
 rw [hr] at this
 simpa [ar,rn,lk,hc] using this
theorem yi (m:Ms) (k:Nat):ak [(100000,k)] (enc m)=enc m∧dE [100000] (enc m):=by
 rw [kM]; simp [ak,ak.renCs,dE,dE.keysIns]
def xe (n:Nw) (m:Ms) (e:T3):Ms:=if qB n m e≠0 then ms0 else qI n m e
theorem Step_c (n:Nw) (m:Ms) (e:T3) (hn:NwS n) (net:NetOk n) (g:dO n m) (hev:evE n e=0):FC Tryz.prog 119 [enc n,enc m,enc e] [] (.tup [enc (xe n m e),enc (qB n m e)]) []:=by
 obtain ⟨hk,hy,hcz⟩:=ev_ok hev
 have S:=g.msS net
 have hlen:=g.len
 have hlen0:=net.len
 have hsi:=g.since
 have hat:=g.at_
 have hli:=net.lim
 by_cases ht:e.y < m.at_
 · have hE:qB n m e=9:=by rw [qB,if_pos ht]
   have hS:xe n m e=ms0:=by rw [xe,hE]; rfl
   rw [hE,hS]
   refine dC [] is119 (by simp) (by simp [bj]) (by simp [an,ag]) (by simp [an,ag]) (by simp [aB]) (fun cx _ _ _=>dB [] 1500 ?_)
   delta c119 oO oN oA oM oT oG oR oQ oS oK oF oL
   simp (maxSteps:=4000000) -implicitDefEqProofs only [xo,ec,kM,dX,ht,ms0,InR,WU,Ent.of0,Ent.of1,Ent.of2,Ent.of3,Ent.of4,V,W3,↓reduceIte,seval,reduceCtorEq]
 · have hE:qB n m e=ez n (qu n m e.y) e:=by rw [qB,if_neg ht]; rfl
   have G:dO n { qu n m e.y with at_:=e.y }:=g.pass net (by omega) hy.2
   have hap:qI n m e={ kb (qu n m e.y) e with at_:=e.y }:=by rw [at_done]; rfl
   have SY:=yH (G.msS net)
   have hdoes:=does_c n (qu n m e.y) e hn SY hk (G.inB G.srv) (fun q=>(yn net G q).1)
   generalize hY:qu n m e.y=Y at *
   have pass:=Pass_o n m e.y hn S (by omega) (fun _=>by simp only [InR]; omega)
   rw [hY] at pass
   refine dC [] is119 (by simp) (by simp [bj]) (by simp [an,ag]) (by simp [an,ag]) (by simp [aB]) (fun cx _ _ _=>dB [wP 110 [enc n,enc m,enc e.y] (.tup [msA Y 25,enc (xg n m e.y)]) 25 (.deep 1 3 24 none (fO Y.buf)) ⟨xz _ 25,trivial,trivial⟩ (by simp [gk]) pass] 1500 ?_)
   delta c119 oO oN oA oM oT oG oR oQ oS oK oF oL
   simp (maxSteps:=4000000) -implicitDefEqProofs only [xo,ec,kM,dX,ht,wP,msA,msC,InR,not_true_eq_false,WU,Ent.of0,Ent.of1,Ent.of2,Ent.of3,Ent.of4,V,W3,↓reduceIte,seval,reduceCtorEq]
   refine o7 rfl (OpM.lend0 hdoes rfl ⟨.same _,yl rfl,.same _,trivial⟩ rfl rfl) (fun ef he=>?_)
   subst he
   refine ny [] 800 ?_
   by_cases h0:ez n Y e=0
   · have hE0:qB n m e=0:=hE.trans h0
     have hS:xe n m e={ kb Y e with at_:=e.y }:=by rw [xe,if_neg (by simp [hE0]),hap]
     have hdone:=FC.keys 22 (Rdone_c n Y e net G hev h0) (yi _ 22).1 (yi _ 22).2 rfl
     rw [hE0,hS]
     simp (maxSteps:=4000000) -implicitDefEqProofs only [xo,h0,not_true_eq_false,WU,Ent.of0,Ent.of1,Ent.of2,Ent.of3,Ent.of4,V,W3,↓reduceIte,seval,reduceCtorEq]
     refine qi (.yes _ rfl (OpR.give (k:=22) (c:=dpC Y) rfl hdone (by rfl) rfl (fun cs q=>by cases q) (by rw [kM]; simp [dE,dE.keysIns]))) trivial ?_
     refine ny [] 800 ?_
     simp (maxSteps:=4000000) -implicitDefEqProofs only [xo,kM,a6,az,bz,InR,WU,Ent.of0,Ent.of1,Ent.of2,Ent.of3,Ent.of4,V,W3,↓reduceIte,seval,reduceCtorEq]
   · have hE0:¬ qB n m e=0:=by rw [hE]; exact h0
     have hS:xe n m e=ms0:=by rw [xe,if_pos hE0]
     rw [hS,hE]
     simp (maxSteps:=4000000) -implicitDefEqProofs only [xo,h0,ms0,not_true_eq_false,not_false_eq_true,WU,Ent.of0,Ent.of1,Ent.of2,Ent.of3,Ent.of4,V,W3,↓reduceIte,seval,reduceCtorEq]
theorem wT (m:Ms):dE [] (enc m):=by rw [kM]; simp [dE,dE.keysIns]
theorem Apply_c (n:Nw) (m:Ms) (e:T3) (hn:NwS n) (net:NetOk n) (g:dO n m):FC Tryz.prog 71 [enc n,enc m,enc e] [] (.tup [enc (wS n m e),enc (gh n m e)]) []:=by
 have hdn:=gN n
 have eta:(⟨e.x,e.y,e.z⟩:T3)=e:=rfl
 by_cases hev:evE n e=0
 · have hE:gh n m e=qB n m e:=by rw [gh,if_neg (by simp [hev])]
   have hS:wS n m e=xe n m e:=by rw [wS,hE]; rfl
   rw [hE,hS]
   have hx:=Step_c n m e hn net g hev
   refine dC [] is71 (by simp) (by simp [bj]) (by simp [an,ag]) (by simp [an,ag]) (by simp [aB]) (fun cx _ _ _=>dB [xW,entX 119 _ _ hx ⟨wT _,trivial,trivial⟩] 1500 ?_)
   delta c71 oO oN oA oM oT oG oR oQ oS oK oF oL
   simp (maxSteps:=4000000) -implicitDefEqProofs only [rv71,xW,entX,ec,kM,dX,mr,eta,hdn,hn,hev,not_true_eq_false,WU,Ent.of0,Ent.of1,Ent.of2,Ent.of3,Ent.of4,V,W3,↓reduceIte,seval,reduceCtorEq]
 · have hE:gh n m e=evE n e:=by rw [gh,if_pos hev]
   have hS:wS n m e=ms0:=by rw [wS,hE,if_pos hev]
   rw [hE,hS]
   refine dC [] is71 (by simp) (by simp [bj]) (by simp [an,ag]) (by simp [an,ag]) (by simp [aB]) (fun cx _ _ _=>dB [xW] 1500 ?_)
   delta c71 oO oN oA oM oT oG oR oQ oS oK oF oL
   simp (maxSteps:=4000000) -implicitDefEqProofs only [rv71,xW,ec,kM,dX,mr,eta,hdn,hn,hev,ms0,not_true_eq_false,not_false_eq_true,WU,Ent.of0,Ent.of1,Ent.of2,Ent.of3,Ent.of4,V,W3,↓reduceIte,seval,reduceCtorEq]
theorem nil_els (k:Nat) {E:Env} {U:Nat→Prop} {h:Array Obj} {v:Value} (hr:Rep E U h (.sl 1 (List.replicate k [C.s (.slice none 0 0)])) v):Rep E U h (.sl 1 (List.replicate k [C.sl 1 []])) v:=by
 have hd:=ju hr
 generalize hes:List.replicate k [C.s (.slice none 0 0)]=es at hd
 have hl:es.length=k:=by rw [← hes,List.length_replicate]
 have hg:∀ (i:Nat) (e:List C),(List.replicate k [C.sl 1 []])[i]? = some e→i < k∧e=[C.sl 1 []]:=fun i e he=>by
  rw [List.getElem?_replicate] at he
  split at he
  · rename_i q; cases he; exact ⟨q,rfl⟩
  · cases he
 have hg2:∀ i,i < k→es[i]? = some [C.s (.slice none 0 0)]:=fun i hi=>by rw [← hes,List.getElem?_replicate,if_pos hi]
 cases hd with
 | sl0 _ a cap hc=>
  have:k=0:=by simpa using hl.symm
  subst this
  exact .d (.sl0 1 a cap hc)
 | sl _ b off cap _ arr ty fz vf hU hb hcap hmax hsz hv hrr=>
  have hk:es.length=(List.replicate k [C.sl 1 []]).length:=by rw [hl,List.length_replicate]
  rw [hk]
  refine .d (.sl _ b off cap 1 arr ty fz vf hU hb (by rw [← hk]; exact hcap) hmax (fun i e he=>by rw [(hg i e he).2]; rfl) (fun i e j c he hj=>?_) (fun i e j c he hj=>?_))
  · obtain ⟨h1,rfl⟩:=hg i e he
    have hj0:j=0:=by have:=(List.getElem?_eq_some_iff.1 hj).1; simpa using this
    subst hj0
    exact hv i _ 0 _ (hg2 i h1) rfl
  · obtain ⟨h1,rfl⟩:=hg i e he
    have hj0:j=0:=by have:=(List.getElem?_eq_some_iff.1 hj).1; simpa using this
    subst hj0
    cases hj
    have:=hrr i _ 0 _ (hg2 i h1) rfl
    generalize vf i 0=u at *
    cases this
    exact .sl0 1 none 0 (by simp [maxLen])
theorem yP {E:Env} {U:Nat→Prop} {h:Array Obj} {cs:List C} {a b:C} {v:Value} (hr:Rep E U h (.agg (cs++[a])) v) (hab:∀ u,Rep E U h a u→Rep E U h b u):Rep E U h (.agg (cs++[b])) v:=by
 cases hr with
 | d hd=>cases hd
 | agg _ vs q1 q2 q3=>
  refine .agg _ vs (by simpa using q1) (fun j c hj=>?_) q3
  rw [List.getElem?_append] at hj
  split at hj
  · rename_i hlt
    exact q2 j c (by rw [List.getElem?_append,if_pos hlt]; exact hj)
  · rename_i hlt
    have hj0:j=cs.length:=by have:=(List.getElem?_eq_some_iff.1 hj).1; simp at this; omega
    subst hj0
    simp at hj
    subst hj
    exact hab _ (q2 cs.length a (by simp))
theorem FC.post {f:FuncId} {as0:List C} {r r':C} (hfc:FC Tryz.prog f as0 [] r []) (hp:∀ E U h v,Rep E U h r v→Rep E U h r' v):FC Tryz.prog f as0 [] r' []:=
 ⟨hfc.1,fun E U vs w hg ha hi=>(hfc.2 E U vs w hg ha hi).mono fun e w' ⟨v,E',U',he,hr,hc⟩=>⟨v,E',U',he,hp _ _ _ _ hr,hc⟩⟩
theorem yO (n:Nw) (c:Int) (hn:NwS n):FC Tryz.prog 52 [enc n,enc c] [] (enc (eQ n c)) []:=by
 have hb:=hn.c
 have key:FC Tryz.prog 52 [enc n,enc c] [] (.agg ([.s (.int .i64 0),.s (.int .i64 0),.s (.int .i64 0),.s (.int .i64 c),.s (.int .i64 (-1)),.s (.int .i64 (-1)),.s (.int .i64 c),.s (.int .i64 0),.s (.int .i64 0)]++[.sl 1 (List.replicate n.cells.length [C.s (.slice none 0 0)])])) []:=by
  refine dC [] is52 (by simp) (by simp [bj]) (by simp [an,ag]) (by simp [an,ag]) (by simp [aB]) (fun cx _ _ _=>dB [] 1500 ?_)
  delta c52 oO oN oA oM oT oG oR oQ oS oK oF oL
  simp (maxSteps:=4000000) -implicitDefEqProofs only [rv52,ec,List.cons_append,List.nil_append,InR,WU,Ent.of0,Ent.of1,Ent.of2,Ent.of3,Ent.of4,V,W3,↓reduceIte,seval,reduceCtorEq]
  omega
 have e:(n.cells.map fun _=>([]:List Int)).map Dat.cells=List.replicate n.cells.length [C.sl 1 []]:=by
  rw [List.map_map]; exact List.map_const' (l:=n.cells) (b:=[C.sl 1 []])
 refine FC.post key (fun E U h v hr=>?_)
 have:=yP hr (fun u hu=>nil_els _ hu)
 rw [kM,eQ]
 simp only [e]
 exact this
def xV : Ent Tryz.prog:=.of2 52 (fun n _=>NwS n) (fun (n:Nw) (c:Int)=>enc (eQ n c)) (fun _ _=>wT _) (fun n c h=>yO n c h)
theorem yx (l:List T3) (h:l.length≤1000000):FC Tryz.prog 38 [enc l] [] (enc l) []:=by
 refine eg is38 (by simp) (fun cx hl=>dB [] 800 ?_)
 delta c38 oO oN oA oM oT oG oR oQ oS oK oF oL
 simp (maxSteps:=4000000) -implicitDefEqProofs only [rv38,g9,WU,Ent.of0,Ent.of1,Ent.of2,Ent.of3,Ent.of4,V,W3,↓reduceIte,seval,reduceCtorEq]
 omega
def xn : Ent Tryz.prog:=.of1 38 (fun l=>l.length≤1000000) (fun l:List T3=>enc l) (fun _=>trivial) (fun l h=>yx l h)
theorem short_c (l:List T3):FC Tryz.prog 35 [enc l] [] (enc (decide (l.length≤40∨(200 < l.length∧l.length≤202)))) []:=by
 refine eg is35 (by simp) (fun cx hl=>dB [] 800 ?_)
 by_cases h1:l.length≤40
 · have h1':(l.length:Int)≤40:=by omega
   delta c35 oO oN oA oM oT oG oR oQ oS oK oF oL
   simp (maxSteps:=4000000) -implicitDefEqProofs only [rv35,h1,h1',true_or,decide_true,WU,Ent.of0,Ent.of1,Ent.of2,Ent.of3,Ent.of4,V,W3,↓reduceIte,seval,reduceCtorEq]
 · have h1':¬ (l.length:Int)≤40:=by omega
   by_cases h2:200 < l.length
   · have h2':(200:Int) < (l.length:Int):=by omega
     have h3:((l.length:Int)≤202)=(l.length≤202):=by apply propext; omega
     delta c35 oO oN oA oM oT oG oR oQ oS oK oF oL
     simp (maxSteps:=4000000) -implicitDefEqProofs only [rv35,h1,h1',h2,h2',h3,true_and,false_or,WU,Ent.of0,Ent.of1,Ent.of2,Ent.of3,Ent.of4,V,W3,↓reduceIte,seval,reduceCtorEq]
   · have h2':¬ (200:Int) < (l.length:Int):=by omega
     delta c35 oO oN oA oM oT oG oR oQ oS oK oF oL
     simp (maxSteps:=4000000) -implicitDefEqProofs only [rv35,h1,h1',h2,h2',false_and,false_or,WU,Ent.of0,Ent.of1,Ent.of2,Ent.of3,Ent.of4,V,W3,↓reduceIte,seval,reduceCtorEq]
def xc : Ent Tryz.prog:=.of1 35 (fun _=>True) (fun l:List T3=>enc (decide (l.length≤40∨(200 < l.length∧l.length≤202)))) (fun _=>trivial) (fun l _=>short_c l)
def rpE (n:Nw) (c:Int) (l:List T3):Int×Int:=if 200 < l.length then (0,8) else iV n (eQ n c) l 0
def rpS (n:Nw) (c:Int) (l:List T3):Ms:=if (rpE n c l).2=0 then l.foldl (qI n) (eQ n c) else ms0
def xX (n:Nw) (m:Ms) (e:T3) (hn:NwS n) (net:NetOk n) (g:dO n m):Ent Tryz.prog:=entX 71 [enc n,enc m,enc e] (.tup [enc (wS n m e),enc (gh n m e)]) (Apply_c n m e hn net g) ⟨wT _,trivial,trivial⟩
theorem yy (n:Nw) (c:Int) (l:List T3) (hn:NwS n) (net:NetOk n) (hc:isC n c=true):FC Tryz.prog 42 [enc n,enc c,enc l] [] (.tup [enc (rpS n c l),enc (rpE n c l).1,enc (rpE n c l).2]) []:=by
 have hdn:=gN n
 by_cases hl:200 < l.length
 · have hl':(200:Int) < (l.length:Int):=by omega
   have hE:rpE n c l=(0,8):=by rw [rpE,if_pos hl]
   have hS:rpS n c l=ms0:=by rw [rpS,hE]; rfl
   rw [hS,hE]
   refine dC [] is42 (by simp) (by simp [bj]) (by simp [an,ag]) (by simp [an,ag]) (by simp [aB]) (fun cx _ _ _=>dB [] 1500 ?_)
   delta c42 oO oN oA oM oT oG oR oQ oS oK oF oL
   simp (maxSteps:=4000000) -implicitDefEqProofs only [rv42,ec,kM,ms0,hl',WU,Ent.of0,Ent.of1,Ent.of2,Ent.of3,Ent.of4,V,W3,↓reduceIte,seval,reduceCtorEq]
 · have hl':¬ (200:Int) < (l.length:Int):=by omega
   have hE:rpE n c l=iV n (eQ n c) l 0:=by rw [rpE,if_neg hl]
   have hS:rpS n c l=if (iV n (eQ n c) l 0).2=0 then l.foldl (qI n) (eQ n c) else ms0:=by rw [rpS,hE]
   rw [hS,hE]
   generalize hR:iV n (eQ n c) l 0=R
   have g0:=dO.begin net hc
   refine dC [] D7.is42 (by simp) (by simp [bj]) (by simp [an,ag]) (by simp [an,ag]) (by simp [aB]) (fun cx _ _ _=>dB [xV] 1500 ?_)
   delta D7.c42 oO oN oA oM oT oG oR oQ oS oK oF oL
   simp (maxSteps:=4000000) -implicitDefEqProofs only [D7.rv42,xV,ec,kM,hdn,hn,hl',not_true_eq_false,WU,Ent.of0,Ent.of1,Ent.of2,Ent.of3,Ent.of4,V,W3,↓reduceIte,seval,reduceCtorEq]
   obtain ⟨mfw,hmf⟩:∃ mfw:Nat→Ms,∀ i,mfw i=(l.take i).foldl (qI n) (eQ n c):=⟨_,fun _=>rfl⟩
   have hm0:mfw 0=eQ n c:=hmf 0
   have hme:mfw l.length=l.foldl (qI n) (eQ n c):=by rw [hmf,List.take_length]
   rw [← hme]
   rw [← hm0] at g0 hR
   refine eM l.length (fun i=>[(10,.s (.int .i64 (i:Int)))]) (fun i=>[(9,.box [.s (.int .i64 (mfw i).at_),.s (.int .i64 (mfw i).phase),.s (.int .i64 (mfw i).since),.s (.int .i64 (mfw i).serving),.s (.int .i64 (mfw i).target),.s (.int .i64 (mfw i).source),.s (.int .i64 (mfw i).path),.s (.int .i64 (mfw i).fresh),.s (.int .i64 (mfw i).got),.sl 1 ((mfw i).buf.map Dat.cells)])]) (fun i=>dO n (mfw i)∧iV n (mfw i) (l.drop i) (i:Int)=R) ⟨g0,hR⟩ ?_ (fun i hi hv=>?_)
   · simp (maxSteps:=4000000) -implicitDefEqProofs only [hm0,kM,Ent.of0,Ent.of1,Ent.of2,Ent.of3,Ent.of4,V,W3,↓reduceIte,seval,reduceCtorEq]
     all_goals rfl
   · obtain ⟨g,hv⟩:=hv
     by_cases h:i < l.length
     · have hi2:(i:Int) < (l.length:Int):=by omega
       have hi0:(0:Int)≤i:=by omega
       have hgd:=vU l i h
       have hd:=ee (d:=(⟨0,0,0⟩:T3)) h
       have hnx:mfw (i+1)=qI n (mfw i) (l.getD i ⟨0,0,0⟩):=by
        rw [hmf,hmf,List.take_succ_eq_append_getElem h,List.foldl_append]
        rw [List.getD_eq_getElem?_getD,List.getElem?_eq_getElem h]; rfl
       rw [hd] at hv
       generalize l.getD i ⟨0,0,0⟩=e at *
       rw [iV] at hv
       have eta:(⟨e.x,e.y,e.z⟩:T3)=e:=rfl
       refine dB [] 800 ?_
       delta D7.c42l1 oO oN oA oM oT oG oR oQ oS oK oF oL
       simp (maxSteps:=4000000) -implicitDefEqProofs only [D7.rv42,hi0,hi2,h,hgd,g9,InR,WU,Ent.of0,Ent.of1,Ent.of2,Ent.of3,Ent.of4,V,W3,↓reduceIte,seval,reduceCtorEq]
       refine x4 [xX n (mfw i) e hn net g] 800 [6] ?_
       simp (maxSteps:=4000000) -implicitDefEqProofs only [wZ,mFin2,xU,mj,pj,ops2,jn,reM2,oz,qv,qw,mD,finM,kD,hJ,io,gg,fq,fV,fV.fixBs,fU,ndE2,an,ag,av,aT,aF,kE,eP,aZ,bE,xX,entX,ec,kM,dX,hi0,hi2,h,hgd,InR,WU,Ent.of0,Ent.of1,Ent.of2,Ent.of3,Ent.of4,V,W3,↓reduceIte,seval,reduceCtorEq]
       refine ⟨rfl,?_⟩
       refine dB [] 800 ?_
       by_cases h0:gh n (mfw i) e=0
       · rw [if_pos h0] at hv
         have hA:wS n (mfw i) e=mfw (i+1):=by rw [hnx,wS,if_neg (by simp [h0])]
         rw [hA]
         rw [← hnx] at hv
         have g':dO n (mfw (i+1)):=by rw [hnx]; exact g.apply net h0
         simp (maxSteps:=4000000) -implicitDefEqProofs only [D7.rv42,h0,not_true_eq_false,WU,Ent.of0,Ent.of1,Ent.of2,Ent.of3,Ent.of4,V,W3,↓reduceIte,seval,reduceCtorEq]
         exact ⟨by simp only [InR]; omega,h,⟨g',by rw [← hv]; congr 1⟩,by omega⟩
       · rw [if_neg h0] at hv
         subst hv
         simp (maxSteps:=4000000) -implicitDefEqProofs only [D7.rv42,h0,ms0,not_true_eq_false,not_false_eq_true,WU,Ent.of0,Ent.of1,Ent.of2,Ent.of3,Ent.of4,V,W3,↓reduceIte,seval,reduceCtorEq]
     · have hil:i=l.length:=by omega
       subst hil
       have hi2:¬ ((l.length:Nat):Int) < (l.length:Int):=by omega
       rw [List.drop_length] at hv
       subst hv
       refine dB [] 800 ?_
       delta D7.c42l1 oO oN oA oM oT oG oR oQ oS oK oF oL
       simp (maxSteps:=4000000) -implicitDefEqProofs only [D7.rv42,hi2,iV,WU,Ent.of0,Ent.of1,Ent.of2,Ent.of3,Ent.of4,V,W3,↓reduceIte,seval,reduceCtorEq]
theorem yg (n:Nw) (c:Int) (l:List T3) (hn:NwS n) (net:NetOk n) (hc:isC n c=true) (h40:l.length≤1000000) (hok:(iV n (eQ n c) l 0).2=0):FC Tryz.prog 43 [enc n,enc c,enc l] [] (enc (wV n (eQ n c) l)) []:=by
 have hdn:=gN n
 have g0:=dO.begin net hc
 generalize hR:wV n (eQ n c) l=R
 refine dC [] D7.is43 (by simp) (by simp [bj]) (by simp [an,ag]) (by simp [an,ag]) (by simp [aB]) (fun cx _ _ _=>dB [xV] 1500 ?_)
 delta D7.c43 oO oN oA oM oT oG oR oQ oS oK oF oL
 simp (maxSteps:=4000000) -implicitDefEqProofs only [D7.rv43,xV,ec,kM,hdn,hn,WU,Ent.of0,Ent.of1,Ent.of2,Ent.of3,Ent.of4,V,W3,↓reduceIte,seval,reduceCtorEq]
 obtain ⟨mfw,hmf⟩:∃ mfw:Nat→Ms,∀ i,mfw i=(l.take i).foldl (qI n) (eQ n c):=⟨_,fun _=>rfl⟩
 obtain ⟨rfw,hrf⟩:∃ rfw:Nat→List Int,∀ i,rfw i=wV n (eQ n c) (l.take i):=⟨_,fun _=>rfl⟩
 have hm0:mfw 0=eQ n c:=hmf 0
 have hr0:rfw 0=[]:=hrf 0
 have hre:rfw l.length=R:=by rw [hrf,List.take_length,hR]
 have hsn:∀ (l:List T3) (m:Ms) (e:T3),wV n m (l++[e])=wV n m l++(if (l.foldl (qI n) m).got < (qI n (l.foldl (qI n) m) e).got then [(l.foldl (qI n) m).got] else []):=by
  intro l
  induction l with
  | nil=>intro m e; simp [wV] <;> rfl
  | cons x l ih=>intro m e; rw [List.cons_append,wV,ih,wV,List.foldl_cons,List.append_assoc]
 rw [← hre]
 rw [← hm0] at g0 hok
 refine eM l.length (fun i=>[(9,.s (.int .i64 (i:Int)))]) (fun i=>[(8,.box [.s (.int .i64 (mfw i).at_),.s (.int .i64 (mfw i).phase),.s (.int .i64 (mfw i).since),.s (.int .i64 (mfw i).serving),.s (.int .i64 (mfw i).target),.s (.int .i64 (mfw i).source),.s (.int .i64 (mfw i).path),.s (.int .i64 (mfw i).fresh),.s (.int .i64 (mfw i).got),.sl 1 ((mfw i).buf.map Dat.cells)]),(7,.row 1 3 ((rfw i).map Dat.cells))]) (fun i=>dO n (mfw i)∧(iV n (mfw i) (l.drop i) (i:Int)).2=0∧(rfw i).length≤i) ⟨g0,hok,by rw [hr0]; exact Nat.le_refl _⟩ ?_ (fun i hi hv=>?_)
 · simp (maxSteps:=4000000) -implicitDefEqProofs only [hm0,hr0,List.map_nil,Ent.of0,Ent.of1,Ent.of2,Ent.of3,Ent.of4,V,W3,↓reduceIte,seval,reduceCtorEq]
   all_goals rfl
 · obtain ⟨g,hv,hrl⟩:=hv
   by_cases h:i < l.length
   · have hi2:(i:Int) < (l.length:Int):=by omega
     have hi0:(0:Int)≤i:=by omega
     have hgd:=vU l i h
     have hd:=ee (d:=(⟨0,0,0⟩:T3)) h
     have hge:l.getD i ⟨0,0,0⟩=l[i]:=by rw [List.getD_eq_getElem?_getD,List.getElem?_eq_getElem h]; rfl
     have hnx:mfw (i+1)=qI n (mfw i) (l.getD i ⟨0,0,0⟩):=by
      rw [hmf,hmf,List.take_succ_eq_append_getElem h,List.foldl_append,hge]; rfl
     have hrx:rfw (i+1)=rfw i++(if (mfw i).got < (mfw (i+1)).got then [(mfw i).got] else []):=by
      rw [hnx,hrf,hrf,List.take_succ_eq_append_getElem h,hsn,hge,← hmf]
     rw [hd] at hv
     generalize l.getD i ⟨0,0,0⟩=e at *
     rw [iV] at hv
     have h0:gh n (mfw i) e=0:=by
      rcases Classical.em (gh n (mfw i) e=0) with q | q
      · exact q
      · rw [if_neg q] at hv; exact hv
     rw [if_pos h0,← hnx] at hv
     have hA:wS n (mfw i) e=mfw (i+1):=by rw [hnx,wS,if_neg (by simp [h0])]
     have g':dO n (mfw (i+1)):=by rw [hnx]; exact g.apply net h0
     refine dB [] 800 ?_
     delta D7.c43l1 oO oN oA oM oT oG oR oQ oS oK oF oL
     simp (maxSteps:=4000000) -implicitDefEqProofs only [D7.rv43,hi0,hi2,h,hgd,g9,InR,WU,Ent.of0,Ent.of1,Ent.of2,Ent.of3,Ent.of4,V,W3,↓reduceIte,seval,reduceCtorEq]
     refine x4 [xX n (mfw i) e hn net g] 800 [6] ?_
     simp (maxSteps:=4000000) -implicitDefEqProofs only [wZ,mFin2,xU,mj,pj,ops2,jn,reM2,oz,qv,qw,mD,finM,kD,hJ,io,gg,fq,fV,fV.fixBs,fU,ndE2,an,ag,av,aT,aF,kE,eP,aZ,bE,xX,entX,ec,kM,dX,hi0,hi2,h,hgd,InR,WU,Ent.of0,Ent.of1,Ent.of2,Ent.of3,Ent.of4,V,W3,↓reduceIte,seval,reduceCtorEq]
     refine ⟨rfl,?_⟩
     refine dB [] 800 ?_
     rw [hA]
     have hstep:(iV n (mfw (i+1)) (l.drop (i+1)) ((i+1:Nat):Int)).2=0:=xO n _ _ _ _ hv
     by_cases hg:(mfw i).got < (mfw (i+1)).got
     · rw [if_pos hg] at hrx
       have hlen:(rfw (i+1)).length≤i+1:=by rw [hrx,List.length_append]; simp; omega
       simp (maxSteps:=4000000) -implicitDefEqProofs only [D7.rv43,hg,hrx,List.map_append,List.length_map,InR,WU,Ent.of0,Ent.of1,Ent.of2,Ent.of3,Ent.of4,V,W3,↓reduceIte,seval,reduceCtorEq]
       exact ⟨by omega,by omega,h,⟨g',hstep,by rw [← hrx]; exact hlen⟩,by omega⟩
     · rw [if_neg hg,List.append_nil] at hrx
       simp (maxSteps:=4000000) -implicitDefEqProofs only [D7.rv43,hg,hrx,InR,WU,Ent.of0,Ent.of1,Ent.of2,Ent.of3,Ent.of4,V,W3,↓reduceIte,seval,reduceCtorEq]
       exact ⟨by omega,h,⟨g',hstep,by omega⟩,by omega⟩
   · have hil:i=l.length:=by omega
     subst hil
     have hi2:¬ ((l.length:Nat):Int) < (l.length:Int):=by omega
     refine dB [] 800 ?_
     delta D7.c43l1 oO oN oA oM oT oG oR oQ oS oK oF oL
     simp (maxSteps:=4000000) -implicitDefEqProofs only [D7.rv43,hi2,WU,Ent.of0,Ent.of1,Ent.of2,Ent.of3,Ent.of4,V,W3,↓reduceIte,seval,reduceCtorEq]
theorem xt (n:Nw) (c:Int) (l:List T3):gj n c l=if cellR n c≠0 then cellR n c else if l.length≤200 then 0 else 8:=by
 unfold gj cellR
 by_cases h1:(eV n).2=0 <;> cases h2:isC n c <;> by_cases h3:l.length≤200 <;> simp [dL,h1,h3]
theorem yL (n:Nw) (c:Int) (l:List T3) (h:cellR n c≠0):gS n c l=(0,cellR n c):=by
 have:gj n c l=cellR n c:=by rw [xt,if_pos h]
 rw [gS,this,if_pos h]
theorem refR_ok (n:Nw) (c:Int) (l:List T3) (h:cellR n c=0):gS n c l=rpE n c l:=by
 have hf:=xt n c l
 rw [if_neg (by simp [h])] at hf
 rw [gS,rpE]
 by_cases h3:l.length≤200
 · rw [if_pos h3] at hf
   rw [if_neg (by simp [hf]),if_neg (by omega)]
 · rw [if_neg h3] at hf
   rw [if_pos (by simp [hf]),hf,if_pos (by omega)]
theorem cell_ok {n:Nw} {c:Int} (h:cellR n c=0):NetOk n∧isC n c=true:=by
 unfold cellR at h
 by_cases h1:(eV n).2=0
 · rw [if_neg (by simp [h1])] at h
   cases h2:isC n c
   · simp [h2] at h
   · exact ⟨rz h1,rfl⟩
 · rw [if_pos h1] at h; exact absurd h h1
theorem rpE_ok {n:Nw} {c:Int} {l:List T3} (h:(rpE n c l).2=0):rpE n c l=(0,0)∧l.length≤200∧(iV n (eQ n c) l 0).2=0:=by
 unfold rpE at h ⊢
 by_cases h3:200 < l.length
 · rw [if_pos h3] at h; cases h
 · rw [if_neg h3] at h ⊢
   exact ⟨xu n l _ 0 h,by omega,h⟩
end Go.Proofs.YtcbabnbiinkafaaGreatDoor
end
