/- Part 3 of the proof of: TopMoveConnectedAgain returns true for every input and never panics: a phone that fails at any time is connected again within the limit, to its own cell or to the first one, its outage is as long, and what waited waits still; conditions: those of the given statement, that the package variables it lists hold what their initialisers lay. -/
import Derived.Test.YtcbabnbiinkafaaGreatDoorTopMoveConnectedAgain2
set_option linter.all false
section
open Go Go.Am
open Go.Am.Dat (cells)
namespace Go.Proofs.YtcbabnbiinkafaaGreatDoor
set_option maxHeartbeats 4000000
set_option maxRecDepth 100000
theorem AV (n:Nw) (m:Ms) (e:T3):(qm n m e).fresh=m.fresh+(if e.x=0 then 1 else 0):=by
 unfold qm;have h1:(kW n m e.y).fresh=m.fresh:=AW n m e.y;generalize kW n m e.y=q at *;rw[<- h1];unfold jT;by_cases h10:e.x=10
 . rw[if_pos h10,h10];simp[iB]
 . rw[if_neg h10,AF];unfold eG;by_cases h:e.x=0
   . simp only[h,if_true]
   . simp only[h,if_false]
     repeat' split
     all_goals simp
theorem BV (n:Nw) (m:Ms) (e:T3):(qm n m e).got=m.got\/(qm n m e).got=m.got+1:=by
 unfold qm;have h1:(kW n m e.y).got=m.got:=y5 n m e.y;generalize kW n m e.y=q at *;rw[<- h1];unfold jT;by_cases h10:e.x=10
 . rw[if_pos h10];exact .inl rfl
 . rw[if_neg h10,x7,Bh];split
   . exact .inr rfl
   . exact .inl rfl
def xy : List T3->Int
 |[]=>0
 | e :: l=>(if e.x=0 then 1 else 0)+xy l
theorem Bn (n:Nw):∀ (l:List T3) (m:Ms),∃ k:Nat,xv n m l=upL m.got k/\(l.foldl (qm n) m).got=m.got+k/\(l.foldl (qm n) m).fresh=m.fresh+xy l
 |[],m=>⟨0,rfl,by simp,by simp[xy]⟩
 | e :: l,m=>by
  obtain⟨k,h1,h2,h3⟩:=Bn n l (qm n m e);have hf:=AV n m e;rcases BV n m e with h | h
  . refine⟨k,?_,?_,?_⟩
    . rw[xv,h1,h,if_neg (by omega)];rfl
    . rw[List.foldl_cons,h2,h]
    . rw[List.foldl_cons,h3,hf,xy];omega
  . refine⟨k+1,?_,?_,?_⟩
    . rw[xv,h1,h,if_pos (by omega)];rfl
    . rw[List.foldl_cons,h2,h];push_cast;omega
    . rw[List.foldl_cons,h3,hf,xy];omega
theorem BL (n:Nw) (c:Int) (l:List T3):(lu n c l).m=l.foldl (qm n) (eM n c):=by
 have key:∀ (l:List T3) (p:Ph),(jk n p l).m=l.foldl (qm n) p.m:=by
  intro l
  induction l with
  | nil=>intro p;rfl
  | cons e l ih=>intro p;rw[jk,ih,ql];rfl
 exact key l _
theorem xW {n:Nw} (hn:NetOk n) {c:Int} (hc:isC n c=true) (l:List T3) (h:(iH n (eM n c) l 0).2=0) :
 dN n (lu n c l).m/\(lu n c l).recv=upL 0 (lu n c l).m.got.toNat/\(lu n c l).m.fresh=xy l:=by
 have a:=All.steps hn l (gm n c) (xE n c) 0 (All.begin hn hc) h;have hr:(lu n c l).recv=xv n (eM n c) l:=by
  show (jk n (gm n c) l).recv=_
  rw[x9];simp[gm]
 obtain⟨k,h1,h2,h3⟩:=Bn n l (eM n c);have e0:(eM n c).got=0:=rfl;have e1:(eM n c).fresh=0:=rfl;refine⟨a.g,?_,?_⟩
 . rw[hr,h1,BL,h2,e0]
   congr 1;omega
 . rw[BL,h3,e1];omega
def vY (f:FuncId) (as0:List C) (r:C) (k:Nat) (c:Ch) (hr:dG [k] r) (hc:ge [k] c) (h:FC Tryz.prog f as0 [] r [(k,c)]):Ent Tryz.prog:=.mk3 f (fun args chs=>some (args=as0/\chs=[],r,[(k,c)],[k])) (by
 intro args chs pp r' chs' nk hs hq;simp only[zn,zf]at hs;obtain⟨rfl,rfl,rfl,rfl⟩:=hs;obtain⟨rfl,rfl⟩:=hq;refine⟨h,⟨fun k' c' hm=>.inl ?_,fun k cs hm=>(by simp at hm),hr,fun k' c' hm=>?_⟩⟩
 . simp only[zg,zf]at hm ⊢;exact hm.1
 . simp only[zg,zf]at hm;obtain⟨rfl,rfl⟩:=hm
   exact hc)
theorem Br (l:List Int) (h:l.length<=1000000):FC Tryz.prog 24 [enc l] [] (.own 3) [(3,.row 1 3 (l.map Dat.cells))]:=by
 refine dD [3] is24 (by simp) (by simp[bn]) (by simp[ap,ag]) (by simp[ap,ag,av]) (by simp[aC,lk]) (fun cx _ hl _=>dC [] 800 ?_);delta c24 oO oA oM oX o1;simp (maxSteps:=9^7) -implicitDefEqProofs only[rv24,InR,WU,V,W3,↓reduceIte,seval,reduceCtorEq];omega
def x6 (l:List Int) (h:l.length<=1000000):Ent Tryz.prog:=vY 24 [enc l] (.own 3) 3 (.row 1 3 (l.map Dat.cells)) (by simp[dG]) (by simp[ge]) (Br l h)
structure BufS (b:List (List Int)):Prop where
 l:b.length<=1000000
 r:∀ x∈b,x.length<=1000000
theorem xF (b:List (List Int)) (h:BufS b):FC Tryz.prog 60 [enc b] [] (.own 3) [(3,.deep 1 3 24 none (fB b))]:=by
 have h1:=h.l;refine dD [3] D7.is60 (by simp) (by simp[bn]) (by simp[ap,ag]) (by simp[ap,ag,av]) (by simp[aC,lk]) (fun cx _ hl _=>dC [] 800 ?_);delta D7.c60 oA oM oS oK oV oX;simp (maxSteps:=9^7) -implicitDefEqProofs only[D7.rv60,InR,WU,V,W3,↓reduceIte,seval,reduceCtorEq];refine⟨by simp,?_⟩;refine fI b.length (fun i=>[(4,.s (.int .i64 (i:Int)))]) (fun i=>[(3,.deep 1 3 24 none (fB (b.take i)))]) (fun _=>True) trivial ?_ (fun i hi _=>?_)
 . simp (maxSteps:=9^7) -implicitDefEqProofs only[V,W3,↓reduceIte,seval,reduceCtorEq]
   all_goals rfl
 . by_cases hlt:i < b.length
   . have hi2:(i:Int) < (b.length:Int):=by omega
     have hi0:(0:Int)<=i:=by omega
     have hgx:List.getD (b.map Dat.cells) i [C.sl 0 []]=[C.sl 1 ((b.getD i []).map Dat.cells)]:=by
      rw[zb,zb,zh,ze hlt];rfl
     have hx:=h.r _ (yy hlt);have hgd:b.getD i []=b[i]:=by rw[zb,ze hlt];rfl
     have hap:fB (b.take i)++[(b.getD i []).map Dat.cells]=fB (b.take (i+1)):=by
      rw[hgd,yI hlt,fB,fB,yg];rfl
     have hlen:(b.take i).length=i:=by rw[List.length_take];omega
     rw[<- hgd]at hx;refine dC [x6 (b.getD i []) hx] 800 ?_;delta D7.c60l1 oO oN oA oM oR oS oK oL oC oX oB o0 o4;simp (maxSteps:=9^7) -implicitDefEqProofs only[x6,vY,hi0,hi2,hlt,hgx,hap,eo,hlen,InR,WU,V,W3,↓reduceIte,seval,reduceCtorEq];omega
   . have hi2:¬ (i:Int) < (b.length:Int):=by omega
     have htk:b.take i=b:=List.take_of_length_le (by omega);refine dC [] 800 ?_;delta D7.c60l1 oO oN oA oM oR oS oK oL oC oX oB o0 o4;simp (maxSteps:=9^7) -implicitDefEqProofs only[D7.rv60,hi2,htk,WU,V,W3,↓reduceIte,seval,reduceCtorEq]
def BN (b:List (List Int)) (h:BufS b):Ent Tryz.prog:=vY 60 [enc b] (.own 3) 3 (.deep 1 3 24 none (fB b)) (by simp[dG]) (by simp[ge]) (xF b h)
def msA (m:Ms) (k:Nat):C:=.agg (msC m k)
theorem xV (m:Ms) (k:Nat):dG [k] (msA m k):=by simp[msA,msC,dG,dG.keysIns]
theorem Copy_o (m:Ms) (h:BufS m.buf):FC Tryz.prog 65 [enc m] [] (msA m 5) [(5,.deep 1 3 24 none (fB m.buf))]:=by
 refine dD [5] D7.is65 (by simp) (by simp[bn]) (by simp[ap,ag]) (by simp[ap,ag,av]) (by simp[aC,lk]) (fun cx _ hl _=>dC [BN m.buf h] 800 ?_);delta D7.c65 oO oA oF oL oC oW oX oZ o5 o7;simp (maxSteps:=9^7) -implicitDefEqProofs only[D7.rv65,BN,vY,qD,msA,msC,InR,WU,V,W3,↓reduceIte,seval,reduceCtorEq]
def xp (m:Ms) (h:BufS m.buf):Ent Tryz.prog:=vY 65 [enc m] (msA m 5) 5 (.deep 1 3 24 none (fB m.buf)) (xV m 5) (by simp[ge]) (Copy_o m h)
theorem Raway_c (m:Ms):FC Tryz.prog 112 [enc m] [] (enc (ed m)) []:=by
 refine dD [] is112 (by simp) trivial trivial trivial trivial (fun cx _ hl _=>dC [] 800 ?_);by_cases h1:m.phase=2 <;> by_cases h2:m.phase=3
 all_goals
  delta c112 oO oN oM oG oF oL oX oH oB oE oJ o7 o9;simp (maxSteps:=9^7) -implicitDefEqProofs only[rv112,qD,ed,h1,h2,WU,V,W3,↓reduceIte,seval,reduceCtorEq]
def vP : Ent Tryz.prog:=.of1 112 (fun _=>True) (fun m:Ms=>enc (ed m)) (fun _=>trivial) (fun m _=>Raway_c m)
theorem B5 (l:List Int) (g:Int) (h:l.length<=1000000):FC Tryz.prog 164 [enc l,enc g] [] (.own 5) [(5,.row 1 3 ((frm l g).map Dat.cells))]:=by
 refine dD [5] D7.is164 (by simp) (by simp[bn]) (by simp[ap,ag]) (by simp[ap,ag,av]) (by simp[aC,lk]) (fun cx _ hl _=>dC [] 800 ?_);delta D7.c164 oA oM oS oK oV oX;simp (maxSteps:=9^7) -implicitDefEqProofs only[D7.rv164,InR,WU,V,W3,↓reduceIte,seval,reduceCtorEq];refine fI l.length (fun i=>[(6,.s (.int .i64 (i:Int)))]) (fun i=>[(5,.row 1 3 ((frm (l.take i) g).map Dat.cells))]) (fun _=>True) trivial ?_ (fun i hi _=>?_)
 . simp (maxSteps:=9^7) -implicitDefEqProofs only[V,W3,↓reduceIte,seval,reduceCtorEq]
   all_goals rfl
 . by_cases hlt:i < l.length
   . have hi2:(i:Int) < (l.length:Int):=by omega
     have hi0:(0:Int)<=i:=by omega
     have hgd:l.getD i 0=l[i]:=by rw[zb,ze hlt];rfl
     have hf:frm (l.take (i+1)) g=frm (l.take i) g++(if g<=l.getD i 0 then [l.getD i 0]else []):=by
      rw[hgd,yI hlt,frm,frm,List.filter_append];by_cases hg:g<=l[i] <;> simp[hg]
     have hfl:(frm (l.take i) g).length<=i:=by
      refine z6 (List.length_filter_le _ _) ?_;rw[List.length_take];omega
     refine dC [] 800 ?_;delta D7.c164l1 oO oN oA oM oR oS oK oL oI oX oB o1 o4;simp (maxSteps:=9^7) -implicitDefEqProofs only[hi0,hi2,hlt,hf,yg,zy,InR,WU,V,W3,↓reduceIte,seval,reduceCtorEq];generalize l.getD i 0=y at *;by_cases hg:g<=y
     . rw[if_pos hg,if_pos hg];exact⟨by omega,by omega,by omega,rfl⟩
     . rw[if_neg hg,if_neg hg,zR,z4];exact⟨by omega,by omega,rfl⟩
   . have hi2:¬ (i:Int) < (l.length:Int):=by omega
     have htk:l.take i=l:=List.take_of_length_le (by omega);refine dC [] 800 ?_;delta D7.c164l1 oO oN oA oM oR oS oK oL oI oX oB o1 o4;simp (maxSteps:=9^7) -implicitDefEqProofs only[D7.rv164,hi2,htk,WU,V,W3,↓reduceIte,seval,reduceCtorEq]
def xz (l:List Int) (g:Int) (h:l.length<=1000000):Ent Tryz.prog:=vY 164 [enc l,enc g] (.own 5) 5 (.row 1 3 ((frm l g).map Dat.cells)) (by simp[dG]) (by simp[ge]) (B5 l g h)
theorem B0 (l:List Int) (n:Int) (i:Nat) (h:i < l.length->¬ l.getD i 0 < n):fS (l.drop i) n=n :: l.drop i:=by
 by_cases hi:i < l.length
 . rw[fJ 0 hi,fS,if_neg (h hi)]
 . rw[zv (by omega)];rfl
theorem put_o (l:List Int) (n:Int) (h:l.length<=1000000):FC Tryz.prog 163 [enc l,enc n] [] (.own 5) [(5,.row 1 3 ((fS l n).map Dat.cells))]:=by
 generalize hR:fS l n=R;refine dD [5,31,35] D7.is163 (by simp) (by simp[bn]) (by simp[ap,ag]) (by simp[ap,ag,av]) (by simp[aC,lk]) (fun cx _ hl _=>dC [] 800 ?_);delta D7.c163 oO oA oM oT oS oK oV oX o1;simp (maxSteps:=9^7) -implicitDefEqProofs only[D7.rv163,InR,WU,V,W3,↓reduceIte,seval,reduceCtorEq];refine fI l.length (fun i=>[(6,.s (.int .i64 (i:Int)))]) (fun i=>[(5,.row 1 3 ((l.take i).map Dat.cells))]) (fun i=>R=l.take i++fS (l.drop i) n) (by rw[<- hR];rfl) ?_ (fun i hi hv=>?_)
 . simp (maxSteps:=9^7) -implicitDefEqProofs only[V,W3,↓reduceIte,seval,reduceCtorEq]
   all_goals rfl
 . have hlt0:(l.take i).length=i:=by rw[List.length_take];omega
   have hi0:(0:Int)<=i:=by omega
   have hi4:(i:Int)<=(l.length:Int):=by omega
   have htl:List.take l.length (List.map Dat.cells l)=List.map Dat.cells l:=List.take_of_length_le (by simp);by_cases hc:i < l.length/\l.getD i 0 < n
   . obtain⟨hlt,hg⟩:=hc;have hi2:(i:Int) < (l.length:Int):=by omega
     have hd:=fJ (d:=(0:Int)) hlt;have hgd:l.getD i 0=l[i]:=by rw[zb,ze hlt];rfl
     have htk:l.take (i+1)=l.take i++[l.getD i 0]:=by rw[hgd,yI hlt]
     rw[hd,fS,if_pos hg]at hv;refine dC [] 800 ?_;delta D7.c163l1 oO oN oA oM oG oR oS oK oL oX oP oB oD oJ o1 o4;simp (maxSteps:=9^7) -implicitDefEqProofs only[hi0,hi2,hlt,hg,htk,hlt0,yg,zy,InR,WU,V,W3,↓reduceIte,seval,reduceCtorEq];exact⟨by omega,by omega,by rw[hv];simp,by omega⟩
   . rw[B0 l n i (fun q q2=>hc ⟨q,q2⟩)]at hv;have hcc:(((i:Int) < (l.length:Int))=True/\(i < l.length)=True/\(l.getD i 0 < n)=False)\/(((i:Int) < (l.length:Int))=False/\True/\True):=by
      by_cases hlt:i < l.length
      . exact .inl ⟨eq_true (by omega),eq_true hlt,eq_false fun q=>hc ⟨hlt,q⟩⟩
      . exact .inr ⟨eq_false (by omega),trivial,trivial⟩
     refine dC [] 800 ?_;rcases hcc with⟨h1,h2,h3⟩ | ⟨h1,h2,h3⟩
     all_goals
      delta D7.c163l1 oO oN oA oM oG oR oS oK oL oX oP oB oD oJ o1 o4;simp (maxSteps:=9^7) -implicitDefEqProofs only[hi0,h1,h2,h3,hlt0,zy,not_false_eq_true,not_true_eq_false,InR,WU,V,W3,↓reduceIte,seval,reduceCtorEq];refine mT [] 800 ?_;simp (maxSteps:=9^7) -implicitDefEqProofs only[drS,kX,robC,reC,fixS,eL,AOp.reads,ke,true_or,or_true,false_or,hi0,hi4,hlt0,htl,zy,Option.toList_some,Option.toList_none,z4,yq,yb,InR,WU,V,W3,↓reduceIte,seval,reduceCtorEq];refine⟨by omega,by omega,by simp;omega,by omega,dC [] 400 ?_⟩;simp (maxSteps:=9^7) -implicitDefEqProofs only[V,W3,↓reduceIte,seval,reduceCtorEq];rw[hv];simp;rfl
theorem put_c (l:List Int) (n:Int) (h:l.length<=1000000):FC Tryz.prog 163 [enc l,enc n] [] (enc (fS l n)) []:=FC.frz (put_o l n h) (x:=.sl 1 ((fS l n).map Dat.cells)) rfl
def BM : Ent Tryz.prog:=.of2 163 (fun l _=>l.length<=1000000) (fun (l:List Int) (n:Int)=>enc (fS l n)) (fun _ _=>trivial) (fun l n h=>put_c l n h)
theorem yY (b:List (List Int)):yP (.deep 1 3 24 none (fB b)):=fun es hes e he c hc=>by
 simp only[fB,zu]at hes;obtain⟨l,_,rfl⟩:=hes;obtain⟨x,_,rfl⟩:=zu.1 he;exact⟨_,zg.1 hc⟩
structure MsS (m:Ms):Prop where
 b:BufS m.buf
 f:m.buf.flatten.length<=1000000
def wM (bs:List (List Int)) (i:Nat):List Int:=(bs.take i).flatten.foldl fS []
def wH (bs:List (List Int)) (i:Nat):List (List Int):=(bs.take i).map (fun _=>[])++bs.drop i
theorem xH (l acc:List Int):(l.foldl fS acc).length=acc.length+l.length:=by
 rw[(lE l acc).length_eq,zK]
theorem xm (bs:List (List Int)) (i:Nat) (h:i < bs.length):(bs.take i).flatten.length+(bs.getD i []).length<=bs.flatten.length:=by
 have e:bs.flatten=(bs.take i).flatten++((bs.getD i [])++(bs.drop (i+1)).flatten):=by
  conv=>lhs;rw[<- List.take_append_drop i bs,fJ [] h]
  rw[List.flatten_append,List.flatten_cons]
 rw[e,zK,zK];omega
theorem BF (bs:List (List Int)) (i:Nat) (h:i < bs.length):wM bs (i+1)=(bs.getD i []).foldl fS (wM bs i):=by
 have hgd:bs.getD i []=bs[i]:=by rw[zb,ze h];rfl
 rw[wM,wM,yI h,hgd,List.flatten_append,List.foldl_append,List.flatten_cons,List.flatten_nil,z4]
theorem BH (bs:List (List Int)) (i:Nat) (h:i < bs.length):(wH bs i).set i []=wH bs (i+1):=by
 have hl:((bs.take i).map fun _=>([]:List Int)).length=i:=by simp;omega
 rw[wH,wH,fJ [] h,List.set_append_right _ _ (by omega),hl,Nat.sub_self,List.set_cons_zero,yI h,yg,ye];rfl
theorem xR (bs:List (List Int)) (i:Nat):(wH bs i).length=bs.length:=by simp[wH];omega
theorem Cg (bs:List (List Int)):wH bs bs.length=bs.map fun _=>[]:=by simp[wH]
theorem xG (m:Ms) (c t:Int) (h:MsS m) (hc:0<=c/\c.toNat < m.buf.length):FC Tryz.prog 142 [enc m,enc c,enc t] [] (msA (iB m c t) 12) [(12,.deep 1 3 24 none (fB (iB m c t).buf))]:=by
 have h1:=h.b.l;refine dD [12] D7.is142 (by simp) (by simp[bn]) (by simp[ap,ag]) (by simp[ap,ag,av]) (by simp[aC,lk]) (fun cx _ hl _=>dC [xp m h.b] 800 ?_);delta D7.c142 oO oN oA oM oT oS oK oF oL oV oC oW oY oX o0 oZ o5 o7;simp (maxSteps:=9^7) -implicitDefEqProofs only[D7.rv142,xp,vY,qD,msA,msC,InR,WU,V,W3,↓reduceIte,seval,reduceCtorEq];have hcl:c < (m.buf.length:Int):=by omega
 refine fI m.buf.length (fun i=>[(8,enc (wM m.buf i)),(9,.s (.int .i64 (i:Int)))]) (fun i=>[(12,.deep 1 3 24 none (fB (wH m.buf i)))]) (fun _=>True) trivial ?_ (fun i hi _=>dC [] 800 ?_)
 . simp (maxSteps:=9^7) -implicitDefEqProofs only[wH,wM,List.take_zero,yB,zR,yb,List.flatten_nil,List.foldl_nil,V,W3,↓reduceIte,seval,reduceCtorEq]
   all_goals rfl
 . by_cases hlt:i < m.buf.length
   . have hi2:(i:Int) < (m.buf.length:Int):=by omega
     have hi0:(0:Int)<=i:=by omega
     have hgx:List.getD (m.buf.map Dat.cells) i [C.sl 0 []]=[C.sl 1 ((m.buf.getD i []).map Dat.cells)]:=by
      rw[zb,zb,zh,ze hlt];rfl
     have hfl:=xm m.buf i hlt;have hA:(wM m.buf i).length=(m.buf.take i).flatten.length:=by rw[wM,xH];simp
     have hff:=h.f;have has:=BF m.buf i hlt;have hcs:=BH m.buf i hlt;have hst:(fB (wH m.buf i)).set i []=fB (wH m.buf (i+1)):=by rw[<- hcs];exact jD _ i []
     delta D7.c142l2 oO oN oA oM oR oS oK oF oL oV oY oX oB o0 o4;simp (maxSteps:=9^7) -implicitDefEqProofs only[hi0,hi2,hlt,hgx,InR,WU,V,W3,↓reduceIte,seval,reduceCtorEq];generalize wM m.buf i=A at *;generalize hL:m.buf.getD i []=L at *;refine fI L.length (fun k=>[(8,enc ((L.take k).foldl fS A)),(10,.s (.int .i64 (k:Int)))]) (fun k=>[]) (fun _=>True) trivial ?_ (fun k hk _=>dC [BM] 800 ?_)
     . simp (maxSteps:=9^7) -implicitDefEqProofs only[List.take_zero,List.foldl_nil,V,W3,↓reduceIte,seval,reduceCtorEq]
       all_goals rfl
     . by_cases hkl:k < L.length
       . have hk2:(k:Int) < (L.length:Int):=by omega
         have hk0:(0:Int)<=k:=by omega
         have hle:((L.take k).foldl fS A).length<=1000000:=by rw[xH,List.length_take];omega
         have hgd:L.getD k 0=L[k]:=by rw[zb,ze hkl];rfl
         have hnx:(L.take (k+1)).foldl fS A=fS ((L.take k).foldl fS A) (L.getD k 0):=by
          rw[hgd,yI hkl,List.foldl_append];rfl
         delta D7.c142l1 oO oN oA oM oR oS oK oF oL oC oX oB o0 o1 o4;simp (maxSteps:=9^7) -implicitDefEqProofs only[BM,hi0,hi2,hlt,hgx,hk0,hk2,hkl,hle,hnx,InR,WU,Ent.of2,V,W3,↓reduceIte,seval,reduceCtorEq];omega
       . have hke:k=L.length:=by omega
         subst hke;have hk2:¬ ((L.length:Nat):Int) < (L.length:Int):=by omega
         delta D7.c142l1 oO oN oA oM oR oS oK oF oL oC oX oB o0 o1 o4;simp (maxSteps:=9^7) -implicitDefEqProofs only[hi0,hi2,hlt,hgx,hk2,eo,xR,hst,yo,has,InR,WU,V,W3,↓reduceIte,seval,reduceCtorEq];refine og rfl (OpM.nilled 99 1 3 (by decide) (.f (by simp[ai,AK,AG,aq,gt,lk,af,ae,ah,bF];rfl) (by simp[eo,xR];omega))) (fun ef he=>?_);subst he;refine pV [] 800 ?_;simp (maxSteps:=9^7) -implicitDefEqProofs only[a6,bF,eo,xR,hst,has,hlt,InR,WU,V,W3,↓reduceIte,seval,reduceCtorEq];omega
   . have hie:i=m.buf.length:=by omega
     subst hie;have hi2:¬ ((m.buf.length:Nat):Int) < (m.buf.length:Int):=by omega
     have hall:wM m.buf m.buf.length=mrg m.buf:=by rw[wM,yo];rfl
     have hml:(mrg m.buf).length<=1000000:=by rw[(kS m.buf).length_eq];exact h.f
     have hst:=jD (m.buf.map fun _=>[]) c.toNat (frm (mrg m.buf) m.got);have hbl:(fB (m.buf.map fun _=>[])).length=m.buf.length:=by rw[eo,zy]
     rw[Cg,hall];obtain⟨hc0,hc2⟩:=hc;delta D7.c142l2 oO oN oA oM oR oS oK oF oL oV oY oX oB o0 o4;simp (maxSteps:=9^7) -implicitDefEqProofs only[hi2,InR,WU,V,W3,↓reduceIte,seval,reduceCtorEq];refine mT [xz (mrg m.buf) m.got hml] 800 ?_;simp (maxSteps:=9^7) -implicitDefEqProofs only[drS,kX,robC,reC,fixS,eL,AOp.reads,ke,true_or,or_true,false_or,xz,vY,hc0,hc2,hcl,hbl,InR,WU,V,W3,↓reduceIte,seval,reduceCtorEq];refine dC [] 600 ?_;simp (maxSteps:=9^7) -implicitDefEqProofs only[D7.rv142,hst,iB,InR,WU,V,W3,↓reduceIte,seval,reduceCtorEq]
def Be (m:Ms) (c t:Int) (h:MsS m) (hc:0<=c/\c.toNat < m.buf.length):Ent Tryz.prog:=vY 142 [enc m,enc c,enc t] (msA (iB m c t) 12) 12 (.deep 1 3 24 none (fB (iB m c t).buf)) (xV _ 12) (by simp[ge]) (xG m c t h hc)
def xb (n:Nw) (m:Ms) (t:Int):Int:=if ju n m t=true then m.since+n.limit else -1
theorem Pass_o (n:Nw) (m:Ms) (t:Int) (hn:NwS n) (h:MsS m) (hl:0 < m.buf.length) (hi:ed m=true->InR .i64 (m.since+n.limit)):FC Tryz.prog 110 [enc n,enc m,enc t] [] (.tup [msA (p7 n m t) 25,enc (xb n m t)]) [(25,.deep 1 3 24 none (fB (p7 n m t).buf))]:=by
 have hdm:=vR m;by_cases hp:ju n m t=true
 . have hq:=hp;simp only[ju,zm,decide_eq_true_eq]at hq;have hI:=hi hq.1;simp only[InR]at hI;have hP:p7 n m t=iB m 0 (m.since+n.limit):=by unfold p7;rw[if_pos hp]
   have hA:xb n m t=m.since+n.limit:=by unfold xb;rw[if_pos hp]
   rw[hP,hA];refine dD [25] D7.is110 (by simp) (by simp[bn]) (by simp[ap,ag]) (by simp[ap,ag,av]) (by simp[aC,lk]) (fun cx _ _ _=>dC [vP] 800 ?_);delta D7.c110 oO oN oA oM oT oG oS oK oF oL oV oC oW oI oX oP oB oD oE oJ oZ o5 o7;simp (maxSteps:=9^7) -implicitDefEqProofs only[D7.rv110,eO,qD,hdm,vP,hq,hI,InR,WU,Ent.of1,V,W3,↓reduceIte,seval,reduceCtorEq];refine qk [Be m 0 (m.since+n.limit) h ⟨by decide,by simpa using hl⟩] 800 ?_;simp (maxSteps:=9^7) -implicitDefEqProofs only[gC,mFin2,lP,oq,ops2,jb,reM2,nQ,p8,p9,l6,finM,kd,gQ,hJ,fY,ff,fO,fO.fixBs,fM,ndE2,ap,ag,av,aU,aE,ke,eL,a6,bF,Be,vY,msA,msC,qD,hI,InR,WU,V,W3,↓reduceIte,seval,reduceCtorEq];refine⟨rfl,dC [] 600 ?_⟩;simp (maxSteps:=9^7) -implicitDefEqProofs only[D7.rv110,InR,WU,V,W3,↓reduceIte,seval,reduceCtorEq]
 . have hP:p7 n m t=m:=by unfold p7;rw[if_neg hp]
   have hA:xb n m t=-1:=by unfold xb;rw[if_neg hp]
   rw[hP,hA];have key:FC Tryz.prog 110 [enc n,enc m,enc t] [] (.tup [msA m 32,enc (-1:Int)]) [(32,.deep 1 3 24 none (fB m.buf))]:=by
    refine dD [32] D7.is110 (by simp) (by simp[bn]) (by simp[ap,ag]) (by simp[ap,ag,av]) (by simp[aC,lk]) (fun cx _ _ _=>dC [vP,xp m h.b] 800 ?_);cases ha:ed m
    . delta D7.c110 oO oN oA oM oT oG oS oK oF oL oV oC oW oI oX oP oB oD oE oJ oZ o5 o7;simp (maxSteps:=9^7) -implicitDefEqProofs only[D7.rv110,eO,qD,hdm,vP,xp,vY,msA,msC,ha,InR,WU,Ent.of1,V,W3,↓reduceIte,seval,reduceCtorEq]
    . have hI:=hi ha;simp only[InR]at hI;have hq:¬ m.since+n.limit<=t:=fun q=>hp (by simp[ju,ha,q])
      delta D7.c110 oO oN oA oM oT oG oS oK oF oL oV oC oW oI oX oP oB oD oE oJ oZ o5 o7;simp (maxSteps:=9^7) -implicitDefEqProofs only[D7.rv110,eO,qD,hdm,vP,xp,vY,msA,msC,ha,hI,hq,InR,WU,Ent.of1,V,W3,↓reduceIte,seval,reduceCtorEq]
   exact FC.rekey key 25 rfl (yY m.buf)
theorem RevE_c (n:Nw) (e:T3) (h:NwS n):FC Tryz.prog 68 [enc n,enc e] [] (enc (evE n e)) []:=by
 have hdn:=je n;generalize hE:evE n e=E;unfold evE at hE;refine dD [] is68 (by simp) trivial trivial trivial trivial (fun cx _ hl _=>dC [vQ,v6] 800 ?_);have htk:gd e.y=decide (0<=e.y/\e.y<=1000000000):=rfl;rw[htk]at hE;unfold iz at hE;rcases Classical.propComplete (0<=e.x/\e.x<=11)with h1 | h1
 rotate_left
 . simp[h1]at hE;subst hE;delta c68 oO oN oA oM oG oS oK oF oL oV oC oI oX oH oB oE oJ o5 o7;simp (maxSteps:=9^7) -implicitDefEqProofs only[rv68,vQ,eO,dV,h1,WU,Ent.of3,V,W3,↓reduceIte,seval,reduceCtorEq]
 rcases Classical.propComplete (0<=e.y/\e.y<=1000000000)with h2 | h2
 rotate_left
 . simp[h1,h2]at hE;subst hE;delta c68 oO oN oA oM oG oS oK oF oL oV oC oI oX oH oB oE oJ o5 o7;simp (maxSteps:=9^7) -implicitDefEqProofs only[rv68,vQ,eO,dV,h1,h2,WU,Ent.of3,V,W3,↓reduceIte,seval,reduceCtorEq]
 have h34:((e.x=3)=True/\True)\/((e.x=3)=False/\(e.x=10)=True)\/((e.x=3)=False/\(e.x=10)=False):=by
  by_cases q:e.x=3
  . exact .inl ⟨eq_true q,trivial⟩
  . by_cases q2:e.x=10
    . exact .inr (.inl ⟨eq_false q,eq_true q2⟩)
    . exact .inr (.inr ⟨eq_false q,eq_false q2⟩)
 rcases h34 with⟨h3,h4⟩ | ⟨h3,h4⟩ | ⟨h3,h4⟩
 rotate_left 2
 . rcases Classical.propComplete (e.z=0)with h6 | h6
   all_goals
    simp[h1,h2,h3,h4,h6]at hE;subst hE;delta c68 oO oN oA oM oG oS oK oF oL oV oC oI oX oH oB oE oJ o5 o7;simp (maxSteps:=9^7) -implicitDefEqProofs only[rv68,vQ,eO,dV,h1,h2,h3,h4,h6,not_true_eq_false,not_false_eq_true,WU,Ent.of3,V,W3,↓reduceIte,seval,reduceCtorEq]
 all_goals
  cases h5:isC n e.z
  all_goals
   simp[h1,h2,h3,h4,h5]at hE;subst hE;delta c68 oO oN oA oM oG oS oK oF oL oV oC oI oX oH oB oE oJ o5 o7;simp (maxSteps:=9^7) -implicitDefEqProofs only[rv68,vQ,v6,eO,dV,hdn,h,h1,h2,h3,h4,h5,not_true_eq_false,WU,Ent.of2,Ent.of3,V,W3,↓reduceIte,seval,reduceCtorEq]
def Ak : Ent Tryz.prog:=.of2 68 (fun n _=>NwS n) (fun (n:Nw) (e:T3)=>enc (evE n e)) (fun _ _=>trivial) (fun n e h=>RevE_c n e h)
theorem Rways_c (m:Ms):FC Tryz.prog 167 [enc m] [] (.tup [enc (dU m),enc (toC m)]) []:=by
 unfold dU toC;refine dD [] is167 (by simp) trivial trivial trivial trivial (fun cx _ hl _=>dC [] 800 ?_);by_cases h1:m.phase=2
 . rw[if_pos h1,if_pos h1];delta c167 oO oN oM oT oQ oS oK oF oL oV oI oX oB o7;simp (maxSteps:=9^7) -implicitDefEqProofs only[rv167,qD,h1,WU,V,W3,↓reduceIte,seval,reduceCtorEq]
 . rw[if_neg h1,if_neg h1];delta c167 oO oN oM oT oQ oS oK oF oL oV oI oX oB o7;simp (maxSteps:=9^7) -implicitDefEqProofs only[rv167,qD,h1,WU,V,W3,↓reduceIte,seval,reduceCtorEq]
def wO : Ent Tryz.prog:=.of1 167 (fun _=>True) (fun m:Ms=>.tup [enc (dU m),enc (toC m)]) (fun _=>⟨trivial,trivial,trivial⟩) (fun m _=>Rways_c m)
def InB (m:Ms) (c:Int):Prop:=0<=c/\c.toNat < m.buf.length
theorem xQ (m:Ms) (c:Int) (h:c.toNat < m.buf.length):List.getD (m.buf.map Dat.cells) c.toNat [C.sl 0 []]=[C.sl 1 ((dO m c).map Dat.cells)]:=by
 rw[zb,zh,ze h,dO,zb,ze h];rfl
theorem does_c (n:Nw) (m:Ms) (e:T3) (hn:NwS n) (h:MsS m) (hk:0<=e.x/\e.x<=11) (hs:InB m m.serving) (hf:m.phase=2\/(m.phase=0/\m.source≠-1)->InB m (dU m)):FC Tryz.prog 152 [enc n,enc m,enc e] [] (enc (et n m e)) []:=by
 have hdn:=je n;have hdm:=vR m;have hp1:=h.b.l;have hp2:fc m.buf<=1000000000:=by rw[mK];have:=h.f;omega
 have hp3:=rZ m.buf;generalize hE:et n m e=E;unfold et at hE;obtain⟨ex,ey,ezw⟩:=e;simp only at hk hE;refine dD [] D7.is152 (by simp) trivial trivial trivial trivial (fun cx _ hl _=>dC [] 1200 ?_);have k:ex=0\/ex=1\/ex=2\/ex=3\/ex=4\/ex=5\/ex=6\/ex=7\/ex=8\/ex=9\/ex=10\/ex=11:=by omega
 rcases k with rfl | rfl | rfl | rfl | rfl | rfl | rfl | rfl | rfl | rfl | rfl | rfl <;> simp only[Int.reduceEq,if_true,if_false]at hE
 ·
  delta D7.c152 oO oN oM oR oS oK oF oL oV oI oX oB o7;simp (maxSteps:=9^7) -implicitDefEqProofs only[D7.rv152,eO,qD,dV,InR,WU,V,W3,↓reduceIte,seval,reduceCtorEq];refine iJ (dC [xn] 800 ?_);have hc:((60<=fc m.buf)=True/\True)\/((60<=fc m.buf)=False/\(1000000<=m.fresh)=True)\/((60<=fc m.buf)=False/\(1000000<=m.fresh)=False):=by
   rcases Classical.propComplete (60<=fc m.buf)with h1 | h1 <;> rcases Classical.propComplete (1000000<=m.fresh)with h2 | h2 <;> simp only[h1,h2] <;> simp
  rcases hc with⟨h1,h2⟩ | ⟨h1,h2⟩ | ⟨h1,h2⟩
  all_goals
   simp[h1,h2]at hE;subst hE;delta D7.c152k1 oO oN oM oG oV oC oI oX oH oB oE oJ o5;simp (maxSteps:=9^7) -implicitDefEqProofs only[D7.rv152,xn,eO,qD,dV,hdm,hp1,hp2,h1,h2,not_true_eq_false,WU,Ent.of1,V,W3,↓reduceIte,seval,reduceCtorEq]
 ·
  delta D7.c152 oO oN oM oR oS oK oF oL oV oI oX oB o7;simp (maxSteps:=9^7) -implicitDefEqProofs only[D7.rv152,eO,qD,dV,InR,WU,V,W3,↓reduceIte,seval,reduceCtorEq];refine iJ (dC [vP] 800 ?_);cases h1:ed m
  rotate_left
  . simp[h1]at hE;subst hE;delta D7.c152k2 oO oN oA oM oT oQ oS oK oF oL oV oC oI oX oB o0 o1 o4 o5;simp (maxSteps:=9^7) -implicitDefEqProofs only[D7.rv152,vP,eO,qD,dV,hdm,h1,WU,Ent.of1,V,W3,↓reduceIte,seval,reduceCtorEq]
  obtain⟨s0,s2⟩:=hs;have s3:m.serving < (m.buf.length:Int):=by omega
  have hg:=xQ m m.serving s2;cases hb:dO m m.serving with
  | nil=>
   simp[h1,hb]at hE;subst hE;rw[hb]at hg;delta D7.c152k2 oO oN oA oM oT oQ oS oK oF oL oV oC oI oX oB o0 o1 o4 o5;simp (maxSteps:=9^7) -implicitDefEqProofs only[D7.rv152,vP,eO,qD,dV,hdm,h1,s0,s2,s3,hg,zR,InR,WU,Ent.of1,V,W3,↓reduceIte,seval,reduceCtorEq]
  | cons x l=>
   rw[hb]at hg hE;have hl0:¬ ((l.length:Int)+1=0):=by omega
   have hl1:(0:Int) < (l.length:Int)+1:=by omega
   rcases Classical.propComplete (m.got < x)with h2 | h2
   all_goals
    simp[h1,h2]at hE;subst hE;delta D7.c152k2 oO oN oA oM oT oQ oS oK oF oL oV oC oI oX oB o0 o1 o4 o5;simp (maxSteps:=9^7) -implicitDefEqProofs only[D7.rv152,vP,eO,qD,dV,hdm,h1,h2,s0,s2,s3,hg,hl0,hl1,zt,zQ,yM,zy,InR,not_true_eq_false,not_false_eq_true,WU,Ent.of1,V,W3,↓reduceIte,seval,reduceCtorEq]
 ·
  delta D7.c152 oO oN oM oR oS oK oF oL oV oI oX oB o7;simp (maxSteps:=9^7) -implicitDefEqProofs only[D7.rv152,eO,qD,dV,InR,WU,V,W3,↓reduceIte,seval,reduceCtorEq];refine iJ (dC [vP] 800 ?_);cases h1:ed m
  all_goals
   simp[h1]at hE;subst hE;delta D7.c152k3 oO oM oC oI oX o5;simp (maxSteps:=9^7) -implicitDefEqProofs only[D7.rv152,vP,eO,qD,dV,hdm,h1,WU,Ent.of1,V,W3,↓reduceIte,seval,reduceCtorEq]
 ·
  delta D7.c152 oO oN oM oR oS oK oF oL oV oI oX oB o7;simp (maxSteps:=9^7) -implicitDefEqProofs only[D7.rv152,eO,qD,dV,InR,WU,V,W3,↓reduceIte,seval,reduceCtorEq];refine iJ (dC [wk] 800 ?_);have hc:((m.phase=0)=False/\True/\True)\/((m.phase=0)=True/\(m.source=-1)=False/\True)\/((m.phase=0)=True/\(m.source=-1)=True/\nbr n ezw m.serving=true)\/((m.phase=0)=True/\(m.source=-1)=True/\nbr n ezw m.serving=false):=by
   rcases Classical.propComplete (m.phase=0)with h1 | h1 <;> rcases Classical.propComplete (m.source=-1)with h2 | h2 <;> cases h3:nbr n ezw m.serving <;> simp only[h1,h2] <;> simp
  rcases hc with⟨h1,h2,h3⟩ | ⟨h1,h2,h3⟩ | ⟨h1,h2,h3⟩ | ⟨h1,h2,h3⟩
  all_goals
   simp[h1,h2,h3]at hE;subst hE;delta D7.c152k4 oO oN oA oM oS oK oF oL oV oC oI oX oB o5;simp (maxSteps:=9^7) -implicitDefEqProofs only[D7.rv152,wk,eO,qD,dV,hdn,hn,h1,h2,h3,not_true_eq_false,not_false_eq_true,WU,Ent.of3,V,W3,↓reduceIte,seval,reduceCtorEq]
 ·
  delta D7.c152 oO oN oM oR oS oK oF oL oV oI oX oB o7;simp (maxSteps:=9^7) -implicitDefEqProofs only[D7.rv152,eO,qD,dV,InR,WU,V,W3,↓reduceIte,seval,reduceCtorEq];refine iJ (dC [] 800 ?_);rcases Classical.propComplete (m.phase=1)with h1 | h1
  all_goals
   simp[h1]at hE;subst hE;delta D7.c152k5 oN oM oF oL oI oX oB;simp (maxSteps:=9^7) -implicitDefEqProofs only[D7.rv152,eO,qD,dV,h1,not_true_eq_false,not_false_eq_true,WU,V,W3,↓reduceIte,seval,reduceCtorEq]
 ·
  delta D7.c152 oO oN oM oR oS oK oF oL oV oI oX oB o7;simp (maxSteps:=9^7) -implicitDefEqProofs only[D7.rv152,eO,qD,dV,InR,WU,V,W3,↓reduceIte,seval,reduceCtorEq];refine iJ (dC [] 800 ?_);rcases Classical.propComplete (m.phase=1)with h1 | h1
  all_goals
   simp[h1]at hE;subst hE;delta D7.c152k5 oN oM oF oL oI oX oB;simp (maxSteps:=9^7) -implicitDefEqProofs only[D7.rv152,eO,qD,dV,h1,not_true_eq_false,not_false_eq_true,WU,V,W3,↓reduceIte,seval,reduceCtorEq]
 ·
  delta D7.c152 oO oN oM oR oS oK oF oL oV oI oX oB o7;simp (maxSteps:=9^7) -implicitDefEqProofs only[D7.rv152,eO,qD,dV,InR,WU,V,W3,↓reduceIte,seval,reduceCtorEq];refine iJ (dC [] 800 ?_);rcases Classical.propComplete (m.phase=2)with h1 | h1
  all_goals
   simp[h1]at hE;subst hE;delta D7.c152k6 oN oM oF oL oI oX oB;simp (maxSteps:=9^7) -implicitDefEqProofs only[D7.rv152,eO,qD,dV,h1,not_true_eq_false,not_false_eq_true,WU,V,W3,↓reduceIte,seval,reduceCtorEq]
 ·
  delta D7.c152 oO oN oM oR oS oK oF oL oV oI oX oB o7;simp (maxSteps:=9^7) -implicitDefEqProofs only[D7.rv152,eO,qD,dV,InR,WU,V,W3,↓reduceIte,seval,reduceCtorEq];refine iJ (dC [wO] 800 ?_);by_cases hq:m.phase=2\/(m.phase=0/\m.source≠-1)
  . obtain⟨s0,s2⟩:=hf hq;have s3:dU m < (m.buf.length:Int):=by omega
    have hg:=xQ m (dU m) s2;have hq2:¬ (¬ m.phase=2/\(¬ m.phase=0\/m.source=-1)):=fun⟨q1,q2⟩=>by
     rcases hq with q | ⟨q3,q4⟩
     . exact q1 q
     . rcases q2 with q | q
       . exact q q3
       . exact q4 q
    rw[if_neg hq2]at hE;have hph:((m.phase=2)=True/\True/\True)\/((m.phase=2)=False/\(m.phase=0)=True/\(m.source=-1)=False):=by
     by_cases q:m.phase=2
     . exact .inl ⟨eq_true q,trivial,trivial⟩
     . rcases hq with q2 | ⟨q3,q4⟩
       . exact absurd q2 q
       . exact .inr ⟨eq_false q,eq_true q3,eq_false q4⟩
    cases hb:dO m (dU m)with
    | nil=>
     rw[hb]at hg hE;simp at hE;subst hE;rcases hph with⟨h1,h2,h3⟩ | ⟨h1,h2,h3⟩
     all_goals
      delta D7.c152k7 oO oN oA oM oG oS oK oF oL oV oC oI oX oP oB oD oE oJ o0 o4 o5 o8;simp (maxSteps:=9^7) -implicitDefEqProofs only[D7.rv152,wO,eO,qD,dV,hdm,h1,h2,h3,s0,s2,s3,hg,zR,InR,not_true_eq_false,not_false_eq_true,WU,Ent.of1,V,W3,↓reduceIte,seval,reduceCtorEq]
    | cons x l=>
     rw[hb]at hg hE;simp at hE;subst hE;have hl0:¬ ((l.length:Int)+1=0):=by omega
     rcases hph with⟨h1,h2,h3⟩ | ⟨h1,h2,h3⟩
     all_goals
      delta D7.c152k7 oO oN oA oM oG oS oK oF oL oV oC oI oX oP oB oD oE oJ o0 o4 o5 o8;simp (maxSteps:=9^7) -implicitDefEqProofs only[D7.rv152,wO,eO,qD,dV,hdm,h1,h2,h3,s0,s2,s3,hg,hl0,zt,zQ,yM,zy,InR,not_true_eq_false,not_false_eq_true,WU,Ent.of1,V,W3,↓reduceIte,seval,reduceCtorEq]
  . have hq2:¬ m.phase=2/\(¬ m.phase=0\/m.source=-1):=⟨fun q=>hq (.inl q),by
     by_cases q1:m.phase=0
     . exact .inr (Classical.byContradiction fun q2=>hq (.inr ⟨q1,q2⟩))
     . exact .inl q1⟩
    rw[if_pos hq2]at hE;subst hE;obtain⟨h1,h2⟩:=hq2;have h1':=eq_false h1;by_cases h3:m.phase=0
    . have h4:m.source=-1:=h2.resolve_left fun q=>q h3
      delta D7.c152k7 oO oN oA oM oG oS oK oF oL oV oC oI oX oP oB oD oE oJ o0 o4 o5 o8;simp (maxSteps:=9^7) -implicitDefEqProofs only[D7.rv152,wO,eO,qD,dV,hdm,h1',h3,h4,not_true_eq_false,not_false_eq_true,WU,Ent.of1,V,W3,↓reduceIte,seval,reduceCtorEq]
    . delta D7.c152k7 oO oN oA oM oG oS oK oF oL oV oC oI oX oP oB oD oE oJ o0 o4 o5 o8;simp (maxSteps:=9^7) -implicitDefEqProofs only[D7.rv152,wO,eO,qD,dV,hdm,h1',h3,not_true_eq_false,not_false_eq_true,WU,Ent.of1,V,W3,↓reduceIte,seval,reduceCtorEq]
 ·
  delta D7.c152 oO oN oM oR oS oK oF oL oV oI oX oB o7;simp (maxSteps:=9^7) -implicitDefEqProofs only[D7.rv152,eO,qD,dV,InR,WU,V,W3,↓reduceIte,seval,reduceCtorEq];refine iJ (dC [] 800 ?_);have hc:((m.source=-1)=True/\True/\True)\/((m.source=-1)=False/\(m.phase=3)=True/\True)\/((m.source=-1)=False/\(m.phase=3)=False/\(m.path=m.serving)=True)\/((m.source=-1)=False/\(m.phase=3)=False/\(m.path=m.serving)=False):=by
   rcases Classical.propComplete (m.source=-1)with h1 | h1 <;> rcases Classical.propComplete (m.phase=3)with h2 | h2 <;> rcases Classical.propComplete (m.path=m.serving)with h3 | h3 <;> simp only[h1,h2,h3] <;> simp
  rcases hc with⟨h1,h2,h3⟩ | ⟨h1,h2,h3⟩ | ⟨h1,h2,h3⟩ | ⟨h1,h2,h3⟩
  all_goals
   simp[h1,h2,h3]at hE;subst hE;delta D7.c152k8 oO oN oA oM oS oK oF oL oV oI oX oB;simp (maxSteps:=9^7) -implicitDefEqProofs only[D7.rv152,eO,qD,dV,h1,h2,h3,not_true_eq_false,not_false_eq_true,WU,V,W3,↓reduceIte,seval,reduceCtorEq]
 ·
  delta D7.c152 oO oN oM oR oS oK oF oL oV oI oX oB o7;simp (maxSteps:=9^7) -implicitDefEqProofs only[D7.rv152,eO,qD,dV,InR,WU,V,W3,↓reduceIte,seval,reduceCtorEq];refine iJ (dC [] 800 ?_);rcases Classical.propComplete (m.phase=3)with h1 | h1
  all_goals
   simp[h1]at hE;subst hE;delta D7.c152k9 oN oM oF oL oI oX oB;simp (maxSteps:=9^7) -implicitDefEqProofs only[D7.rv152,eO,qD,dV,h1,not_true_eq_false,not_false_eq_true,WU,V,W3,↓reduceIte,seval,reduceCtorEq]
 ·
  delta D7.c152 oO oN oM oR oS oK oF oL oV oI oX oB o7;simp (maxSteps:=9^7) -implicitDefEqProofs only[D7.rv152,eO,qD,dV,InR,WU,V,W3,↓reduceIte,seval,reduceCtorEq];refine iJ (dC [] 800 ?_);rcases Classical.propComplete (m.phase=3)with h1 | h1
  rotate_left
  . simp[h1]at hE;subst hE;delta D7.c152k10 oO oN oM oG oS oK oF oL oV oI oX oP oB oD oE oJ;simp (maxSteps:=9^7) -implicitDefEqProofs only[D7.rv152,eO,qD,dV,h1,not_true_eq_false,not_false_eq_true,WU,V,W3,↓reduceIte,seval,reduceCtorEq]
  have hc:((ezw=m.serving)=True/\True/\True)\/((ezw=m.serving)=False/\(m.target=-1)=False/\(ezw=m.target)=True)\/((ezw=m.serving)=False/\(m.target=-1)=True/\True)\/((ezw=m.serving)=False/\(m.target=-1)=False/\(ezw=m.target)=False):=by
   rcases Classical.propComplete (ezw=m.serving)with h1 | h1 <;> rcases Classical.propComplete (m.target=-1)with h2 | h2 <;> rcases Classical.propComplete (ezw=m.target)with h3 | h3 <;> simp only[h1,h2,h3] <;> simp
  have hd:((m.source=-1)=True/\True)\/((m.source=-1)=False/\(ezw=m.source)=True)\/((m.source=-1)=False/\(ezw=m.source)=False):=by
   rcases Classical.propComplete (m.source=-1)with h2 | h2 <;> rcases Classical.propComplete (ezw=m.source)with h3 | h3 <;> simp only[h2,h3] <;> simp
  rcases hc with⟨h2,h3,h4⟩ | ⟨h2,h3,h4⟩ | ⟨h2,h3,h4⟩ | ⟨h2,h3,h4⟩
  rotate_left 2
  all_goals
   first
    | (simp[h1,h2,h3,h4]at hE
       subst hE;delta D7.c152k10 oO oN oM oG oS oK oF oL oV oI oX oP oB oD oE oJ;simp (maxSteps:=9^7) -implicitDefEqProofs only[D7.rv152,eO,qD,dV,h1,h2,h3,h4,not_true_eq_false,not_false_eq_true,WU,V,W3,↓reduceIte,seval,reduceCtorEq]
       done)
    | (rcases hd with⟨h5,h6⟩ | ⟨h5,h6⟩ | ⟨h5,h6⟩
       all_goals
        simp[h1,h2,h3,h4,h5,h6]at hE;subst hE;delta D7.c152k10 oO oN oM oG oS oK oF oL oV oI oX oP oB oD oE oJ
        simp (maxSteps:=9^7) -implicitDefEqProofs only[D7.rv152,eO,qD,dV,h1,h2,h3,h4,h5,h6,not_true_eq_false,not_false_eq_true,WU,V,W3,↓reduceIte,seval,reduceCtorEq])
 ·
  subst hE;delta D7.c152 oO oN oM oR oS oK oF oL oV oI oX oB o7;simp (maxSteps:=9^7) -implicitDefEqProofs only[D7.rv152,eO,qD,dV,WU,V,W3,↓reduceIte,seval,reduceCtorEq]
abbrev dpC (m:Ms):Ch:=.deep 1 3 24 none (fB m.buf)
theorem B3 (m:Ms) (h:m.source≠-1->InB m m.source):FC Tryz.prog 168 [enc m] [] (enc (settle m)) []:=by
 refine dD [] is168 (by simp) trivial trivial trivial trivial (fun cx _ _ _=>dC [] 800 ?_);by_cases h1:m.source=-1
 . have hs:settle m=m:=by unfold Go.Proofs.YtcbabnbiinkafaaGreatDoor.settle;rw[if_neg (by simp[fL,h1])]
   rw[hs];delta c168 oO oN oA oM oG oR oS oK oF oL oW oY oI oX oP oB oE oJ o0 oZ o5 o7;simp (maxSteps:=9^7) -implicitDefEqProofs only[yO,qD,h1,not_true_eq_false,WU,V,W3,↓reduceIte,seval,reduceCtorEq]
 . by_cases h2:m.path=m.serving
   . obtain⟨s0,s2⟩:=h h1;have s3:m.source < (m.buf.length:Int):=by omega
     have hg:=xQ m m.source s2;cases hq:dO m m.source with
     | nil=>
      have hs:settle m={ m with source:=-1 }:=by unfold Go.Proofs.YtcbabnbiinkafaaGreatDoor.settle;rw[if_pos (by simp[fL,h1,h2,hq])]
      rw[hs];rw[hq]at hg;delta c168 oO oN oA oM oG oR oS oK oF oL oW oY oI oX oP oB oE oJ o0 oZ o5 o7;simp (maxSteps:=9^7) -implicitDefEqProofs only[yO,qD,h1,h2,s0,s2,s3,hg,zR,InR,not_true_eq_false,not_false_eq_true,WU,V,W3,↓reduceIte,seval,reduceCtorEq]
     | cons x l=>
      have hs:settle m=m:=by unfold Go.Proofs.YtcbabnbiinkafaaGreatDoor.settle;rw[if_neg (by simp[fL,h1,h2,hq])]
      rw[hs];rw[hq]at hg;have hl0:¬ ((l.length:Int)+1=0):=by omega
      delta c168 oO oN oA oM oG oR oS oK oF oL oW oY oI oX oP oB oE oJ o0 oZ o5 o7;simp (maxSteps:=9^7) -implicitDefEqProofs only[yO,qD,h1,h2,s0,s2,s3,hg,hl0,zt,zQ,yM,zy,InR,not_true_eq_false,not_false_eq_true,WU,V,W3,↓reduceIte,seval,reduceCtorEq]
   . have hs:settle m=m:=by unfold Go.Proofs.YtcbabnbiinkafaaGreatDoor.settle;rw[if_neg (by simp[fL,h1,h2])]
     rw[hs];delta c168 oO oN oA oM oG oR oS oK oF oL oW oY oI oX oP oB oE oJ o0 oZ o5 o7;simp (maxSteps:=9^7) -implicitDefEqProofs only[yO,qD,h1,h2,not_true_eq_false,not_false_eq_true,WU,V,W3,↓reduceIte,seval,reduceCtorEq]
def vT : Ent Tryz.prog:=.of1 168 (fun m:Ms=>m.source≠-1->InB m m.source) (fun m=>enc (settle m)) (fun m=>by rw[qD];simp[dG,dG.keysIns]) (fun m h=>B3 m h)
abbrev wt (m:Ms) (e:T3) (m1:Ms):Prop:=FC Tryz.prog 153 [msA m 100000,enc e] [(100000,dpC m)] (enc (settle m1)) []
theorem vU (b:List (List Int)):(fB b).map (fun es=>[C.sl 1 es])=b.map Dat.cells:=by rw[fB,zT];rfl
theorem Bj {ch:Chs} {m:Ms} {k:Nat} (h:lk ch k=some (dpC m)):Lend ch (.agg (msC m k)) (enc m):=by
 have hx:bz (dpC m)=some (.sl 1 (m.buf.map Dat.cells)):=by rw[dpC,bz,vU]
 refine .agg rfl (fun j a b ha hb=>?_)
 match j,ha,hb with
 | 0,ha,hb=>cases ha;cases hb;exact .same _
 | 1,ha,hb=>cases ha;cases hb;exact .same _
 | 2,ha,hb=>cases ha;cases hb;exact .same _
 | 3,ha,hb=>cases ha;cases hb;exact .same _
 | 4,ha,hb=>cases ha;cases hb;exact .same _
 | 5,ha,hb=>cases ha;cases hb;exact .same _
 | 6,ha,hb=>cases ha;cases hb;exact .same _
 | 7,ha,hb=>cases ha;cases hb;exact .same _
 | 8,ha,hb=>cases ha;cases hb;exact .same _
 | 9,ha,hb=>cases ha;cases hb;exact .own h hx
theorem yU (l:List Int):∀ e∈l.map Dat.cells,∀ c∈e,∃ v,c=C.s v:=fun e he c hc=>by
 obtain⟨x,_,rfl⟩:=zu.1 he;exact⟨_,zg.1 hc⟩
theorem done_0 (m:Ms) (y z:Int) (hi:InB m m.path) (hg:InR .i64 (m.fresh+1)) (hb1:(dO m m.path).length<=1000000) (m1:Ms) (hm:m1={ m with buf:=m.buf.set m.path.toNat (dO m m.path++[m.fresh]),fresh:=m.fresh+1 }) (hs:m1.source≠-1->InB m1 m1.source):wt m ⟨0,y,z⟩ m1:=by
 have hdm1:=vR m1;have hs1:=eq_true hs;refine dD [] D7.is153 (by simp) (by simp[bn]) (by simp[ap,ag,av]) (by simp[ap,ag]) (by simp[aC]) (fun cx _ _ _=>dC [] 1500 ?_);obtain⟨hi0,hi2⟩:=hi;have hi3:m.path < (m.buf.length:Int):=by omega
 have hbg:=fu m.buf m.path.toNat;rw[show m.buf.getD m.path.toNat []=dO m m.path from rfl]at hbg;have hst:=jD m.buf m.path.toNat (dO m m.path++[m.fresh]);have hap:(dO m m.path).map Dat.cells++[[C.s (.int .i64 m.fresh)]]=(dO m m.path++[m.fresh]).map Dat.cells:=by rw[yg];rfl
 simp only[InR]at hg;delta D7.c153 oO oN oA oM oT oR oS oK oF oL oC oW oY oI oX oB o0 o1 oZ o7;simp (maxSteps:=9^7) -implicitDefEqProofs only[D7.rv153,msA,msC,dpC,dV,InR,WU,V,W3,↓reduceIte,seval,reduceCtorEq];refine mT [] 800 ?_;simp (maxSteps:=9^7) -implicitDefEqProofs only[drS,kX,robC,reC,fixS,eL,AOp.reads,ke,true_or,or_true,false_or,hi0,hi2,hi3,eo,hbg,hap,zy,InR,WU,V,W3,↓reduceIte,seval,reduceCtorEq];refine⟨by omega,dC [] 600 ?_⟩;simp (maxSteps:=9^7) -implicitDefEqProofs only[D7.rv153,hg,hst,msA,msC,dpC,InR,WU,V,W3,↓reduceIte,seval,reduceCtorEq];refine iJ (dC [vT] 600 ?_)
 try subst hm
 try simp only[ne_eq]at hdm1 hs1
 delta D7.c153k5 oO oC oW oX o5;simp (maxSteps:=9^7) -implicitDefEqProofs only[D7.rv153,vT,hdm1,hs1,qD,vU,InR,WU,Ent.of1,V,W3,↓reduceIte,seval,reduceCtorEq]
theorem done_1 (m:Ms) (y z:Int) (hi:InB m m.serving) (x:Int) (l:List Int) (hb:dO m m.serving=x :: l) (hg:InR .i64 (m.got+1)) (m1:Ms) (hm:m1=if x=m.got then { m with got:=m.got+1 } else m) (hs:m1.source≠-1->InB m1 m1.source):wt m ⟨1,y,z⟩ m1:=by
 have hdm1:=vR m1;have hs1:=eq_true hs;refine dD [] D7.is153 (by simp) (by simp[bn]) (by simp[ap,ag,av]) (by simp[ap,ag]) (by simp[aC]) (fun cx _ _ _=>dC [] 1500 ?_);obtain⟨hi0,hi2⟩:=hi;have hi3:m.serving < (m.buf.length:Int):=by omega
 have hbg:=fu m.buf m.serving.toNat;rw[show m.buf.getD m.serving.toNat []=x :: l from hb]at hbg;have hl1:(0:Int) < (l.length:Int)+1:=by omega
 simp only[InR]at hg;delta D7.c153 oO oN oA oM oT oR oS oK oF oL oC oW oY oI oX oB o0 o1 oZ o7;simp (maxSteps:=9^7) -implicitDefEqProofs only[D7.rv153,msA,msC,dpC,dV,InR,WU,V,W3,↓reduceIte,seval,reduceCtorEq];refine iJ (dC [] 600 ?_);by_cases hx:x=m.got
 . subst hx;rw[if_pos rfl]at hm;delta D7.c153k1 oO oN oA oT oR oQ oS oK oF oL oW oI oB o0 o1;simp (maxSteps:=9^7) -implicitDefEqProofs only[D7.rv153,hi0,hi2,hi3,hl1,hg,eo,hbg,zt,zQ,yM,zy,InR,WU,V,W3,↓reduceIte,seval,reduceCtorEq]
   try refine⟨by omega,?_⟩
   refine iJ (dC [vT] 600 ?_)
   try subst hm
   try simp only[ne_eq]at hdm1 hs1
   delta D7.c153k5 oO oC oW oX o5;simp (maxSteps:=9^7) -implicitDefEqProofs only[D7.rv153,vT,hdm1,hs1,qD,vU,InR,WU,Ent.of1,V,W3,↓reduceIte,seval,reduceCtorEq]
 . rw[if_neg hx]at hm;delta D7.c153k1 oO oN oA oT oR oQ oS oK oF oL oW oI oB o0 o1;simp (maxSteps:=9^7) -implicitDefEqProofs only[D7.rv153,hi0,hi2,hi3,hl1,hx,eo,hbg,zt,zQ,yM,zy,InR,WU,V,W3,↓reduceIte,seval,reduceCtorEq]
   try refine⟨by omega,?_⟩
   refine iJ (dC [vT] 600 ?_)
   try subst hm
   try simp only[ne_eq]at hdm1 hs1
   delta D7.c153k5 oO oC oW oX o5;simp (maxSteps:=9^7) -implicitDefEqProofs only[D7.rv153,vT,hdm1,hs1,qD,vU,InR,WU,Ent.of1,V,W3,↓reduceIte,seval,reduceCtorEq]
theorem done_8 (m:Ms) (y z:Int) (m1:Ms) (hm:m1={ m with path:=m.serving }) (hs:m1.source≠-1->InB m1 m1.source):wt m ⟨8,y,z⟩ m1:=by
 have hdm1:=vR m1;have hs1:=eq_true hs;refine dD [] D7.is153 (by simp) (by simp[bn]) (by simp[ap,ag,av]) (by simp[ap,ag]) (by simp[aC]) (fun cx _ _ _=>dC [] 1500 ?_);delta D7.c153 oO oN oA oM oT oR oS oK oF oL oC oW oY oI oX oB o0 o1 oZ o7;simp (maxSteps:=9^7) -implicitDefEqProofs only[D7.rv153,msA,msC,dpC,dV,InR,WU,V,W3,↓reduceIte,seval,reduceCtorEq];refine iJ (dC [vT] 600 ?_)
 try subst hm
 try simp only[ne_eq]at hdm1 hs1
 delta D7.c153k5 oO oC oW oX o5;simp (maxSteps:=9^7) -implicitDefEqProofs only[D7.rv153,vT,hdm1,hs1,qD,vU,InR,WU,Ent.of1,V,W3,↓reduceIte,seval,reduceCtorEq]
theorem done_9 (m:Ms) (y z:Int) (m1:Ms) (hm:m1={ m with since:=if m.phase=2 then m.since else y,phase:=3 }) (hs:m1.source≠-1->InB m1 m1.source):wt m ⟨9,y,z⟩ m1:=by
 have hdm1:=vR m1;have hs1:=eq_true hs;refine dD [] D7.is153 (by simp) (by simp[bn]) (by simp[ap,ag,av]) (by simp[ap,ag]) (by simp[aC]) (fun cx _ _ _=>dC [] 1500 ?_);delta D7.c153 oO oN oA oM oT oR oS oK oF oL oC oW oY oI oX oB o0 o1 oZ o7;simp (maxSteps:=9^7) -implicitDefEqProofs only[D7.rv153,msA,msC,dpC,dV,InR,WU,V,W3,↓reduceIte,seval,reduceCtorEq];refine iJ (dC [] 600 ?_);by_cases h2:m.phase=2
 all_goals
  simp only[h2,if_true,if_false]at hm;delta D7.c153k3 oO oN oR oS oK oF oL oW oY oI oX oB;simp (maxSteps:=9^7) -implicitDefEqProofs only[D7.rv153,h2,not_true_eq_false,not_false_eq_true,InR,WU,V,W3,↓reduceIte,seval,reduceCtorEq];refine iJ (dC [vT] 600 ?_)
  try subst hm
  try simp only[ne_eq]at hdm1 hs1
  delta D7.c153k5 oO oC oW oX o5;simp (maxSteps:=9^7) -implicitDefEqProofs only[D7.rv153,vT,hdm1,hs1,qD,vU,InR,WU,Ent.of1,V,W3,↓reduceIte,seval,reduceCtorEq]
theorem done_11 (m:Ms) (y z:Int) (hs:m.source≠-1->InB m m.source):wt m ⟨11,y,z⟩ m:=by
 have hdm1:=vR m;have hs1:=eq_true hs;refine dD [] D7.is153 (by simp) (by simp[bn]) (by simp[ap,ag,av]) (by simp[ap,ag]) (by simp[aC]) (fun cx _ _ _=>dC [] 1500 ?_);delta D7.c153 oO oN oA oM oT oR oS oK oF oL oC oW oY oI oX oB o0 o1 oZ o7;simp (maxSteps:=9^7) -implicitDefEqProofs only[D7.rv153,msA,msC,dpC,dV,InR,WU,V,W3,↓reduceIte,seval,reduceCtorEq];refine iJ (dC [vT] 600 ?_)
 try subst hm
 try simp only[ne_eq]at hdm1 hs1
 delta D7.c153k5 oO oC oW oX o5;simp (maxSteps:=9^7) -implicitDefEqProofs only[D7.rv153,vT,hdm1,hs1,qD,vU,InR,WU,Ent.of1,V,W3,↓reduceIte,seval,reduceCtorEq]
theorem done_10 (m:Ms) (y z:Int) (h:MsS m) (hz:InB m z):FC Tryz.prog 153 [msA m 100000,enc (⟨10,y,z⟩:T3)] [(100000,dpC m)] (enc (iB m z y)) []:=by
 refine dD [] D7.is153 (by simp) (by simp[bn]) (by simp[ap,ag,av]) (by simp[ap,ag]) (by simp[aC]) (fun cx _ _ _=>dC [] 1500 ?_);delta D7.c153 oO oN oA oM oT oR oS oK oF oL oC oW oY oI oX oB o0 o1 oZ o7;simp (maxSteps:=9^7) -implicitDefEqProofs only[D7.rv153,msA,msC,dpC,dV,InR,WU,V,W3,↓reduceIte,seval,reduceCtorEq];refine iJ (dC [] 600 ?_);delta D7.c153k4 oO oF oL oC oW oX o5;simp (maxSteps:=9^7) -implicitDefEqProofs only[D7.rv153,InR,WU,V,W3,↓reduceIte,seval,reduceCtorEq];refine og rfl (OpM.lend1 (xG m z y h hz) rfl ⟨Bj rfl,.same _,.same _,trivial⟩ rfl (yY _)) (fun ef he=>?_);subst he;refine pV [] 800 ?_;simp (maxSteps:=9^7) -implicitDefEqProofs only[D7.rv153,msA,msC,qD,dpC,vU,ak,ak.renCs,rn,InR,WU,V,W3,↓reduceIte,seval,reduceCtorEq]
theorem done_2 (m:Ms) (y z:Int) (hi:InB m m.serving) (hb1:(dO m m.serving).length<=1000000) (m1:Ms) (hm:m1={ m with buf:=m.buf.set m.serving.toNat (frm (dO m m.serving) m.got) }) (hs:m1.source≠-1->InB m1 m1.source):wt m ⟨2,y,z⟩ m1:=by
 have hdm1:=vR m1;have hs1:=eq_true hs;refine dD [] D7.is153 (by simp) (by simp[bn]) (by simp[ap,ag,av]) (by simp[ap,ag]) (by simp[aC]) (fun cx _ _ _=>dC [] 1500 ?_);obtain⟨hi0,hi2⟩:=hi;have hi3:m.serving < (m.buf.length:Int):=by omega
 have hbg:=fu m.buf m.serving.toNat;rw[show m.buf.getD m.serving.toNat []=dO m m.serving from rfl]at hbg;have hst:=jD m.buf m.serving.toNat (frm (dO m m.serving) m.got);delta D7.c153 oO oN oA oM oT oR oS oK oF oL oC oW oY oI oX oB o0 o1 oZ o7;simp (maxSteps:=9^7) -implicitDefEqProofs only[D7.rv153,msA,msC,dpC,dV,InR,WU,V,W3,↓reduceIte,seval,reduceCtorEq];refine qk [xz (dO m m.serving) m.got hb1] 800 ?_;simp (maxSteps:=9^7) -implicitDefEqProofs only[gC,mFin2,lP,oq,ops2,jb,reM2,nQ,p8,p9,l6,finM,kd,gQ,hJ,fY,ff,fO,fO.fixBs,fM,ndE2,ap,ag,av,aU,aE,ke,eL,a6,bF,xz,vY,hi0,hi2,hi3,hbg,eo,InR,WU,V,W3,↓reduceIte,seval,reduceCtorEq];refine⟨rfl,⟨yU _,.inl trivial⟩,dC [] 600 ?_⟩;simp (maxSteps:=9^7) -implicitDefEqProofs only[D7.rv153,hst,WU,V,W3,↓reduceIte,seval,reduceCtorEq];refine iJ (dC [vT] 600 ?_);subst hm;simp only[ne_eq]at hdm1 hs1;delta D7.c153k5 oO oC oW oX o5;simp (maxSteps:=9^7) -implicitDefEqProofs only[D7.rv153,vT,hdm1,hs1,qD,vU,InR,WU,Ent.of1,V,W3,↓reduceIte,seval,reduceCtorEq]
theorem done_3 (m:Ms) (y z:Int) (m1:Ms) (hm:m1={ m with phase:=1,since:=y,target:=z }) (hs:m1.source≠-1->InB m1 m1.source):wt m ⟨3,y,z⟩ m1:=by
 have hdm1:=vR m1;have hs1:=eq_true hs;refine dD [] D7.is153 (by simp) (by simp[bn]) (by simp[ap,ag,av]) (by simp[ap,ag]) (by simp[aC]) (fun cx _ _ _=>dC [] 1500 ?_);delta D7.c153 oO oN oA oM oT oR oS oK oF oL oC oW oY oI oX oB o0 o1 oZ o7;simp (maxSteps:=9^7) -implicitDefEqProofs only[D7.rv153,msA,msC,dpC,dV,InR,WU,V,W3,↓reduceIte,seval,reduceCtorEq];refine kh [] 800 ?_;simp (maxSteps:=9^7) -implicitDefEqProofs only[drM,mFin,j6,kU,gR,reM,ie,gK,gB,ndE,ap,ag,av,aU,aE,WU,V,W3,↓reduceIte,seval,reduceCtorEq];refine dC [] 400 ?_;simp (maxSteps:=9^7) -implicitDefEqProofs only[D7.rv153,WU,V,W3,↓reduceIte,seval,reduceCtorEq];refine iJ (dC [vT] 600 ?_);subst hm;simp only[ne_eq]at hdm1 hs1;delta D7.c153k5 oO oC oW oX o5;simp (maxSteps:=9^7) -implicitDefEqProofs only[D7.rv153,vT,hdm1,hs1,qD,vU,InR,WU,Ent.of1,V,W3,↓reduceIte,seval,reduceCtorEq]
theorem done_4 (m:Ms) (y z:Int) (m1:Ms) (hm:m1={ m with phase:=0,since:=y,target:=-1 }) (hs:m1.source≠-1->InB m1 m1.source):wt m ⟨4,y,z⟩ m1:=by
 have hdm1:=vR m1;have hs1:=eq_true hs;refine dD [] D7.is153 (by simp) (by simp[bn]) (by simp[ap,ag,av]) (by simp[ap,ag]) (by simp[aC]) (fun cx _ _ _=>dC [] 1500 ?_);delta D7.c153 oO oN oA oM oT oR oS oK oF oL oC oW oY oI oX oB o0 o1 oZ o7;simp (maxSteps:=9^7) -implicitDefEqProofs only[D7.rv153,msA,msC,dpC,dV,InR,WU,V,W3,↓reduceIte,seval,reduceCtorEq];refine kh [] 800 ?_;simp (maxSteps:=9^7) -implicitDefEqProofs only[drM,mFin,j6,kU,gR,reM,ie,gK,gB,ndE,ap,ag,av,aU,aE,WU,V,W3,↓reduceIte,seval,reduceCtorEq];refine dC [] 400 ?_;simp (maxSteps:=9^7) -implicitDefEqProofs only[D7.rv153,WU,V,W3,↓reduceIte,seval,reduceCtorEq];refine iJ (dC [vT] 600 ?_);subst hm;simp only[ne_eq]at hdm1 hs1;delta D7.c153k5 oO oC oW oX o5;simp (maxSteps:=9^7) -implicitDefEqProofs only[D7.rv153,vT,hdm1,hs1,qD,vU,InR,WU,Ent.of1,V,W3,↓reduceIte,seval,reduceCtorEq]
theorem done_5 (m:Ms) (y z:Int) (m1:Ms) (hm:m1={ m with phase:=2,since:=y }) (hs:m1.source≠-1->InB m1 m1.source):wt m ⟨5,y,z⟩ m1:=by
 have hdm1:=vR m1;have hs1:=eq_true hs;refine dD [] D7.is153 (by simp) (by simp[bn]) (by simp[ap,ag,av]) (by simp[ap,ag]) (by simp[aC]) (fun cx _ _ _=>dC [] 1500 ?_);delta D7.c153 oO oN oA oM oT oR oS oK oF oL oC oW oY oI oX oB o0 o1 oZ o7;simp (maxSteps:=9^7) -implicitDefEqProofs only[D7.rv153,msA,msC,dpC,dV,InR,WU,V,W3,↓reduceIte,seval,reduceCtorEq];refine kh [] 800 ?_;simp (maxSteps:=9^7) -implicitDefEqProofs only[drM,mFin,j6,kU,gR,reM,ie,gK,gB,ndE,ap,ag,av,aU,aE,WU,V,W3,↓reduceIte,seval,reduceCtorEq];refine dC [] 400 ?_;simp (maxSteps:=9^7) -implicitDefEqProofs only[D7.rv153,WU,V,W3,↓reduceIte,seval,reduceCtorEq];refine iJ (dC [vT] 600 ?_);subst hm;simp only[ne_eq]at hdm1 hs1;delta D7.c153k5 oO oC oW oX o5;simp (maxSteps:=9^7) -implicitDefEqProofs only[D7.rv153,vT,hdm1,hs1,qD,vU,InR,WU,Ent.of1,V,W3,↓reduceIte,seval,reduceCtorEq]
theorem done_6 (m:Ms) (y z:Int) (m1:Ms) (hm:m1={ m with phase:=0,since:=y,source:=m.serving,serving:=m.target,target:=-1 }) (hs:m1.source≠-1->InB m1 m1.source):wt m ⟨6,y,z⟩ m1:=by
 have hdm1:=vR m1;have hs1:=eq_true hs;refine dD [] D7.is153 (by simp) (by simp[bn]) (by simp[ap,ag,av]) (by simp[ap,ag]) (by simp[aC]) (fun cx _ _ _=>dC [] 1500 ?_);delta D7.c153 oO oN oA oM oT oR oS oK oF oL oC oW oY oI oX oB o0 o1 oZ o7;simp (maxSteps:=9^7) -implicitDefEqProofs only[D7.rv153,msA,msC,dpC,dV,InR,WU,V,W3,↓reduceIte,seval,reduceCtorEq];refine kh [] 800 ?_;simp (maxSteps:=9^7) -implicitDefEqProofs only[drM,mFin,j6,kU,gR,reM,ie,gK,gB,ndE,ap,ag,av,aU,aE,WU,V,W3,↓reduceIte,seval,reduceCtorEq];refine dC [] 400 ?_;simp (maxSteps:=9^7) -implicitDefEqProofs only[D7.rv153,WU,V,W3,↓reduceIte,seval,reduceCtorEq];refine iJ (dC [vT] 600 ?_);subst hm;simp only[ne_eq]at hdm1 hs1;delta D7.c153k5 oO oC oW oX o5;simp (maxSteps:=9^7) -implicitDefEqProofs only[D7.rv153,vT,hdm1,hs1,qD,vU,InR,WU,Ent.of1,V,W3,↓reduceIte,seval,reduceCtorEq]
def Bg (l:List Int) (n:Int) (h:l.length<=1000000):Ent Tryz.prog:=vY 163 [enc l,enc n] (.own 5) 5 (.row 1 3 ((fS l n).map Dat.cells)) (by simp[dG]) (by simp[ge]) (put_o l n h)
theorem done_7 (m:Ms) (y z:Int) (hf:InB m (dU m)) (ht:InB m (toC m)) (hne:dU m≠toC m) (x:Int) (B:List Int) (hb:dO m (dU m)=x :: B) (hl1:(dO m (toC m)).length<=1000000) (hl2:B.length<=1000000) (m1:Ms)
 (hm:m1={ m with buf:=(m.buf.set (toC m).toNat (fS (dO m (toC m)) x)).set (dU m).toNat B }) (hs:m1.source≠-1->InB m1 m1.source):wt m ⟨7,y,z⟩ m1:=by
 have hdm:=vR m;obtain⟨i0,i2⟩:=hf;obtain⟨j0w,j2w⟩:=ht;have i3:dU m < (m.buf.length:Int):=by omega
 have j3w:toC m < (m.buf.length:Int):=by omega
 have hnn:(toC m).toNat≠(dU m).toNat:=by omega
 have hbf:=fu m.buf (dU m).toNat;rw[show m.buf.getD (dU m).toNat []=x :: B from hb]at hbf;have hbt:=fu m.buf (toC m).toNat;rw[show m.buf.getD (toC m).toNat []=dO m (toC m)from rfl]at hbt;have hst:=jD m.buf (toC m).toNat (fS (dO m (toC m)) x);have hbf2:(fB (m.buf.set (toC m).toNat (fS (dO m (toC m)) x))).getD (dU m).toNat []=(x :: B).map Dat.cells:=by
  rw[fu,fi,if_neg (fun q=>hnn q.1)];rw[show m.buf.getD (dU m).toNat []=x :: B from hb]
 have hlen1:(m.buf.set (toC m).toNat (fS (dO m (toC m)) x)).length=m.buf.length:=by simp
 have hst2:=jD (m.buf.set (toC m).toNat (fS (dO m (toC m)) x)) (dU m).toNat B;have hl00:(0:Int) < (B.length:Int)+1:=by omega
 have hl01:(1:Int)<=(B.length:Int)+1:=by omega
 have hdt:List.drop 1 (List.take ((B.length:Int)+1).toNat ([C.s (.int .i64 x)] :: B.map Dat.cells))=B.map Dat.cells:=by
  have e1:((B.length:Int)+1).toNat=B.length+1:=by omega
  rw[e1,yD,yw,yB,List.take_of_length_le (by simp)]
 have hdm1:=vR m1;have hs1:=eq_true hs;refine dD [] D7.is153 (by simp) (by simp[bn]) (by simp[ap,ag,av]) (by simp[ap,ag]) (by simp[aC]) (fun cx _ _ _=>dC [] 1500 ?_);delta D7.c153 oO oN oA oM oT oR oS oK oF oL oC oW oY oI oX oB o0 o1 oZ o7;simp (maxSteps:=9^7) -implicitDefEqProofs only[D7.rv153,msA,msC,dpC,dV,InR,WU,V,W3,↓reduceIte,seval,reduceCtorEq];refine iJ (dC [wO] 600 ?_);delta D7.c153k2 oO oN oA oM oT oS oK oF oL oC oX o0 o1 o5 o8;simp (maxSteps:=9^7) -implicitDefEqProofs only[D7.rv153,wO,hdm,qD,vU,InR,WU,Ent.of1,V,W3,↓reduceIte,seval,reduceCtorEq];generalize hF:dU m=F at *;generalize hG:toC m=G at *;refine qk [Bg (dO m G) x hl1] 800 ?_;simp (maxSteps:=9^7) -implicitDefEqProofs only[gC,mFin2,lP,oq,ops2,jb,reM2,nQ,p8,p9,l6,finM,kd,gQ,hJ,fY,ff,fO,fO.fixBs,fM,ndE2,ap,ag,av,aU,aE,ke,eL,a6,bF,Bg,vY,i0,i2,i3,j0w,j2w,j3w,hl00,hbf,hbt,eo,zt,zQ,yM,zy,InR,WU,V,W3,↓reduceIte,seval,reduceCtorEq];refine⟨rfl,⟨by omega,yU _,.inl trivial⟩,dC [] 600 ?_⟩;simp (maxSteps:=9^7) -implicitDefEqProofs only[D7.rv153,hst,WU,V,W3,↓reduceIte,seval,reduceCtorEq];refine qk [x6 B hl2] 800 ?_;simp (maxSteps:=9^7) -implicitDefEqProofs only[gC,mFin2,lP,oq,ops2,jb,reM2,nQ,p8,p9,l6,finM,kd,gQ,hJ,fY,ff,fO,fO.fixBs,fM,ndE2,ap,ag,av,aU,aE,ke,eL,a6,bF,x6,vY,i0,i2,i3,hl00,hl01,hbf2,hlen1,hdt,eo,zt,zQ,yM,zy,InR,WU,V,W3,↓reduceIte,seval,reduceCtorEq];refine⟨rfl,⟨Int.le_refl _,yU _,.inr trivial⟩,dC [] 600 ?_⟩;simp (maxSteps:=9^7) -implicitDefEqProofs only[D7.rv153,hst2,WU,V,W3,↓reduceIte,seval,reduceCtorEq];refine iJ (dC [vT] 600 ?_);subst hm;simp only[ne_eq]at hdm1 hs1;delta D7.c153k5 oO oC oW oX o5;simp (maxSteps:=9^7) -implicitDefEqProofs only[D7.rv153,vT,hdm1,hs1,qD,vU,InR,WU,Ent.of1,V,W3,↓reduceIte,seval,reduceCtorEq]
theorem G0.inB {n:Nw} {m:Ms} (g:G0 n m) {c:Int} (h:isC n c=true):InB m c:=⟨(fH h).1,g.ix h⟩
theorem dN.msS {n:Nw} {m:Ms} (net:NetOk n) (g:dN n m):MsS m:=by
 have h1:=g.len;have h2:=g.large;have h3:=net.len;refine⟨⟨by omega,fun x hx=>?_⟩,by omega⟩;have:=(List.sublist_flatten_of_mem hx).length_le;omega
theorem bufA_le {n:Nw} {m:Ms} (net:NetOk n) (g:dN n m) (c:Int):(dO m c).length<=1000000:=by
 rcases yu c.toNat m.buf.length with h | h
 . have e:dO m c=m.buf[c.toNat]:=by rw[dO,zb,ze h];rfl
   rw[e];exact (g.msS net).b.r _ (yy h)
 . have e:dO m c=[]:=by rw[dO,zb,List.getElem?_eq_none h];rfl
   rw[e];simp
theorem BX {m:Ms} {t:Int} (h:MsS { m with at_:=t }):MsS m:=⟨h.b,h.f⟩
theorem Bq {n:Nw} {m:Ms} (net:NetOk n) (g:dN n m) (h:m.phase=2\/(m.phase=0/\m.source≠-1)):InB m (dU m)/\InB m (toC m)/\dU m≠toC m:=by
 by_cases p:m.phase=2
 . have htn:m.target≠-1:=fun q=>(g.f2 q).2 p
   rw[dU,toC,if_pos p,if_pos p];exact⟨g.inB g.srv,g.inB (g.tgt htn),fun q=>net.ne _ _ (g.c1 htn) q.symm⟩
 . have hs:m.source≠-1:=by
    rcases h with q | q
    . exact absurd q p
    . exact q.2
   rw[dU,toC,if_neg p,if_neg p];exact⟨g.inB (g.src hs),g.inB g.srv,net.ne _ _ (g.c2 hs)⟩
theorem Rdone_c (n:Nw) (m:Ms) (e:T3) (net:NetOk n) (G:dN n { m with at_:=e.y }) (hev:evE n e=0) (hd:et n m e=0):FC Tryz.prog 153 [msA m 100000,enc e] [(100000,dpC m)] (enc (jT m e)) []:=by
 obtain⟨hk,hy,hcz⟩:=ev_ok hev;have S:=BX (G.msS net);have hd':et n { m with at_:=e.y } e=0:=hd;have hI:∀ c,isC n c=true->InB m c:=fun c h=>G.inB h
 have hB:∀ c,(dO m c).length<=1000000:=fun c=>bufA_le net G c
 obtain⟨ex,ey,ezw⟩:=e;simp only at hk hy hcz hd hd' G;by_cases h10:ex=10
 . subst h10;rw[jT,if_pos rfl];exact done_10 m ey ezw S (hI _ (hcz rfl))
 have hdn:jT m ⟨ex,ey,ezw⟩=settle (eG m ⟨ex,ey,ezw⟩):=by rw[jT,if_neg h10]
 rw[hdn];have A:=G.toG0.act net hev rfl hd' h10;rw[<- at_act]at A;have hs:(eG m ⟨ex,ey,ezw⟩).source≠-1->InB (eG m ⟨ex,ey,ezw⟩) (eG m ⟨ex,ey,ezw⟩).source:=fun q=>A.inB (A.src q)
 clear A;have k:ex=0\/ex=1\/ex=2\/ex=3\/ex=4\/ex=5\/ex=6\/ex=7\/ex=8\/ex=9\/ex=11:=by omega
 generalize hm:eG m ⟨ex,ey,ezw⟩=m1 at *;unfold eG at hm;unfold et at hd;rcases k with rfl | rfl | rfl | rfl | rfl | rfl | rfl | rfl | rfl | rfl | rfl <;> simp only[Int.reduceEq,if_true,if_false]at hm hd
 . have hfr:=G.fresh;exact done_0 m ey ezw (hI _ G.pth) (by simp only[InR];simp only at hfr;omega) (hB _) m1 hm.symm hs
 . have hgt:=G.got;have hfr:=G.fresh;simp only at hgt hfr;cases hb:dO m m.serving with
   | nil=>
    rw[hb]at hd;simp at hd;split at hd <;> cases hd
   | cons x l=>
    rw[hb]at hm;exact done_1 m ey ezw (hI _ G.srv) x l hb (by simp only[InR];omega) m1 hm.symm hs
 . exact done_2 m ey ezw (hI _ G.srv) (hB _) m1 hm.symm hs
 . exact done_3 m ey ezw m1 hm.symm hs
 . exact done_4 m ey ezw m1 hm.symm hs
 . exact done_5 m ey ezw m1 hm.symm hs
 . exact done_6 m ey ezw m1 hm.symm hs
 . have hq:m.phase=2\/(m.phase=0/\m.source≠-1):=by
    by_cases q:m.phase=2
    . exact .inl q
    . by_cases q0:m.phase=0
      . by_cases qs:m.source=-1
        . rw[if_pos ⟨q,.inr qs⟩]at hd;cases hd
        . exact .inr ⟨q0,qs⟩
      . rw[if_pos ⟨q,.inl q0⟩]at hd;cases hd
   obtain⟨w1,w2,w3⟩:=Bq net G hq;have hne:dO m (dU m)≠[]:=fun q=>by
    split at hd
    . cases hd
    . first | cases hd | (rw[if_pos q]at hd;cases hd)
   cases hb:dO m (dU m)with
   | nil=>exact absurd hb hne
   | cons x B=>
    rw[hb]at hm;have hbl:=hB (dU m);rw[hb]at hbl;exact done_7 m ey ezw w1 w2 w3 x B hb (hB _) (by simp at hbl;omega) m1 hm.symm hs
 . exact done_8 m ey ezw m1 hm.symm hs
 . exact done_9 m ey ezw m1 hm.symm hs
 . subst hm;exact done_11 m ey ezw hs
theorem FC.keys {f:FuncId} {cs:List C} {r:C} {c:Ch} (k:Nat) (h:FC Tryz.prog f cs [(100000,c)] r []) (hr:ak [(100000,k)] r=r) (hk:dG [100000] r) (hc:aF [(100000,k)] c=c):FC Tryz.prog f (cs.map (ak [(100000,k)])) [(k,c)] r []:=by
 have:=FC.ren h [(100000,k)] [100000] (by simp[rn,lk]) (fun k' c' hm=>by simp at hm ⊢;exact hm.1) (fun k' c' hm=>by simp at hm) hk;rw[hr]at this;simpa[ar,rn,lk,hc]using this
theorem Bb (m:Ms) (k:Nat):ak [(100000,k)] (enc m)=enc m/\dG [100000] (enc m):=by
 rw[qD];simp[ak,ak.renCs,dG,dG.keysIns]
def wX (n:Nw) (m:Ms) (e:T3):Ms:=if qd n m e≠0 then ms0 else qm n m e
theorem Step_c (n:Nw) (m:Ms) (e:T3) (hn:NwS n) (net:NetOk n) (g:dN n m) (hev:evE n e=0):FC Tryz.prog 119 [enc n,enc m,enc e] [] (.tup [enc (wX n m e),enc (qd n m e)]) []:=by
 obtain⟨hk,hy,hcz⟩:=ev_ok hev;have S:=g.msS net;have hlen:=g.len;have hlen0:=net.len;have hsi:=g.since;have hat:=g.at_;have hli:=net.lim;by_cases ht:e.y < m.at_
 . have hE:qd n m e=9:=by rw[qd,if_pos ht]
   have hS:wX n m e=ms0:=by rw[wX,hE];rfl
   rw[hE,hS];refine dD [] is119 (by simp) (by simp[bn]) (by simp[ap,ag]) (by simp[ap,ag]) (by simp[aC]) (fun cx _ _ _=>dC [] 1500 ?_);delta c119 oO oN oA oM oS oK oF oL oV oC oW oI oX oB oZ o5 o7 o8;simp (maxSteps:=9^7) -implicitDefEqProofs only[xD,eO,qD,dV,ht,ms0,InR,WU,V,W3,↓reduceIte,seval,reduceCtorEq]
 . have hE:qd n m e=et n (p7 n m e.y) e:=by rw[qd,if_neg ht];rfl
   have G:dN n { p7 n m e.y with at_:=e.y }:=g.pass net (by omega) hy.2;have hap:qm n m e={ jT (p7 n m e.y) e with at_:=e.y }:=by rw[at_done];rfl
   have SY:=BX (G.msS net);have hdoes:=does_c n (p7 n m e.y) e hn SY hk (G.inB G.srv) (fun q=>(Bq net G q).1);generalize hY:p7 n m e.y=Y at *;have pass:=Pass_o n m e.y hn S (by omega) (fun _=>by simp only[InR];omega);rw[hY]at pass;refine dD [] is119 (by simp) (by simp[bn]) (by simp[ap,ag]) (by simp[ap,ag]) (by simp[aC]) (fun cx _ _ _=>dC [vY 110 [enc n,enc m,enc e.y] (.tup [msA Y 25,enc (xb n m e.y)]) 25 (.deep 1 3 24 none (fB Y.buf)) ⟨xV _ 25,trivial,trivial⟩ (by simp[ge]) pass] 1500 ?_);delta c119 oO oN oA oM oS oK oF oL oV oC oW oI oX oB oZ o5 o7 o8;simp (maxSteps:=9^7) -implicitDefEqProofs only[xD,eO,qD,dV,ht,vY,msA,msC,InR,not_true_eq_false,WU,V,W3,↓reduceIte,seval,reduceCtorEq];refine og rfl (OpM.lend0 hdoes rfl ⟨.same _,Bj rfl,.same _,trivial⟩ rfl rfl) (fun ef he=>?_);subst he;refine pV [] 800 ?_;by_cases h0:et n Y e=0
   . have hE0:qd n m e=0:=hE.trans h0;have hS:wX n m e={ jT Y e with at_:=e.y }:=by rw[wX,if_neg (by simp[hE0]),hap]
     have hdone:=FC.keys 22 (Rdone_c n Y e net G hev h0) (Bb _ 22).1 (Bb _ 22).2 rfl;rw[hE0,hS];simp (maxSteps:=9^7) -implicitDefEqProofs only[xD,h0,not_true_eq_false,WU,V,W3,↓reduceIte,seval,reduceCtorEq];refine pU (.yes _ rfl (OpR.give (k:=22) (c:=dpC Y) rfl hdone (by rfl) rfl (fun cs q=>by cases q) (by rw[qD];simp[dG,dG.keysIns]))) trivial ?_;refine pV [] 800 ?_;simp (maxSteps:=9^7) -implicitDefEqProofs only[xD,qD,a7,az,bA,InR,WU,V,W3,↓reduceIte,seval,reduceCtorEq]
   . have hE0:¬ qd n m e=0:=by rw[hE];exact h0
     have hS:wX n m e=ms0:=by rw[wX,if_pos hE0]
     rw[hS,hE];simp (maxSteps:=9^7) -implicitDefEqProofs only[xD,h0,ms0,not_true_eq_false,not_false_eq_true,WU,V,W3,↓reduceIte,seval,reduceCtorEq]
theorem xA (m:Ms):dG [] (enc m):=by rw[qD];simp[dG,dG.keysIns]
theorem Apply_c (n:Nw) (m:Ms) (e:T3) (hn:NwS n) (net:NetOk n) (g:dN n m):FC Tryz.prog 71 [enc n,enc m,enc e] [] (.tup [enc (wE n m e),enc (fZ n m e)]) []:=by
 have hdn:=je n;have eta:(⟨e.x,e.y,e.z⟩:T3)=e:=rfl;by_cases hev:evE n e=0
 . have hE:fZ n m e=qd n m e:=by rw[fZ,if_neg (by simp[hev])]
   have hS:wE n m e=wX n m e:=by rw[wE,hE];rfl
   rw[hE,hS];have hx:=Step_c n m e hn net g hev;refine dD [] is71 (by simp) (by simp[bn]) (by simp[ap,ag]) (by simp[ap,ag]) (by simp[aC]) (fun cx _ _ _=>dC [Ak,vS 119 _ _ hx ⟨xA _,trivial,trivial⟩] 1500 ?_);delta c71 oO oN oA oM oS oK oV oC oW oI oX oB oZ o5 o7 o8;simp (maxSteps:=9^7) -implicitDefEqProofs only[rv71,Ak,vS,eO,qD,dV,lV,eta,hdn,hn,hev,not_true_eq_false,WU,Ent.of2,V,W3,↓reduceIte,seval,reduceCtorEq]
 . have hE:fZ n m e=evE n e:=by rw[fZ,if_pos hev]
   have hS:wE n m e=ms0:=by rw[wE,hE,if_pos hev]
   rw[hE,hS];refine dD [] is71 (by simp) (by simp[bn]) (by simp[ap,ag]) (by simp[ap,ag]) (by simp[aC]) (fun cx _ _ _=>dC [Ak] 1500 ?_);delta c71 oO oN oA oM oS oK oV oC oW oI oX oB oZ o5 o7 o8;simp (maxSteps:=9^7) -implicitDefEqProofs only[rv71,Ak,eO,qD,dV,lV,eta,hdn,hn,hev,ms0,not_true_eq_false,not_false_eq_true,WU,Ent.of2,V,W3,↓reduceIte,seval,reduceCtorEq]
theorem nil_els (k:Nat) {E:Env} {U:Nat->Prop} {h:Array Obj} {v:Value} (hr:Rep E U h (.sl 1 (List.replicate k [C.s (.slice none 0 0)])) v):Rep E U h (.sl 1 (List.replicate k [C.sl 1 []])) v:=by
 have hd:=jj hr;generalize hes:List.replicate k [C.s (.slice none 0 0)]=es at hd;have hl:es.length=k:=by rw[<- hes,List.length_replicate]
 have hg:∀ (i:Nat) (e:List C),(List.replicate k [C.sl 1 []])[i]? = some e->i < k/\e=[C.sl 1 []]:=fun i e he=>by
  rw[List.getElem?_replicate]at he;split at he
  . rename_i q;cases he;exact⟨q,rfl⟩
  . cases he
 have hg2:∀ i,i < k->es[i]? = some [C.s (.slice none 0 0)]:=fun i hi=>by rw[<- hes,List.getElem?_replicate,if_pos hi]
 cases hd with
 | sl0 _ a cap hc=>
  have:k=0:=by simpa using hl.symm
  subst this;exact .d (.sl0 1 a cap hc)
 | sl _ b off cap _ arr ty fz vf hU hb hcap hmax hsz hv hrr=>
  have hk:es.length=(List.replicate k [C.sl 1 []]).length:=by rw[hl,List.length_replicate]
  rw[hk];refine .d (.sl _ b off cap 1 arr ty fz vf hU hb (by rw[<- hk];exact hcap) hmax (fun i e he=>by rw[(hg i e he).2];rfl) (fun i e j c he hj=>?_) (fun i e j c he hj=>?_))
  . obtain⟨h1,rfl⟩:=hg i e he;have hj0:j=0:=by have:=(zi.1 hj).1;simpa using this
    subst hj0;exact hv i _ 0 _ (hg2 i h1) rfl
  . obtain⟨h1,rfl⟩:=hg i e he;have hj0:j=0:=by have:=(zi.1 hj).1;simpa using this
    subst hj0;cases hj;have:=hrr i _ 0 _ (hg2 i h1) rfl;generalize vf i 0=u at *;cases this;exact .sl0 1 none 0 (by simp[maxLen])
theorem Ce {E:Env} {U:Nat->Prop} {h:Array Obj} {cs:List C} {a b:C} {v:Value} (hr:Rep E U h (.agg (cs++[a])) v) (hab:∀ u,Rep E U h a u->Rep E U h b u):Rep E U h (.agg (cs++[b])) v:=by
 cases hr with
 | d hd=>cases hd
 | agg _ vs q1 q2 q3=>
  refine .agg _ vs (by simpa using q1) (fun j c hj=>?_) q3;rw[zS]at hj;split at hj
  . rename_i hlt;exact q2 j c (by rw[zS,if_pos hlt];exact hj)
  . rename_i hlt;have hj0:j=cs.length:=by have:=(zi.1 hj).1;simp at this;omega
    subst hj0;simp at hj;subst hj;exact hab _ (q2 cs.length a (by simp))
theorem FC.post {f:FuncId} {as0:List C} {r r':C} (hfc:FC Tryz.prog f as0 [] r []) (hp:∀ E U h v,Rep E U h r v->Rep E U h r' v):FC Tryz.prog f as0 [] r' []:=
 ⟨hfc.1,fun E U vs w hg ha hi=>(hfc.2 E U vs w hg ha hi).mono fun e w' ⟨v,E',U',he,hr,hc⟩=>⟨v,E',U',he,hp _ _ _ _ hr,hc⟩⟩
theorem B8 (n:Nw) (c:Int) (hn:NwS n):FC Tryz.prog 52 [enc n,enc c] [] (enc (eM n c)) []:=by
 have hb:=hn.c;have key:FC Tryz.prog 52 [enc n,enc c] [] (.agg ([.s (.int .i64 0),.s (.int .i64 0),.s (.int .i64 0),.s (.int .i64 c),.s (.int .i64 (-1)),.s (.int .i64 (-1)),.s (.int .i64 c),.s (.int .i64 0),.s (.int .i64 0)]++[.sl 1 (List.replicate n.cells.length [C.s (.slice none 0 0)])])) []:=by
  refine dD [] is52 (by simp) (by simp[bn]) (by simp[ap,ag]) (by simp[ap,ag]) (by simp[aC]) (fun cx _ _ _=>dC [] 1500 ?_);delta c52 oO oN oA oM oF oL oW oX o0 oZ o4 o7;simp (maxSteps:=9^7) -implicitDefEqProofs only[rv52,eO,yq,yb,InR,WU,V,W3,↓reduceIte,seval,reduceCtorEq];omega
 have e:(n.cells.map fun _=>([]:List Int)).map Dat.cells=List.replicate n.cells.length [C.sl 1 []]:=by
  rw[zT];exact List.map_const' (l:=n.cells) (b:=[C.sl 1 []])
 refine FC.post key (fun E U h v hr=>?_);have:=Ce hr (fun u hu=>nil_els _ hu);rw[qD,eM];simp only[e];exact this
def ent52 : Ent Tryz.prog:=.of2 52 (fun n _=>NwS n) (fun (n:Nw) (c:Int)=>enc (eM n c)) (fun _ _=>xA _) (fun n c h=>B8 n c h)
theorem By (l:List T3) (h:l.length<=1000000):FC Tryz.prog 38 [enc l] [] (enc l) []:=by
 refine eP is38 (by simp) (fun cx hl=>dC [] 800 ?_);delta c38 oO oA oM oX o3;simp (maxSteps:=9^7) -implicitDefEqProofs only[rv38,qf,WU,V,W3,↓reduceIte,seval,reduceCtorEq];omega
def wB : Ent Tryz.prog:=.of1 38 (fun l=>l.length<=1000000) (fun l:List T3=>enc l) (fun _=>trivial) (fun l h=>By l h)
def rpE (n:Nw) (c:Int) (l:List T3):Int×Int:=if 200 < l.length then (0,8)else iH n (eM n c) l 0
def rpS (n:Nw) (c:Int) (l:List T3):Ms:=if (rpE n c l).2=0 then l.foldl (qm n) (eM n c)else ms0
def ent71 (n:Nw) (m:Ms) (e:T3) (hn:NwS n) (net:NetOk n) (g:dN n m):Ent Tryz.prog:=vS 71 [enc n,enc m,enc e] (.tup [enc (wE n m e),enc (fZ n m e)]) (Apply_c n m e hn net g) ⟨xA _,trivial,trivial⟩
theorem BC (n:Nw) (c:Int) (l:List T3) (hn:NwS n) (net:NetOk n) (hc:isC n c=true):FC Tryz.prog 42 [enc n,enc c,enc l] [] (.tup [enc (rpS n c l),enc (rpE n c l).1,enc (rpE n c l).2]) []:=by
 have hdn:=je n;by_cases hl:200 < l.length
 . have hl':(200:Int) < (l.length:Int):=by omega
   have hE:rpE n c l=(0,8):=by rw[rpE,if_pos hl]
   have hS:rpS n c l=ms0:=by rw[rpS,hE];rfl
   rw[hS,hE];refine dD [] is42 (by simp) (by simp[bn]) (by simp[ap,ag]) (by simp[ap,ag]) (by simp[aC]) (fun cx _ _ _=>dC [] 1500 ?_);delta c42 oO oN oA oM oS oK oV oC oW oI oX oB oZ o4 o5 o7;simp (maxSteps:=9^7) -implicitDefEqProofs only[rv42,eO,qD,ms0,hl',WU,V,W3,↓reduceIte,seval,reduceCtorEq]
 . have hl':¬ (200:Int) < (l.length:Int):=by omega
   have hE:rpE n c l=iH n (eM n c) l 0:=by rw[rpE,if_neg hl]
   have hS:rpS n c l=if (iH n (eM n c) l 0).2=0 then l.foldl (qm n) (eM n c)else ms0:=by rw[rpS,hE]
   rw[hS,hE];generalize hR:iH n (eM n c) l 0=R;have g0:=dN.begin net hc;refine dD [] D7.is42 (by simp) (by simp[bn]) (by simp[ap,ag]) (by simp[ap,ag]) (by simp[aC]) (fun cx _ _ _=>dC [ent52] 1500 ?_);delta D7.c42 oO oN oA oM oS oK oV oC oW oI oX oB oZ o4 o5 o7;simp (maxSteps:=9^7) -implicitDefEqProofs only[D7.rv42,ent52,eO,qD,hdn,hn,hl',not_true_eq_false,WU,Ent.of2,V,W3,↓reduceIte,seval,reduceCtorEq];obtain⟨mfw,hmf⟩:∃ mfw:Nat->Ms,∀ i,mfw i=(l.take i).foldl (qm n) (eM n c):=⟨_,fun _=>rfl⟩;have hm0:mfw 0=eM n c:=hmf 0;have hme:mfw l.length=l.foldl (qm n) (eM n c):=by rw[hmf,yo]
   rw[<- hme];rw[<- hm0]at g0 hR;refine fI l.length (fun i=>[(10,.s (.int .i64 (i:Int)))]) (fun i=>[(9,.box [.s (.int .i64 (mfw i).at_),.s (.int .i64 (mfw i).phase),.s (.int .i64 (mfw i).since),.s (.int .i64 (mfw i).serving),.s (.int .i64 (mfw i).target),.s (.int .i64 (mfw i).source),.s (.int .i64 (mfw i).path),.s (.int .i64 (mfw i).fresh),.s (.int .i64 (mfw i).got),.sl 1 ((mfw i).buf.map Dat.cells)])]) (fun i=>dN n (mfw i)/\iH n (mfw i) (l.drop i) (i:Int)=R) ⟨g0,hR⟩ ?_ (fun i hi hv=>?_)
   . simp (maxSteps:=9^7) -implicitDefEqProofs only[hm0,qD,V,W3,↓reduceIte,seval,reduceCtorEq]
     all_goals rfl
   . obtain⟨g,hv⟩:=hv;by_cases h:i < l.length
     . have hi2:(i:Int) < (l.length:Int):=by omega
       have hi0:(0:Int)<=i:=by omega
       have hgd:=u0 l i h;have hd:=fJ (d:=(⟨0,0,0⟩:T3)) h;have hnx:mfw (i+1)=qm n (mfw i) (l.getD i ⟨0,0,0⟩):=by
        rw[hmf,hmf,yI h,List.foldl_append];rw[zb,ze h];rfl
       rw[hd]at hv;generalize l.getD i ⟨0,0,0⟩=e at *;rw[iH]at hv;have eta:(⟨e.x,e.y,e.z⟩:T3)=e:=rfl;refine dC [] 800 ?_;delta D7.c42l1 oO oN oA oM oT oR oS oK oC oW oI oX oB o3 oZ o4 o5 o8;simp (maxSteps:=9^7) -implicitDefEqProofs only[D7.rv42,hi0,hi2,h,hgd,qf,InR,WU,V,W3,↓reduceIte,seval,reduceCtorEq];refine wb [ent71 n (mfw i) e hn net g] 800 [6] ?_;simp (maxSteps:=9^7) -implicitDefEqProofs only[wg,mFin2,wu,lP,oq,ops2,jb,reM2,nQ,p8,p9,l6,finM,kd,gQ,hJ,fY,ff,fO,fO.fixBs,fM,ndE2,ap,ag,av,aU,aE,ke,eL,a6,bF,ent71,vS,eO,qD,dV,hi0,hi2,h,hgd,InR,WU,V,W3,↓reduceIte,seval,reduceCtorEq];refine⟨rfl,?_⟩;refine dC [] 800 ?_;by_cases h0:fZ n (mfw i) e=0
       . rw[if_pos h0]at hv;have hA:wE n (mfw i) e=mfw (i+1):=by rw[hnx,wE,if_neg (by simp[h0])]
         rw[hA];rw[<- hnx]at hv;have g':dN n (mfw (i+1)):=by rw[hnx];exact g.apply net h0
         simp (maxSteps:=9^7) -implicitDefEqProofs only[D7.rv42,h0,not_true_eq_false,WU,V,W3,↓reduceIte,seval,reduceCtorEq];exact⟨by simp only[InR];omega,h,⟨g',by rw[<- hv];congr 1⟩,by omega⟩
       . rw[if_neg h0]at hv;subst hv;simp (maxSteps:=9^7) -implicitDefEqProofs only[D7.rv42,h0,ms0,not_true_eq_false,not_false_eq_true,WU,V,W3,↓reduceIte,seval,reduceCtorEq]
     . have hil:i=l.length:=by omega
       subst hil;have hi2:¬ ((l.length:Nat):Int) < (l.length:Int):=by omega
       rw[List.drop_length]at hv;subst hv;refine dC [] 800 ?_;delta D7.c42l1 oO oN oA oM oT oR oS oK oC oW oI oX oB o3 oZ o4 o5 o8;simp (maxSteps:=9^7) -implicitDefEqProofs only[D7.rv42,hi2,iH,WU,V,W3,↓reduceIte,seval,reduceCtorEq]
theorem xI (n:Nw) (c:Int) (l:List T3):gc n c l=if wa n c≠0 then wa n c else if l.length<=200 then 0 else 8:=by
 unfold gc wa;by_cases h1:(gP n).2=0 <;> cases h2:isC n c <;> by_cases h3:l.length<=200 <;> simp[dS,h1,h3]
theorem Aa (n:Nw) (c:Int) (l:List T3) (h:wa n c≠0):gI n c l=(0,wa n c):=by
 have:gc n c l=wa n c:=by rw[xI,if_pos h]
 rw[gI,this,if_pos h]
theorem yW (n:Nw) (c:Int) (l:List T3) (h:wa n c=0):gI n c l=rpE n c l:=by
 have hf:=xI n c l;rw[if_neg (by simp[h])]at hf;rw[gI,rpE];by_cases h3:l.length<=200
 . rw[if_pos h3]at hf;rw[if_neg (by simp[hf]),if_neg (by omega)]
 . rw[if_neg h3]at hf;rw[if_pos (by simp[hf]),hf,if_pos (by omega)]
theorem cell_ok {n:Nw} {c:Int} (h:wa n c=0):NetOk n/\isC n c=true:=by
 unfold wa at h;by_cases h1:(gP n).2=0
 . rw[if_neg (by simp[h1])]at h;cases h2:isC n c
   . simp[h2]at h
   . exact⟨qS h1,rfl⟩
 . rw[if_pos h1]at h;exact absurd h h1
theorem rpE_ok {n:Nw} {c:Int} {l:List T3} (h:(rpE n c l).2=0):rpE n c l=(0,0)/\l.length<=200/\(iH n (eM n c) l 0).2=0:=by
 unfold rpE at h ⊢;by_cases h3:200 < l.length
 . rw[if_pos h3]at h;cases h
 . rw[if_neg h3]at h ⊢;exact⟨xM n l _ 0 h,by omega,h⟩
theorem yX (n:Nw) (c:Int) (log:List T3) (hn:NwS n):FC Tryz.prog 56 [enc n,enc c,enc log] [] (.tup (if (gI n c log).2=0 then [enc (lu n c log).longest,enc (0:Int)]else [enc (0:Int),enc (gI n c log).2])) []:=by
 have hdn:=je n;obtain⟨p,hp⟩:∃ p,lu n c log=p:=⟨_,rfl⟩;obtain⟨⟨i,e⟩,hR⟩:∃ R,gI n c log=R:=⟨_,rfl⟩;rw[hR,hp];by_cases h:e=0
 . subst h;rw[if_pos rfl];refine dD [] is56 (by simp) (by simp[bn]) (by simp[ap,ag]) (by simp[ap,ag]) (by simp[aC]) (fun cx _ hl _=>dC [nA n c log p hn (by rw[hR]) hp] 1500 ?_);delta c56 oO oN oM oS oK oF oL oV oC oI oX oB o5 o6 o7 o8;simp (maxSteps:=9^7) -implicitDefEqProofs only[rv56,nA,eO,phY,phC,fB,not_true_eq_false,WU,V,W3,↓reduceIte,seval,reduceCtorEq]
 . rw[if_neg h];refine dD [] is56 (by simp) (by simp[bn]) (by simp[ap,ag]) (by simp[ap,ag]) (by simp[aC]) (fun cx _ hl _=>dC [nz n c log i e hn h hR] 1500 ?_);delta c56 oO oN oM oS oK oF oL oV oC oI oX oB o5 o6 o7 o8;simp (maxSteps:=9^7) -implicitDefEqProofs only[rv56,nz,eO,h,not_true_eq_false,not_false_eq_true,WU,V,W3,↓reduceIte,seval,reduceCtorEq]
theorem B7 (n:Nw) (c:Int) (l:List T3) (hn:NwS n):FC Tryz.prog 53 [enc n,enc c,enc l] [] (enc (gI n c l).2) []:=by
 have hdn:=je n;by_cases hd:wa n c=0
 rotate_left
 . rw[Aa n c l hd];refine dD [] is53 (by simp) (by simp[bn]) (by simp[ap,ag]) (by simp[ap,ag]) (by simp[aC]) (fun cx _ _ _=>dC [Aj] 1500 ?_);delta c53 oO oN oA oM oS oK oV oC oW oI oX oB oZ o5 o7 o8;simp (maxSteps:=9^7) -implicitDefEqProofs only[rv53,Aj,eO,hdn,hn,hd,not_true_eq_false,not_false_eq_true,WU,Ent.of2,V,W3,↓reduceIte,seval,reduceCtorEq]
 . obtain⟨net,hc⟩:=cell_ok hd;rw[yW n c l hd];have h42:=BC n c l hn net hc;generalize rpE n c l=R at *;generalize rpS n c l=S at *;refine dD [] is53 (by simp) (by simp[bn]) (by simp[ap,ag]) (by simp[ap,ag]) (by simp[aC]) (fun cx _ _ _=>dC [Aj,vS 42 _ _ h42 ⟨xA _,trivial,trivial,trivial⟩] 1500 ?_);delta c53 oO oN oA oM oS oK oV oC oW oI oX oB oZ o5 o7 o8;simp (maxSteps:=9^7) -implicitDefEqProofs only[rv53,Aj,vS,eO,qD,hdn,hn,hd,not_true_eq_false,not_false_eq_true,WU,Ent.of2,V,W3,↓reduceIte,seval,reduceCtorEq]
theorem Bz (l:List T3) (h:l.length<=1000000):FC Tryz.prog 38 [enc l] [] (.own 3) [(3,.row 3 83 (l.map Dat.cells))]:=by
 refine dD [3] is38 (by simp) (by simp[bn]) (by simp[ap,ag]) (by simp[ap,ag,av]) (by simp[aC,lk]) (fun cx _ hl _=>dC [] 800 ?_);delta c38 oO oA oM oX o3;simp (maxSteps:=9^7) -implicitDefEqProofs only[rv38,qf,InR,WU,V,W3,↓reduceIte,seval,reduceCtorEq];omega
theorem xX {n:Nw} {c:Int} {l:List T3} (h:(gI n c l).2=0):gI n c l=(0,0):=by
 by_cases hd:wa n c=0
 . rw[yW n c l hd]at h ⊢;exact (rpE_ok h).1
 . rw[Aa n c l hd]at h;exact absurd h hd
def xg (l:List T3) (h:l.length<=1000000):Ent Tryz.prog:=vY 38 [enc l] (.own 3) 3 (.row 3 83 (l.map Dat.cells)) (by simp[dG]) (by simp[ge]) (Bz l h)
structure Bst where
 f:Bool
 t:Int
 c:Int
 v:Int
def sgT (r:Rul) (L:List (List Int)) (s:Int) (k:Nat):List Int:=xa r (L.getD s.toNat []) (L.getD k [])
def sgIn (r:Rul) (L:List (List Int)) (s t:Int):Nat->Int
 | 0=>-1
 | k+1=>if (k:Int)≠s/\t∈sgT r L s k/\(sgIn r L s t k < 0\/(L.getD (sgIn r L s t k).toNat []).getD t.toNat 0 < (L.getD k []).getD t.toNat 0)then (k:Int)else sgIn r L s t k
structure SgInv (r:Rul) (L:List (List Int)) (s:Int) (k:Nat) (b:Bst):Prop where
 no:b.f=false->∀ t,sgIn r L s t k=-1
 yes:b.f=true->sgIn r L s b.t k=b.c/\(0<=b.c/\b.c < k)/\b.v=(L.getD b.c.toNat []).getD b.t.toNat 0/\(∀ t,t < b.t->sgIn r L s t k=-1)/\0<=b.t/\b.t < (L.getD s.toNat []).length
theorem AT (b:List (List Int)) (h:BufS b):FC Tryz.prog 60 [enc b] [] (enc b) []:=by
 have:=FC.frz (xF b h) (x:=.sl 1 (b.map Dat.cells)) (by simp[bz,fB];intro a _;rfl);exact this
def ent60 : Ent Tryz.prog:=.of1 60 BufS (fun b:List (List Int)=>enc b) (fun _=>trivial) (fun b h=>AT b h)
def we (f:Int) (seen:List Int):Int->List Int->Int
 |_,[]=>0
 | p,x :: l=>if ¬ (0<=x/\x < f)then 2 else if x<=p then 9 else if x∈seen then 26 else we f seen x l
def pkL (f:Int):List Int->List (List Int)->Int
 |_,[]=>0
 | seen,b :: bs=>if we f seen (-1) b≠0 then we f seen (-1) b else pkL f (seen++b) bs
def rgB (m:Ms):Bool:=decide (0<=m.at_/\m.at_<=1000000000) && decide (0<=m.since/\m.since<=m.at_) && decide (0<=m.fresh/\m.fresh<=1000000) && decide (0<=m.got/\m.got<=m.fresh)
def msB (n:Nw) (m:Ms):Bool:=isC n m.serving && isC n m.path && (decide (m.target=-1) || isC n m.target) && (decide (m.source=-1) || isC n m.source)
def bsyB (m:Ms):Bool:=decide (m.phase=1) || decide (m.phase=2)
def fmB (m:Ms):Bool:=
 !((!decide (m.target=-1) && decide (m.phase=0)) || (decide (m.target=-1) && bsyB m) || (!decide (m.source=-1) && (bsyB m || !decide (m.target=-1))) || (!decide (m.path=m.serving) && (decide (m.source=-1) || !decide (m.path=m.source))))
def clB (n:Nw) (m:Ms):Bool:=(decide (m.target=-1) || nbr n m.target m.serving) && (decide (m.source=-1) || nbr n m.source m.serving)
def stB (n:Nw) (m:Ms):Bool:=!(ed m && decide (m.since+n.limit<=m.at_)) && !(!decide (m.source=-1) && decide (m.path=m.serving) && (dO m m.source).isEmpty)
def wq (m:Ms) (i:Nat):Bool:=(m.buf.getD i []).isEmpty || decide ((i:Int)=m.serving) || decide ((i:Int)=m.source) || (ed m && decide ((i:Int)=m.target))
def wz (m:Ms):Bool:=(List.range m.buf.length).all (wq m)
def wn (l:List Int):Nat->Int->Bool
 | 0,_=>true
 | k+1,a=>decide (a∈l) && wn l k (a+1)
def wI (m:Ms):Bool:=decide (m.fresh - m.got<=60) && wn m.buf.flatten (m.fresh - m.got).toNat m.got
def pkE (m:Ms):Int:=if 60 < m.buf.flatten.length then 8 else if pkL m.fresh [] m.buf≠0 then pkL m.fresh [] m.buf else if wz m=false then 23 else if wI m=false then 14 else 0
def wZ (n:Nw) (m:Ms):Int:=
 if m.buf.length≠n.cells.length then 10
 else if ¬ (0<=m.phase/\m.phase<=3)then 15
 else if rgB m=false then 2
 else if msB n m=false then 6
 else if fmB m=false then 3
 else if clB n m=false then 13
 else if stB n m=false then 22
 else pkE m
theorem wj {c:Prop} [Decidable c] {a b:Int} (ha:a≠0) (h:(if c then a else b)=0):¬ c/\b=0:=by
 by_cases hc:c
 . rw[if_pos hc]at h;exact absurd h ha
 . rw[if_neg hc]at h;exact⟨hc,h⟩
theorem AH {a b:Int} (h:(if a≠0 then a else b)=0):a=0/\b=0:=by
 by_cases hc:a=0
 . rw[if_neg (by simp[hc])]at h;exact⟨hc,h⟩
 . rw[if_pos hc]at h;exact absurd h hc
theorem wU {f:Int} {seen:List Int}:∀ (l:List Int) (p:Int),we f seen p l=0↔(∀ x∈l,(0<=x/\x < f)/\p < x/\x∉seen)/\l.Pairwise (· < ·)
 |[],p=>by simp[we]
 | x :: l,p=>by
  rw[we];constructor
  . intro h;obtain⟨h1,h⟩:=wj (by decide) h;obtain⟨h2,h⟩:=wj (by decide) h;obtain⟨h3,h⟩:=wj (by decide) h;obtain⟨g1,g2⟩:=(wU l x).1 h;refine⟨fun y hy=>?_,yK.2 ⟨fun y hy=>(g1 y hy).2.1,g2⟩⟩;rcases zl.1 hy with rfl | hy
    . exact⟨by omega,by omega,h3⟩
    . have:=g1 y hy;exact⟨this.1,by omega,this.2.2⟩
  . rintro⟨h1,h2⟩
    obtain⟨q1,q2,q3⟩:=h1 x (by simp);rw[yK]at h2;rw[if_neg (fun q=>q q1),if_neg (by omega),if_neg q3];exact (wU l x).2 ⟨fun y hy=>⟨(h1 y (by simp[hy])).1,h2.1 y hy,(h1 y (by simp[hy])).2.2⟩,h2.2⟩
theorem wS {f:Int}:∀ (bs:List (List Int)) (seen:List Int),pkL f seen bs=0↔(∀ x∈bs.flatten,(0<=x/\x < f)/\x∉seen)/\(∀ b∈bs,b.Pairwise (· < ·))/\bs.flatten.Nodup
 |[],seen=>by simp[pkL]
 | b :: bs,seen=>by
  rw[pkL];constructor
  . intro h;obtain⟨h1,h⟩:=AH h;obtain⟨g1,g2⟩:=(wU b _).1 h1;obtain⟨k1,k2,k3⟩:=(wS bs _).1 h;refine⟨fun x hx=>?_,fun c hc=>?_,?_⟩
    . rw[List.flatten_cons,zW]at hx;rcases hx with hx | hx
      . exact⟨(g1 x hx).1,(g1 x hx).2.2⟩
      . exact⟨(k1 x hx).1,fun q=>(k1 x hx).2 (List.mem_append_left _ q)⟩
    . rcases zl.1 hc with rfl | hc
      . exact g2
      . exact k2 c hc
    . rw[List.flatten_cons,List.nodup_append];exact⟨rc g2,k3,fun x hx y hy e=>(k1 y hy).2 (List.mem_append_right _ (e ▸ hx))⟩
  . rintro⟨h1,h2,h3⟩
    rw[List.flatten_cons,List.nodup_append]at h3
    have e:we f seen (-1) b=0:=(wU b _).2 ⟨fun x hx=>by
     have:=h1 x (by rw[List.flatten_cons];exact List.mem_append_left _ hx)
     exact⟨this.1,by omega,this.2⟩,h2 b (by simp)⟩
    rw[if_neg (by simp[e])];refine (wS bs _).2 ⟨fun x hx=>?_,fun c hc=>h2 c (by simp[hc]),h3.2.1⟩;have:=h1 x (by rw[List.flatten_cons];exact List.mem_append_right _ hx);refine⟨this.1,fun q=>?_⟩;rcases zW.1 q with q | q
    . exact this.2 q
    . exact h3.2.2 x q x hx rfl
theorem wQ {l:List Int}:∀ (k:Nat) (a:Int),wn l k a=true↔∀ x,a<=x->x < a+k->x∈l
 | 0,a=>by simp[wn];intro x h1 h2;omega
 | k+1,a=>by
  rw[wn,zm,wQ k,decide_eq_true_eq];constructor
  . rintro⟨h1,h2⟩ x q1 q2
    rcases Int.lt_or_eq_of_le q1 with q | q
    . exact h2 x (by omega) (by push_cast at q2;omega)
    . exact q ▸ h1
  . exact fun h=>⟨h a (Int.le_refl _) (by push_cast;omega),fun x q1 q2=>h x (by omega) (by push_cast;omega)⟩
theorem xj {m:Ms}:wz m=true↔∀ i:Nat,m.buf.getD i []≠[]->(i:Int)=m.serving\/(i:Int)=m.source\/(ed m=true/\(i:Int)=m.target):=by
 rw[wz,zx];constructor
 . intro h i hi;have hl:i < m.buf.length:=by
    rcases yu i m.buf.length with q | q
    . exact q
    . rw[zb,List.getElem?_eq_none q]at hi;exact absurd rfl hi
   have:=h i (zE.2 hl);simp only[wq,zV,zm,decide_eq_true_eq,List.isEmpty_iff]at this;rcases this with ((q | q) | q) | q
   . exact absurd q hi
   . exact .inl q
   . exact .inr (.inl q)
   . exact .inr (.inr q)
 . intro h i _;simp only[wq,zV,zm,decide_eq_true_eq,List.isEmpty_iff];rcases Classical.em (m.buf.getD i []=[])with q | q
   . exact .inl (.inl (.inl q))
   . rcases h i q with q | q | q
     . exact .inl (.inl (.inr q))
     . exact .inl (.inr q)
     . exact .inr q
theorem Cr {n:Nw} {m:Ms} (h:wZ n m=0):dN n m:=by
 unfold wZ at h;obtain⟨h1,h⟩:=wj (by decide) h;obtain⟨h2,h⟩:=wj (by decide) h;obtain⟨h3,h⟩:=wj (by decide) h;obtain⟨h4,h⟩:=wj (by decide) h;obtain⟨h5,h⟩:=wj (by decide) h;obtain⟨h6,h⟩:=wj (by decide) h;obtain⟨h7,h⟩:=wj (by decide) h;unfold pkE at h;obtain⟨h8,h⟩:=wj (by decide) h;obtain⟨h9,h⟩:=AH h;obtain⟨h10,h⟩:=wj (by decide) h;obtain⟨h11,h⟩:=wj (by decide) h;clear h;obtain⟨p1,p2,p3⟩:=(wS _ _).1 h9;have h1':m.buf.length=n.cells.length:=Classical.not_not.1 h1;have h2':0<=m.phase/\m.phase<=3:=Classical.not_not.1 h2;replace h3:rgB m=true:=by simpa using h3
 simp only[rgB,zm,decide_eq_true_eq]at h3;replace h4:msB n m=true:=by simpa using h4
 simp only[msB,zm,zV,decide_eq_true_eq]at h4;replace h5:fmB m=true:=by simpa using h5
 simp only[fmB,bsyB,yC,zm,zV,Bool.and_eq_false_iff,Bool.or_eq_false_iff,Bool.not_eq_false',decide_eq_true_eq,decide_eq_false_iff_not]at h5;replace h6:clB n m=true:=by simpa using h6
 simp only[clB,zm,zV,decide_eq_true_eq]at h6;replace h7:stB n m=true:=by simpa using h7
 simp only[stB,yC,zm,Bool.and_eq_false_iff,Bool.not_eq_false',decide_eq_true_eq,decide_eq_false_iff_not,List.isEmpty_eq_false_iff]at h7;have h10':=xj.1 (by simpa using h10);have h11':wI m=true:=by simpa using h11
 simp only[wI,zm,decide_eq_true_eq,wQ]at h11';obtain⟨⟨⟨a1,a2⟩,a3⟩,a4⟩:=h3;obtain⟨⟨⟨b1,b2⟩,b3⟩,b4⟩:=h4;obtain⟨⟨⟨c1,c2⟩,c3⟩,c4⟩:=h5;refine⟨⟨h1',h2',a1,a2,a3,a4,b1,b2,fun q=>?_,fun q=>?_,fun q=>?_,fun q=>?_,fun q=>?_,fun q=>?_,fun q=>?_,fun q=>?_,fun q=>?_,by omega,fun x hx=>(p1 x hx).1,p2,p3,h10',fun x q1 q2=>h11'.2 x q1 (by omega)⟩,fun q1 q2=>?_⟩
 . rcases b3 with r | r
   . exact absurd r q
   . exact r
 . rcases b4 with r | r
   . exact absurd r q
   . exact r
 . rcases c1 with r | r
   . exact absurd r q
   . exact r
 . rcases c2 with r | r
   . exact absurd q r
   . exact r
 . rcases c3 with r | r
   . exact absurd r q
   . exact⟨r.1.1,r.1.2,r.2⟩
 . rcases c4 with r | r
   . exact absurd r q
   . exact r
 . rcases h6.1 with r | r
   . exact absurd r q
   . exact r
 . rcases h6.2 with r | r
   . exact absurd r q
   . exact r
 . rcases h7.1 with r | r
   . rw[q]at r;cases r
   . omega
 . rcases h7.2 with (r | r) | r
   . exact absurd r q1
   . exact absurd q2 r
   . exact r
end Go.Proofs.YtcbabnbiinkafaaGreatDoor
end
