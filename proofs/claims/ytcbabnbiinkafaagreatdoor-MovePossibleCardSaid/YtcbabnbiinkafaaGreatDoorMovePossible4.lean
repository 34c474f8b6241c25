/- Part 4 of the proof of: MovePossible returns true for every input and never panics: the events that are possible at a time are those of the reference, or the same error, and Apply accepts each of them; conditions: those of the given statement. -/
import Derived.Test.YtcbabnbiinkafaaGreatDoorMovePossible3
set_option linter.all false
section
open Go Go.Am
open Go.Am.Dat (cells)
namespace Go.Proofs.YtcbabnbiinkafaaGreatDoor
set_option maxHeartbeats 4000000
set_option maxRecDepth 100000
theorem Cl (n:Nw) (m:Ms) (hn:NwS n) (hm:MsB m) (E:Int) (hE:opE n m=E) (r:C) (ch:Chs)
 (hok:E=0->r=.tup [.ptr 30 0,enc (0:Int)]/\ch=phY n (opP m) 30 1030)
 (her:E≠0->r=.tup [.s (.pointer none),enc E]/\ch=[])
 (hn1:an (ag ch)) (hkd:aB [] ch):FC Tryz.prog 113 [enc n,enc m] [] r ch:=by
 have hdn:=gO n;have hdm:=xj m;have hb:=hn.c;have hml:=hm.l;have hF:dM [(eW n).2,if (m.buf.length:Int)=(n.cells.length:Int)then 0 else 10]=if (eW n).2≠0 then (eW n).2 else if m.buf.length≠n.cells.length then 10 else 0:=by
  by_cases h1:(eW n).2=0 <;> by_cases h2:m.buf.length=n.cells.length
  . simp[dM,h1,h2]
  . have h2':¬ (m.buf.length:Int)=(n.cells.length:Int):=by omega
    simp[dM,h1,h2,h2']
  . simp[dM,h1,h2]
  . simp[dM,h1,h2]
 have key:E=(if (eW n).2≠0 then (eW n).2 else if m.buf.length≠n.cells.length then 10 else 0)/\E≠0\/(dM [(eW n).2,if (m.buf.length:Int)=(n.cells.length:Int)then 0 else 10]=0/\(eW n).2=0/\m.buf.length=n.cells.length):=by
  unfold opE Ad at hE;by_cases h1:(eW n).2=0
  . by_cases h2:m.buf.length=n.cells.length
    . right;rw[hF,if_neg (by simp[h1]),if_neg (by simp[h2])];exact⟨rfl,h1,h2⟩
    . left;rw[if_neg (by simp[h1]),if_pos h2]at hE;rw[if_neg (by simp[h1]),if_pos h2];subst hE;exact⟨rfl,by decide⟩
  . left;rw[if_pos h1]at hE;rw[if_pos h1];subst hE;exact⟨rfl,h1⟩
 refine dD [1030] E2.is113 (by simp) (by simp[bk]) (by simp[an,ag]) hn1 hkd (fun cx _ hl _=>dC [jq,eZ,dT,dS] 1500 ?_);rcases key with⟨hE1,h0⟩ | ⟨h0,h1,h2⟩
 . rw[<- hF]at hE1;obtain⟨rfl,rfl⟩:=her h0;delta E2.c113 oO oN oA oM oT oG oQ oS oK oF oL oV oC oW oY oI oX oP oB oE oJ o1 o4 o5 o6 o7;simp (maxSteps:=9^7) -implicitDefEqProofs only[E2.rv113,ed,kN,hdn,hn,jq,eZ,dT,dS,InR,not_true_eq_false,not_false_eq_true,WU,Ent.of1,Ent.of2,Ent.of3,V,W3,↓reduceIte,seval,reduceCtorEq];rw[<- hE1,if_pos h0]
 unfold opE Ad at hE;rw[if_neg (by simp[h1]),if_neg (by simp[h2])]at hE;delta E2.c113 oO oN oA oM oT oG oQ oS oK oF oL oV oC oW oY oI oX oP oB oE oJ o1 o4 o5 o6 o7;simp (maxSteps:=9^7) -implicitDefEqProofs only[E2.rv113,ed,kN,hdn,hn,jq,eZ,dT,dS,InR,not_true_eq_false,not_false_eq_true,WU,Ent.of1,Ent.of2,Ent.of3,V,W3,↓reduceIte,seval,reduceCtorEq];rw[h0,if_neg (fun q=>q rfl)];obtain⟨p0,hp0⟩:∃ p0,gz n 0=p0:=⟨_,rfl⟩;refine nz [uz n 0 p0 hn hp0] 1500 ?_;simp (maxSteps:=9^7) -implicitDefEqProofs only[E2.rv113,uz,ed,phY,phC,WU,V,W3,↓reduceIte,seval,reduceCtorEq];refine uc 1030 30 9 (c0:=.deep 1 3 24 none []) (by decide) (by decide) rfl rfl rfl ?_;refine eN m.buf.length (fun i=>[(42,.s (.int .i64 (i:Int)))]) (fun i=>[(1030,.deep 1 3 24 none (fP (m.buf.take i)))]) (fun _=>True) trivial ?_ (fun i hi _=>?_)
 . simp (maxSteps:=9^7) -implicitDefEqProofs only[ox,V,W3,↓reduceIte,seval,reduceCtorEq]
   all_goals rfl
 . by_cases hlt:i < m.buf.length
   . have hi2:(i:Int) < (m.buf.length:Int):=by omega
     have hi0:(0:Int)<=i:=by omega
     have hgx:List.getD (m.buf.map Dat.cells) i [C.sl 0 []]=[C.sl 1 ((m.buf.getD i []).map Dat.cells)]:=by
      rw[zb,zb,zh,ze hlt];rfl
     have hx:=hm.r _ (yy hlt);have hgd:m.buf.getD i []=m.buf[i]:=by rw[zb,ze hlt];rfl
     have hap:fP (m.buf.take i)++[(m.buf.getD i []).map Dat.cells]=fP (m.buf.take (i+1)):=by
      rw[hgd,yI hlt,fP,fP,yg];rfl
     have hlen:(m.buf.take i).length=i:=by rw[List.length_take];omega
     rw[<- hgd]at hx;refine dC [] 800 ?_;delta E2.c113l1 oO oN oA oM oT oR oS oK oF oL oC oX oB o0 o6;simp (maxSteps:=9^7) -implicitDefEqProofs only[ox,hi0,hi2,hlt,hgx,InR,WU,V,W3,↓reduceIte,seval,reduceCtorEq];refine qZ [BM (m.buf.getD i []) (by omega)] 800 ?_;simp (maxSteps:=9^7) -implicitDefEqProofs only[gL,mFin2,ml,pF,ops2,jo,reM2,oU,qO,qP,mE,finM,kE,ia,ip,gh,ft,fW,fW.fixBs,fV,ndE2,an,ag,av,aU,aF,kF,eQ,a6,bF,BM,xv,eu,hlen,InR,WU,V,W3,↓reduceIte,seval,reduceCtorEq];refine⟨rfl,⟨by omega,by omega⟩,dC [] 600 ?_⟩;simp (maxSteps:=9^7) -implicitDefEqProofs only[hap,WU,V,W3,↓reduceIte,seval,reduceCtorEq];refine⟨by simp only[InR];omega,hlt,by omega⟩
   . have hi2:¬ (i:Int) < (m.buf.length:Int):=by omega
     have htk:m.buf.take i=m.buf:=List.take_of_length_le (by omega);have e0:p0=⟨eR n 0,[],[⟨0,0,0⟩],-1,0⟩:=hp0.symm;subst e0;have ht:eM m.at_=decide (0<=m.at_/\m.at_<=1000000000):=rfl;refine dC [iQ,eZ] 800 ?_;have hgo:(0<=m.phase/\m.phase<=3)->rgB m=true->msB n m=true->fmB m=true->SG Tryz.prog cx (cB [RV.tmp 4,RV.tmp 5] [1030] r ch) [It.c E2.c113k2.cut] ⟨[(3,.ptr 3 0),(7,.ptr 7 0),(13,.fn (.func 147) [] [.ptr 7 0])],chO n m⟩:=fun p1 p2 p3 p4=>by
      rw[if_neg (fun q=>q p1),if_neg (by simp[p2]),if_neg (by simp[p3]),if_neg (by simp[p4])]at hE;exact open_2 n m hn hm (rS h1) h2 cx E r ch p2 p3 hE hok her
     have hop:=open_1 n m hn hm cx E r ch hE her hgo;have hc:((0<=m.at_/\m.at_<=1000000000)=False/\rgB m=false)\/((0<=m.at_/\m.at_<=1000000000)=True/\(0<=m.since/\m.since<=m.at_)=False/\rgB m=false)\/((0<=m.at_/\m.at_<=1000000000)=True/\(0<=m.since/\m.since<=m.at_)=True/\(0<=m.fresh/\m.fresh<=1000000)=False/\rgB m=false)\/((0<=m.at_/\m.at_<=1000000000)=True/\(0<=m.since/\m.since<=m.at_)=True/\(0<=m.fresh/\m.fresh<=1000000)=True/\rgB m=decide (0<=m.got/\m.got<=m.fresh)):=by
      rcases Classical.propComplete (0<=m.at_/\m.at_<=1000000000)with g1 | g1 <;> rcases Classical.propComplete (0<=m.since/\m.since<=m.at_)with g2 | g2 <;> rcases Classical.propComplete (0<=m.fresh/\m.fresh<=1000000)with g3 | g3 <;> simp[rgB,g1,g2,g3]
     rcases hc with⟨g1,g4⟩ | ⟨g1,g2,g4⟩ | ⟨g1,g2,g3,g4⟩ | ⟨g1,g2,g3,g4⟩
     . rw[g4]at hop;delta E2.c113l1 oO oN oA oM oT oR oS oK oF oL oC oX oB o0 o6;simp (maxSteps:=9^7) -implicitDefEqProofs only[E2.rv113,ox,hi2,htk,iQ,eZ,ht,g1,WU,Ent.of1,Ent.of3,V,W3,↓reduceIte,seval,reduceCtorEq];exact hop
     . rw[g4]at hop;delta E2.c113l1 oO oN oA oM oT oR oS oK oF oL oC oX oB o0 o6;simp (maxSteps:=9^7) -implicitDefEqProofs only[E2.rv113,ox,hi2,htk,iQ,eZ,ht,g1,g2,WU,Ent.of1,Ent.of3,V,W3,↓reduceIte,seval,reduceCtorEq];exact hop
     . rw[g4]at hop;delta E2.c113l1 oO oN oA oM oT oR oS oK oF oL oC oX oB o0 o6;simp (maxSteps:=9^7) -implicitDefEqProofs only[E2.rv113,ox,hi2,htk,iQ,eZ,ht,g1,g2,g3,WU,Ent.of1,Ent.of3,V,W3,↓reduceIte,seval,reduceCtorEq];exact hop
     . rw[g4]at hop;delta E2.c113l1 oO oN oA oM oT oR oS oK oF oL oC oX oB o0 o6;simp (maxSteps:=9^7) -implicitDefEqProofs only[E2.rv113,ox,hi2,htk,iQ,eZ,ht,g1,g2,g3,WU,Ent.of1,Ent.of3,V,W3,↓reduceIte,seval,reduceCtorEq];exact hop
theorem open_ok (n:Nw) (m:Ms) (hn:NwS n) (hm:MsB m) (h:opE n m=0):FC Tryz.prog 113 [enc n,enc m] [] (.tup [.ptr 30 0,enc (0:Int)]) (phY n (opP m) 30 1030):=
 Cl n m hn hm 0 h _ _ (fun _=>⟨rfl,rfl⟩) (fun q=>absurd rfl q) (by simp[phY,an,ag,av]) (by simp[phY,aB,lk])
theorem open_no (n:Nw) (m:Ms) (hn:NwS n) (hm:MsB m) (h:opE n m≠0):FC Tryz.prog 113 [enc n,enc m] [] (.tup [.s (.pointer none),enc (opE n m)]) []:=
 Cl n m hn hm _ rfl _ _ (fun q=>absurd q h) (fun _=>⟨rfl,rfl⟩) (by simp[an,ag]) (by simp[aB])
def yU (n:Nw) (m:Ms) (hn:NwS n) (hm:MsB m) (h:opE n m=0):Ent Tryz.prog:=.mk3 113 (fun args chs=>some (args=[enc n,enc m]/\chs=[],.tup [.ptr 30 0,enc (0:Int)],phY n (opP m) 30 1030,[30,1030])) (by
 intro args chs pp r chs' nk hs hq;simp only[zn,zf]at hs;obtain⟨rfl,rfl,rfl,rfl⟩:=hs;obtain⟨rfl,rfl⟩:=hq;refine⟨open_ok n m hn hm h,⟨fun k c hm=>.inl ?_,fun k cs hm=>(by simp at hm),?_,fun k c hm=>?_⟩⟩
 . simp only[phY,zl,zA,or_false,zf]at hm ⊢;rcases hm with⟨rfl,rfl⟩ | ⟨rfl,rfl⟩
   . exact .inl rfl
   . exact .inr rfl
 . simp only[phY,zt,zR,dF,dF.keysIns];exact⟨by simp,trivial,trivial⟩
 . simp only[phY,zl,zA,or_false,zf]at hm;rcases hm with⟨rfl,rfl⟩ | ⟨rfl,rfl⟩
   . simp[phY,gm,phC,dF,dF.keysIns]
   . simp[gm])
def Af (n:Nw) (m:Ms) (e:Int) (hn:NwS n) (hm:MsB m) (h:e≠0) (hp:opE n m=e):Ent Tryz.prog:=.mk3 113 (fun args chs=>some (args=[enc n,enc m]/\chs=[],.tup [.s (.pointer none),enc e],[],[])) (by
 intro args chs pp r chs' nk hs hq;simp only[zn,zf]at hs;obtain⟨rfl,rfl,rfl,rfl⟩:=hs;obtain⟨rfl,rfl⟩:=hq;have:=open_no n m hn hm (by rw[hp];exact h);rw[hp]at this
 exact⟨this,⟨fun k c hm=>(by simp at hm),fun k cs hm=>(by simp at hm),⟨trivial,trivial,trivial⟩,fun k c hm=>(by simp at hm)⟩⟩)
theorem Bh (n:Nw) (m:Ms) (hn:NwS n) (hm:MsB m):FC Tryz.prog 64 [enc n,enc m] [] (enc (opE n m)) []:=by
 by_cases h:opE n m=0
 . rw[h];refine dD [] is64 (by simp) (by simp[bk]) (by simp[an,ag]) (by simp[an,ag]) (by simp[aB]) (fun cx _ hl _=>dC [yU n m hn hm h] 1500 ?_);delta c64 oO oM oV oC oX o5 o7 o8;simp (maxSteps:=9^7) -implicitDefEqProofs only[rv64,yU,ed,kN,phY,phC,opP,WU,V,W3,↓reduceIte,seval,reduceCtorEq]
 . obtain⟨e,he⟩:∃ e,opE n m=e:=⟨_,rfl⟩;rw[he];refine dD [] is64 (by simp) (by simp[bk]) (by simp[an,ag]) (by simp[an,ag]) (by simp[aB]) (fun cx _ hl _=>dC [Af n m e hn hm (he ▸ h) he] 1500 ?_);delta c64 oO oM oV oC oX o5 o7 o8;simp (maxSteps:=9^7) -implicitDefEqProofs only[rv64,Af,ed,kN,WU,V,W3,↓reduceIte,seval,reduceCtorEq]
theorem Bw {n:Nw} {m:Ms} (h:opE n m=0):NetOk n/\dP n m:=by
 unfold opE at h;obtain⟨h1,h2⟩:=Bs h;exact⟨rS h1,CC h2⟩
def apE (n:Nw) (m:Ms) (e:T3):Int:=if opE n m≠0 then opE n m else gi n m e
def apS (n:Nw) (m:Ms) (e:T3):Ms:=if apE n m e≠0 then ms0 else rf n m e
theorem PhK.op (m:Ms):PhK 0 (opP m):=⟨by simp[opP],by simp[opP],by simp[opP],by simp[opP]⟩
theorem As (n:Nw) (m:Ms) (e:T3) (hn:NwS n) (hm:MsB m):FC Tryz.prog 69 [enc n,enc m,enc e] [] (.tup [enc (apS n m e),enc (apE n m e)]) []:=by
 by_cases h:opE n m=0
 . obtain⟨net,g⟩:=Bw h;obtain⟨q,hq,hq2⟩:=apply_c n (opP m) e 0 hn net g (PhK.op m) (by omega);have hE:gi n (opP m).m e=apE n m e:=by unfold apE;rw[if_neg (by simp[h])];rfl
   rw[hE]at hq hq2;refine dD [] is69 (by simp) (by simp[bk]) (by simp[an,ag]) (by simp[an,ag]) (by simp[aB]) (fun cx _ hl _=>dC [yU n m hn hm h,eq 118 n (opP m) q [.ptr 100000 0,enc e] (enc (apE n m e)) trivial hq] 1500 ?_);unfold apS;generalize apE n m e=E at *;by_cases h0:E=0
   . subst h0;have hS:rf n m e=q.m:=by rw[hq2 rfl,rc];rfl
     rw[if_neg (fun q=>q rfl),hS];delta c69 oO oN oA oM oR oS oK oF oV oC oW oI oX oB oZ o5 o6 o7 o8;simp (maxSteps:=9^7) -implicitDefEqProofs only[rv69,yU,eq,ed,kN,dY,phX,phY,phC,opP,not_true_eq_false,not_false_eq_true,WU,V,W3,↓reduceIte,seval,reduceCtorEq];rw[fP,zT];rfl
   . rw[if_pos h0];delta c69 oO oN oA oM oR oS oK oF oV oC oW oI oX oB oZ o5 o6 o7 o8;simp (maxSteps:=9^7) -implicitDefEqProofs only[rv69,yU,eq,ed,kN,dY,phX,phY,phC,opP,ms0,h0,not_true_eq_false,not_false_eq_true,WU,V,W3,↓reduceIte,seval,reduceCtorEq]
 . obtain⟨E,he⟩:∃ e,opE n m=e:=⟨_,rfl⟩;have he1:apE n m e=E:=by unfold apE;rw[if_pos h];exact he
   unfold apS;rw[he]at h;rw[he1,if_pos h];refine dD [] is69 (by simp) (by simp[bk]) (by simp[an,ag]) (by simp[an,ag]) (by simp[aB]) (fun cx _ hl _=>dC [Af n m E hn hm h he] 1500 ?_);delta c69 oO oN oA oM oR oS oK oF oV oC oW oI oX oB oZ o5 o6 o7 o8;simp (maxSteps:=9^7) -implicitDefEqProofs only[rv69,Af,ed,kN,dY,ms0,h,not_true_eq_false,not_false_eq_true,WU,V,W3,↓reduceIte,seval,reduceCtorEq]
theorem Az : ∀ (l:List (List Int)) (v:Int) (i:Nat),(0<=xq v i l)↔v∈l.flatten
 |[],v,i=>by simp[xq]
 | r :: l,v,i=>by
  rw[xq,List.flatten_cons,zW];by_cases h:(r.any fun x=>decide (x=v))=true
  . rw[if_pos h];simp only[List.any_eq_true,decide_eq_true_eq]at h;obtain⟨x,hx,rfl⟩:=h;exact⟨fun _=>.inl hx,fun _=>Int.natCast_nonneg _⟩
  . rw[if_neg h,Az l v (i+1)];simp only[List.any_eq_true,decide_eq_true_eq]at h;exact⟨fun q=>.inr q,fun q=>q.resolve_left fun q=>h ⟨v,q,rfl⟩⟩
theorem where_k (m:Ms) (k v:Int) (h1:m.buf.length<=1000000) (h2:0<=k) (h3:k<=m.buf.length):FC Tryz.prog 117 [enc m,enc k,enc v] [] (enc (xq v 0 (m.buf.take k.toNat))) []:=by
 obtain⟨j,rfl⟩:=Int.eq_ofNat_of_zero_le h2;exact where_c m j v h1 (by omega)
def xN : Ent Tryz.prog:=.of3 117 (fun (m:Ms) (k _:Int)=>m.buf.length<=1000000/\0<=k/\k<=m.buf.length) (fun (m:Ms) (k v:Int)=>enc (xq v 0 (m.buf.take k.toNat))) (fun _ _ _=>trivial) (fun m k v h=>where_k m k v h.1 h.2.1 h.2.2)
def chR (n:Nw) (m:Ms):Chs:=[(3,.box (msD m)),(2,.box [.sl 1 (n.cells.map Dat.cells),.sl 2 (n.nb.map Dat.cells),.s (.int .i64 n.limit)])]
theorem rst_5 (n:Nw) (m:Ms) (hm:MsB m) (hf:0<=m.fresh/\m.fresh<=1000000) (hg:0<=m.got/\m.got<=m.fresh) (cx:Cx) (E:Int) (hE:(if yP m=false then 14 else 0)=E):SG Tryz.prog cx (cB [RV.tmp 4] [] (enc E) []) [It.c E4.c67k5.cut] ⟨[(3,.ptr 3 0)],chR n m⟩:=by
 have hml:=hm.l;have hdm:=xj m;refine iw (dC [] 500 ?_);obtain⟨K,hK⟩:∃ K,(m.fresh - m.got).toNat=K:=⟨_,rfl⟩;unfold yP at hE;rw[hK]at hE;by_cases h60:m.fresh - m.got<=60
 . have h60':¬ (m.fresh - m.got > 60):=by omega
   delta E4.c67k5 oO oN oM oS oK oF oL oV oI oX oB;simp (maxSteps:=9^7) -implicitDefEqProofs only[E4.rv67,chR,msD,h60',not_true_eq_false,not_false_eq_true,InR,WU,V,W3,↓reduceIte,seval,reduceCtorEq];refine⟨by omega,?_⟩;simp only[h60,decide_true,zY]at hE;refine eN K (fun i=>[(12,.s (.int .i64 (m.got+(i:Int))))]) (fun _=>[]) (fun i=>xD m.buf.flatten K m.got=xD m.buf.flatten (K - i) (m.got+i)) (by simp) ?_ (fun i hi hv=>dC [xN] 800 ?_)
   . simp (maxSteps:=9^7) -implicitDefEqProofs only[V,W3,↓reduceIte,seval,reduceCtorEq]
     all_goals simp
   . by_cases h:i < K
     . have hi2:m.got+(i:Int) < m.fresh:=by omega
       have hk1:K - i=(K - (i+1))+1:=by omega
       rw[hk1,xD]at hv;have hw:=Az m.buf (m.got+(i:Int)) 0;have htk:m.buf.take m.buf.length=m.buf:=yo;have hle:=eq_true (Int.le_refl (m.buf.length:Int));have hl0:(0:Int)<=(m.buf.length:Int):=by omega
       by_cases hx:(m.got+(i:Int))∈m.buf.flatten
       . have hw2:¬ (xq (m.got+(i:Int)) 0 m.buf < 0):=by have:=hw.2 hx;omega
         simp only[hx,decide_true,zY]at hv;delta E4.c67l4 oO oN oM oR oS oK oF oL oV oC oI oX oB o4 o5;simp (maxSteps:=9^7) -implicitDefEqProofs only[E4.rv67,xN,kN,hdm,hi2,hml,htk,hl0,hle,hw2,not_true_eq_false,not_false_eq_true,InR,WU,Ent.of3,V,W3,↓reduceIte,seval,reduceCtorEq];exact⟨⟨by omega,by omega⟩,h,by rw[hv,show ((i+1:Nat):Int)=(i:Int)+1 by omega,<- Int.add_assoc],by omega⟩
       . have hw2:xq (m.got+(i:Int)) 0 m.buf < 0:=by
          have:¬ (0<=xq (m.got+(i:Int)) 0 m.buf):=fun q=>hx (hw.1 q)
          omega
         simp only[hx,decide_false,z7]at hv;rw[hv]at hE;subst hE;delta E4.c67l4 oO oN oM oR oS oK oF oL oV oC oI oX oB o4 o5;simp (maxSteps:=9^7) -implicitDefEqProofs only[E4.rv67,xN,kN,hdm,hi2,hml,htk,hl0,hle,hw2,not_true_eq_false,not_false_eq_true,InR,WU,Ent.of3,V,W3,↓reduceIte,seval,reduceCtorEq]
     . have hie:i=K:=by omega
       subst hie;have hi2:¬ m.got+(i:Int) < m.fresh:=by omega
       rw[show i - i=0 by omega,xD]at hv;rw[hv]at hE;subst hE;delta E4.c67l4 oO oN oM oR oS oK oF oL oV oC oI oX oB o4 o5;simp (maxSteps:=9^7) -implicitDefEqProofs only[E4.rv67,hi2,InR,WU,V,W3,↓reduceIte,seval,reduceCtorEq]
 . have h60':m.fresh - m.got > 60:=by omega
   simp only[h60,decide_false,z7]at hE;subst hE;delta E4.c67k5 oO oN oM oS oK oF oL oV oI oX oB;simp (maxSteps:=9^7) -implicitDefEqProofs only[E4.rv67,chR,msD,h60',not_true_eq_false,not_false_eq_true,InR,WU,V,W3,↓reduceIte,seval,reduceCtorEq];omega
theorem rst_6 (n:Nw) (m:Ms) (hm:MsB m) (hf:0<=m.fresh/\m.fresh<=1000000) (hg:0<=m.got/\m.got<=m.fresh) (cx:Cx) (E:Int) (tgw srw:Bool) (htg:tgw=!decide (m.target=-1)) (hsr:srw=!decide (m.source=-1)) (hE:(if xQ m=false then 23 else if yP m=false then 14 else 0)=E):SG Tryz.prog cx (cB [RV.tmp 4] [] (enc E) []) [It.c E4.c67k6.cut] ⟨[(3,.ptr 3 0),(5,.s (.bool tgw)),(6,.s (.bool srw))],chR n m⟩:=by
 have hml:=hm.l;have hdm:=xj m;refine iw (dC [] 500 ?_);delta E4.c67k6 oS oK oV oX;simp (maxSteps:=9^7) -implicitDefEqProofs only[E4.rv67,chR,msD,InR,WU,V,W3,↓reduceIte,seval,reduceCtorEq];refine eN m.buf.length (fun i=>[(11,.s (.int .i64 (i:Int)))]) (fun _=>[]) (fun i=>∀ j,j < i->xE m j=true) (fun j hj=>absurd hj (by omega)) ?_ (fun i hi hv=>dC [xf] 800 ?_)
 . simp (maxSteps:=9^7) -implicitDefEqProofs only[V,W3,↓reduceIte,seval,reduceCtorEq]
   all_goals simp
 . by_cases h:i < m.buf.length
   . have hi2:(i:Int) < (m.buf.length:Int):=by omega
     have hi0:(0:Int)<=i:=by omega
     have hgx:List.getD (m.buf.map Dat.cells) i [C.sl 0 []]=[C.sl 1 ((m.buf.getD i []).map Dat.cells)]:=by
      rw[zb,zb,zh,ze h];rfl
     have hopn:xE m i=((m.buf.getD i []).isEmpty || decide ((i:Int)=m.serving) || decide ((i:Int)=m.source) || (ej m && decide ((i:Int)=m.target))):=rfl;have hnx:xE m i=true->∀ j,j < i+1->xE m j=true:=fun q j hj=>by
      rcases Nat.lt_or_eq_of_le (Nat.lt_succ_iff.1 hj)with q2 | q2
      . exact hv j q2
      . rw[q2];exact q
     have hbad:xE m i=false->E=23:=fun q=>by
      have:xQ m=false:=by
       cases h2:xQ m with
       | false=>rfl
       | true=>
        rw[xQ,zx]at h2;rw[h2 i (zE.2 h)]at q;cases q
      rw[this]at hE;exact hE.symm
     generalize m.buf.getD i []=q at *;have hc:(q=[]/\xE m i=true)\/((0 < (q.length:Int))=True/\(((i:Int)=m.serving)=True/\xE m i=true\/(((i:Int)=m.serving)=False/\((srw=true/\((i:Int)=m.source)=True/\xE m i=true)\/(((srw=true/\((i:Int)=m.source)=False)\/srw=false)/\((tgw=false/\xE m i=false)\/(tgw=true/\ej m=false/\xE m i=false)\/(tgw=true/\ej m=true/\((i:Int)=m.target)=True/\xE m i=true)\/(tgw=true/\ej m=true/\((i:Int)=m.target)=False/\xE m i=false))))))):=by
      rw[hopn];cases q with
      | nil=>left;simp
      | cons a l=>
       right;refine⟨by simp,?_⟩;rcases Classical.propComplete ((i:Int)=m.serving)with g1 | g1
       . left;simp[g1]
       . right;refine⟨g1,?_⟩;have s1:srw=false->((i:Int)=m.source)=False:=fun q=>by
          rw[q]at hsr;have:m.source=-1:=by simpa using hsr
          exact eq_false (by omega)
         have s2:tgw=false->((i:Int)=m.target)=False:=fun q=>by
          rw[q]at htg;have:m.target=-1:=by simpa using htg
          exact eq_false (by omega)
         cases srw
         . right;refine⟨.inr rfl,?_⟩;have g2:=s1 rfl;cases tgw
           . left;simp[g1,g2,s2 rfl]
           . right;rcases Classical.propComplete ((i:Int)=m.target)with g3 | g3 <;> cases ej m <;> simp[g1,g2,g3]
         . rcases Classical.propComplete ((i:Int)=m.source)with g2 | g2
           . left;simp[g1,g2]
           . right;refine⟨.inl ⟨rfl,g2⟩,?_⟩;cases tgw
             . left;simp[g1,g2,s2 rfl]
             . right;rcases Classical.propComplete ((i:Int)=m.target)with g3 | g3 <;> cases ej m <;> simp[g1,g2,g3]
     clear hopn;rcases hc with⟨rfl,ho⟩ | ⟨a1,⟨a2,ho⟩ | ⟨a2,⟨rfl,a3,ho⟩ | ⟨⟨rfl,a3⟩ | rfl,⟨rfl,ho⟩ | ⟨rfl,a4,ho⟩ | ⟨rfl,a4,a5,ho⟩ | ⟨rfl,a4,a5,ho⟩⟩⟩⟩
     . delta E4.c67l3 oO oN oA oM oG oR oS oK oF oL oV oI oX oP oB oD oE oJ o0 o4;simp (maxSteps:=9^7) -implicitDefEqProofs only[E4.rv67,hi0,hi2,h,hgx,zR,InR,WU,V,W3,↓reduceIte,seval,reduceCtorEq];exact⟨⟨by omega,by omega⟩,hnx ho,by omega⟩
     . delta E4.c67l3 oO oN oA oM oG oR oS oK oF oL oV oI oX oP oB oD oE oJ o0 o4;simp (maxSteps:=9^7) -implicitDefEqProofs only[E4.rv67,xf,kN,hdm,hi0,hi2,h,hgx,zy,a1,a2,InR,WU,Ent.of1,V,W3,↓reduceIte,seval,reduceCtorEq];exact⟨⟨by omega,by omega⟩,hnx ho,by omega⟩
     . delta E4.c67l3 oO oN oA oM oG oR oS oK oF oL oV oI oX oP oB oD oE oJ o0 o4;simp (maxSteps:=9^7) -implicitDefEqProofs only[E4.rv67,xf,kN,hdm,hi0,hi2,h,hgx,zy,a1,a2,a3,InR,WU,Ent.of1,V,W3,↓reduceIte,seval,reduceCtorEq];exact⟨⟨by omega,by omega⟩,hnx ho,by omega⟩
     . delta E4.c67l3 oO oN oA oM oG oR oS oK oF oL oV oI oX oP oB oD oE oJ o0 o4;simp (maxSteps:=9^7) -implicitDefEqProofs only[E4.rv67,xf,kN,hdm,hi0,hi2,h,hgx,zy,a1,a2,a3,InR,WU,Ent.of1,V,W3,↓reduceIte,seval,reduceCtorEq];exact (hbad ho).symm
     . delta E4.c67l3 oO oN oA oM oG oR oS oK oF oL oV oI oX oP oB oD oE oJ o0 o4;simp (maxSteps:=9^7) -implicitDefEqProofs only[E4.rv67,xf,kN,hdm,hi0,hi2,h,hgx,zy,a1,a2,a3,a4,InR,WU,Ent.of1,V,W3,↓reduceIte,seval,reduceCtorEq];exact (hbad ho).symm
     . delta E4.c67l3 oO oN oA oM oG oR oS oK oF oL oV oI oX oP oB oD oE oJ o0 o4;simp (maxSteps:=9^7) -implicitDefEqProofs only[E4.rv67,xf,kN,hdm,hi0,hi2,h,hgx,zy,a1,a2,a3,a4,a5,InR,WU,Ent.of1,V,W3,↓reduceIte,seval,reduceCtorEq];exact⟨⟨by omega,by omega⟩,hnx ho,by omega⟩
     . delta E4.c67l3 oO oN oA oM oG oR oS oK oF oL oV oI oX oP oB oD oE oJ o0 o4;simp (maxSteps:=9^7) -implicitDefEqProofs only[E4.rv67,xf,kN,hdm,hi0,hi2,h,hgx,zy,a1,a2,a3,a4,a5,InR,WU,Ent.of1,V,W3,↓reduceIte,seval,reduceCtorEq];exact (hbad ho).symm
     . delta E4.c67l3 oO oN oA oM oG oR oS oK oF oL oV oI oX oP oB oD oE oJ o0 o4;simp (maxSteps:=9^7) -implicitDefEqProofs only[E4.rv67,xf,kN,hdm,hi0,hi2,h,hgx,zy,a1,a2,InR,WU,Ent.of1,V,W3,↓reduceIte,seval,reduceCtorEq];exact (hbad ho).symm
     . delta E4.c67l3 oO oN oA oM oG oR oS oK oF oL oV oI oX oP oB oD oE oJ o0 o4;simp (maxSteps:=9^7) -implicitDefEqProofs only[E4.rv67,xf,kN,hdm,hi0,hi2,h,hgx,zy,a1,a2,a4,InR,WU,Ent.of1,V,W3,↓reduceIte,seval,reduceCtorEq];exact (hbad ho).symm
     . delta E4.c67l3 oO oN oA oM oG oR oS oK oF oL oV oI oX oP oB oD oE oJ o0 o4;simp (maxSteps:=9^7) -implicitDefEqProofs only[E4.rv67,xf,kN,hdm,hi0,hi2,h,hgx,zy,a1,a2,a4,a5,InR,WU,Ent.of1,V,W3,↓reduceIte,seval,reduceCtorEq];exact⟨⟨by omega,by omega⟩,hnx ho,by omega⟩
     . delta E4.c67l3 oO oN oA oM oG oR oS oK oF oL oV oI oX oP oB oD oE oJ o0 o4;simp (maxSteps:=9^7) -implicitDefEqProofs only[E4.rv67,xf,kN,hdm,hi0,hi2,h,hgx,zy,a1,a2,a4,a5,InR,WU,Ent.of1,V,W3,↓reduceIte,seval,reduceCtorEq];exact (hbad ho).symm
   . have hi2:¬ (i:Int) < (m.buf.length:Int):=by omega
     have hop:xQ m=true:=by
      rw[xQ,zx];exact fun j hj=>hv j (by have:=zE.1 hj;omega)
     rw[hop]at hE;delta E4.c67l3 oO oN oA oM oG oR oS oK oF oL oV oI oX oP oB oD oE oJ o0 o4;simp (maxSteps:=9^7) -implicitDefEqProofs only[E4.rv67,hi2,InR,WU,V,W3,↓reduceIte,seval,reduceCtorEq];exact rst_5 n m hm hf hg cx E hE
theorem rst_7 (n:Nw) (m:Ms) (hm:MsB m) (hf:0<=m.fresh/\m.fresh<=1000000) (hg:0<=m.got/\m.got<=m.fresh) (cx:Cx) (E:Int) (tgw srw:Bool) (htg:tgw=!decide (m.target=-1)) (hsr:srw=!decide (m.source=-1)) (hE:(if pkL m.fresh [] m.buf≠0 then pkL m.fresh [] m.buf else if xQ m=false then 23 else if yP m=false then 14 else 0)=E):SG Tryz.prog cx (cB [RV.tmp 4] [] (enc E) []) [It.c E4.c67k7.cut] ⟨[(3,.ptr 3 0),(5,.s (.bool tgw)),(6,.s (.bool srw))],chR n m⟩:=by
 have hml:=hm.l;have hdm:=xj m;refine iw (dC [] 500 ?_);delta E4.c67k7 oS oK oV oX;simp (maxSteps:=9^7) -implicitDefEqProofs only[E4.rv67,chR,msD,InR,WU,V,W3,↓reduceIte,seval,reduceCtorEq];refine eN m.buf.length (fun i=>[(8,.s (.int .i64 (i:Int)))]) (fun _=>[]) (fun i=>pkL m.fresh [] m.buf=pkL m.fresh (m.buf.take i).flatten (m.buf.drop i)) rfl ?_ (fun i hi hv=>dC [] 800 ?_)
 . simp (maxSteps:=9^7) -implicitDefEqProofs only[V,W3,↓reduceIte,seval,reduceCtorEq]
   all_goals simp
 . by_cases h:i < m.buf.length
   . have hi2:(i:Int) < (m.buf.length:Int):=by omega
     have hi0:(0:Int)<=i:=by omega
     have hile:=eq_true (show (i:Int)<=(m.buf.length:Int) by omega);have hgx:List.getD (m.buf.map Dat.cells) i [C.sl 0 []]=[C.sl 1 ((m.buf.getD i []).map Dat.cells)]:=by
      rw[zb,zb,zh,ze h];rfl
     have hfs:=Aa h;rw[eg [] h,pkL]at hv;rw[<- hfs]at hv;have hll:(m.buf.getD i []).length<=1000:=by
      rw[zb,ze h];exact hm.r _ (yy h)
     have hwh:=fun v=>Az (m.buf.take i) v 0
     generalize m.buf.getD i []=l at *;delta E4.c67l2 oO oN oA oM oR oS oK oF oL oV oX oB o0 o4;simp (maxSteps:=9^7) -implicitDefEqProofs only[E4.rv67,hi0,hi2,h,hgx,zy,InR,WU,V,W3,↓reduceIte,seval,reduceCtorEq];generalize hS:(m.buf.take i).flatten=seen at *;refine eN l.length (fun k=>[(10,.s (.int .i64 (k:Int)))]) (fun _=>[]) (fun k=>xx m.fresh seen (-1) l=xx m.fresh seen (if k=0 then -1 else l.getD (k - 1) 0) (l.drop k)) rfl ?_ (fun k hk hw=>dC [oa,xN] 800 ?_)
     . simp (maxSteps:=9^7) -implicitDefEqProofs only[V,W3,↓reduceIte,seval,reduceCtorEq]
       all_goals simp
     . by_cases hkl:k < l.length
       . have hk2:(k:Int) < (l.length:Int):=by omega
         have hk0:(0:Int)<=k:=by omega
         rw[AN hkl]at hw;obtain⟨u,hu⟩:∃ u,l.getD k 0=u:=⟨_,rfl⟩;rw[hu]at hw;have hgl:List.getD (l.map Dat.cells) k [C.s (.int .i64 0)]=[C.s (.int .i64 u)]:=by
          rw[zb,zh,ze hkl,<- hu,zb,ze hkl];rfl
         have hgp:∀ j,j < l.length->List.getD (l.map Dat.cells) j [C.s (.int .i64 0)]=[C.s (.int .i64 (l.getD j 0))]:=fun j hj=>by
          rw[zb,zh,ze hj,zb,ze hj];rfl
         by_cases hr:0<=u/\u < m.fresh
         rotate_left
         . rw[if_pos hr]at hw;rw[hw,if_pos (by decide)]at hv;rw[hv,if_pos (by decide)]at hE;subst hE;have hwi:=eq_false (show ¬ (0<=u/\u<=m.fresh - 1) by omega);delta E4.c67l1 oO oN oA oM oT oG oR oQ oS oK oF oL oV oI oX oB oD oJ o1 o4 o5;simp (maxSteps:=9^7) -implicitDefEqProofs only[E4.rv67,oa,hwi,h,hi0,hi2,hk0,hk2,hkl,hgl,hgx,zy,InR,not_true_eq_false,not_false_eq_true,WU,Ent.of3,V,W3,↓reduceIte,seval,reduceCtorEq];omega
         rw[if_neg (fun q=>q hr)]at hw;have hwi:=eq_true (show (0<=u/\u<=m.fresh - 1) by omega);by_cases ho:u<=(if k=0 then -1 else l.getD (k - 1) 0)
         . have hk00:¬ k=0:=fun q=>by
            rw[if_pos q]at ho;omega
           rw[if_pos ho]at hw;rw[hw,if_pos (by decide)]at hv;rw[hv,if_pos (by decide)]at hE;subst hE;rw[if_neg hk00]at ho;have hgt:=eq_true ho;have hkI:=eq_true (show (0:Int) < (k:Int) by omega);have e1:(k:Int) - 1=((k - 1:Nat):Int):=by omega
           have e2:(0:Int)<=((k - 1:Nat):Int):=by omega
           have e3:((k - 1:Nat):Int) < (l.length:Int):=by omega
           have e4:k - 1 < l.length:=by omega
           have hgl1:=hgp (k - 1) e4;delta E4.c67l1 oO oN oA oM oT oG oR oQ oS oK oF oL oV oI oX oB oD oJ o1 o4 o5;simp (maxSteps:=9^7) -implicitDefEqProofs only[E4.rv67,oa,hwi,hgt,hkI,e1,e2,e3,e4,hgl1,h,hi0,hi2,hk0,hk2,hkl,hgl,hgx,zy,InR,not_true_eq_false,not_false_eq_true,WU,Ent.of3,V,W3,↓reduceIte,seval,reduceCtorEq];exact⟨by omega,by omega⟩
         rw[if_neg ho]at hw;have hord:k=0\/(¬ k=0/\(u<=l.getD (k - 1) 0)=False):=by
          by_cases q:k=0
          . exact .inl q
          . rw[if_neg q]at ho;exact .inr ⟨q,eq_false ho⟩
         by_cases hsn:u∈seen
         . rw[if_pos hsn]at hw;rw[hw,if_pos (by decide)]at hv;rw[hv,if_pos (by decide)]at hE;subst hE;have hwn:=eq_true ((hwh u).2 hsn);rcases hord with hk00 | ⟨hk00,hgt⟩
           . have hkI:=eq_false (show ¬ (0:Int) < (k:Int) by omega);delta E4.c67l1 oO oN oA oM oT oG oR oQ oS oK oF oL oV oI oX oB oD oJ o1 o4 o5;simp (maxSteps:=9^7) -implicitDefEqProofs only[E4.rv67,oa,xN,kN,hdm,hml,hile,hwi,hkI,hwn,h,hi0,hi2,hk0,hk2,hkl,hgl,hgx,zy,InR,not_true_eq_false,not_false_eq_true,WU,Ent.of3,V,W3,↓reduceIte,seval,reduceCtorEq];omega
           . have hkI:=eq_true (show (0:Int) < (k:Int) by omega);have e1:(k:Int) - 1=((k - 1:Nat):Int):=by omega
             have e2:(0:Int)<=((k - 1:Nat):Int):=by omega
             have e3:((k - 1:Nat):Int) < (l.length:Int):=by omega
             have e4:k - 1 < l.length:=by omega
             have hgl1:=hgp (k - 1) e4;delta E4.c67l1 oO oN oA oM oT oG oR oQ oS oK oF oL oV oI oX oB oD oJ o1 o4 o5;simp (maxSteps:=9^7) -implicitDefEqProofs only[E4.rv67,oa,xN,kN,hdm,hml,hile,hwi,hkI,hwn,hgt,e1,e2,e3,e4,hgl1,h,hi0,hi2,hk0,hk2,hkl,hgl,hgx,zy,InR,not_true_eq_false,not_false_eq_true,WU,Ent.of3,V,W3,↓reduceIte,seval,reduceCtorEq];exact⟨by omega,by omega⟩
         . rw[if_neg hsn]at hw;have hwn:=eq_false (fun q=>hsn ((hwh u).1 q));have hnx:xx m.fresh seen (-1) l=xx m.fresh seen (if k+1=0 then -1 else l.getD (k+1 - 1) 0) (l.drop (k+1)):=by
            rw[if_neg (by omega),Nat.add_sub_cancel,hu];exact hw
           rcases hord with hk00 | ⟨hk00,hgt⟩
           . have hkI:=eq_false (show ¬ (0:Int) < (k:Int) by omega);delta E4.c67l1 oO oN oA oM oT oG oR oQ oS oK oF oL oV oI oX oB oD oJ o1 o4 o5;simp (maxSteps:=9^7) -implicitDefEqProofs only[E4.rv67,oa,xN,kN,hdm,hml,hile,hwi,hkI,hwn,h,hi0,hi2,hk0,hk2,hkl,hgl,hgx,zy,InR,not_true_eq_false,not_false_eq_true,WU,Ent.of3,V,W3,↓reduceIte,seval,reduceCtorEq];exact⟨by omega,by omega,hu ▸ hw,by omega⟩
           . have hkI:=eq_true (show (0:Int) < (k:Int) by omega);have e1:(k:Int) - 1=((k - 1:Nat):Int):=by omega
             have e2:(0:Int)<=((k - 1:Nat):Int):=by omega
             have e3:((k - 1:Nat):Int) < (l.length:Int):=by omega
             have e4:k - 1 < l.length:=by omega
             have hgl1:=hgp (k - 1) e4;delta E4.c67l1 oO oN oA oM oT oG oR oQ oS oK oF oL oV oI oX oB oD oJ o1 o4 o5;simp (maxSteps:=9^7) -implicitDefEqProofs only[E4.rv67,oa,xN,kN,hdm,hml,hile,hwi,hkI,hwn,hgt,e1,e2,e3,e4,hgl1,h,hi0,hi2,hk0,hk2,hkl,hgl,hgx,zy,InR,not_true_eq_false,not_false_eq_true,WU,Ent.of3,V,W3,↓reduceIte,seval,reduceCtorEq];exact⟨by omega,by omega,by omega,hu ▸ hw,by omega⟩
       . have hke:k=l.length:=by omega
         subst hke;have hk2:¬ ((l.length:Nat):Int) < (l.length:Int):=by omega
         rw[List.drop_length,xx]at hw;rw[hw,if_neg (fun q=>q rfl)]at hv;delta E4.c67l1 oO oN oA oM oT oG oR oQ oS oK oF oL oV oI oX oB oD oJ o1 o4 o5;simp (maxSteps:=9^7) -implicitDefEqProofs only[E4.rv67,hk2,InR,WU,V,W3,↓reduceIte,seval,reduceCtorEq];exact⟨by omega,h,hv,by omega⟩
   . have hi2:¬ (i:Int) < (m.buf.length:Int):=by omega
     have hie:i=m.buf.length:=by omega
     rw[hie,List.drop_length,pkL]at hv;rw[hv,if_neg (fun q=>q rfl)]at hE;delta E4.c67l2 oO oN oA oM oR oS oK oF oL oV oX oB o0 o4;simp (maxSteps:=9^7) -implicitDefEqProofs only[E4.rv67,hi2,InR,WU,V,W3,↓reduceIte,seval,reduceCtorEq];exact rst_6 n m hm hf hg cx E tgw srw htg hsr hE
theorem rst_8 (n:Nw) (m:Ms) (hm:MsB m) (hf:0<=m.fresh/\m.fresh<=1000000) (hg:0<=m.got/\m.got<=m.fresh) (hp:fj m.buf<=1000000000) (cx:Cx) (E:Int) (tgw srw:Bool) (htg:tgw=!decide (m.target=-1)) (hsr:srw=!decide (m.source=-1)) (hE:pkE m=E):SG Tryz.prog cx (cB [RV.tmp 4] [] (enc E) []) [It.c E4.c67k8.cut] ⟨[(3,.ptr 3 0),(5,.s (.bool tgw)),(6,.s (.bool srw))],chR n m⟩:=by
 have hml:=hm.l;have hdm:=xj m;unfold pkE at hE;have hpk:=nr m.buf;refine iw (dC [y7] 500 ?_);by_cases h60:60 < m.buf.flatten.length
 . rw[if_pos h60]at hE;subst hE;have h60':=eq_true (show fj m.buf > 60 by omega);delta E4.c67k8 oO oN oS oK oV oC oI oX oB o5;simp (maxSteps:=9^7) -implicitDefEqProofs only[E4.rv67,y7,kN,hdm,hml,hp,chR,msD,h60',not_true_eq_false,not_false_eq_true,WU,Ent.of1,V,W3,↓reduceIte,seval,reduceCtorEq]
 . rw[if_neg h60]at hE;have h60':=eq_false (show ¬ fj m.buf > 60 by omega);delta E4.c67k8 oO oN oS oK oV oC oI oX oB o5;simp (maxSteps:=9^7) -implicitDefEqProofs only[E4.rv67,y7,kN,hdm,hml,hp,chR,msD,h60',not_true_eq_false,not_false_eq_true,WU,Ent.of1,V,W3,↓reduceIte,seval,reduceCtorEq];exact rst_7 n m hm hf hg cx E tgw srw htg hsr hE
theorem rst_9 (n:Nw) (m:Ms) (hm:MsB m) (net:NetOk n) (hlen:m.buf.length=n.cells.length) (q2:rgB m=true) (q3:msB n m=true) (cx:Cx) (E:Int) (tgw srw:Bool) (htg:tgw=!decide (m.target=-1)) (hsr:srw=!decide (m.source=-1)) (hE:(if stB n m=false then 22 else pkE m)=E):SG Tryz.prog cx (cB [RV.tmp 4] [] (enc E) []) [It.c E4.c67k9.cut] ⟨[(2,.ptr 2 0),(3,.ptr 3 0),(5,.s (.bool tgw)),(6,.s (.bool srw))],chR n m⟩:=by
 have hml:=hm.l;have hdm:=xj m;have q2':=q2;simp only[rgB,zm,decide_eq_true_eq]at q2';obtain⟨⟨⟨r1,r2⟩,r3⟩,r4⟩:=q2';have hlim:=net.lim;have hI:(-9223372036854775808<=m.since+n.limit/\m.since+n.limit<=9223372036854775807):=by omega
 simp only[msB,zm,zV,decide_eq_true_eq]at q3;have hso:srw=true->0<=m.source/\m.source < (m.buf.length:Int)/\m.source.toNat < m.buf.length:=fun h=>by
  rcases q3.2 with h2 | h2
  . rw[h2]at hsr;rw[hsr]at h;cases h
  . have:=fS h2;rw[hlen];omega
 have hpk:fj m.buf<=1000000000:=by
  rw[nr];have h1:=AL m.buf 1000 hm.r;have h2:=net.len;have:m.buf.length*1000<=6*1000:=zB _ (by omega);omega
 have hgo:=rst_8 n m hm r3 r4 hpk cx E tgw srw htg hsr;have hst:stB n m=(!(ej m && decide (m.since+n.limit<=m.at_)) && !(srw && decide (m.path=m.serving) && (dQ m m.source).isEmpty)):=by rw[hsr];rfl
 refine iw (dC [xf] 500 ?_);have hc:(ej m=true/\(m.since+n.limit<=m.at_)=True/\stB n m=false)\/((ej m=false\/(ej m=true/\(m.since+n.limit<=m.at_)=False))/\stB n m=!(srw && decide (m.path=m.serving) && (dQ m m.source).isEmpty)):=by
  rw[hst];cases ej m <;> rcases Classical.propComplete (m.since+n.limit<=m.at_)with h | h <;> simp[h]
 rcases hc with⟨a1,a2,a3⟩ | ⟨a0,a3⟩
 . rw[if_pos a3]at hE;subst hE;delta E4.c67k9 oO oN oM oG oS oK oV oC oI oX oP oH oD oE oJ o0 o5;simp (maxSteps:=9^7) -implicitDefEqProofs only[E4.rv67,xf,kN,hdm,hI,chR,msD,a1,a2,InR,not_true_eq_false,not_false_eq_true,WU,Ent.of1,V,W3,↓reduceIte,seval,reduceCtorEq]
 . cases hs:srw
   . subst hs;have h1:stB n m=true:=by rw[a3];rfl
     rw[if_neg (by simp[h1])]at hE;rcases a0 with a1 | ⟨a1,a2⟩
     . delta E4.c67k9 oO oN oM oG oS oK oV oC oI oX oP oH oD oE oJ o0 o5;simp (maxSteps:=9^7) -implicitDefEqProofs only[E4.rv67,xf,kN,hdm,hI,chR,msD,a1,InR,not_true_eq_false,not_false_eq_true,WU,Ent.of1,V,W3,↓reduceIte,seval,reduceCtorEq];exact hgo hE
     . delta E4.c67k9 oO oN oM oG oS oK oV oC oI oX oP oH oD oE oJ o0 o5;simp (maxSteps:=9^7) -implicitDefEqProofs only[E4.rv67,xf,kN,hdm,hI,chR,msD,a1,a2,InR,not_true_eq_false,not_false_eq_true,WU,Ent.of1,V,W3,↓reduceIte,seval,reduceCtorEq];exact hgo hE
   . subst hs;obtain⟨i0,i2,i3⟩:=hso rfl;have hgx:List.getD (m.buf.map Dat.cells) m.source.toNat [C.sl 0 []]=[C.sl 1 ((dQ m m.source).map Dat.cells)]:=by
      rw[dQ,zb,zb,zh,ze i3];rfl
     have hb:(((dQ m m.source).length:Int)=0)=((dQ m m.source).isEmpty=true):=by
      cases dQ m m.source <;> simp <;> omega
     have hc2:((dQ m m.source).isEmpty=false/\stB n m=true)\/((dQ m m.source).isEmpty=true/\(m.path=m.serving)=True/\stB n m=false)\/((dQ m m.source).isEmpty=true/\(m.path=m.serving)=False/\stB n m=true):=by
      rw[a3];cases (dQ m m.source).isEmpty <;> rcases Classical.propComplete (m.path=m.serving)with h | h <;> simp[h]
     clear hst a3;generalize dQ m m.source=B at *;rcases hc2 with⟨b1,b3⟩ | ⟨b1,b2,b3⟩ | ⟨b1,b2,b3⟩
     . rw[if_neg (by simp[b3])]at hE;rcases a0 with a1 | ⟨a1,a2⟩
       . delta E4.c67k9 oO oN oM oG oS oK oV oC oI oX oP oH oD oE oJ o0 o5;simp (maxSteps:=9^7) -implicitDefEqProofs only[E4.rv67,xf,kN,hdm,hI,chR,msD,a1,i0,i2,i3,hgx,hb,b1,zy,InR,not_true_eq_false,not_false_eq_true,WU,Ent.of1,V,W3,↓reduceIte,seval,reduceCtorEq];exact hgo hE
       . delta E4.c67k9 oO oN oM oG oS oK oV oC oI oX oP oH oD oE oJ o0 o5;simp (maxSteps:=9^7) -implicitDefEqProofs only[E4.rv67,xf,kN,hdm,hI,chR,msD,a1,a2,i0,i2,i3,hgx,hb,b1,zy,InR,not_true_eq_false,not_false_eq_true,WU,Ent.of1,V,W3,↓reduceIte,seval,reduceCtorEq];exact hgo hE
     . rw[if_pos b3]at hE;subst hE;rcases a0 with a1 | ⟨a1,a2⟩
       . delta E4.c67k9 oO oN oM oG oS oK oV oC oI oX oP oH oD oE oJ o0 o5;simp (maxSteps:=9^7) -implicitDefEqProofs only[E4.rv67,xf,kN,hdm,hI,chR,msD,a1,i0,i2,i3,hgx,hb,b1,b2,zy,InR,not_true_eq_false,not_false_eq_true,WU,Ent.of1,V,W3,↓reduceIte,seval,reduceCtorEq]
       . delta E4.c67k9 oO oN oM oG oS oK oV oC oI oX oP oH oD oE oJ o0 o5;simp (maxSteps:=9^7) -implicitDefEqProofs only[E4.rv67,xf,kN,hdm,hI,chR,msD,a1,a2,i0,i2,i3,hgx,hb,b1,b2,zy,InR,not_true_eq_false,not_false_eq_true,WU,Ent.of1,V,W3,↓reduceIte,seval,reduceCtorEq]
     . rw[if_neg (by simp[b3])]at hE;rcases a0 with a1 | ⟨a1,a2⟩
       . delta E4.c67k9 oO oN oM oG oS oK oV oC oI oX oP oH oD oE oJ o0 o5;simp (maxSteps:=9^7) -implicitDefEqProofs only[E4.rv67,xf,kN,hdm,hI,chR,msD,a1,i0,i2,i3,hgx,hb,b1,b2,zy,InR,not_true_eq_false,not_false_eq_true,WU,Ent.of1,V,W3,↓reduceIte,seval,reduceCtorEq];exact hgo hE
       . delta E4.c67k9 oO oN oM oG oS oK oV oC oI oX oP oH oD oE oJ o0 o5;simp (maxSteps:=9^7) -implicitDefEqProofs only[E4.rv67,xf,kN,hdm,hI,chR,msD,a1,a2,i0,i2,i3,hgx,hb,b1,b2,zy,InR,not_true_eq_false,not_false_eq_true,WU,Ent.of1,V,W3,↓reduceIte,seval,reduceCtorEq];exact hgo hE
theorem rst_10 (n:Nw) (m:Ms) (hn:NwS n) (hm:MsB m) (net:NetOk n) (hlen:m.buf.length=n.cells.length) (q2:rgB m=true) (q3:msB n m=true) (cx:Cx) (E:Int) (tgw srw:Bool) (htg:tgw=!decide (m.target=-1)) (hsr:srw=!decide (m.source=-1)) (hE:(if clB n m=false then 13 else if stB n m=false then 22 else pkE m)=E):SG Tryz.prog cx (cB [RV.tmp 4] [] (enc E) []) [It.c E4.c67k10.cut] ⟨[(2,.ptr 2 0),(3,.ptr 3 0),(5,.s (.bool tgw)),(6,.s (.bool srw))],chR n m⟩:=by
 have hdn:=gO n;have hgo:=rst_9 n m hm net hlen q2 q3 cx E tgw srw htg hsr;refine iw (dC [xB] 500 ?_);have hcl:clB n m=((!tgw || nbr n m.target m.serving) && (!srw || nbr n m.source m.serving)):=by rw[htg,hsr];simp[clB]
 have hc:(tgw=true/\nbr n m.target m.serving=false/\clB n m=false)\/((tgw=false\/(tgw=true/\nbr n m.target m.serving=true))/\((srw=false/\clB n m=true)\/(srw=true/\nbr n m.source m.serving=false/\clB n m=false)\/(srw=true/\nbr n m.source m.serving=true/\clB n m=true))):=by
  rw[hcl];cases tgw <;> cases srw <;> cases nbr n m.target m.serving <;> cases nbr n m.source m.serving <;> simp
 clear hcl;rcases hc with⟨rfl,a2,a3⟩ | ⟨rfl | ⟨rfl,a2⟩,⟨rfl,a3⟩ | ⟨rfl,a4,a3⟩ | ⟨rfl,a4,a3⟩⟩
 . rw[if_pos a3]at hE;subst hE;delta E4.c67k10 oO oM oG oS oK oV oI oX oP oH oD oE oJ;simp (maxSteps:=9^7) -implicitDefEqProofs only[E4.rv67,xB,ed,hdn,hn,chR,msD,a2,not_true_eq_false,not_false_eq_true,WU,Ent.of3,V,W3,↓reduceIte,seval,reduceCtorEq]
 . rw[if_neg (by simp[a3])]at hE;delta E4.c67k10 oO oM oG oS oK oV oI oX oP oH oD oE oJ;simp (maxSteps:=9^7) -implicitDefEqProofs only[E4.rv67,xB,ed,hdn,hn,chR,msD,not_true_eq_false,not_false_eq_true,WU,Ent.of3,V,W3,↓reduceIte,seval,reduceCtorEq];exact hgo hE
 . rw[if_pos a3]at hE;subst hE;delta E4.c67k10 oO oM oG oS oK oV oI oX oP oH oD oE oJ;simp (maxSteps:=9^7) -implicitDefEqProofs only[E4.rv67,xB,ed,hdn,hn,chR,msD,a4,not_true_eq_false,not_false_eq_true,WU,Ent.of3,V,W3,↓reduceIte,seval,reduceCtorEq]
 . rw[if_neg (by simp[a3])]at hE;delta E4.c67k10 oO oM oG oS oK oV oI oX oP oH oD oE oJ;simp (maxSteps:=9^7) -implicitDefEqProofs only[E4.rv67,xB,ed,hdn,hn,chR,msD,a4,not_true_eq_false,not_false_eq_true,WU,Ent.of3,V,W3,↓reduceIte,seval,reduceCtorEq];exact hgo hE
 . rw[if_neg (by simp[a3])]at hE;delta E4.c67k10 oO oM oG oS oK oV oI oX oP oH oD oE oJ;simp (maxSteps:=9^7) -implicitDefEqProofs only[E4.rv67,xB,ed,hdn,hn,chR,msD,a2,not_true_eq_false,not_false_eq_true,WU,Ent.of3,V,W3,↓reduceIte,seval,reduceCtorEq];exact hgo hE
 . rw[if_pos a3]at hE;subst hE;delta E4.c67k10 oO oM oG oS oK oV oI oX oP oH oD oE oJ;simp (maxSteps:=9^7) -implicitDefEqProofs only[E4.rv67,xB,ed,hdn,hn,chR,msD,a2,a4,not_true_eq_false,not_false_eq_true,WU,Ent.of3,V,W3,↓reduceIte,seval,reduceCtorEq]
 . rw[if_neg (by simp[a3])]at hE;delta E4.c67k10 oO oM oG oS oK oV oI oX oP oH oD oE oJ;simp (maxSteps:=9^7) -implicitDefEqProofs only[E4.rv67,xB,ed,hdn,hn,chR,msD,a2,a4,not_true_eq_false,not_false_eq_true,WU,Ent.of3,V,W3,↓reduceIte,seval,reduceCtorEq];exact hgo hE
theorem rst_11 (n:Nw) (m:Ms) (hn:NwS n) (hm:MsB m) (net:NetOk n) (hlen:m.buf.length=n.cells.length) (q2:rgB m=true) (q3:msB n m=true) (cx:Cx) (E:Int) (tgw srw:Bool) (htg:tgw=!decide (m.target=-1)) (hsr:srw=!decide (m.source=-1)) (hE:(if fmB m=false then 3 else if clB n m=false then 13 else if stB n m=false then 22 else pkE m)=E):SG Tryz.prog cx (cB [RV.tmp 4] [] (enc E) []) [It.c E4.c67k11.cut] ⟨[(2,.ptr 2 0),(3,.ptr 3 0),(5,.s (.bool tgw)),(6,.s (.bool srw))],chR n m⟩:=by
 have hgo:=rst_10 n m hn hm net hlen q2 q3 cx E tgw srw htg hsr;refine iw (dC [] 800 ?_);have hfm:fmB m=!((tgw && decide (m.phase=0)) || (!tgw && (decide (m.phase=1) || decide (m.phase=2))) || (srw && ((decide (m.phase=1) || decide (m.phase=2)) || tgw)) || (!decide (m.path=m.serving) && (!srw || !decide (m.path=m.source)))):=by
  rw[htg,hsr];simp[fmB,bsyB]
 have hc:(tgw=true/\(m.phase=0)=True/\(m.phase=1)=False/\(m.phase=2)=False/\fmB m=false)\/(tgw=true/\(m.phase=0)=False/\((m.phase=1)=True\/((m.phase=1)=False/\(m.phase=2)=True)\/((m.phase=1)=False/\(m.phase=2)=False))/\((srw=true/\fmB m=false)\/(srw=false/\(((m.path=m.serving)=True/\fmB m=true)\/((m.path=m.serving)=False/\fmB m=false)))))\/(tgw=false/\((((m.phase=1)=True\/((m.phase=1)=False/\(m.phase=2)=True))/\fmB m=false)\/((m.phase=1)=False/\(m.phase=2)=False/\((srw=true/\(((m.path=m.serving)=True/\fmB m=true)\/((m.path=m.serving)=False/\(m.path=m.source)=True/\fmB m=true)\/((m.path=m.serving)=False/\(m.path=m.source)=False/\fmB m=false)))\/(srw=false/\(((m.path=m.serving)=True/\fmB m=true)\/((m.path=m.serving)=False/\fmB m=false))))))):=by
  rw[hfm];by_cases h0:m.phase=0
  . rcases Classical.propComplete (m.path=m.serving)with s1 | s1 <;> rcases Classical.propComplete (m.path=m.source)with s2 | s2 <;> cases tgw <;> cases srw <;> simp[h0,s1,s2]
  . rcases Classical.propComplete (m.phase=1)with h1 | h1 <;> rcases Classical.propComplete (m.phase=2)with h2 | h2 <;> rcases Classical.propComplete (m.path=m.serving)with s1 | s1 <;> rcases Classical.propComplete (m.path=m.source)with s2 | s2 <;> cases tgw <;> cases srw <;> simp[h0,h1,h2,s1,s2]
 clear hfm;rcases hc with⟨rfl,p0,p1,p2,b⟩ | ⟨rfl,p0,p1 | ⟨p1,p2⟩ | ⟨p1,p2⟩,⟨rfl,b⟩ | ⟨rfl,⟨s1,b⟩ | ⟨s1,b⟩⟩⟩ | ⟨rfl,⟨p1 | ⟨p1,p2⟩,b⟩ | ⟨p1,p2,⟨rfl,⟨s1,b⟩ | ⟨s1,s2,b⟩ | ⟨s1,s2,b⟩⟩ | ⟨rfl,⟨s1,b⟩ | ⟨s1,b⟩⟩⟩⟩
 . simp only[b,if_true,if_false,ym]at hE;delta E4.c67k11 oO oN oM oG oS oK oF oL oV oI oX oP oH oB oD oE oJ;simp (maxSteps:=9^7) -implicitDefEqProofs only[E4.rv67,chR,msD,p0,p1,p2,not_true_eq_false,not_false_eq_true,WU,V,W3,↓reduceIte,seval,reduceCtorEq];exact hE
 . simp only[b,if_true,if_false,ym]at hE;delta E4.c67k11 oO oN oM oG oS oK oF oL oV oI oX oP oH oB oD oE oJ;simp (maxSteps:=9^7) -implicitDefEqProofs only[E4.rv67,chR,msD,p0,p1,not_true_eq_false,not_false_eq_true,WU,V,W3,↓reduceIte,seval,reduceCtorEq];exact hE
 . simp only[b,if_true,if_false,ym]at hE;delta E4.c67k11 oO oN oM oG oS oK oF oL oV oI oX oP oH oB oD oE oJ;simp (maxSteps:=9^7) -implicitDefEqProofs only[E4.rv67,chR,msD,p0,p1,s1,not_true_eq_false,not_false_eq_true,WU,V,W3,↓reduceIte,seval,reduceCtorEq];exact hgo hE
 . simp only[b,if_true,if_false,ym]at hE;delta E4.c67k11 oO oN oM oG oS oK oF oL oV oI oX oP oH oB oD oE oJ;simp (maxSteps:=9^7) -implicitDefEqProofs only[E4.rv67,chR,msD,p0,p1,s1,not_true_eq_false,not_false_eq_true,WU,V,W3,↓reduceIte,seval,reduceCtorEq];exact hE
 . simp only[b,if_true,if_false,ym]at hE;delta E4.c67k11 oO oN oM oG oS oK oF oL oV oI oX oP oH oB oD oE oJ;simp (maxSteps:=9^7) -implicitDefEqProofs only[E4.rv67,chR,msD,p0,p1,p2,not_true_eq_false,not_false_eq_true,WU,V,W3,↓reduceIte,seval,reduceCtorEq];exact hE
 . simp only[b,if_true,if_false,ym]at hE;delta E4.c67k11 oO oN oM oG oS oK oF oL oV oI oX oP oH oB oD oE oJ;simp (maxSteps:=9^7) -implicitDefEqProofs only[E4.rv67,chR,msD,p0,p1,p2,s1,not_true_eq_false,not_false_eq_true,WU,V,W3,↓reduceIte,seval,reduceCtorEq];exact hgo hE
 . simp only[b,if_true,if_false,ym]at hE;delta E4.c67k11 oO oN oM oG oS oK oF oL oV oI oX oP oH oB oD oE oJ;simp (maxSteps:=9^7) -implicitDefEqProofs only[E4.rv67,chR,msD,p0,p1,p2,s1,not_true_eq_false,not_false_eq_true,WU,V,W3,↓reduceIte,seval,reduceCtorEq];exact hE
 . simp only[b,if_true,if_false,ym]at hE;delta E4.c67k11 oO oN oM oG oS oK oF oL oV oI oX oP oH oB oD oE oJ;simp (maxSteps:=9^7) -implicitDefEqProofs only[E4.rv67,chR,msD,p0,p1,p2,not_true_eq_false,not_false_eq_true,WU,V,W3,↓reduceIte,seval,reduceCtorEq];exact hE
 . simp only[b,if_true,if_false,ym]at hE;delta E4.c67k11 oO oN oM oG oS oK oF oL oV oI oX oP oH oB oD oE oJ;simp (maxSteps:=9^7) -implicitDefEqProofs only[E4.rv67,chR,msD,p0,p1,p2,s1,not_true_eq_false,not_false_eq_true,WU,V,W3,↓reduceIte,seval,reduceCtorEq];exact hgo hE
 . simp only[b,if_true,if_false,ym]at hE;delta E4.c67k11 oO oN oM oG oS oK oF oL oV oI oX oP oH oB oD oE oJ;simp (maxSteps:=9^7) -implicitDefEqProofs only[E4.rv67,chR,msD,p0,p1,p2,s1,not_true_eq_false,not_false_eq_true,WU,V,W3,↓reduceIte,seval,reduceCtorEq];exact hE
 . simp only[b,if_true,if_false,ym]at hE;delta E4.c67k11 oO oN oM oG oS oK oF oL oV oI oX oP oH oB oD oE oJ;simp (maxSteps:=9^7) -implicitDefEqProofs only[E4.rv67,chR,msD,p1,not_true_eq_false,not_false_eq_true,WU,V,W3,↓reduceIte,seval,reduceCtorEq];exact hE
 . simp only[b,if_true,if_false,ym]at hE;delta E4.c67k11 oO oN oM oG oS oK oF oL oV oI oX oP oH oB oD oE oJ;simp (maxSteps:=9^7) -implicitDefEqProofs only[E4.rv67,chR,msD,p1,p2,not_true_eq_false,not_false_eq_true,WU,V,W3,↓reduceIte,seval,reduceCtorEq];exact hE
 . simp only[b,if_true,if_false,ym]at hE;delta E4.c67k11 oO oN oM oG oS oK oF oL oV oI oX oP oH oB oD oE oJ;simp (maxSteps:=9^7) -implicitDefEqProofs only[E4.rv67,chR,msD,p1,p2,s1,not_true_eq_false,not_false_eq_true,WU,V,W3,↓reduceIte,seval,reduceCtorEq];exact hgo hE
 . simp only[b,if_true,if_false,ym]at hE;delta E4.c67k11 oO oN oM oG oS oK oF oL oV oI oX oP oH oB oD oE oJ;simp (maxSteps:=9^7) -implicitDefEqProofs only[E4.rv67,chR,msD,p1,p2,s1,s2,not_true_eq_false,not_false_eq_true,WU,V,W3,↓reduceIte,seval,reduceCtorEq];exact hgo hE
 . simp only[b,if_true,if_false,ym]at hE;delta E4.c67k11 oO oN oM oG oS oK oF oL oV oI oX oP oH oB oD oE oJ;simp (maxSteps:=9^7) -implicitDefEqProofs only[E4.rv67,chR,msD,p1,p2,s1,s2,not_true_eq_false,not_false_eq_true,WU,V,W3,↓reduceIte,seval,reduceCtorEq];exact hE
 . simp only[b,if_true,if_false,ym]at hE;delta E4.c67k11 oO oN oM oG oS oK oF oL oV oI oX oP oH oB oD oE oJ;simp (maxSteps:=9^7) -implicitDefEqProofs only[E4.rv67,chR,msD,p1,p2,s1,not_true_eq_false,not_false_eq_true,WU,V,W3,↓reduceIte,seval,reduceCtorEq];exact hgo hE
 . simp only[b,if_true,if_false,ym]at hE;delta E4.c67k11 oO oN oM oG oS oK oF oL oV oI oX oP oH oB oD oE oJ;simp (maxSteps:=9^7) -implicitDefEqProofs only[E4.rv67,chR,msD,p1,p2,s1,not_true_eq_false,not_false_eq_true,WU,V,W3,↓reduceIte,seval,reduceCtorEq];exact hE
theorem rst_12 (n:Nw) (m:Ms) (hn:NwS n) (hm:MsB m) (net:NetOk n) (hlen:m.buf.length=n.cells.length) (q2:rgB m=true) (cx:Cx) (E:Int) (hE:(if msB n m=false then 6 else if fmB m=false then 3 else if clB n m=false then 13 else if stB n m=false then 22 else pkE m)=E):SG Tryz.prog cx (cB [RV.tmp 4] [] (enc E) []) [It.c E4.c67k12.cut] ⟨[(2,.ptr 2 0),(3,.ptr 3 0)],chR n m⟩:=by
 have hdn:=gO n;have hgo:=fun q3 tgw srw htg hsr=>rst_11 n m hn hm net hlen q2 q3 cx E tgw srw htg hsr
 refine iw (dC [my] 800 ?_);have hms:msB n m=(isC n m.serving && isC n m.path && (decide (m.target=-1) || isC n m.target) && (decide (m.source=-1) || isC n m.source)):=rfl;have hc:(isC n m.serving=false/\msB n m=false)\/(isC n m.serving=true/\isC n m.path=false/\msB n m=false)\/(isC n m.serving=true/\isC n m.path=true/\((((m.target=-1)=False/\isC n m.target=false)/\msB n m=false)\/(((m.target=-1)=True\/((m.target=-1)=False/\isC n m.target=true))/\(((m.source=-1)=True/\msB n m=true)\/((m.source=-1)=False/\isC n m.source=false/\msB n m=false)\/((m.source=-1)=False/\isC n m.source=true/\msB n m=true))))):=by
  rw[hms];rcases Classical.propComplete (m.target=-1)with h1 | h1 <;> rcases Classical.propComplete (m.source=-1)with h2 | h2 <;> cases isC n m.serving <;> cases isC n m.path <;> cases isC n m.target <;> cases isC n m.source <;> simp[h1,h2]
 clear hms;rcases hc with⟨a1,b⟩ | ⟨a1,a2,b⟩ | ⟨a1,a2,⟨⟨a3,a4⟩,b⟩ | ⟨a3 | ⟨a3,a4⟩,⟨a5,b⟩ | ⟨a5,a6w,b⟩ | ⟨a5,a6w,b⟩⟩⟩
 . simp only[b,if_true,if_false,ym]at hE;delta E4.c67k12 oO oN oA oM oT oG oQ oS oK oF oL oV oC oI oX oH oB oD oE oJ o5;simp (maxSteps:=9^7) -implicitDefEqProofs only[E4.rv67,my,ed,hdn,hn,chR,msD,a1,not_true_eq_false,not_false_eq_true,WU,Ent.of2,V,W3,↓reduceIte,seval,reduceCtorEq];exact hE
 . simp only[b,if_true,if_false,ym]at hE;delta E4.c67k12 oO oN oA oM oT oG oQ oS oK oF oL oV oC oI oX oH oB oD oE oJ o5;simp (maxSteps:=9^7) -implicitDefEqProofs only[E4.rv67,my,ed,hdn,hn,chR,msD,a1,a2,not_true_eq_false,not_false_eq_true,WU,Ent.of2,V,W3,↓reduceIte,seval,reduceCtorEq];exact hE
 . simp only[b,if_true,if_false,ym]at hE;delta E4.c67k12 oO oN oA oM oT oG oQ oS oK oF oL oV oC oI oX oH oB oD oE oJ o5;simp (maxSteps:=9^7) -implicitDefEqProofs only[E4.rv67,my,ed,hdn,hn,chR,msD,a1,a2,a3,a4,not_true_eq_false,not_false_eq_true,WU,Ent.of2,V,W3,↓reduceIte,seval,reduceCtorEq];exact hE
 . simp only[b,if_true,if_false,ym]at hE;delta E4.c67k12 oO oN oA oM oT oG oQ oS oK oF oL oV oC oI oX oH oB oD oE oJ o5;simp (maxSteps:=9^7) -implicitDefEqProofs only[E4.rv67,my,ed,hdn,hn,chR,msD,a1,a2,a3,a5,not_true_eq_false,not_false_eq_true,WU,Ent.of2,V,W3,↓reduceIte,seval,reduceCtorEq];exact hgo b _ _ (by simp[a3]) (by simp[a5]) hE
 . simp only[b,if_true,if_false,ym]at hE;delta E4.c67k12 oO oN oA oM oT oG oQ oS oK oF oL oV oC oI oX oH oB oD oE oJ o5;simp (maxSteps:=9^7) -implicitDefEqProofs only[E4.rv67,my,ed,hdn,hn,chR,msD,a1,a2,a3,a5,a6w,not_true_eq_false,not_false_eq_true,WU,Ent.of2,V,W3,↓reduceIte,seval,reduceCtorEq];exact hE
 . simp only[b,if_true,if_false,ym]at hE;delta E4.c67k12 oO oN oA oM oT oG oQ oS oK oF oL oV oC oI oX oH oB oD oE oJ o5;simp (maxSteps:=9^7) -implicitDefEqProofs only[E4.rv67,my,ed,hdn,hn,chR,msD,a1,a2,a3,a5,a6w,not_true_eq_false,not_false_eq_true,WU,Ent.of2,V,W3,↓reduceIte,seval,reduceCtorEq];exact hgo b _ _ (by simp[a3]) (by simp[a5]) hE
 . simp only[b,if_true,if_false,ym]at hE;delta E4.c67k12 oO oN oA oM oT oG oQ oS oK oF oL oV oC oI oX oH oB oD oE oJ o5;simp (maxSteps:=9^7) -implicitDefEqProofs only[E4.rv67,my,ed,hdn,hn,chR,msD,a1,a2,a3,a4,a5,not_true_eq_false,not_false_eq_true,WU,Ent.of2,V,W3,↓reduceIte,seval,reduceCtorEq];exact hgo b _ _ (by simp[a3]) (by simp[a5]) hE
 . simp only[b,if_true,if_false,ym]at hE;delta E4.c67k12 oO oN oA oM oT oG oQ oS oK oF oL oV oC oI oX oH oB oD oE oJ o5;simp (maxSteps:=9^7) -implicitDefEqProofs only[E4.rv67,my,ed,hdn,hn,chR,msD,a1,a2,a3,a4,a5,a6w,not_true_eq_false,not_false_eq_true,WU,Ent.of2,V,W3,↓reduceIte,seval,reduceCtorEq];exact hE
 . simp only[b,if_true,if_false,ym]at hE;delta E4.c67k12 oO oN oA oM oT oG oQ oS oK oF oL oV oC oI oX oH oB oD oE oJ o5;simp (maxSteps:=9^7) -implicitDefEqProofs only[E4.rv67,my,ed,hdn,hn,chR,msD,a1,a2,a3,a4,a5,a6w,not_true_eq_false,not_false_eq_true,WU,Ent.of2,V,W3,↓reduceIte,seval,reduceCtorEq];exact hgo b _ _ (by simp[a3]) (by simp[a5]) hE
theorem BY (n:Nw) (m:Ms) (hn:NwS n) (hm:MsB m) (net:NetOk n):FC Tryz.prog 67 [enc n,enc m] [] (enc (Ad n m)) []:=by
 obtain⟨E,hE⟩:∃ E,Ad n m=E:=⟨_,rfl⟩;rw[hE];unfold Ad at hE;refine dD [] E4.is67 (by simp) (by simp[bk]) (by simp[an,ag]) (by simp[an,ag]) (by simp[aB]) (fun cx _ hl _=>dC [oa] 1500 ?_);by_cases h2:m.buf.length=n.cells.length
 rotate_left
 . rw[if_pos h2]at hE;have h2':=eq_false (show ¬ (m.buf.length:Int)=(n.cells.length:Int) by omega);delta E4.c67 oO oN oA oM oG oS oK oF oL oV oC oI oX oH oB oE oJ o4 o7;simp (maxSteps:=9^7) -implicitDefEqProofs only[E4.rv67,ed,kN,h2',InR,not_true_eq_false,not_false_eq_true,WU,V,W3,↓reduceIte,seval,reduceCtorEq];exact hE
 rw[if_neg (by simp[h2])]at hE;have h2':=eq_true (show (m.buf.length:Int)=(n.cells.length:Int) by omega);by_cases h3:0<=m.phase/\m.phase<=3
 rotate_left
 . rw[if_pos h3]at hE;have h3':=eq_false h3;delta E4.c67 oO oN oA oM oG oS oK oF oL oV oC oI oX oH oB oE oJ o4 o7;simp (maxSteps:=9^7) -implicitDefEqProofs only[E4.rv67,oa,ed,kN,h2',h3',InR,not_true_eq_false,not_false_eq_true,WU,Ent.of3,V,W3,↓reduceIte,seval,reduceCtorEq];exact hE
 rw[if_neg (fun q=>q h3)]at hE;have h3':=eq_true h3;have hc:((0<=m.at_/\m.at_<=1000000000)=False/\rgB m=false)\/((0<=m.at_/\m.at_<=1000000000)=True/\(0<=m.since/\m.since<=m.at_)=False/\rgB m=false)\/((0<=m.at_/\m.at_<=1000000000)=True/\(0<=m.since/\m.since<=m.at_)=True/\(0<=m.fresh/\m.fresh<=1000000)=False/\rgB m=false)\/((0<=m.at_/\m.at_<=1000000000)=True/\(0<=m.since/\m.since<=m.at_)=True/\(0<=m.fresh/\m.fresh<=1000000)=True/\(0<=m.got/\m.got<=m.fresh)=False/\rgB m=false)\/((0<=m.at_/\m.at_<=1000000000)=True/\(0<=m.since/\m.since<=m.at_)=True/\(0<=m.fresh/\m.fresh<=1000000)=True/\(0<=m.got/\m.got<=m.fresh)=True/\rgB m=true):=by
  rcases Classical.propComplete (0<=m.at_/\m.at_<=1000000000)with g1 | g1 <;> rcases Classical.propComplete (0<=m.since/\m.since<=m.at_)with g2 | g2 <;> rcases Classical.propComplete (0<=m.fresh/\m.fresh<=1000000)with g3 | g3 <;> rcases Classical.propComplete (0<=m.got/\m.got<=m.fresh)with g4 | g4 <;> simp[rgB,g1,g2,g3,g4]
 rcases hc with⟨g1,b⟩ | ⟨g1,g2,b⟩ | ⟨g1,g2,g3,b⟩ | ⟨g1,g2,g3,g4,b⟩ | ⟨g1,g2,g3,g4,b⟩
 . simp only[b,if_true,if_false,ym]at hE;delta E4.c67 oO oN oA oM oG oS oK oF oL oV oC oI oX oH oB oE oJ o4 o7;simp (maxSteps:=9^7) -implicitDefEqProofs only[E4.rv67,oa,ed,kN,h2',h3',g1,InR,not_true_eq_false,not_false_eq_true,WU,Ent.of3,V,W3,↓reduceIte,seval,reduceCtorEq];exact hE
 . simp only[b,if_true,if_false,ym]at hE;delta E4.c67 oO oN oA oM oG oS oK oF oL oV oC oI oX oH oB oE oJ o4 o7;simp (maxSteps:=9^7) -implicitDefEqProofs only[E4.rv67,oa,ed,kN,h2',h3',g1,g2,InR,not_true_eq_false,not_false_eq_true,WU,Ent.of3,V,W3,↓reduceIte,seval,reduceCtorEq];exact hE
 . simp only[b,if_true,if_false,ym]at hE;delta E4.c67 oO oN oA oM oG oS oK oF oL oV oC oI oX oH oB oE oJ o4 o7;simp (maxSteps:=9^7) -implicitDefEqProofs only[E4.rv67,oa,ed,kN,h2',h3',g1,g2,g3,InR,not_true_eq_false,not_false_eq_true,WU,Ent.of3,V,W3,↓reduceIte,seval,reduceCtorEq];exact hE
 . simp only[b,if_true,if_false,ym]at hE;delta E4.c67 oO oN oA oM oG oS oK oF oL oV oC oI oX oH oB oE oJ o4 o7;simp (maxSteps:=9^7) -implicitDefEqProofs only[E4.rv67,oa,ed,kN,h2',h3',g1,g2,g3,g4,InR,not_true_eq_false,not_false_eq_true,WU,Ent.of3,V,W3,↓reduceIte,seval,reduceCtorEq];exact hE
 . simp only[b,if_true,if_false,ym]at hE;delta E4.c67 oO oN oA oM oG oS oK oF oL oV oC oI oX oH oB oE oJ o4 o7;simp (maxSteps:=9^7) -implicitDefEqProofs only[E4.rv67,oa,ed,kN,h2',h3',g1,g2,g3,g4,InR,not_true_eq_false,not_false_eq_true,WU,Ent.of3,V,W3,↓reduceIte,seval,reduceCtorEq];exact rst_12 n m hn hm net h2 b cx E hE
def smB (m:Ms):Bool:=decide (m.buf.length<=8) && m.buf.all fun x=>decide (x.length<=64)
theorem Small_c (m:Ms):FC Tryz.prog 63 [enc m] [] (enc (smB m)) []:=by
 obtain⟨B,hB⟩:∃ B,smB m=B:=⟨_,rfl⟩;rw[hB];unfold smB at hB;refine dD [] is63 (by simp) (by simp[bk]) (by simp[an,ag]) (by simp[an,ag]) (by simp[aB]) (fun cx _ hl _=>dC [] 800 ?_);by_cases h8:m.buf.length<=8
 rotate_left
 . have h8':¬ (m.buf.length:Int)<=8:=by omega
   have h9':(m.buf.length:Int) > 8:=by omega
   simp only[h8,decide_false,z7]at hB;subst hB;delta c63 oN oS oK oF oL oV oI oX oB o4 o7 o9;simp (maxSteps:=9^7) -implicitDefEqProofs only[rv63,kN,h9',not_true_eq_false,not_false_eq_true,WU,V,W3,↓reduceIte,seval,reduceCtorEq]
 have h9':¬ (m.buf.length:Int) > 8:=by omega
 simp only[h8,decide_true,zY]at hB;delta c63 oN oS oK oF oL oV oI oX oB o4 o7 o9;simp (maxSteps:=9^7) -implicitDefEqProofs only[rv63,kN,h9',not_true_eq_false,not_false_eq_true,WU,V,W3,↓reduceIte,seval,reduceCtorEq];refine eN m.buf.length (fun i=>[(3,.s (.int .i64 (i:Int)))]) (fun _=>[]) (fun i=>B=(m.buf.drop i).all fun x=>decide (x.length<=64)) (by rw[<- hB];rfl) ?_ (fun i hi hv=>dC [] 800 ?_)
 . simp (maxSteps:=9^7) -implicitDefEqProofs only[V,W3,↓reduceIte,seval,reduceCtorEq]
   all_goals simp
 . by_cases h:i < m.buf.length
   . have hi2:(i:Int) < (m.buf.length:Int):=by omega
     have hi0:(0:Int)<=i:=by omega
     have hgx:List.getD (m.buf.map Dat.cells) i [C.sl 0 []]=[C.sl 1 ((m.buf.getD i []).map Dat.cells)]:=by
      rw[zb,zb,zh,ze h];rfl
     rw[eg [] h,List.all_cons]at hv;generalize m.buf.getD i []=q at *;by_cases hq:q.length<=64
     . have hq':¬ (q.length:Int) > 64:=by omega
       simp only[hq,decide_true,zY]at hv;delta Ba oO oN oA oM oR oS oK oF oL oI oX oB o0 o4 o9;simp (maxSteps:=9^7) -implicitDefEqProofs only[rv63,hi0,hi2,h,hgx,hq',zy,InR,not_true_eq_false,not_false_eq_true,WU,V,W3,↓reduceIte,seval,reduceCtorEq];exact⟨⟨by omega,by omega⟩,hv,by omega⟩
     . have hq':(q.length:Int) > 64:=by omega
       simp only[hq,decide_false,z7]at hv;subst hv;delta Ba oO oN oA oM oR oS oK oF oL oI oX oB o0 o4 o9;simp (maxSteps:=9^7) -implicitDefEqProofs only[rv63,hi0,hi2,h,hgx,hq',zy,InR,not_true_eq_false,not_false_eq_true,WU,V,W3,↓reduceIte,seval,reduceCtorEq]
   . have hi2:¬ (i:Int) < (m.buf.length:Int):=by omega
     have hd:m.buf.drop i=[]:=zv (by omega);rw[hd,List.all_nil]at hv;subst hv;delta Ba oO oN oA oM oR oS oK oF oL oI oX oB o0 o4 o9;simp (maxSteps:=9^7) -implicitDefEqProofs only[rv63,hi2,InR,WU,V,W3,↓reduceIte,seval,reduceCtorEq]
def xK : Ent Tryz.prog:=.of1 63 (fun _=>True) (fun m:Ms=>enc (smB m)) (fun _=>trivial) (fun m _=>Small_c m)
theorem sm_msB {m:Ms} (h:smB m=true) (hI:∀ a∈m.buf,∀ b∈a,-9223372036854775808<=b/\b<=9223372036854775807):MsB m:=by
 simp only[smB,zm,decide_eq_true_eq,zx]at h;refine⟨by omega,fun x hx=>by have:=h.2 x hx;omega,fun x hx=>?_⟩;obtain⟨a,ha,hx⟩:=List.mem_flatten.1 hx;have:=hI a ha x hx;exact⟨this.1,this.2⟩
theorem B8 (n:Nw) (m:Ms) (hn:NwS n) (hm:MsB m):FC Tryz.prog 70 [enc n,enc m] [] (enc (opE n m)) []:=by
 have hdn:=gO n;obtain⟨E,hE⟩:∃ E,opE n m=E:=⟨_,rfl⟩;rw[hE];unfold opE at hE;by_cases h1:(eW n).2=0
 . rw[if_neg (by simp[h1])]at hE;have h67:=BY n m hn hm (rS h1);rw[hE]at h67;refine dD [] is70 (by simp) (by simp[bk]) (by simp[an,ag]) (by simp[an,ag]) (by simp[aB]) (fun cx _ hl _=>dC [ent46,entX 67 _ _ h67 trivial] 800 ?_);delta c70 oO oN oM oS oK oV oC oI oX oB o5 o7;simp (maxSteps:=9^7) -implicitDefEqProofs only[rv70,ed,kN,hdn,hn,ent46,entX,h1,not_true_eq_false,not_false_eq_true,WU,Ent.of1,V,W3,↓reduceIte,seval,reduceCtorEq]
 . rw[if_pos h1]at hE;refine dD [] is70 (by simp) (by simp[bk]) (by simp[an,ag]) (by simp[an,ag]) (by simp[aB]) (fun cx _ hl _=>dC [ent46] 800 ?_);delta c70 oO oN oM oS oK oV oC oI oX oB o5 o7;simp (maxSteps:=9^7) -implicitDefEqProofs only[rv70,ed,kN,hdn,hn,ent46,h1,not_true_eq_false,not_false_eq_true,WU,Ent.of1,V,W3,↓reduceIte,seval,reduceCtorEq];exact hE
theorem MsB.bs {m:Ms} (h:MsB m):BufS m.buf:=⟨h.l,fun x hx=>by have:=h.r x hx;omega⟩
theorem BG (m:Ms) (h:BufS m.buf):FC Tryz.prog 65 [enc m] [] (enc m) []:=by
 refine dD [] is65 (by simp) (by simp[bk]) (by simp[an,ag]) (by simp[an,ag]) (by simp[aB]) (fun cx _ hl _=>dC [ent60] 800 ?_);delta c65 oO oA oF oL oC oW oX oZ o5 o7;simp (maxSteps:=9^7) -implicitDefEqProofs only[rv65,ent60,kN,h,WU,Ent.of1,V,W3,↓reduceIte,seval,reduceCtorEq]
def xL : Ent Tryz.prog:=.of1 65 (fun m:Ms=>BufS m.buf) (fun m=>enc m) (fun m=>by simp[kN,dF,dF.keysIns]) (fun m h=>BG m h)
theorem B7 {n:Nw} {m:Ms} {e:T3} (h:opE n m=0):apE n m e=gi n m e/\apS n m e=xM n m e:=by
 have h1:apE n m e=gi n m e:=by unfold apE;rw[if_neg (by simp[h])]
 exact⟨h1,by unfold apS xM;rw[h1]⟩
def xl (F:T3->Int) (at_:Int) (k:Nat):Nat->List T3
 | 0=>[]
 | c+1=>xl F at_ k c++(if F ⟨(k:Int),at_,(c:Int)⟩=0 then [⟨(k:Int),at_,(c:Int)⟩]else [])
def xi (F:T3->Int) (at_:Int) (w:Nat->Nat):Nat->List T3
 | 0=>[]
 | k+1=>xi F at_ w k++xl F at_ k (w k)
theorem y4 (F:T3->Int) (at_:Int) (k c:Nat) (h:F ⟨(k:Int),at_,(c:Int)⟩=0) (p:List T3):(p++xl F at_ k c).map Dat.cells++[[C.s (.int .i64 (k:Int)),C.s (.int .i64 at_),C.s (.int .i64 (c:Int))]]=(p++xl F at_ k (c+1)).map Dat.cells:=by
 rw[xl,if_pos h,<- ye,yg (l₂:=[_])];rfl
theorem x8 (F:T3->Int) (at_:Int) (k c:Nat) (h:F ⟨(k:Int),at_,(c:Int)⟩≠0):xl F at_ k (c+1)=xl F at_ k c:=by
 rw[xl,if_neg h,z4]
theorem x3 (F:T3->Int) (at_:Int) (k:Nat):∀ c,(xl F at_ k c).length<=c
 | 0=>by simp[xl]
 | c+1=>by
  have:=x3 F at_ k c;rw[xl,zK];split <;> simp <;> omega
theorem x5 (F:T3->Int) (at_:Int) (w:Nat->Nat) (b:Nat) (hw:∀ k,w k<=b):∀ k,(xi F at_ w k).length<=b*k
 | 0=>by simp[xi]
 | k+1=>by
  have:=x5 F at_ w b hw k;have h1:=x3 F at_ k (w k);have h2:=hw k;rw[xi,zK,Nat.mul_succ];omega
theorem Bz (F:T3->Int) (at_:Int) (k:Nat) (h:∀ c:Nat,1<=c->F ⟨(k:Int),at_,(c:Int)⟩≠0):∀ c,1<=c->xl F at_ k c=xl F at_ k 1
 | 0,h1=>by omega
 | 1,_=>rfl
 | c+2,_=>by
  rw[x8 F at_ k (c+1) (h (c+1) (by omega))];exact Bz F at_ k h (c+1) (by omega)
theorem BU (F:T3->Int) (at_:Int) {w w':Nat->Nat}:∀ k,(∀ i,i < k->xl F at_ i (w i)=xl F at_ i (w' i))->xi F at_ w k=xi F at_ w' k
 | 0,_=>rfl
 | k+1,h=>by
  rw[xi,xi,BU F at_ k (fun i hi=>h i (by omega)),h k (by omega)]
theorem By {F:T3->Int} {at_:Int} {k:Nat} {e:T3}:∀ {c:Nat},e∈xl F at_ k c->F e=0
 | 0,h=>by simp[xl]at h
 | c+1,h=>by
  rw[xl,zW]at h;rcases h with h | h
  . exact By h
  . by_cases hz:F ⟨(k:Int),at_,(c:Int)⟩=0
    . rw[if_pos hz]at h;simp only[zg]at h;subst h;exact hz
    . rw[if_neg hz]at h;simp at h
theorem BA {F:T3->Int} {at_:Int} {w:Nat->Nat} {e:T3}:∀ {k:Nat},e∈xi F at_ w k->F e=0
 | 0,h=>by simp[xi]at h
 | k+1,h=>by
  rw[xi,zW]at h;rcases h with h | h
  . exact BA h
  . exact By h
def xu (n:Nw) (k:Nat):Nat:=if k=3\/k=10 then n.cells.length else 1
def posL (n:Nw) (m:Ms) (at_:Int):List T3:=xi (gi n m) at_ (fun _=>n.cells.length) 12
theorem pos_wid {n:Nw} (net:NetOk n) (m:Ms) (at_:Int):xi (gi n m) at_ (xu n) 12=posL n m at_:=by
 refine BU _ _ 12 (fun i hi=>?_);unfold xu;by_cases h:i=3\/i=10
 . rw[if_pos h]
 . rw[if_neg h];refine (Bz _ _ i (fun c hc=>?_) _ (by have:=net.len;omega)).symm;have hev:evE n ⟨(i:Int),at_,(c:Int)⟩≠0:=by
    unfold evE;simp only;rw[if_neg (by simp;omega)];by_cases ht:eM at_=false
    . rw[if_pos ht];decide
    . rw[if_neg ht,if_neg (by simp[iN];omega),if_neg (by omega)];decide
   unfold gi;rw[if_pos hev];exact hev
def x4 (n:Nw) (m:Ms) (at_:Int):Int:=dM [opE n m,if eM at_ then 0 else 2,if m.at_<=at_ then 0 else 9]
theorem kaT : ∀ i,i < 12->∃ w f,(jt.drop (i*3)).take 3=[.s (.string w),.s (.bool (decide (i=3\/i=10))),.s (.func (.func f) #[] #[])]
 | 0,_=>⟨_,_,rfl⟩
 | 1,_=>⟨_,_,rfl⟩
 | 2,_=>⟨_,_,rfl⟩
 | 3,_=>⟨_,_,rfl⟩
 | 4,_=>⟨_,_,rfl⟩
 | 5,_=>⟨_,_,rfl⟩
 | 6,_=>⟨_,_,rfl⟩
 | 7,_=>⟨_,_,rfl⟩
 | 8,_=>⟨_,_,rfl⟩
 | 9,_=>⟨_,_,rfl⟩
 | 10,_=>⟨_,_,rfl⟩
 | 11,_=>⟨_,_,rfl⟩
 | n+12,h=>absurd h (by omega)
theorem kSw (m:List (Nat×Sb)):ah.subCs m jt=jt:=rfl
theorem kLw : bL jt jt:=AS jt
def possR (n:Nw) (m:Ms) (at_:Int):C:=.tup (if x4 n m at_≠0 then [enc ([]:List T3),enc (x4 n m at_)]else [enc (posL n m at_),enc (0:Int)])
theorem BX (n:Nw) (m:Ms) (at_:Int) (hn:NwS n) (hm:MsB m):FC Tryz.prog 76 [enc n,enc m,enc at_] [] (possR n m at_) []:=by
 have h64:=Bh n m hn hm;have hF:dM [opE n m,if eM at_ then 0 else 2,if m.at_<=at_ then 0 else 9]=x4 n m at_:=rfl;unfold possR;by_cases h0:x4 n m at_=0
 rotate_left
 . generalize x4 n m at_=E at *;rw[if_pos h0];generalize opE n m=O at *;refine dD [] is76 (by simp) (by simp[bk]) (by simp[an,ag]) (by simp[an,ag]) (by simp[aB]) (fun cx _ hl _=>dC [entX 64 _ _ h64 trivial,iQ,dT,dS] 1500 ?_);delta c76 oO oN oA oM oT oQ oS oK oF oL oV oC oI oX oB o1 o5 o7;simp (maxSteps:=9^7) -implicitDefEqProofs only[x6,entX,iQ,dT,dS,ed,kN,hF,h0,not_true_eq_false,not_false_eq_true,WU,Ent.of1,Ent.of2,V,W3,↓reduceIte,seval,reduceCtorEq]
 have hO:opE n m=0:=by
  unfold x4 dM at h0;by_cases q:opE n m=0
  . exact q
  . rw[if_pos q]at h0;exact absurd h0 q
 obtain⟨net,g⟩:=Bw hO;rw[if_neg (by simp[h0]),<- pos_wid net];rw[hO]at h64 hF;rw[h0]at hF;have hL:=net.len;have hg0:=g.at_;have glq:=glk;unfold Glob.gl at glq;have hkl:jt.length=36:=rfl;have hkt:List.take 36 jt=jt:=rfl;have hE:∀ e,apE n m e=gi n m e:=fun e=>(B7 hO).1
 have hw:∀ k,xu n k<=6:=fun k=>by unfold xu;split <;> omega
 refine dD [] is76 (by simp) (by simp[bk]) (by simp[an,ag]) (by simp[an,ag]) (by simp[aB]) (fun cx _ hl _=>dC [entX 64 _ _ h64 trivial,iQ,dT,dS] 1500 ?_);delta c76 oO oN oA oM oT oQ oS oK oF oL oV oC oI oX oB o1 o5 o7;simp (maxSteps:=9^7) -implicitDefEqProofs only[x6,entX,iQ,dT,dS,ed,kN,hF,glq,hkt,not_true_eq_false,not_false_eq_true,WU,Ent.of1,Ent.of2,V,W3,↓reduceIte,seval,reduceCtorEq];refine⟨by rw[hkl];decide,?_⟩;refine eN 12 (fun i=>[(34,.s (.int .i64 (i:Int)))]) (fun i=>[(9,.row 3 83 ((xi (gi n m) at_ (xu n) i).map Dat.cells))]) (fun _=>True) trivial ?_ (fun i hi _=>dC [] 800 ?_)
 . simp (maxSteps:=9^7) -implicitDefEqProofs only[xi,V,W3,↓reduceIte,seval,reduceCtorEq];exact kLw
 . by_cases h:i < 12
   . have hi2:=eq_true (show (i:Int) < 12 by omega);obtain⟨w,f,hk⟩:=kaT i h;delta c76l2 oO oN oA oM oR oS oK oF oL oV oW oI oX oB o4;simp (maxSteps:=9^7) -implicitDefEqProofs only[x6,hi2,WU,V,W3,↓reduceIte,seval,reduceCtorEq];refine pw rfl (OpM.arrIx (e:=169) (sz:=3) (n:=(i:Int)) (k:=.i64) (len:=12) (cs:=jt) (by kernel_rfl) (by kernel_rfl) (by kernel_rfl) rfl rfl ⟨by omega,by omega⟩ (by rw[hkl];omega)) (fun ef he=>?_);subst he;rw[z5,hk];refine nz [] 800 ?_;by_cases hc:i=3\/i=10
     . simp only[hc,decide_true]at hk;have hwd:xu n i=n.cells.length:=by unfold xu;rw[if_pos hc]
       have hrl:=x5 (gi n m) at_ (xu n) 6 hw i;simp (maxSteps:=9^7) -implicitDefEqProofs only[hk,hc,zy,not_true_eq_false,not_false_eq_true,InR,WU,V,W3,↓reduceIte,seval,reduceCtorEq];refine eN (n.cells.length) (fun j=>[(44,.s (.int .i64 (j:Int)))]) (fun j=>[(9,.row 3 83 ((xi (gi n m) at_ (xu n) i++xl (gi n m) at_ i j).map Dat.cells))]) (fun _=>True) trivial ?_ (fun j hj _=>?_)
       . simp (maxSteps:=9^7) -implicitDefEqProofs only[xl,z4,V,W3,↓reduceIte,seval,reduceCtorEq]
         all_goals exact kLw
       . by_cases hjl:j < n.cells.length
         . have hj2:=eq_true (show (j:Int) < (n.cells.length:Int) by omega);have h69:=As n m ⟨(i:Int),at_,(j:Int)⟩ hn hm;rw[hE]at h69;have hal:=x3 (gi n m) at_ i j;have hll:(xi (gi n m) at_ (xu n) i++xl (gi n m) at_ i j).length<=100:=by rw[zK];omega
           have happ:=y4 (gi n m) at_ i j;have hskp:=x8 (gi n m) at_ i j;generalize apS n m ⟨(i:Int),at_,(j:Int)⟩=S at *;generalize hA:gi n m ⟨(i:Int),at_,(j:Int)⟩=A at *;refine dC [entX 69 _ _ h69 ⟨by simp[kN,dF,dF.keysIns],trivial,trivial⟩] 800 ?_;by_cases hz:A=0
           . subst hz;have hap:=happ rfl (xi (gi n m) at_ (xu n) i);delta yX oO oN oA oM oR oS oK oC oW oI oX oB o3 oZ o5 o8;simp (maxSteps:=9^7) -implicitDefEqProofs only[x6,entX,ed,kN,dY,hj2,hap,InR,not_true_eq_false,not_false_eq_true,WU,V,W3,↓reduceIte,seval,reduceCtorEq];simp only[kSw];exact⟨⟨by omega,by omega⟩,⟨by omega,by omega⟩,hjl,kLw,by omega⟩
           . have hsk:=hskp hz;delta yX oO oN oA oM oR oS oK oC oW oI oX oB o3 oZ o5 o8;simp (maxSteps:=9^7) -implicitDefEqProofs only[x6,entX,ed,kN,dY,hj2,hz,InR,not_true_eq_false,not_false_eq_true,WU,V,W3,↓reduceIte,seval,reduceCtorEq];simp only[kSw];rw[hsk];exact⟨⟨by omega,by omega⟩,hjl,⟨kLw,by omega⟩,rfl⟩
         . have hje:j=n.cells.length:=by omega
           have hj2:=eq_false (show ¬ (j:Int) < (n.cells.length:Int) by omega);have hpe:xi (gi n m) at_ (xu n) i++xl (gi n m) at_ i j=xi (gi n m) at_ (xu n) (i+1):=by rw[xi,hwd,hje]
           refine dC [] 800 ?_;delta yX oO oN oA oM oR oS oK oC oW oI oX oB o3 oZ o5 o8;simp (maxSteps:=9^7) -implicitDefEqProofs only[x6,hj2,hpe,InR,WU,V,W3,↓reduceIte,seval,reduceCtorEq];rw[kSw];exact⟨⟨by omega,by omega⟩,h,kLw,by omega⟩
     . simp only[hc,decide_false]at hk;have hwd:xu n i=1:=by unfold xu;rw[if_neg hc]
       have hrl:=x5 (gi n m) at_ (xu n) 6 hw i;simp (maxSteps:=9^7) -implicitDefEqProofs only[hk,hc,not_true_eq_false,not_false_eq_true,InR,WU,V,W3,↓reduceIte,seval,reduceCtorEq];refine eN (1) (fun j=>[(44,.s (.int .i64 (j:Int)))]) (fun j=>[(9,.row 3 83 ((xi (gi n m) at_ (xu n) i++xl (gi n m) at_ i j).map Dat.cells))]) (fun _=>True) trivial ?_ (fun j hj _=>?_)
       . simp (maxSteps:=9^7) -implicitDefEqProofs only[xl,z4,V,W3,↓reduceIte,seval,reduceCtorEq]
         all_goals exact kLw
       . by_cases hjl:j < 1
         . have hj2:=eq_true (show (j:Int) < 1 by omega);have h69:=As n m ⟨(i:Int),at_,(j:Int)⟩ hn hm;rw[hE]at h69;have hal:=x3 (gi n m) at_ i j;have hll:(xi (gi n m) at_ (xu n) i++xl (gi n m) at_ i j).length<=100:=by rw[zK];omega
           have happ:=y4 (gi n m) at_ i j;have hskp:=x8 (gi n m) at_ i j;generalize apS n m ⟨(i:Int),at_,(j:Int)⟩=S at *;generalize hA:gi n m ⟨(i:Int),at_,(j:Int)⟩=A at *;refine dC [entX 69 _ _ h69 ⟨by simp[kN,dF,dF.keysIns],trivial,trivial⟩] 800 ?_;by_cases hz:A=0
           . subst hz;have hap:=happ rfl (xi (gi n m) at_ (xu n) i);delta yX oO oN oA oM oR oS oK oC oW oI oX oB o3 oZ o5 o8;simp (maxSteps:=9^7) -implicitDefEqProofs only[x6,entX,ed,kN,dY,hj2,hap,InR,not_true_eq_false,not_false_eq_true,WU,V,W3,↓reduceIte,seval,reduceCtorEq];simp only[kSw];exact⟨⟨by omega,by omega⟩,⟨by omega,by omega⟩,hjl,kLw,by omega⟩
           . have hsk:=hskp hz;delta yX oO oN oA oM oR oS oK oC oW oI oX oB o3 oZ o5 o8;simp (maxSteps:=9^7) -implicitDefEqProofs only[x6,entX,ed,kN,dY,hj2,hz,InR,not_true_eq_false,not_false_eq_true,WU,V,W3,↓reduceIte,seval,reduceCtorEq];simp only[kSw];rw[hsk];exact⟨⟨by omega,by omega⟩,hjl,⟨kLw,by omega⟩,rfl⟩
         . have hje:j=1:=by omega
           have hj2:=eq_false (show ¬ (j:Int) < 1 by omega);have hpe:xi (gi n m) at_ (xu n) i++xl (gi n m) at_ i j=xi (gi n m) at_ (xu n) (i+1):=by rw[xi,hwd,hje]
           refine dC [] 800 ?_;delta yX oO oN oA oM oR oS oK oC oW oI oX oB o3 oZ o5 o8;simp (maxSteps:=9^7) -implicitDefEqProofs only[x6,hj2,hpe,InR,WU,V,W3,↓reduceIte,seval,reduceCtorEq];rw[kSw];exact⟨⟨by omega,by omega⟩,h,kLw,by omega⟩
   . have hie:i=12:=by omega
     subst hie;delta c76l2 oO oN oA oM oR oS oK oF oL oV oW oI oX oB o4;simp (maxSteps:=9^7) -implicitDefEqProofs only[x6,hJ,WU,V,W3,↓reduceIte,seval,reduceCtorEq]
theorem BH (n:Nw) (m:Ms) (at_:Int) (hn:NwS n) (net:NetOk n) (g:dP n m):FC Tryz.prog 78 [enc n,enc m,enc at_] [] (enc (posL n m at_)) []:=by
 have hL:=net.len;have hw:∀ k:Nat,(fun _=>n.cells.length:Nat->Nat) k<=6:=fun _=>hL.2
 refine dD [] is78 (by simp) (by simp[bk]) (by simp[an,ag]) (by simp[an,ag]) (by simp[aB]) (fun cx _ hl _=>dC [] 1500 ?_);unfold posL;delta c78 oA oM oS oK oV oX o7;simp (maxSteps:=9^7) -implicitDefEqProofs only[rv78,ed,kN,not_true_eq_false,not_false_eq_true,WU,V,W3,↓reduceIte,seval,reduceCtorEq];refine eN 12 (fun i=>[(8,.s (.int .i64 (i:Int)))]) (fun i=>[(7,.row 3 83 ((xi (gi n m) at_ (fun _=>n.cells.length) i).map Dat.cells))]) (fun _=>True) trivial ?_ (fun i hi _=>?_)
 . simp (maxSteps:=9^7) -implicitDefEqProofs only[xi,V,W3,↓reduceIte,seval,reduceCtorEq]
   all_goals simp
 . by_cases h:i < 12
   . have hi2:=eq_true (show (i:Int) < 12 by omega);have hrl:=x5 (gi n m) at_ (fun _=>n.cells.length) 6 hw i;refine dC [] 800 ?_;delta c78l2 oO oN oM oR oS oK oV oX oB;simp (maxSteps:=9^7) -implicitDefEqProofs only[rv78,hi2,WU,V,W3,↓reduceIte,seval,reduceCtorEq];refine eN n.cells.length (fun j=>[(9,.s (.int .i64 (j:Int)))]) (fun j=>[(7,.row 3 83 ((xi (gi n m) at_ (fun _=>n.cells.length) i++xl (gi n m) at_ i j).map Dat.cells))]) (fun _=>True) trivial ?_ (fun j hj _=>?_)
     . simp (maxSteps:=9^7) -implicitDefEqProofs only[xl,z4,V,W3,↓reduceIte,seval,reduceCtorEq]
       all_goals simp
     . by_cases hjl:j < n.cells.length
       . have hj2:=eq_true (show (j:Int) < (n.cells.length:Int) by omega);have h71:=Apply_c n m ⟨(i:Int),at_,(j:Int)⟩ hn net g;have hal:=x3 (gi n m) at_ i j;have hll:(xi (gi n m) at_ (fun _=>n.cells.length) i++xl (gi n m) at_ i j).length<=100:=by rw[zK];omega
         have happ:=y4 (gi n m) at_ i j;have hskp:=x8 (gi n m) at_ i j;generalize xM n m ⟨(i:Int),at_,(j:Int)⟩=S at *;generalize hA:gi n m ⟨(i:Int),at_,(j:Int)⟩=A at *;refine dC [entX 71 _ _ h71 ⟨by simp[kN,dF,dF.keysIns],trivial,trivial⟩] 800 ?_;by_cases hz:A=0
         . subst hz;have hap:=happ rfl (xi (gi n m) at_ (fun _=>n.cells.length) i);delta Bb oO oN oA oM oR oS oK oF oL oC oW oI oX oB o3 oZ o4 o5 o8;simp (maxSteps:=9^7) -implicitDefEqProofs only[rv78,entX,ed,kN,dY,hj2,hap,zy,InR,not_true_eq_false,not_false_eq_true,WU,V,W3,↓reduceIte,seval,reduceCtorEq];exact⟨⟨by omega,by omega⟩,⟨by omega,by omega⟩,hjl,by omega⟩
         . have hsk:=hskp hz;delta Bb oO oN oA oM oR oS oK oF oL oC oW oI oX oB o3 oZ o4 o5 o8;simp (maxSteps:=9^7) -implicitDefEqProofs only[rv78,entX,ed,kN,dY,hj2,hz,zy,InR,not_true_eq_false,not_false_eq_true,WU,V,W3,↓reduceIte,seval,reduceCtorEq];rw[hsk];exact⟨⟨by omega,by omega⟩,hjl,by omega,rfl⟩
       . have hje:j=n.cells.length:=by omega
         have hj2:=eq_false (show ¬ (j:Int) < (n.cells.length:Int) by omega);have hpe:xi (gi n m) at_ (fun _=>n.cells.length) i++xl (gi n m) at_ i j=xi (gi n m) at_ (fun _=>n.cells.length) (i+1):=by rw[xi,hje]
         refine dC [] 800 ?_;delta Bb oO oN oA oM oR oS oK oF oL oC oW oI oX oB o3 oZ o4 o5 o8;simp (maxSteps:=9^7) -implicitDefEqProofs only[rv78,hj2,hpe,zy,InR,WU,V,W3,↓reduceIte,seval,reduceCtorEq];exact⟨⟨by omega,by omega⟩,h,by omega⟩
   . have hie:i=12:=by omega
     subst hie;refine dC [] 800 ?_;delta c78l2 oO oN oM oR oS oK oV oX oB;simp (maxSteps:=9^7) -implicitDefEqProofs only[rv78,hJ,WU,V,W3,↓reduceIte,seval,reduceCtorEq]
theorem B3 (n:Nw) (m:Ms) (a:Int):(opE n m≠0/\x4 n m a=opE n m)\/(opE n m=0/\(0<=a/\a<=1000000000)=False/\x4 n m a=2)\/(opE n m=0/\(0<=a/\a<=1000000000)=True/\a < m.at_/\x4 n m a=9)\/(opE n m=0/\(0<=a/\a<=1000000000)=True/\¬ a < m.at_/\x4 n m a=0):=by
 unfold x4 dM;by_cases q:opE n m=0
 . right;rw[if_neg (by simp[q])];unfold dM eM;rcases Classical.propComplete (0<=a/\a<=1000000000)with h | h
   . right;by_cases h3:m.at_<=a
     . right;simp[q,h,h3,dM] <;> omega
     . left;simp[q,h,h3,dM] <;> omega
   . left;simp[q,h]
 . left;rw[if_pos q];exact⟨q,rfl⟩
theorem AJ (haw:Awake) (n:Nw) (m:Ms) (hI:∀ a∈m.buf,∀ b∈a,-9223372036854775808<=b/\b<=9223372036854775807) (a:Int):FC Tryz.prog 16 [enc n,enc m,enc a] [] (enc true) []:=by
 have hdn:=gO n;have hdm:=xj m;by_cases hfew:few n=true
 rotate_left
 . have hf:few n=false:=by simpa using hfew
   refine dD [] E5.is16 (by simp) (by simp[bk]) (by simp[an,ag]) (by simp[an,ag]) (by simp[aB]) (fun cx _ _ _=>dC [ent21 haw,ent34] 1500 ?_);delta E5.c16 oO oN oA oM oT oG oR oQ oS oK oV oC oI oX oP oH oB oD oE oJ o5 o7 o8 o9;simp (maxSteps:=9^7) -implicitDefEqProofs only[E5.rv16,ent21,ent34,ed,kN,dY,hdn,hf,not_true_eq_false,WU,Ent.of0,Ent.of1,V,W3,↓reduceIte,seval,reduceCtorEq]
 by_cases hsm:smB m=true
 rotate_left
 . have hs:smB m=false:=by simpa using hsm
   refine dD [] E5.is16 (by simp) (by simp[bk]) (by simp[an,ag]) (by simp[an,ag]) (by simp[aB]) (fun cx _ _ _=>dC [ent21 haw,ent34,xK] 1500 ?_);delta E5.c16 oO oN oA oM oT oG oR oQ oS oK oV oC oI oX oP oH oB oD oE oJ o5 o7 o8 o9;simp (maxSteps:=9^7) -implicitDefEqProofs only[E5.rv16,ent21,ent34,xK,ed,kN,dY,hdn,hdm,hfew,hs,not_true_eq_false,WU,Ent.of0,Ent.of1,V,W3,↓reduceIte,seval,reduceCtorEq]
 have hn:=few_nws hfew;have hm:=sm_msB hsm hI;have hbs:=hm.bs;have h76:=BX n m a hn hm;have h70:=B8 n m hn hm;have hcs:=B3 n m a;unfold possR at h76;refine dD [] E5.is16 (by simp) (by simp[bk]) (by simp[an,ag]) (by simp[an,ag]) (by simp[aB]) (fun cx _ _ _=>?_);rcases hcs with⟨k1,k2⟩ | ⟨k1,k2,k3⟩ | ⟨k1,k2,k3,k4⟩ | ⟨k1,k2,k3,k4⟩
 . rw[k2,if_pos k1]at h76;generalize opE n m=O at *;refine dC [ent21 haw,ent34,xK,ent37,xL,entX 76 _ _ h76 ⟨trivial,trivial,trivial⟩,entX 70 _ _ h70 trivial,oa] 1500 ?_;delta E5.c16 oO oN oA oM oT oG oR oQ oS oK oV oC oI oX oP oH oB oD oE oJ o5 o7 o8 o9;simp (maxSteps:=9^7) -implicitDefEqProofs only[E5.rv16,ent21,ent34,xK,ent37,xL,oa,entX,ed,kN,dY,hdn,hdm,hn,hbs,hfew,hsm,k1,InR,not_true_eq_false,not_false_eq_true,WU,Ent.of0,Ent.of1,Ent.of3,V,W3,↓reduceIte,seval,reduceCtorEq]
 . rw[k3,if_pos (by decide)]at h76;rw[k1]at h70;refine dC [ent21 haw,ent34,xK,ent37,xL,entX 76 _ _ h76 ⟨trivial,trivial,trivial⟩,entX 70 _ _ h70 trivial,oa] 1500 ?_;delta E5.c16 oO oN oA oM oT oG oR oQ oS oK oV oC oI oX oP oH oB oD oE oJ o5 o7 o8 o9;simp (maxSteps:=9^7) -implicitDefEqProofs only[E5.rv16,ent21,ent34,xK,ent37,xL,oa,entX,ed,kN,dY,hdn,hdm,hn,hbs,hfew,hsm,k2,InR,not_true_eq_false,not_false_eq_true,WU,Ent.of0,Ent.of1,Ent.of3,V,W3,↓reduceIte,seval,reduceCtorEq]
 . rw[k4,if_pos (by decide)]at h76;rw[k1]at h70;refine dC [ent21 haw,ent34,xK,ent37,xL,entX 76 _ _ h76 ⟨trivial,trivial,trivial⟩,entX 70 _ _ h70 trivial,oa] 1500 ?_;delta E5.c16 oO oN oA oM oT oG oR oQ oS oK oV oC oI oX oP oH oB oD oE oJ o5 o7 o8 o9;simp (maxSteps:=9^7) -implicitDefEqProofs only[E5.rv16,ent21,ent34,xK,ent37,xL,oa,entX,ed,kN,dY,hdn,hdm,hn,hbs,hfew,hsm,k2,k3,InR,not_true_eq_false,not_false_eq_true,WU,Ent.of0,Ent.of1,Ent.of3,V,W3,↓reduceIte,seval,reduceCtorEq]
 obtain⟨net,g⟩:=Bw k1;have h78:=BH n m a hn net g;rw[k4,if_neg (by decide)]at h76;rw[k1]at h70;have hmem:∀ e∈posL n m a,gi n m e=0:=fun e he=>BA he
 have hlen:(posL n m a).length<=6*12:=x5 _ _ _ 6 (fun _=>net.len.2) 12;generalize posL n m a=L at *;refine dC [ent21 haw,ent34,xK,ent37,xL,entX 76 _ _ h76 ⟨trivial,trivial,trivial⟩,entX 70 _ _ h70 trivial,oa,entX 78 _ _ h78 trivial,ent77] 1500 ?_;delta E5.c16 oO oN oA oM oT oG oR oQ oS oK oV oC oI oX oP oH oB oD oE oJ o5 o7 o8 o9;simp (maxSteps:=9^7) -implicitDefEqProofs only[E5.rv16,ent21,ent34,xK,ent37,xL,oa,ent77,entX,ed,kN,dY,hdn,hdm,hn,hbs,hfew,hsm,k2,k3,InR,not_true_eq_false,not_false_eq_true,WU,Ent.of0,Ent.of1,Ent.of2,Ent.of3,V,W3,↓reduceIte,seval,reduceCtorEq];refine eN L.length (fun i=>[(10,.s (.int .i64 (i:Int)))]) (fun _=>[]) (fun _=>True) trivial ?_ (fun i hi _=>dC [] 800 ?_)
 . simp (maxSteps:=9^7) -implicitDefEqProofs only[V,W3,↓reduceIte,seval,reduceCtorEq]
   all_goals simp
 . by_cases h:i < L.length
   . have hi2:(i:Int) < (L.length:Int):=by omega
     have hi0:(0:Int)<=i:=by omega
     have hgd:=wl L i h;have he:=hmem (L.getD i ⟨0,0,0⟩) (by rw[zb,ze h];exact yy h);generalize L.getD i ⟨0,0,0⟩=e at *;have h69:=As n m e hn hm;rw[(B7 k1).1,he]at h69;generalize apS n m e=S at *;delta E5.c16l1 oO oN oA oM oT oR oS oK oC oW oI oX oB o3 oZ o4 o5 o8 o9;simp (maxSteps:=9^7) -implicitDefEqProofs only[E5.rv16,hi0,hi2,h,InR,WU,V,W3,↓reduceIte,seval,reduceCtorEq];refine Cs [ent37,xL,entX 69 _ _ h69 ⟨by simp[kN,dF,dF.keysIns],trivial,trivial⟩] 800 [1,3,8] ?_;simp (maxSteps:=9^7) -implicitDefEqProofs only[yO,mFin2,addE3,ml,pF,ops2,jo,reM2,oU,qO,qP,mE,finM,kE,ia,ip,gh,ft,fW,fW.fixBs,fV,ndE2,an,ag,av,aU,aF,kF,eQ,a6,bF,ent37,xL,entX,ed,kN,dY,hJ,hdn,hdm,hn,hbs,hi0,hi2,h,hgd,zy,InR,WU,Ent.of1,V,W3,↓reduceIte,seval,reduceCtorEq];refine⟨rfl,dC [] 800 ?_⟩;simp (maxSteps:=9^7) -implicitDefEqProofs only[E5.rv16,hi0,hi2,h,InR,not_true_eq_false,not_false_eq_true,WU,V,W3,↓reduceIte,seval,reduceCtorEq];exact⟨⟨by omega,by omega⟩,by omega⟩
   . have hie:i=L.length:=by omega
     subst hie;have hi2:¬ ((L.length:Nat):Int) < (L.length:Int):=by omega
     delta E5.c16l1 oO oN oA oM oT oR oS oK oC oW oI oX oB o3 oZ o4 o5 o8 o9;simp (maxSteps:=9^7) -implicitDefEqProofs only[E5.rv16,hi2,InR,WU,V,W3,↓reduceIte,seval,reduceCtorEq]
end Go.Proofs.YtcbabnbiinkafaaGreatDoor
end
section
open Go Go.Am
open Go.Am.Dat (cells)
namespace Go.Proofs.YtcbabnbiinkafaaGreatDoor
open Go.ChangeShapes Go.WideShapes Go.ChangeAt Go.RowKit
open Go.ChangeMaps (open_string shut_string)
set_option maxRecDepth 100000
theorem rLls : ReadsP Tryz.prog 51 (List (List Int)) (fun l=>∀ a∈l,∀ b∈a,-9223372036854775808<=b/\b<=9223372036854775807):=ReadsP.list rInts Tryz.underlying51 (by kernel_rfl)
theorem rMs : ReadsP Tryz.prog 53 Ms (fun m=>∀ a∈m.buf,∀ b∈a,-9223372036854775808<=b/\b<=9223372036854775807):=by
 refine⟨by kernel_rfl,by decide,fun en w sp fuel cs x h=>?_⟩;obtain⟨l,a0,p0,e0,h0⟩:=lY rInt Tryz.underlying53 h 0 rfl rfl;obtain⟨_,a1,p1,e1,h1⟩:=lY rInt Tryz.underlying53 h 1 rfl rfl;obtain⟨_,a2,p2,e2,h2⟩:=lY rInt Tryz.underlying53 h 2 rfl rfl;obtain⟨_,a3,p3,e3,h3⟩:=lY rInt Tryz.underlying53 h 3 rfl rfl;obtain⟨_,a4,p4,e4,h4⟩:=lY rInt Tryz.underlying53 h 4 rfl rfl;obtain⟨_,a5,p5w,e5,h5⟩:=lY rInt Tryz.underlying53 h 5 rfl rfl;obtain⟨_,a6w,p6w,e6,h6⟩:=lY rInt Tryz.underlying53 h 6 rfl rfl;obtain⟨_,a7w,p7w,e7,h7⟩:=lY rInt Tryz.underlying53 h 7 rfl rfl;obtain⟨_,a8w,p8w,e8w,h8⟩:=lY rInt Tryz.underlying53 h 8 rfl rfl;obtain⟨_,a9,p9w,e9w,h9⟩:=lY rLls Tryz.underlying53 h 9 rfl rfl;refine⟨⟨a0,a1,a2,a3,a4,a5,a6w,a7w,a8w,a9⟩,p9w,rfl,l.trans (by kernel_rfl),fun j c hj=>?_⟩
 match j,hj with
 | 0,hj=>cases hj;exact h0 0 _ rfl
 | 1,hj=>cases hj;exact h1 0 _ rfl
 | 2,hj=>cases hj;exact h2 0 _ rfl
 | 3,hj=>cases hj;exact h3 0 _ rfl
 | 4,hj=>cases hj;exact h4 0 _ rfl
 | 5,hj=>cases hj;exact h5 0 _ rfl
 | 6,hj=>cases hj;exact h6 0 _ rfl
 | 7,hj=>cases hj;exact h7 0 _ rfl
 | 8,hj=>cases hj;exact h8 0 _ rfl
 | 9,hj=>cases hj;exact h9 0 _ rfl
theorem CB (os:Os) (started:os.Started) (H:Type) (en:TypeId×Value->H) :
 ReturnsInHanded {} Tryz.checked os 16 .any (fun w args=>(Rows.movePossibleSpec.pre en Tryz.prog Tryz.f16 Rows.movePossibleRow.domain false w args/\laidMetH Tryz.prog Rows.movePossibleRow.laid w)/\sizedMet en Tryz.prog Tryz.f16 (OpenSpec.ofChange Rows.movePossibleSpec) false w args)
  (Rows.movePossibleSpec.post en Tryz.prog Tryz.f16 false true false false):=by
 refine returnsInHanded_of_change_and (C:=Tryz.checked) (X:=fun w _=>laidMetH Tryz.prog Rows.movePossibleRow.laid w) (fun _ _ _ hh h=>h.of_heap hh) ownOk started (by kernel_rfl) Tryz.func16
  (ChangeSpec.witness_shaped (enc:=en) (C:=Tryz.checked) (os:=os) (X:=fun w _=>laidMetH Tryz.prog Rows.movePossibleRow.laid w) false (World.doorLaid Tryz.prog 89 os) #[.agg #[.slice none 0 0,.slice none 0 0,.int .i64 0],.agg #[.int .i64 0,.int .i64 0,.int .i64 0,.int .i64 0,.int .i64 0,.int .i64 0,.int .i64 0,.int .i64 0,.int .i64 0,.slice none 0 0],.int .i64 0] 8 rfl (doorShaped os _) (by kernel_rfl) (by kernel_rfl) (by kernel_rfl) (door_met os _)) ?_
 intro W base args ds gs before hval0 hW hcnd hsz hL _;have hval:∀ (j:Nat) t v,Tryz.f16.params[j]? = some t->args[j]? = some v->Value.okWide Tryz.prog W .any base t v:=hval0;have hW':=hW;obtain⟨p,q,hA0,hV,rfl,hfz,hnd⟩:=hW;have hA:DataW.TrodAll en Tryz.prog W 0 (fun _=>true) true Tryz.f16.params.toList args.toList ds p:=hA0;rw[Tryz.params16]at hA hval;obtain⟨v0,vs0,d0w,ds0,p0,q0,hargs,rfl,rfl,h0,r0w⟩:=trodAll_cons hA;obtain⟨v1,vs1,d1,ds1,p1,q1,rfl,rfl,rfl,h1,r1⟩:=trodAll_cons r0w;obtain⟨v2,vs2,d2,ds2,p2,q2,rfl,rfl,rfl,h2,r2⟩:=trodAll_cons r1;obtain⟨rfl,rfl,rfl⟩:=trodAll_nil r2;obtain rfl:args=#[v0,v1,v2]:=by cases args;simp_all
 obtain⟨rfl,rfl⟩:=trodVars_none hV;have lt0:∀ x∈p0,x.block < W.heap.size:=by obtain⟨m,hm⟩:=h0;exact DataW.trod_lt m _ _ _ hm
 have lt1:∀ x∈p1,x.block < W.heap.size:=by obtain⟨m,hm⟩:=h1;exact DataW.trod_lt m _ _ _ hm
 obtain⟨x0,g0,hx0⟩:=rNw.argS rfl Tryz.underlying47 (hval 0 47 v0 rfl rfl) h0;obtain⟨x1,g1,hx1⟩:=rMs.argS rfl Tryz.underlying53 (hval 1 53 v1 rfl rfl) h1;obtain⟨x2,rfl,rfl,rfl,w2⟩:=open_int Tryz.underlying3 (hval 2 3 v2 rfl rfl) h2;clear hA0 hval0;refine (law_walkG (AJ awake_c x0 x1 g1 x2) (W:=W) (vs:=#[v0,v1,.int .i64 x2]) (glAll hL) rfl (fun j c hj E=>?_)).mono fun e W' ⟨he,bel⟩=>?_
 . match j,hj with
   | 0,hj=>cases hj;exact hx0 E
   | 1,hj=>cases hj;exact hx1 E
   | 2,hj=>cases hj;exact .d (.s _)
 . subst he;exact⟨_,rfl,_,_,_,[],_,[],hW',trodAll_mk1 (shut_bool Tryz.underlying4 _),(trodAll_cons_mk (Below.trod laidOut (by kernel_rfl) (of_decide_eq_true (by kernel_rfl)) h0 bel lt0) (trodAll_cons_mk (Below.trod laidOut (by kernel_rfl) (of_decide_eq_true (by kernel_rfl)) h1 bel lt1) (trodAll_cons_mk (shut_int Tryz.underlying3 w2) trodAll_mk0))),rfl,bel.frame _,fun h=>by cases h⟩
theorem Cz : (Rows.movePossibleRow.inPlace == Tryz.prog.inPlace 16)=true:=by kernel_rfl
theorem jUnf16 : (Rows.movePossibleRow.unfollowed == Tryz.prog.unfollowed 16)=true:=by kernel_rfl
theorem jRec16 : (Rows.movePossibleRow.recurses == Tryz.prog.recurses 16)=true:=by kernel_rfl
end Go.Proofs.YtcbabnbiinkafaaGreatDoor
end
