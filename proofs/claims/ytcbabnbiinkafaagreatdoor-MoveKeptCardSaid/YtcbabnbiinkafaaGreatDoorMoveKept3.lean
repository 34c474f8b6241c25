/- Part 3 of the proof of: MoveKept returns true for every input and never panics: behind an event every packet not yet received stands in one cell and in one only, and the state is right; conditions: those of the given statement, that the package variables it lists hold what their initialisers lay. -/
import Derived.Test.YtcbabnbiinkafaaGreatDoorMoveKept2
set_option linter.all false
section
open Go Go.Am
open Go.Am.Dat (cells)
namespace Go.Proofs.YtcbabnbiinkafaaGreatDoor
set_option maxHeartbeats 4000000
set_option maxRecDepth 100000
theorem open_2 (n:Nw) (m:Ms) (hn:NwS n) (hm:MsB m) (net:NetOk n) (hlen:m.buf.length=n.cells.length) (cx:Cx) (E:Int) (r:C) (ch:Chs) (q2:rgB m=true) (q3:msB n m=true)
 (hE:(if clB n m=false then 13 else if stB n m=false then 22 else pkE m)=E)
 (hok:E=0->r=.tup [.ptr 30 0,enc (0:Int)]/\ch=phY n (opP m) 30 1030)
 (her:E≠0->r=.tup [.s (.pointer none),enc E]/\ch=[]) :
 SG Tryz.prog cx (cB [RV.tmp 4,RV.tmp 5] [1030] r ch) [It.c E2.c113k2.cut] ⟨[(3,.ptr 3 0),(7,.ptr 7 0),(13,.fn (.func 147) [] [.ptr 7 0])],chO n m⟩:=by
 have hml:=hm.l;have hEn:dM [if clB n m=true then 0 else 13,if stB n m=true then 0 else 22,pkE m]=E:=by
  cases a1:clB n m
  . simp only[a1]at hE;subst hE;simp[dM]
  . cases a2:stB n m
    . simp only[a1,a2]at hE;subst hE;simp[dM]
    . simp only[a1,a2]at hE;subst hE;simp only[dM,if_true];simp;exact fun h=>h.symm
 have q2':=q2;simp only[rgB,zm,decide_eq_true_eq]at q2';obtain⟨⟨⟨r1,r2⟩,r3⟩,r4⟩:=q2';have hlim:=net.lim;have hI:InR .i64 ((opP m).m.since+n.limit):=by simp only[InR,opP];omega
 simp only[msB,zm,zV,decide_eq_true_eq]at q3;have hso:(opP m).m.source≠-1->0<=(opP m).m.source/\(opP m).m.source.toNat < (opP m).m.buf.length:=fun h=>by
  rcases q3.2 with h2 | h2
  . exact absurd h2 h
  . have:=fS h2;simp only[opP];rw[hlen];omega
 have hpk:fj (opP m).m.buf<=1000000000:=by
  rw[nr];have h1:=y7 m.buf 1000 hm.r;have h2:=net.len;simp only[opP];have:m.buf.length*1000<=6*1000:=zB _ (by omega);omega
 refine iw (dC [] 500 ?_);delta E2.c113k2 oO oN oA oM oT oG oS oK oF oL oV oC oI oX oP oB oD oE oJ o1;simp (maxSteps:=9^7) -implicitDefEqProofs only[WU,Ent.of0,Ent.of1,Ent.of2,Ent.of3,Ent.of4,V,W3,↓reduceIte,seval,reduceCtorEq];refine AU [dT,dS,xC n (opP m),fa n (opP m),nW n (opP m) hI,uE n (opP m) hso,xQ n (opP m) r3 r4 hml hpk hm.i] 800 ?_;have hc:((decide (m.target=-1) || nbr n m.target m.serving)=false/\clB n m=false)\/((decide (m.target=-1) || nbr n m.target m.serving)=true/\clB n m=(decide (m.source=-1) || nbr n m.source m.serving)):=by
  unfold clB;cases (decide (m.target=-1) || nbr n m.target m.serving) <;> simp
 have hd:(ej m=false/\stB n m=!(fU m))\/(ej m=true/\(m.since+n.limit<=m.at_)=True/\stB n m=false)\/(ej m=true/\(m.since+n.limit<=m.at_)=False/\stB n m=!(fU m)):=by
  rw[stB_eq];cases ej m <;> rcases Classical.propComplete (m.since+n.limit<=m.at_)with h | h <;> simp[h]
 rcases hc with⟨g1,g2⟩ | ⟨g1,g2⟩ <;> rcases hd with⟨d1,d2⟩ | ⟨d1,d3,d2⟩ | ⟨d1,d3,d2⟩
 . simp (maxSteps:=9^7) -implicitDefEqProofs only[drR,xR,xB,stR,xL,xM,xm,br,gV,fm,chO,phC,opP,msD,phX,phO,dT,dS,xC,fa,nW,uE,xQ,eq,xA,xv,g1,d1,aF,an,ag,av,aU,bqT,bqF,Bool.not_true,Bool.not_false,InR,WU,Ent.of0,Ent.of1,Ent.of2,Ent.of3,Ent.of4,V,W3,↓reduceIte,seval,reduceCtorEq];refine⟨rfl,dC [] 600 ?_⟩;simp (maxSteps:=9^7) -implicitDefEqProofs only[E2.rv113,WU,Ent.of0,Ent.of1,Ent.of2,Ent.of3,Ent.of4,V,W3,↓reduceIte,seval,reduceCtorEq];rw[g2,d2]at hEn;simp only[zr,if_false,yC]at hEn;rw[hEn];by_cases h0:E=0
   . obtain⟨rfl,rfl⟩:=hok h0;rw[if_neg (fun q=>q h0)];simp (maxSteps:=9^7) -implicitDefEqProofs only[phY,phC,opP,Ent.of0,Ent.of1,Ent.of2,Ent.of3,Ent.of4,V,W3,↓reduceIte,seval,reduceCtorEq]
   . obtain⟨rfl,rfl⟩:=her h0;rw[if_pos h0];simp (maxSteps:=9^7) -implicitDefEqProofs only[Ent.of0,Ent.of1,Ent.of2,Ent.of3,Ent.of4,V,W3,↓reduceIte,seval,reduceCtorEq]
 . simp (maxSteps:=9^7) -implicitDefEqProofs only[drR,xR,xB,stR,xL,xM,xm,br,gV,fm,chO,phC,opP,msD,phX,phO,dT,dS,xC,fa,nW,uE,xQ,eq,xA,xv,g1,d1,d3,aF,an,ag,av,aU,bqT,bqF,Bool.not_true,Bool.not_false,InR,WU,Ent.of0,Ent.of1,Ent.of2,Ent.of3,Ent.of4,V,W3,↓reduceIte,seval,reduceCtorEq];refine⟨rfl,dC [] 600 ?_⟩;simp (maxSteps:=9^7) -implicitDefEqProofs only[E2.rv113,WU,Ent.of0,Ent.of1,Ent.of2,Ent.of3,Ent.of4,V,W3,↓reduceIte,seval,reduceCtorEq];rw[g2,d2]at hEn;simp only[zr,if_false,yC]at hEn;rw[hEn];by_cases h0:E=0
   . obtain⟨rfl,rfl⟩:=hok h0;rw[if_neg (fun q=>q h0)];simp (maxSteps:=9^7) -implicitDefEqProofs only[phY,phC,opP,Ent.of0,Ent.of1,Ent.of2,Ent.of3,Ent.of4,V,W3,↓reduceIte,seval,reduceCtorEq]
   . obtain⟨rfl,rfl⟩:=her h0;rw[if_pos h0];simp (maxSteps:=9^7) -implicitDefEqProofs only[Ent.of0,Ent.of1,Ent.of2,Ent.of3,Ent.of4,V,W3,↓reduceIte,seval,reduceCtorEq]
 . simp (maxSteps:=9^7) -implicitDefEqProofs only[drR,xR,xB,stR,xL,xM,xm,br,gV,fm,chO,phC,opP,msD,phX,phO,dT,dS,xC,fa,nW,uE,xQ,eq,xA,xv,g1,d1,d3,aF,an,ag,av,aU,bqT,bqF,Bool.not_true,Bool.not_false,InR,WU,Ent.of0,Ent.of1,Ent.of2,Ent.of3,Ent.of4,V,W3,↓reduceIte,seval,reduceCtorEq];refine⟨rfl,dC [] 600 ?_⟩;simp (maxSteps:=9^7) -implicitDefEqProofs only[E2.rv113,WU,Ent.of0,Ent.of1,Ent.of2,Ent.of3,Ent.of4,V,W3,↓reduceIte,seval,reduceCtorEq];rw[g2,d2]at hEn;simp only[zr,if_false,yC]at hEn;rw[hEn];by_cases h0:E=0
   . obtain⟨rfl,rfl⟩:=hok h0;rw[if_neg (fun q=>q h0)];simp (maxSteps:=9^7) -implicitDefEqProofs only[phY,phC,opP,Ent.of0,Ent.of1,Ent.of2,Ent.of3,Ent.of4,V,W3,↓reduceIte,seval,reduceCtorEq]
   . obtain⟨rfl,rfl⟩:=her h0;rw[if_pos h0];simp (maxSteps:=9^7) -implicitDefEqProofs only[Ent.of0,Ent.of1,Ent.of2,Ent.of3,Ent.of4,V,W3,↓reduceIte,seval,reduceCtorEq]
 . simp (maxSteps:=9^7) -implicitDefEqProofs only[drR,xR,xB,stR,xL,xM,xm,br,gV,fm,chO,phC,opP,msD,phX,phO,dT,dS,xC,fa,nW,uE,xQ,eq,xA,xv,g1,d1,aF,an,ag,av,aU,bqT,bqF,Bool.not_true,Bool.not_false,InR,WU,Ent.of0,Ent.of1,Ent.of2,Ent.of3,Ent.of4,V,W3,↓reduceIte,seval,reduceCtorEq];refine⟨rfl,dC [] 600 ?_⟩;simp (maxSteps:=9^7) -implicitDefEqProofs only[E2.rv113,WU,Ent.of0,Ent.of1,Ent.of2,Ent.of3,Ent.of4,V,W3,↓reduceIte,seval,reduceCtorEq];rw[g2,d2]at hEn;simp only[zr,if_false,yC]at hEn;rw[hEn];by_cases h0:E=0
   . obtain⟨rfl,rfl⟩:=hok h0;rw[if_neg (fun q=>q h0)];simp (maxSteps:=9^7) -implicitDefEqProofs only[phY,phC,opP,Ent.of0,Ent.of1,Ent.of2,Ent.of3,Ent.of4,V,W3,↓reduceIte,seval,reduceCtorEq]
   . obtain⟨rfl,rfl⟩:=her h0;rw[if_pos h0];simp (maxSteps:=9^7) -implicitDefEqProofs only[Ent.of0,Ent.of1,Ent.of2,Ent.of3,Ent.of4,V,W3,↓reduceIte,seval,reduceCtorEq]
 . simp (maxSteps:=9^7) -implicitDefEqProofs only[drR,xR,xB,stR,xL,xM,xm,br,gV,fm,chO,phC,opP,msD,phX,phO,dT,dS,xC,fa,nW,uE,xQ,eq,xA,xv,g1,d1,d3,aF,an,ag,av,aU,bqT,bqF,Bool.not_true,Bool.not_false,InR,WU,Ent.of0,Ent.of1,Ent.of2,Ent.of3,Ent.of4,V,W3,↓reduceIte,seval,reduceCtorEq];refine⟨rfl,dC [] 600 ?_⟩;simp (maxSteps:=9^7) -implicitDefEqProofs only[E2.rv113,WU,Ent.of0,Ent.of1,Ent.of2,Ent.of3,Ent.of4,V,W3,↓reduceIte,seval,reduceCtorEq];rw[g2,d2]at hEn;simp only[zr,if_false,yC]at hEn;rw[hEn];by_cases h0:E=0
   . obtain⟨rfl,rfl⟩:=hok h0;rw[if_neg (fun q=>q h0)];simp (maxSteps:=9^7) -implicitDefEqProofs only[phY,phC,opP,Ent.of0,Ent.of1,Ent.of2,Ent.of3,Ent.of4,V,W3,↓reduceIte,seval,reduceCtorEq]
   . obtain⟨rfl,rfl⟩:=her h0;rw[if_pos h0];simp (maxSteps:=9^7) -implicitDefEqProofs only[Ent.of0,Ent.of1,Ent.of2,Ent.of3,Ent.of4,V,W3,↓reduceIte,seval,reduceCtorEq]
 . simp (maxSteps:=9^7) -implicitDefEqProofs only[drR,xR,xB,stR,xL,xM,xm,br,gV,fm,chO,phC,opP,msD,phX,phO,dT,dS,xC,fa,nW,uE,xQ,eq,xA,xv,g1,d1,d3,aF,an,ag,av,aU,bqT,bqF,Bool.not_true,Bool.not_false,InR,WU,Ent.of0,Ent.of1,Ent.of2,Ent.of3,Ent.of4,V,W3,↓reduceIte,seval,reduceCtorEq];refine⟨rfl,dC [] 600 ?_⟩;simp (maxSteps:=9^7) -implicitDefEqProofs only[E2.rv113,WU,Ent.of0,Ent.of1,Ent.of2,Ent.of3,Ent.of4,V,W3,↓reduceIte,seval,reduceCtorEq];rw[g2,d2]at hEn;simp only[zr,if_false,yC]at hEn;rw[hEn];by_cases h0:E=0
   . obtain⟨rfl,rfl⟩:=hok h0;rw[if_neg (fun q=>q h0)];simp (maxSteps:=9^7) -implicitDefEqProofs only[phY,phC,opP,Ent.of0,Ent.of1,Ent.of2,Ent.of3,Ent.of4,V,W3,↓reduceIte,seval,reduceCtorEq]
   . obtain⟨rfl,rfl⟩:=her h0;rw[if_pos h0];simp (maxSteps:=9^7) -implicitDefEqProofs only[Ent.of0,Ent.of1,Ent.of2,Ent.of3,Ent.of4,V,W3,↓reduceIte,seval,reduceCtorEq]
theorem Bv (n:Nw) (m:Ms) (hn:NwS n) (hm:MsB m) (E:Int) (hE:opE n m=E) (r:C) (ch:Chs)
 (hok:E=0->r=.tup [.ptr 30 0,enc (0:Int)]/\ch=phY n (opP m) 30 1030)
 (her:E≠0->r=.tup [.s (.pointer none),enc E]/\ch=[])
 (hn1:an (ag ch)) (hkd:aB [] ch):FC Tryz.prog 113 [enc n,enc m] [] r ch:=by
 have hdn:=gO n;have hdm:=xu m;have hb:=hn.c;have hml:=hm.l;have hF:dM [(eW n).2,if (m.buf.length:Int)=(n.cells.length:Int)then 0 else 10]=if (eW n).2≠0 then (eW n).2 else if m.buf.length≠n.cells.length then 10 else 0:=by
  by_cases h1:(eW n).2=0 <;> by_cases h2:m.buf.length=n.cells.length
  . simp[dM,h1,h2]
  . have h2':¬ (m.buf.length:Int)=(n.cells.length:Int):=by omega
    simp[dM,h1,h2,h2']
  . simp[dM,h1,h2]
  . simp[dM,h1,h2]
 have key:E=(if (eW n).2≠0 then (eW n).2 else if m.buf.length≠n.cells.length then 10 else 0)/\E≠0\/(dM [(eW n).2,if (m.buf.length:Int)=(n.cells.length:Int)then 0 else 10]=0/\(eW n).2=0/\m.buf.length=n.cells.length):=by
  unfold opE x3 at hE;by_cases h1:(eW n).2=0
  . by_cases h2:m.buf.length=n.cells.length
    . right;rw[hF,if_neg (by simp[h1]),if_neg (by simp[h2])];exact⟨rfl,h1,h2⟩
    . left;rw[if_neg (by simp[h1]),if_pos h2]at hE;rw[if_neg (by simp[h1]),if_pos h2];subst hE;exact⟨rfl,by decide⟩
  . left;rw[if_pos h1]at hE;rw[if_pos h1];subst hE;exact⟨rfl,h1⟩
 refine dD [1030] E2.is113 (by simp) (by simp[bk]) (by simp[an,ag]) hn1 hkd (fun cx _ hl _=>dC [jq,eZ,dT,dS] 1500 ?_);rcases key with⟨hE1,h0⟩ | ⟨h0,h1,h2⟩
 . rw[<- hF]at hE1;obtain⟨rfl,rfl⟩:=her h0;delta E2.c113 oO oN oA oM oT oG oQ oS oK oF oL oV oC oW oY oI oX oP oB oE oJ o1 o4 o5 o6 o7;simp (maxSteps:=9^7) -implicitDefEqProofs only[E2.rv113,ed,kN,hdn,hn,jq,eZ,dT,dS,InR,not_true_eq_false,not_false_eq_true,WU,Ent.of0,Ent.of1,Ent.of2,Ent.of3,Ent.of4,V,W3,↓reduceIte,seval,reduceCtorEq];rw[<- hE1,if_pos h0]
 unfold opE x3 at hE;rw[if_neg (by simp[h1]),if_neg (by simp[h2])]at hE;delta E2.c113 oO oN oA oM oT oG oQ oS oK oF oL oV oC oW oY oI oX oP oB oE oJ o1 o4 o5 o6 o7;simp (maxSteps:=9^7) -implicitDefEqProofs only[E2.rv113,ed,kN,hdn,hn,jq,eZ,dT,dS,InR,not_true_eq_false,not_false_eq_true,WU,Ent.of0,Ent.of1,Ent.of2,Ent.of3,Ent.of4,V,W3,↓reduceIte,seval,reduceCtorEq];rw[h0,if_neg (fun q=>q rfl)];obtain⟨p0,hp0⟩:∃ p0,gz n 0=p0:=⟨_,rfl⟩;refine nz [uz n 0 p0 hn hp0] 1500 ?_;simp (maxSteps:=9^7) -implicitDefEqProofs only[E2.rv113,uz,ed,phY,phC,WU,Ent.of0,Ent.of1,Ent.of2,Ent.of3,Ent.of4,V,W3,↓reduceIte,seval,reduceCtorEq];refine uc 1030 30 9 (c0:=.deep 1 3 24 none []) (by decide) (by decide) rfl rfl rfl ?_;refine eN m.buf.length (fun i=>[(42,.s (.int .i64 (i:Int)))]) (fun i=>[(1030,.deep 1 3 24 none (fP (m.buf.take i)))]) (fun _=>True) trivial ?_ (fun i hi _=>?_)
 . simp (maxSteps:=9^7) -implicitDefEqProofs only[ox,Ent.of0,Ent.of1,Ent.of2,Ent.of3,Ent.of4,V,W3,↓reduceIte,seval,reduceCtorEq]
   all_goals rfl
 . by_cases hlt:i < m.buf.length
   . have hi2:(i:Int) < (m.buf.length:Int):=by omega
     have hi0:(0:Int)<=i:=by omega
     have hgx:List.getD (m.buf.map Dat.cells) i [C.sl 0 []]=[C.sl 1 ((m.buf.getD i []).map Dat.cells)]:=by
      rw[zb,zb,zh,ze hlt];rfl
     have hx:=hm.r _ (yy hlt);have hgd:m.buf.getD i []=m.buf[i]:=by rw[zb,ze hlt];rfl
     have hap:fP (m.buf.take i)++[(m.buf.getD i []).map Dat.cells]=fP (m.buf.take (i+1)):=by
      rw[hgd,yI hlt,fP,fP,yg];rfl
     have hlen:(m.buf.take i).length=i:=by rw[List.length_take];omega
     rw[<- hgd]at hx;refine dC [] 800 ?_;delta E2.c113l1 oO oN oA oM oT oR oS oK oF oL oC oX oB o0 o6;simp (maxSteps:=9^7) -implicitDefEqProofs only[ox,hi0,hi2,hlt,hgx,InR,WU,Ent.of0,Ent.of1,Ent.of2,Ent.of3,Ent.of4,V,W3,↓reduceIte,seval,reduceCtorEq];refine qZ [AV (m.buf.getD i []) (by omega)] 800 ?_;simp (maxSteps:=9^7) -implicitDefEqProofs only[gL,mFin2,ml,pF,ops2,jo,reM2,oU,qO,qP,mE,finM,kE,ia,ip,gh,ft,fW,fW.fixBs,fV,ndE2,an,ag,av,aU,aF,kF,eQ,a6,bF,AV,entN,eu,hlen,InR,WU,Ent.of0,Ent.of1,Ent.of2,Ent.of3,Ent.of4,V,W3,↓reduceIte,seval,reduceCtorEq];refine⟨rfl,⟨by omega,by omega⟩,dC [] 600 ?_⟩;simp (maxSteps:=9^7) -implicitDefEqProofs only[hap,WU,Ent.of0,Ent.of1,Ent.of2,Ent.of3,Ent.of4,V,W3,↓reduceIte,seval,reduceCtorEq];refine⟨by simp only[InR];omega,hlt,by omega⟩
   . have hi2:¬ (i:Int) < (m.buf.length:Int):=by omega
     have htk:m.buf.take i=m.buf:=List.take_of_length_le (by omega);have e0:p0=⟨eR n 0,[],[⟨0,0,0⟩],-1,0⟩:=hp0.symm;subst e0;have ht:eM m.at_=decide (0<=m.at_/\m.at_<=1000000000):=rfl;refine dC [iQ,eZ] 800 ?_;have hgo:(0<=m.phase/\m.phase<=3)->rgB m=true->msB n m=true->fmB m=true->SG Tryz.prog cx (cB [RV.tmp 4,RV.tmp 5] [1030] r ch) [It.c E2.c113k2.cut] ⟨[(3,.ptr 3 0),(7,.ptr 7 0),(13,.fn (.func 147) [] [.ptr 7 0])],chO n m⟩:=fun p1 p2 p3 p4=>by
      rw[if_neg (fun q=>q p1),if_neg (by simp[p2]),if_neg (by simp[p3]),if_neg (by simp[p4])]at hE;exact open_2 n m hn hm (rS h1) h2 cx E r ch p2 p3 hE hok her
     have hop:=open_1 n m hn hm cx E r ch hE her hgo;have hc:((0<=m.at_/\m.at_<=1000000000)=False/\rgB m=false)\/((0<=m.at_/\m.at_<=1000000000)=True/\(0<=m.since/\m.since<=m.at_)=False/\rgB m=false)\/((0<=m.at_/\m.at_<=1000000000)=True/\(0<=m.since/\m.since<=m.at_)=True/\(0<=m.fresh/\m.fresh<=1000000)=False/\rgB m=false)\/((0<=m.at_/\m.at_<=1000000000)=True/\(0<=m.since/\m.since<=m.at_)=True/\(0<=m.fresh/\m.fresh<=1000000)=True/\rgB m=decide (0<=m.got/\m.got<=m.fresh)):=by
      rcases Classical.propComplete (0<=m.at_/\m.at_<=1000000000)with g1 | g1 <;> rcases Classical.propComplete (0<=m.since/\m.since<=m.at_)with g2 | g2 <;> rcases Classical.propComplete (0<=m.fresh/\m.fresh<=1000000)with g3 | g3 <;> simp[rgB,g1,g2,g3]
     rcases hc with⟨g1,g4⟩ | ⟨g1,g2,g4⟩ | ⟨g1,g2,g3,g4⟩ | ⟨g1,g2,g3,g4⟩
     . rw[g4]at hop;delta E2.c113l1 oO oN oA oM oT oR oS oK oF oL oC oX oB o0 o6;simp (maxSteps:=9^7) -implicitDefEqProofs only[E2.rv113,ox,hi2,htk,iQ,eZ,ht,g1,WU,Ent.of0,Ent.of1,Ent.of2,Ent.of3,Ent.of4,V,W3,↓reduceIte,seval,reduceCtorEq];exact hop
     . rw[g4]at hop;delta E2.c113l1 oO oN oA oM oT oR oS oK oF oL oC oX oB o0 o6;simp (maxSteps:=9^7) -implicitDefEqProofs only[E2.rv113,ox,hi2,htk,iQ,eZ,ht,g1,g2,WU,Ent.of0,Ent.of1,Ent.of2,Ent.of3,Ent.of4,V,W3,↓reduceIte,seval,reduceCtorEq];exact hop
     . rw[g4]at hop;delta E2.c113l1 oO oN oA oM oT oR oS oK oF oL oC oX oB o0 o6;simp (maxSteps:=9^7) -implicitDefEqProofs only[E2.rv113,ox,hi2,htk,iQ,eZ,ht,g1,g2,g3,WU,Ent.of0,Ent.of1,Ent.of2,Ent.of3,Ent.of4,V,W3,↓reduceIte,seval,reduceCtorEq];exact hop
     . rw[g4]at hop;delta E2.c113l1 oO oN oA oM oT oR oS oK oF oL oC oX oB o0 o6;simp (maxSteps:=9^7) -implicitDefEqProofs only[E2.rv113,ox,hi2,htk,iQ,eZ,ht,g1,g2,g3,WU,Ent.of0,Ent.of1,Ent.of2,Ent.of3,Ent.of4,V,W3,↓reduceIte,seval,reduceCtorEq];exact hop
theorem open_ok (n:Nw) (m:Ms) (hn:NwS n) (hm:MsB m) (h:opE n m=0):FC Tryz.prog 113 [enc n,enc m] [] (.tup [.ptr 30 0,enc (0:Int)]) (phY n (opP m) 30 1030):=
 Bv n m hn hm 0 h _ _ (fun _=>⟨rfl,rfl⟩) (fun q=>absurd rfl q) (by simp[phY,an,ag,av]) (by simp[phY,aB,lk])
theorem open_no (n:Nw) (m:Ms) (hn:NwS n) (hm:MsB m) (h:opE n m≠0):FC Tryz.prog 113 [enc n,enc m] [] (.tup [.s (.pointer none),enc (opE n m)]) []:=
 Bv n m hn hm _ rfl _ _ (fun q=>absurd q h) (fun _=>⟨rfl,rfl⟩) (by simp[an,ag]) (by simp[aB])
def xy (n:Nw) (m:Ms) (hn:NwS n) (hm:MsB m) (h:opE n m=0):Ent Tryz.prog:=.mk3 113 (fun args chs=>some (args=[enc n,enc m]/\chs=[],.tup [.ptr 30 0,enc (0:Int)],phY n (opP m) 30 1030,[30,1030])) (by
 intro args chs pp r chs' nk hs hq;simp only[zn,zf]at hs;obtain⟨rfl,rfl,rfl,rfl⟩:=hs;obtain⟨rfl,rfl⟩:=hq;refine⟨open_ok n m hn hm h,⟨fun k c hm=>.inl ?_,fun k cs hm=>(by simp at hm),?_,fun k c hm=>?_⟩⟩
 . simp only[phY,zl,zA,or_false,zf]at hm ⊢;rcases hm with⟨rfl,rfl⟩ | ⟨rfl,rfl⟩
   . exact .inl rfl
   . exact .inr rfl
 . simp only[phY,zt,zR,dF,dF.keysIns];exact⟨by simp,trivial,trivial⟩
 . simp only[phY,zl,zA,or_false,zf]at hm;rcases hm with⟨rfl,rfl⟩ | ⟨rfl,rfl⟩
   . simp[phY,gm,phC,dF,dF.keysIns]
   . simp[gm])
def xO (n:Nw) (m:Ms) (e:Int) (hn:NwS n) (hm:MsB m) (h:e≠0) (hp:opE n m=e):Ent Tryz.prog:=.mk3 113 (fun args chs=>some (args=[enc n,enc m]/\chs=[],.tup [.s (.pointer none),enc e],[],[])) (by
 intro args chs pp r chs' nk hs hq;simp only[zn,zf]at hs;obtain⟨rfl,rfl,rfl,rfl⟩:=hs;obtain⟨rfl,rfl⟩:=hq;have:=open_no n m hn hm (by rw[hp];exact h);rw[hp]at this
 exact⟨this,⟨fun k c hm=>(by simp at hm),fun k cs hm=>(by simp at hm),⟨trivial,trivial,trivial⟩,fun k c hm=>(by simp at hm)⟩⟩)
theorem An (n:Nw) (m:Ms) (hn:NwS n) (hm:MsB m):FC Tryz.prog 64 [enc n,enc m] [] (enc (opE n m)) []:=by
 by_cases h:opE n m=0
 . rw[h];refine dD [] is64 (by simp) (by simp[bk]) (by simp[an,ag]) (by simp[an,ag]) (by simp[aB]) (fun cx _ hl _=>dC [xy n m hn hm h] 1500 ?_);delta c64 oO oM oV oC oX o5 o7 o8;simp (maxSteps:=9^7) -implicitDefEqProofs only[rv64,xy,ed,kN,phY,phC,opP,WU,Ent.of0,Ent.of1,Ent.of2,Ent.of3,Ent.of4,V,W3,↓reduceIte,seval,reduceCtorEq]
 . obtain⟨e,he⟩:∃ e,opE n m=e:=⟨_,rfl⟩;rw[he];refine dD [] is64 (by simp) (by simp[bk]) (by simp[an,ag]) (by simp[an,ag]) (by simp[aB]) (fun cx _ hl _=>dC [xO n m e hn hm (he ▸ h) he] 1500 ?_);delta c64 oO oM oV oC oX o5 o7 o8;simp (maxSteps:=9^7) -implicitDefEqProofs only[rv64,xO,ed,kN,WU,Ent.of0,Ent.of1,Ent.of2,Ent.of3,Ent.of4,V,W3,↓reduceIte,seval,reduceCtorEq]
def dueE (n:Nw) (m:Ms):Int×Int:=if opE n m≠0 then (0,opE n m)else if ej m=true then (m.since+n.limit,0)else (0,12)
theorem AI {n:Nw} {m:Ms} (h:opE n m=0):NetOk n/\dP n m:=by
 unfold opE at h;obtain⟨h1,h2⟩:=y3 h;exact⟨rS h1,BI h2⟩
theorem AT (n:Nw) (m:Ms) (hn:NwS n) (hm:MsB m):FC Tryz.prog 73 [enc n,enc m] [] (.tup [enc (dueE n m).1,enc (dueE n m).2]) []:=by
 by_cases h:opE n m=0
 . obtain⟨net,g⟩:=AI h;have hI:InR .i64 ((opP m).m.since+n.limit):=by
    have:=net.lim;have:=g.since;have:=g.at_;simp only[InR,opP];omega
   refine dD [] is73 (by simp) (by simp[bk]) (by simp[an,ag]) (by simp[an,ag]) (by simp[aB]) (fun cx _ hl _=>dC [xy n m hn hm h,fa n (opP m),nW n (opP m) hI] 1500 ?_);unfold dueE;cases ha:ej m
   . simp only[h];delta c73 oO oN oA oM oS oK oV oC oI oX oB o5 o7 o8;simp (maxSteps:=9^7) -implicitDefEqProofs only[rv73,xy,fa,nW,eq,ed,kN,phX,phY,phC,opP,ha,not_true_eq_false,not_false_eq_true,WU,Ent.of0,Ent.of1,Ent.of2,Ent.of3,Ent.of4,V,W3,↓reduceIte,seval,reduceCtorEq]
   . simp only[h];delta c73 oO oN oA oM oS oK oV oC oI oX oB o5 o7 o8;simp (maxSteps:=9^7) -implicitDefEqProofs only[rv73,xy,fa,nW,eq,ed,kN,phX,phY,phC,opP,ha,not_true_eq_false,not_false_eq_true,WU,Ent.of0,Ent.of1,Ent.of2,Ent.of3,Ent.of4,V,W3,↓reduceIte,seval,reduceCtorEq]
 . obtain⟨e,he⟩:∃ e,opE n m=e:=⟨_,rfl⟩;unfold dueE;rw[he];rw[he]at h;rw[if_pos h];refine dD [] is73 (by simp) (by simp[bk]) (by simp[an,ag]) (by simp[an,ag]) (by simp[aB]) (fun cx _ hl _=>dC [xO n m e hn hm h he] 1500 ?_);delta c73 oO oN oA oM oS oK oV oC oI oX oB o5 o7 o8;simp (maxSteps:=9^7) -implicitDefEqProofs only[rv73,xO,ed,kN,h,not_true_eq_false,not_false_eq_true,WU,Ent.of0,Ent.of1,Ent.of2,Ent.of3,Ent.of4,V,W3,↓reduceIte,seval,reduceCtorEq]
def apE (n:Nw) (m:Ms) (e:T3):Int:=if opE n m≠0 then opE n m else gi n m e
def apS (n:Nw) (m:Ms) (e:T3):Ms:=if apE n m e≠0 then ms0 else rf n m e
theorem PhK.op (m:Ms):PhK 0 (opP m):=⟨by simp[opP],by simp[opP],by simp[opP],by simp[opP]⟩
theorem By (n:Nw) (m:Ms) (e:T3) (hn:NwS n) (hm:MsB m):FC Tryz.prog 69 [enc n,enc m,enc e] [] (.tup [enc (apS n m e),enc (apE n m e)]) []:=by
 by_cases h:opE n m=0
 . obtain⟨net,g⟩:=AI h;obtain⟨q,hq,hq2⟩:=apply_c n (opP m) e 0 hn net g (PhK.op m) (by omega);have hE:gi n (opP m).m e=apE n m e:=by unfold apE;rw[if_neg (by simp[h])];rfl
   rw[hE]at hq hq2;refine dD [] is69 (by simp) (by simp[bk]) (by simp[an,ag]) (by simp[an,ag]) (by simp[aB]) (fun cx _ hl _=>dC [xy n m hn hm h,eq 118 n (opP m) q [.ptr 100000 0,enc e] (enc (apE n m e)) trivial hq] 1500 ?_);unfold apS;generalize apE n m e=E at *;by_cases h0:E=0
   . subst h0;have hS:rf n m e=q.m:=by rw[hq2 rfl,rc];rfl
     rw[if_neg (fun q=>q rfl),hS];delta c69 oO oN oA oM oR oS oK oF oV oC oW oI oX oB oZ o5 o6 o7 o8;simp (maxSteps:=9^7) -implicitDefEqProofs only[rv69,xy,eq,ed,kN,dY,phX,phY,phC,opP,not_true_eq_false,not_false_eq_true,WU,Ent.of0,Ent.of1,Ent.of2,Ent.of3,Ent.of4,V,W3,↓reduceIte,seval,reduceCtorEq];rw[fP,zT];rfl
   . rw[if_pos h0];delta c69 oO oN oA oM oR oS oK oF oV oC oW oI oX oB oZ o5 o6 o7 o8;simp (maxSteps:=9^7) -implicitDefEqProofs only[rv69,xy,eq,ed,kN,dY,phX,phY,phC,opP,ms0,h0,not_true_eq_false,not_false_eq_true,WU,Ent.of0,Ent.of1,Ent.of2,Ent.of3,Ent.of4,V,W3,↓reduceIte,seval,reduceCtorEq]
 . obtain⟨E,he⟩:∃ e,opE n m=e:=⟨_,rfl⟩;have he1:apE n m e=E:=by unfold apE;rw[if_pos h];exact he
   unfold apS;rw[he]at h;rw[he1,if_pos h];refine dD [] is69 (by simp) (by simp[bk]) (by simp[an,ag]) (by simp[an,ag]) (by simp[aB]) (fun cx _ hl _=>dC [xO n m E hn hm h he] 1500 ?_);delta c69 oO oN oA oM oR oS oK oF oV oC oW oI oX oB oZ o5 o6 o7 o8;simp (maxSteps:=9^7) -implicitDefEqProofs only[rv69,xO,ed,kN,dY,ms0,h,not_true_eq_false,not_false_eq_true,WU,Ent.of0,Ent.of1,Ent.of2,Ent.of3,Ent.of4,V,W3,↓reduceIte,seval,reduceCtorEq]
theorem yW : ∀ (l:List (List Int)) (v:Int) (i:Nat),(0<=xl v i l)↔v∈l.flatten
 |[],v,i=>by simp[xl]
 | r :: l,v,i=>by
  rw[xl,List.flatten_cons,zW];by_cases h:(r.any fun x=>decide (x=v))=true
  . rw[if_pos h];simp only[List.any_eq_true,decide_eq_true_eq]at h;obtain⟨x,hx,rfl⟩:=h;exact⟨fun _=>.inl hx,fun _=>Int.natCast_nonneg _⟩
  . rw[if_neg h,yW l v (i+1)];simp only[List.any_eq_true,decide_eq_true_eq]at h;exact⟨fun q=>.inr q,fun q=>q.resolve_left fun q=>h ⟨v,q,rfl⟩⟩
theorem where_k (m:Ms) (k v:Int) (h1:m.buf.length<=1000000) (h2:0<=k) (h3:k<=m.buf.length):FC Tryz.prog 117 [enc m,enc k,enc v] [] (enc (xl v 0 (m.buf.take k.toNat))) []:=by
 obtain⟨j,rfl⟩:=Int.eq_ofNat_of_zero_le h2;exact where_c m j v h1 (by omega)
def xI : Ent Tryz.prog:=.of3 117 (fun (m:Ms) (k _:Int)=>m.buf.length<=1000000/\0<=k/\k<=m.buf.length) (fun (m:Ms) (k v:Int)=>enc (xl v 0 (m.buf.take k.toNat))) (fun _ _ _=>trivial) (fun m k v h=>where_k m k v h.1 h.2.1 h.2.2)
def chR (n:Nw) (m:Ms):Chs:=[(3,.box (msD m)),(2,.box [.sl 1 (n.cells.map Dat.cells),.sl 2 (n.nb.map Dat.cells),.s (.int .i64 n.limit)])]
theorem rst_5 (n:Nw) (m:Ms) (hm:MsB m) (hf:0<=m.fresh/\m.fresh<=1000000) (hg:0<=m.got/\m.got<=m.fresh) (cx:Cx) (E:Int) (hE:(if xK m=false then 14 else 0)=E):SG Tryz.prog cx (cB [RV.tmp 4] [] (enc E) []) [It.c E4.c67k5.cut] ⟨[(3,.ptr 3 0)],chR n m⟩:=by
 have hml:=hm.l;have hdm:=xu m;refine iw (dC [] 500 ?_);obtain⟨K,hK⟩:∃ K,(m.fresh - m.got).toNat=K:=⟨_,rfl⟩;unfold xK at hE;rw[hK]at hE;by_cases h60:m.fresh - m.got<=60
 . have h60':¬ (m.fresh - m.got > 60):=by omega
   delta E4.c67k5 oO oN oM oS oK oF oL oV oI oX oB;simp (maxSteps:=9^7) -implicitDefEqProofs only[E4.rv67,chR,msD,h60',not_true_eq_false,not_false_eq_true,InR,WU,Ent.of0,Ent.of1,Ent.of2,Ent.of3,Ent.of4,V,W3,↓reduceIte,seval,reduceCtorEq];refine⟨by omega,?_⟩;simp only[h60,decide_true,zY]at hE;refine eN K (fun i=>[(12,.s (.int .i64 (m.got+(i:Int))))]) (fun _=>[]) (fun i=>xw m.buf.flatten K m.got=xw m.buf.flatten (K - i) (m.got+i)) (by simp) ?_ (fun i hi hv=>dC [xI] 800 ?_)
   . simp (maxSteps:=9^7) -implicitDefEqProofs only[Ent.of0,Ent.of1,Ent.of2,Ent.of3,Ent.of4,V,W3,↓reduceIte,seval,reduceCtorEq]
     all_goals simp
   . by_cases h:i < K
     . have hi2:m.got+(i:Int) < m.fresh:=by omega
       have hk1:K - i=(K - (i+1))+1:=by omega
       rw[hk1,xw]at hv;have hw:=yW m.buf (m.got+(i:Int)) 0;have htk:m.buf.take m.buf.length=m.buf:=yo;have hle:=eq_true (Int.le_refl (m.buf.length:Int));have hl0:(0:Int)<=(m.buf.length:Int):=by omega
       by_cases hx:(m.got+(i:Int))∈m.buf.flatten
       . have hw2:¬ (xl (m.got+(i:Int)) 0 m.buf < 0):=by have:=hw.2 hx;omega
         simp only[hx,decide_true,zY]at hv;delta E4.c67l4 oO oN oM oR oS oK oF oL oV oC oI oX oB o4 o5;simp (maxSteps:=9^7) -implicitDefEqProofs only[E4.rv67,xI,kN,hdm,hi2,hml,htk,hl0,hle,hw2,not_true_eq_false,not_false_eq_true,InR,WU,Ent.of0,Ent.of1,Ent.of2,Ent.of3,Ent.of4,V,W3,↓reduceIte,seval,reduceCtorEq];exact⟨⟨by omega,by omega⟩,h,by rw[hv,show ((i+1:Nat):Int)=(i:Int)+1 by omega,<- Int.add_assoc],by omega⟩
       . have hw2:xl (m.got+(i:Int)) 0 m.buf < 0:=by
          have:¬ (0<=xl (m.got+(i:Int)) 0 m.buf):=fun q=>hx (hw.1 q)
          omega
         simp only[hx,decide_false,z7]at hv;rw[hv]at hE;subst hE;delta E4.c67l4 oO oN oM oR oS oK oF oL oV oC oI oX oB o4 o5;simp (maxSteps:=9^7) -implicitDefEqProofs only[E4.rv67,xI,kN,hdm,hi2,hml,htk,hl0,hle,hw2,not_true_eq_false,not_false_eq_true,InR,WU,Ent.of0,Ent.of1,Ent.of2,Ent.of3,Ent.of4,V,W3,↓reduceIte,seval,reduceCtorEq]
     . have hie:i=K:=by omega
       subst hie;have hi2:¬ m.got+(i:Int) < m.fresh:=by omega
       rw[show i - i=0 by omega,xw]at hv;rw[hv]at hE;subst hE;delta E4.c67l4 oO oN oM oR oS oK oF oL oV oC oI oX oB o4 o5;simp (maxSteps:=9^7) -implicitDefEqProofs only[E4.rv67,hi2,InR,WU,Ent.of0,Ent.of1,Ent.of2,Ent.of3,Ent.of4,V,W3,↓reduceIte,seval,reduceCtorEq]
 . have h60':m.fresh - m.got > 60:=by omega
   simp only[h60,decide_false,z7]at hE;subst hE;delta E4.c67k5 oO oN oM oS oK oF oL oV oI oX oB;simp (maxSteps:=9^7) -implicitDefEqProofs only[E4.rv67,chR,msD,h60',not_true_eq_false,not_false_eq_true,InR,WU,Ent.of0,Ent.of1,Ent.of2,Ent.of3,Ent.of4,V,W3,↓reduceIte,seval,reduceCtorEq];omega
theorem rst_6 (n:Nw) (m:Ms) (hm:MsB m) (hf:0<=m.fresh/\m.fresh<=1000000) (hg:0<=m.got/\m.got<=m.fresh) (cx:Cx) (E:Int) (tgw srw:Bool) (htg:tgw=!decide (m.target=-1)) (hsr:srw=!decide (m.source=-1)) (hE:(if xD m=false then 23 else if xK m=false then 14 else 0)=E):SG Tryz.prog cx (cB [RV.tmp 4] [] (enc E) []) [It.c E4.c67k6.cut] ⟨[(3,.ptr 3 0),(5,.s (.bool tgw)),(6,.s (.bool srw))],chR n m⟩:=by
 have hml:=hm.l;have hdm:=xu m;refine iw (dC [] 500 ?_);delta E4.c67k6 oS oK oV oX;simp (maxSteps:=9^7) -implicitDefEqProofs only[E4.rv67,chR,msD,InR,WU,Ent.of0,Ent.of1,Ent.of2,Ent.of3,Ent.of4,V,W3,↓reduceIte,seval,reduceCtorEq];refine eN m.buf.length (fun i=>[(11,.s (.int .i64 (i:Int)))]) (fun _=>[]) (fun i=>∀ j,j < i->xx m j=true) (fun j hj=>absurd hj (by omega)) ?_ (fun i hi hv=>dC [xf] 800 ?_)
 . simp (maxSteps:=9^7) -implicitDefEqProofs only[Ent.of0,Ent.of1,Ent.of2,Ent.of3,Ent.of4,V,W3,↓reduceIte,seval,reduceCtorEq]
   all_goals simp
 . by_cases h:i < m.buf.length
   . have hi2:(i:Int) < (m.buf.length:Int):=by omega
     have hi0:(0:Int)<=i:=by omega
     have hgx:List.getD (m.buf.map Dat.cells) i [C.sl 0 []]=[C.sl 1 ((m.buf.getD i []).map Dat.cells)]:=by
      rw[zb,zb,zh,ze h];rfl
     have hopn:xx m i=((m.buf.getD i []).isEmpty || decide ((i:Int)=m.serving) || decide ((i:Int)=m.source) || (ej m && decide ((i:Int)=m.target))):=rfl;have hnx:xx m i=true->∀ j,j < i+1->xx m j=true:=fun q j hj=>by
      rcases Nat.lt_or_eq_of_le (Nat.lt_succ_iff.1 hj)with q2 | q2
      . exact hv j q2
      . rw[q2];exact q
     have hbad:xx m i=false->E=23:=fun q=>by
      have:xD m=false:=by
       cases h2:xD m with
       | false=>rfl
       | true=>
        rw[xD,zx]at h2;rw[h2 i (zE.2 h)]at q;cases q
      rw[this]at hE;exact hE.symm
     generalize m.buf.getD i []=q at *;have hc:(q=[]/\xx m i=true)\/((0 < (q.length:Int))=True/\(((i:Int)=m.serving)=True/\xx m i=true\/(((i:Int)=m.serving)=False/\((srw=true/\((i:Int)=m.source)=True/\xx m i=true)\/(((srw=true/\((i:Int)=m.source)=False)\/srw=false)/\((tgw=false/\xx m i=false)\/(tgw=true/\ej m=false/\xx m i=false)\/(tgw=true/\ej m=true/\((i:Int)=m.target)=True/\xx m i=true)\/(tgw=true/\ej m=true/\((i:Int)=m.target)=False/\xx m i=false))))))):=by
      rw[hopn];cases q with
      | nil=>left;simp
      | cons a l=>
       right;refine⟨by simp,?_⟩;rcases Classical.propComplete ((i:Int)=m.serving)with g1 | g1
       . left;simp[g1]
       . right;refine⟨g1,?_⟩;have s1:srw=false->((i:Int)=m.source)=False:=fun q=>by
          rw[q]at hsr;have:m.source=-1:=by simpa using hsr
          exact eq_false (by omega)
         have s2:tgw=false->((i:Int)=m.target)=False:=fun q=>by
          rw[q]at htg;have:m.target=-1:=by simpa using htg
          exact eq_false (by omega)
         cases srw
         . right;refine⟨.inr rfl,?_⟩;have g2:=s1 rfl;cases tgw
           . left;simp[g1,g2,s2 rfl]
           . right;rcases Classical.propComplete ((i:Int)=m.target)with g3 | g3 <;> cases ej m <;> simp[g1,g2,g3]
         . rcases Classical.propComplete ((i:Int)=m.source)with g2 | g2
           . left;simp[g1,g2]
           . right;refine⟨.inl ⟨rfl,g2⟩,?_⟩;cases tgw
             . left;simp[g1,g2,s2 rfl]
             . right;rcases Classical.propComplete ((i:Int)=m.target)with g3 | g3 <;> cases ej m <;> simp[g1,g2,g3]
     clear hopn;rcases hc with⟨rfl,ho⟩ | ⟨a1,⟨a2,ho⟩ | ⟨a2,⟨rfl,a3,ho⟩ | ⟨⟨rfl,a3⟩ | rfl,⟨rfl,ho⟩ | ⟨rfl,a4,ho⟩ | ⟨rfl,a4,a5,ho⟩ | ⟨rfl,a4,a5,ho⟩⟩⟩⟩
     . delta E4.c67l3 oO oN oA oM oG oR oS oK oF oL oV oI oX oP oB oD oE oJ o0 o4;simp (maxSteps:=9^7) -implicitDefEqProofs only[E4.rv67,hi0,hi2,h,hgx,zR,InR,WU,Ent.of0,Ent.of1,Ent.of2,Ent.of3,Ent.of4,V,W3,↓reduceIte,seval,reduceCtorEq];exact⟨⟨by omega,by omega⟩,hnx ho,by omega⟩
     . delta E4.c67l3 oO oN oA oM oG oR oS oK oF oL oV oI oX oP oB oD oE oJ o0 o4;simp (maxSteps:=9^7) -implicitDefEqProofs only[E4.rv67,xf,kN,hdm,hi0,hi2,h,hgx,zy,a1,a2,InR,WU,Ent.of0,Ent.of1,Ent.of2,Ent.of3,Ent.of4,V,W3,↓reduceIte,seval,reduceCtorEq];exact⟨⟨by omega,by omega⟩,hnx ho,by omega⟩
     . delta E4.c67l3 oO oN oA oM oG oR oS oK oF oL oV oI oX oP oB oD oE oJ o0 o4;simp (maxSteps:=9^7) -implicitDefEqProofs only[E4.rv67,xf,kN,hdm,hi0,hi2,h,hgx,zy,a1,a2,a3,InR,WU,Ent.of0,Ent.of1,Ent.of2,Ent.of3,Ent.of4,V,W3,↓reduceIte,seval,reduceCtorEq];exact⟨⟨by omega,by omega⟩,hnx ho,by omega⟩
     . delta E4.c67l3 oO oN oA oM oG oR oS oK oF oL oV oI oX oP oB oD oE oJ o0 o4;simp (maxSteps:=9^7) -implicitDefEqProofs only[E4.rv67,xf,kN,hdm,hi0,hi2,h,hgx,zy,a1,a2,a3,InR,WU,Ent.of0,Ent.of1,Ent.of2,Ent.of3,Ent.of4,V,W3,↓reduceIte,seval,reduceCtorEq];exact (hbad ho).symm
     . delta E4.c67l3 oO oN oA oM oG oR oS oK oF oL oV oI oX oP oB oD oE oJ o0 o4;simp (maxSteps:=9^7) -implicitDefEqProofs only[E4.rv67,xf,kN,hdm,hi0,hi2,h,hgx,zy,a1,a2,a3,a4,InR,WU,Ent.of0,Ent.of1,Ent.of2,Ent.of3,Ent.of4,V,W3,↓reduceIte,seval,reduceCtorEq];exact (hbad ho).symm
     . delta E4.c67l3 oO oN oA oM oG oR oS oK oF oL oV oI oX oP oB oD oE oJ o0 o4;simp (maxSteps:=9^7) -implicitDefEqProofs only[E4.rv67,xf,kN,hdm,hi0,hi2,h,hgx,zy,a1,a2,a3,a4,a5,InR,WU,Ent.of0,Ent.of1,Ent.of2,Ent.of3,Ent.of4,V,W3,↓reduceIte,seval,reduceCtorEq];exact⟨⟨by omega,by omega⟩,hnx ho,by omega⟩
     . delta E4.c67l3 oO oN oA oM oG oR oS oK oF oL oV oI oX oP oB oD oE oJ o0 o4;simp (maxSteps:=9^7) -implicitDefEqProofs only[E4.rv67,xf,kN,hdm,hi0,hi2,h,hgx,zy,a1,a2,a3,a4,a5,InR,WU,Ent.of0,Ent.of1,Ent.of2,Ent.of3,Ent.of4,V,W3,↓reduceIte,seval,reduceCtorEq];exact (hbad ho).symm
     . delta E4.c67l3 oO oN oA oM oG oR oS oK oF oL oV oI oX oP oB oD oE oJ o0 o4;simp (maxSteps:=9^7) -implicitDefEqProofs only[E4.rv67,xf,kN,hdm,hi0,hi2,h,hgx,zy,a1,a2,InR,WU,Ent.of0,Ent.of1,Ent.of2,Ent.of3,Ent.of4,V,W3,↓reduceIte,seval,reduceCtorEq];exact (hbad ho).symm
     . delta E4.c67l3 oO oN oA oM oG oR oS oK oF oL oV oI oX oP oB oD oE oJ o0 o4;simp (maxSteps:=9^7) -implicitDefEqProofs only[E4.rv67,xf,kN,hdm,hi0,hi2,h,hgx,zy,a1,a2,a4,InR,WU,Ent.of0,Ent.of1,Ent.of2,Ent.of3,Ent.of4,V,W3,↓reduceIte,seval,reduceCtorEq];exact (hbad ho).symm
     . delta E4.c67l3 oO oN oA oM oG oR oS oK oF oL oV oI oX oP oB oD oE oJ o0 o4;simp (maxSteps:=9^7) -implicitDefEqProofs only[E4.rv67,xf,kN,hdm,hi0,hi2,h,hgx,zy,a1,a2,a4,a5,InR,WU,Ent.of0,Ent.of1,Ent.of2,Ent.of3,Ent.of4,V,W3,↓reduceIte,seval,reduceCtorEq];exact⟨⟨by omega,by omega⟩,hnx ho,by omega⟩
     . delta E4.c67l3 oO oN oA oM oG oR oS oK oF oL oV oI oX oP oB oD oE oJ o0 o4;simp (maxSteps:=9^7) -implicitDefEqProofs only[E4.rv67,xf,kN,hdm,hi0,hi2,h,hgx,zy,a1,a2,a4,a5,InR,WU,Ent.of0,Ent.of1,Ent.of2,Ent.of3,Ent.of4,V,W3,↓reduceIte,seval,reduceCtorEq];exact (hbad ho).symm
   . have hi2:¬ (i:Int) < (m.buf.length:Int):=by omega
     have hop:xD m=true:=by
      rw[xD,zx];exact fun j hj=>hv j (by have:=zE.1 hj;omega)
     rw[hop]at hE;delta E4.c67l3 oO oN oA oM oG oR oS oK oF oL oV oI oX oP oB oD oE oJ o0 o4;simp (maxSteps:=9^7) -implicitDefEqProofs only[E4.rv67,hi2,InR,WU,Ent.of0,Ent.of1,Ent.of2,Ent.of3,Ent.of4,V,W3,↓reduceIte,seval,reduceCtorEq];exact rst_5 n m hm hf hg cx E hE
theorem rst_7 (n:Nw) (m:Ms) (hm:MsB m) (hf:0<=m.fresh/\m.fresh<=1000000) (hg:0<=m.got/\m.got<=m.fresh) (cx:Cx) (E:Int) (tgw srw:Bool) (htg:tgw=!decide (m.target=-1)) (hsr:srw=!decide (m.source=-1)) (hE:(if pkL m.fresh [] m.buf≠0 then pkL m.fresh [] m.buf else if xD m=false then 23 else if xK m=false then 14 else 0)=E):SG Tryz.prog cx (cB [RV.tmp 4] [] (enc E) []) [It.c E4.c67k7.cut] ⟨[(3,.ptr 3 0),(5,.s (.bool tgw)),(6,.s (.bool srw))],chR n m⟩:=by
 have hml:=hm.l;have hdm:=xu m;refine iw (dC [] 500 ?_);delta E4.c67k7 oS oK oV oX;simp (maxSteps:=9^7) -implicitDefEqProofs only[E4.rv67,chR,msD,InR,WU,Ent.of0,Ent.of1,Ent.of2,Ent.of3,Ent.of4,V,W3,↓reduceIte,seval,reduceCtorEq];refine eN m.buf.length (fun i=>[(8,.s (.int .i64 (i:Int)))]) (fun _=>[]) (fun i=>pkL m.fresh [] m.buf=pkL m.fresh (m.buf.take i).flatten (m.buf.drop i)) rfl ?_ (fun i hi hv=>dC [] 800 ?_)
 . simp (maxSteps:=9^7) -implicitDefEqProofs only[Ent.of0,Ent.of1,Ent.of2,Ent.of3,Ent.of4,V,W3,↓reduceIte,seval,reduceCtorEq]
   all_goals simp
 . by_cases h:i < m.buf.length
   . have hi2:(i:Int) < (m.buf.length:Int):=by omega
     have hi0:(0:Int)<=i:=by omega
     have hile:=eq_true (show (i:Int)<=(m.buf.length:Int) by omega);have hgx:List.getD (m.buf.map Dat.cells) i [C.sl 0 []]=[C.sl 1 ((m.buf.getD i []).map Dat.cells)]:=by
      rw[zb,zb,zh,ze h];rfl
     have hfs:=x9 h;rw[eg [] h,pkL]at hv;rw[<- hfs]at hv;have hll:(m.buf.getD i []).length<=1000:=by
      rw[zb,ze h];exact hm.r _ (yy h)
     have hwh:=fun v=>yW (m.buf.take i) v 0
     generalize m.buf.getD i []=l at *;delta E4.c67l2 oO oN oA oM oR oS oK oF oL oV oX oB o0 o4;simp (maxSteps:=9^7) -implicitDefEqProofs only[E4.rv67,hi0,hi2,h,hgx,zy,InR,WU,Ent.of0,Ent.of1,Ent.of2,Ent.of3,Ent.of4,V,W3,↓reduceIte,seval,reduceCtorEq];generalize hS:(m.buf.take i).flatten=seen at *;refine eN l.length (fun k=>[(10,.s (.int .i64 (k:Int)))]) (fun _=>[]) (fun k=>xo m.fresh seen (-1) l=xo m.fresh seen (if k=0 then -1 else l.getD (k - 1) 0) (l.drop k)) rfl ?_ (fun k hk hw=>dC [oa,xI] 800 ?_)
     . simp (maxSteps:=9^7) -implicitDefEqProofs only[Ent.of0,Ent.of1,Ent.of2,Ent.of3,Ent.of4,V,W3,↓reduceIte,seval,reduceCtorEq]
       all_goals simp
     . by_cases hkl:k < l.length
       . have hk2:(k:Int) < (l.length:Int):=by omega
         have hk0:(0:Int)<=k:=by omega
         rw[y8 hkl]at hw;obtain⟨u,hu⟩:∃ u,l.getD k 0=u:=⟨_,rfl⟩;rw[hu]at hw;have hgl:List.getD (l.map Dat.cells) k [C.s (.int .i64 0)]=[C.s (.int .i64 u)]:=by
          rw[zb,zh,ze hkl,<- hu,zb,ze hkl];rfl
         have hgp:∀ j,j < l.length->List.getD (l.map Dat.cells) j [C.s (.int .i64 0)]=[C.s (.int .i64 (l.getD j 0))]:=fun j hj=>by
          rw[zb,zh,ze hj,zb,ze hj];rfl
         by_cases hr:0<=u/\u < m.fresh
         rotate_left
         . rw[if_pos hr]at hw;rw[hw,if_pos (by decide)]at hv;rw[hv,if_pos (by decide)]at hE;subst hE;have hwi:=eq_false (show ¬ (0<=u/\u<=m.fresh - 1) by omega);delta E4.c67l1 oO oN oA oM oT oG oR oQ oS oK oF oL oV oI oX oB oD oJ o1 o4 o5;simp (maxSteps:=9^7) -implicitDefEqProofs only[E4.rv67,oa,hwi,h,hi0,hi2,hk0,hk2,hkl,hgl,hgx,zy,InR,not_true_eq_false,not_false_eq_true,WU,Ent.of0,Ent.of1,Ent.of2,Ent.of3,Ent.of4,V,W3,↓reduceIte,seval,reduceCtorEq];omega
         rw[if_neg (fun q=>q hr)]at hw;have hwi:=eq_true (show (0<=u/\u<=m.fresh - 1) by omega);by_cases ho:u<=(if k=0 then -1 else l.getD (k - 1) 0)
         . have hk00:¬ k=0:=fun q=>by
            rw[if_pos q]at ho;omega
           rw[if_pos ho]at hw;rw[hw,if_pos (by decide)]at hv;rw[hv,if_pos (by decide)]at hE;subst hE;rw[if_neg hk00]at ho;have hgt:=eq_true ho;have hkI:=eq_true (show (0:Int) < (k:Int) by omega);have e1:(k:Int) - 1=((k - 1:Nat):Int):=by omega
           have e2:(0:Int)<=((k - 1:Nat):Int):=by omega
           have e3:((k - 1:Nat):Int) < (l.length:Int):=by omega
           have e4:k - 1 < l.length:=by omega
           have hgl1:=hgp (k - 1) e4;delta E4.c67l1 oO oN oA oM oT oG oR oQ oS oK oF oL oV oI oX oB oD oJ o1 o4 o5;simp (maxSteps:=9^7) -implicitDefEqProofs only[E4.rv67,oa,hwi,hgt,hkI,e1,e2,e3,e4,hgl1,h,hi0,hi2,hk0,hk2,hkl,hgl,hgx,zy,InR,not_true_eq_false,not_false_eq_true,WU,Ent.of0,Ent.of1,Ent.of2,Ent.of3,Ent.of4,V,W3,↓reduceIte,seval,reduceCtorEq];exact⟨by omega,by omega⟩
         rw[if_neg ho]at hw;have hord:k=0\/(¬ k=0/\(u<=l.getD (k - 1) 0)=False):=by
          by_cases q:k=0
          . exact .inl q
          . rw[if_neg q]at ho;exact .inr ⟨q,eq_false ho⟩
         by_cases hsn:u∈seen
         . rw[if_pos hsn]at hw;rw[hw,if_pos (by decide)]at hv;rw[hv,if_pos (by decide)]at hE;subst hE;have hwn:=eq_true ((hwh u).2 hsn);rcases hord with hk00 | ⟨hk00,hgt⟩
           . have hkI:=eq_false (show ¬ (0:Int) < (k:Int) by omega);delta E4.c67l1 oO oN oA oM oT oG oR oQ oS oK oF oL oV oI oX oB oD oJ o1 o4 o5;simp (maxSteps:=9^7) -implicitDefEqProofs only[E4.rv67,oa,xI,kN,hdm,hml,hile,hwi,hkI,hwn,h,hi0,hi2,hk0,hk2,hkl,hgl,hgx,zy,InR,not_true_eq_false,not_false_eq_true,WU,Ent.of0,Ent.of1,Ent.of2,Ent.of3,Ent.of4,V,W3,↓reduceIte,seval,reduceCtorEq];omega
           . have hkI:=eq_true (show (0:Int) < (k:Int) by omega);have e1:(k:Int) - 1=((k - 1:Nat):Int):=by omega
             have e2:(0:Int)<=((k - 1:Nat):Int):=by omega
             have e3:((k - 1:Nat):Int) < (l.length:Int):=by omega
             have e4:k - 1 < l.length:=by omega
             have hgl1:=hgp (k - 1) e4;delta E4.c67l1 oO oN oA oM oT oG oR oQ oS oK oF oL oV oI oX oB oD oJ o1 o4 o5;simp (maxSteps:=9^7) -implicitDefEqProofs only[E4.rv67,oa,xI,kN,hdm,hml,hile,hwi,hkI,hwn,hgt,e1,e2,e3,e4,hgl1,h,hi0,hi2,hk0,hk2,hkl,hgl,hgx,zy,InR,not_true_eq_false,not_false_eq_true,WU,Ent.of0,Ent.of1,Ent.of2,Ent.of3,Ent.of4,V,W3,↓reduceIte,seval,reduceCtorEq];exact⟨by omega,by omega⟩
         . rw[if_neg hsn]at hw;have hwn:=eq_false (fun q=>hsn ((hwh u).1 q));have hnx:xo m.fresh seen (-1) l=xo m.fresh seen (if k+1=0 then -1 else l.getD (k+1 - 1) 0) (l.drop (k+1)):=by
            rw[if_neg (by omega),Nat.add_sub_cancel,hu];exact hw
           rcases hord with hk00 | ⟨hk00,hgt⟩
           . have hkI:=eq_false (show ¬ (0:Int) < (k:Int) by omega);delta E4.c67l1 oO oN oA oM oT oG oR oQ oS oK oF oL oV oI oX oB oD oJ o1 o4 o5;simp (maxSteps:=9^7) -implicitDefEqProofs only[E4.rv67,oa,xI,kN,hdm,hml,hile,hwi,hkI,hwn,h,hi0,hi2,hk0,hk2,hkl,hgl,hgx,zy,InR,not_true_eq_false,not_false_eq_true,WU,Ent.of0,Ent.of1,Ent.of2,Ent.of3,Ent.of4,V,W3,↓reduceIte,seval,reduceCtorEq];exact⟨by omega,by omega,hu ▸ hw,by omega⟩
           . have hkI:=eq_true (show (0:Int) < (k:Int) by omega);have e1:(k:Int) - 1=((k - 1:Nat):Int):=by omega
             have e2:(0:Int)<=((k - 1:Nat):Int):=by omega
             have e3:((k - 1:Nat):Int) < (l.length:Int):=by omega
             have e4:k - 1 < l.length:=by omega
             have hgl1:=hgp (k - 1) e4;delta E4.c67l1 oO oN oA oM oT oG oR oQ oS oK oF oL oV oI oX oB oD oJ o1 o4 o5;simp (maxSteps:=9^7) -implicitDefEqProofs only[E4.rv67,oa,xI,kN,hdm,hml,hile,hwi,hkI,hwn,hgt,e1,e2,e3,e4,hgl1,h,hi0,hi2,hk0,hk2,hkl,hgl,hgx,zy,InR,not_true_eq_false,not_false_eq_true,WU,Ent.of0,Ent.of1,Ent.of2,Ent.of3,Ent.of4,V,W3,↓reduceIte,seval,reduceCtorEq];exact⟨by omega,by omega,by omega,hu ▸ hw,by omega⟩
       . have hke:k=l.length:=by omega
         subst hke;have hk2:¬ ((l.length:Nat):Int) < (l.length:Int):=by omega
         rw[List.drop_length,xo]at hw;rw[hw,if_neg (fun q=>q rfl)]at hv;delta E4.c67l1 oO oN oA oM oT oG oR oQ oS oK oF oL oV oI oX oB oD oJ o1 o4 o5;simp (maxSteps:=9^7) -implicitDefEqProofs only[E4.rv67,hk2,InR,WU,Ent.of0,Ent.of1,Ent.of2,Ent.of3,Ent.of4,V,W3,↓reduceIte,seval,reduceCtorEq];exact⟨by omega,h,hv,by omega⟩
   . have hi2:¬ (i:Int) < (m.buf.length:Int):=by omega
     have hie:i=m.buf.length:=by omega
     rw[hie,List.drop_length,pkL]at hv;rw[hv,if_neg (fun q=>q rfl)]at hE;delta E4.c67l2 oO oN oA oM oR oS oK oF oL oV oX oB o0 o4;simp (maxSteps:=9^7) -implicitDefEqProofs only[E4.rv67,hi2,InR,WU,Ent.of0,Ent.of1,Ent.of2,Ent.of3,Ent.of4,V,W3,↓reduceIte,seval,reduceCtorEq];exact rst_6 n m hm hf hg cx E tgw srw htg hsr hE
theorem rst_8 (n:Nw) (m:Ms) (hm:MsB m) (hf:0<=m.fresh/\m.fresh<=1000000) (hg:0<=m.got/\m.got<=m.fresh) (hp:fj m.buf<=1000000000) (cx:Cx) (E:Int) (tgw srw:Bool) (htg:tgw=!decide (m.target=-1)) (hsr:srw=!decide (m.source=-1)) (hE:pkE m=E):SG Tryz.prog cx (cB [RV.tmp 4] [] (enc E) []) [It.c E4.c67k8.cut] ⟨[(3,.ptr 3 0),(5,.s (.bool tgw)),(6,.s (.bool srw))],chR n m⟩:=by
 have hml:=hm.l;have hdm:=xu m;unfold pkE at hE;have hpk:=nr m.buf;refine iw (dC [Ax] 500 ?_);by_cases h60:60 < m.buf.flatten.length
 . rw[if_pos h60]at hE;subst hE;have h60':=eq_true (show fj m.buf > 60 by omega);delta E4.c67k8 oO oN oS oK oV oC oI oX oB o5;simp (maxSteps:=9^7) -implicitDefEqProofs only[E4.rv67,Ax,kN,hdm,hml,hp,chR,msD,h60',not_true_eq_false,not_false_eq_true,WU,Ent.of0,Ent.of1,Ent.of2,Ent.of3,Ent.of4,V,W3,↓reduceIte,seval,reduceCtorEq]
 . rw[if_neg h60]at hE;have h60':=eq_false (show ¬ fj m.buf > 60 by omega);delta E4.c67k8 oO oN oS oK oV oC oI oX oB o5;simp (maxSteps:=9^7) -implicitDefEqProofs only[E4.rv67,Ax,kN,hdm,hml,hp,chR,msD,h60',not_true_eq_false,not_false_eq_true,WU,Ent.of0,Ent.of1,Ent.of2,Ent.of3,Ent.of4,V,W3,↓reduceIte,seval,reduceCtorEq];exact rst_7 n m hm hf hg cx E tgw srw htg hsr hE
theorem rst_9 (n:Nw) (m:Ms) (hm:MsB m) (net:NetOk n) (hlen:m.buf.length=n.cells.length) (q2:rgB m=true) (q3:msB n m=true) (cx:Cx) (E:Int) (tgw srw:Bool) (htg:tgw=!decide (m.target=-1)) (hsr:srw=!decide (m.source=-1)) (hE:(if stB n m=false then 22 else pkE m)=E):SG Tryz.prog cx (cB [RV.tmp 4] [] (enc E) []) [It.c E4.c67k9.cut] ⟨[(2,.ptr 2 0),(3,.ptr 3 0),(5,.s (.bool tgw)),(6,.s (.bool srw))],chR n m⟩:=by
 have hml:=hm.l;have hdm:=xu m;have q2':=q2;simp only[rgB,zm,decide_eq_true_eq]at q2';obtain⟨⟨⟨r1,r2⟩,r3⟩,r4⟩:=q2';have hlim:=net.lim;have hI:(-9223372036854775808<=m.since+n.limit/\m.since+n.limit<=9223372036854775807):=by omega
 simp only[msB,zm,zV,decide_eq_true_eq]at q3;have hso:srw=true->0<=m.source/\m.source < (m.buf.length:Int)/\m.source.toNat < m.buf.length:=fun h=>by
  rcases q3.2 with h2 | h2
  . rw[h2]at hsr;rw[hsr]at h;cases h
  . have:=fS h2;rw[hlen];omega
 have hpk:fj m.buf<=1000000000:=by
  rw[nr];have h1:=y7 m.buf 1000 hm.r;have h2:=net.len;have:m.buf.length*1000<=6*1000:=zB _ (by omega);omega
 have hgo:=rst_8 n m hm r3 r4 hpk cx E tgw srw htg hsr;have hst:stB n m=(!(ej m && decide (m.since+n.limit<=m.at_)) && !(srw && decide (m.path=m.serving) && (dQ m m.source).isEmpty)):=by rw[hsr];rfl
 refine iw (dC [xf] 500 ?_);have hc:(ej m=true/\(m.since+n.limit<=m.at_)=True/\stB n m=false)\/((ej m=false\/(ej m=true/\(m.since+n.limit<=m.at_)=False))/\stB n m=!(srw && decide (m.path=m.serving) && (dQ m m.source).isEmpty)):=by
  rw[hst];cases ej m <;> rcases Classical.propComplete (m.since+n.limit<=m.at_)with h | h <;> simp[h]
 rcases hc with⟨a1,a2,a3⟩ | ⟨a0,a3⟩
 . rw[if_pos a3]at hE;subst hE;delta E4.c67k9 oO oN oM oG oS oK oV oC oI oX oP oH oD oE oJ o0 o5;simp (maxSteps:=9^7) -implicitDefEqProofs only[E4.rv67,xf,kN,hdm,hI,chR,msD,a1,a2,InR,not_true_eq_false,not_false_eq_true,WU,Ent.of0,Ent.of1,Ent.of2,Ent.of3,Ent.of4,V,W3,↓reduceIte,seval,reduceCtorEq]
 . cases hs:srw
   . subst hs;have h1:stB n m=true:=by rw[a3];rfl
     rw[if_neg (by simp[h1])]at hE;rcases a0 with a1 | ⟨a1,a2⟩
     . delta E4.c67k9 oO oN oM oG oS oK oV oC oI oX oP oH oD oE oJ o0 o5;simp (maxSteps:=9^7) -implicitDefEqProofs only[E4.rv67,xf,kN,hdm,hI,chR,msD,a1,InR,not_true_eq_false,not_false_eq_true,WU,Ent.of0,Ent.of1,Ent.of2,Ent.of3,Ent.of4,V,W3,↓reduceIte,seval,reduceCtorEq];exact hgo hE
     . delta E4.c67k9 oO oN oM oG oS oK oV oC oI oX oP oH oD oE oJ o0 o5;simp (maxSteps:=9^7) -implicitDefEqProofs only[E4.rv67,xf,kN,hdm,hI,chR,msD,a1,a2,InR,not_true_eq_false,not_false_eq_true,WU,Ent.of0,Ent.of1,Ent.of2,Ent.of3,Ent.of4,V,W3,↓reduceIte,seval,reduceCtorEq];exact hgo hE
   . subst hs;obtain⟨i0,i2,i3⟩:=hso rfl;have hgx:List.getD (m.buf.map Dat.cells) m.source.toNat [C.sl 0 []]=[C.sl 1 ((dQ m m.source).map Dat.cells)]:=by
      rw[dQ,zb,zb,zh,ze i3];rfl
     have hb:(((dQ m m.source).length:Int)=0)=((dQ m m.source).isEmpty=true):=by
      cases dQ m m.source <;> simp <;> omega
     have hc2:((dQ m m.source).isEmpty=false/\stB n m=true)\/((dQ m m.source).isEmpty=true/\(m.path=m.serving)=True/\stB n m=false)\/((dQ m m.source).isEmpty=true/\(m.path=m.serving)=False/\stB n m=true):=by
      rw[a3];cases (dQ m m.source).isEmpty <;> rcases Classical.propComplete (m.path=m.serving)with h | h <;> simp[h]
     clear hst a3;generalize dQ m m.source=B at *;rcases hc2 with⟨b1,b3⟩ | ⟨b1,b2,b3⟩ | ⟨b1,b2,b3⟩
     . rw[if_neg (by simp[b3])]at hE;rcases a0 with a1 | ⟨a1,a2⟩
       . delta E4.c67k9 oO oN oM oG oS oK oV oC oI oX oP oH oD oE oJ o0 o5;simp (maxSteps:=9^7) -implicitDefEqProofs only[E4.rv67,xf,kN,hdm,hI,chR,msD,a1,i0,i2,i3,hgx,hb,b1,zy,InR,not_true_eq_false,not_false_eq_true,WU,Ent.of0,Ent.of1,Ent.of2,Ent.of3,Ent.of4,V,W3,↓reduceIte,seval,reduceCtorEq];exact hgo hE
       . delta E4.c67k9 oO oN oM oG oS oK oV oC oI oX oP oH oD oE oJ o0 o5;simp (maxSteps:=9^7) -implicitDefEqProofs only[E4.rv67,xf,kN,hdm,hI,chR,msD,a1,a2,i0,i2,i3,hgx,hb,b1,zy,InR,not_true_eq_false,not_false_eq_true,WU,Ent.of0,Ent.of1,Ent.of2,Ent.of3,Ent.of4,V,W3,↓reduceIte,seval,reduceCtorEq];exact hgo hE
     . rw[if_pos b3]at hE;subst hE;rcases a0 with a1 | ⟨a1,a2⟩
       . delta E4.c67k9 oO oN oM oG oS oK oV oC oI oX oP oH oD oE oJ o0 o5;simp (maxSteps:=9^7) -implicitDefEqProofs only[E4.rv67,xf,kN,hdm,hI,chR,msD,a1,i0,i2,i3,hgx,hb,b1,b2,zy,InR,not_true_eq_false,not_false_eq_true,WU,Ent.of0,Ent.of1,Ent.of2,Ent.of3,Ent.of4,V,W3,↓reduceIte,seval,reduceCtorEq]
       . delta E4.c67k9 oO oN oM oG oS oK oV oC oI oX oP oH oD oE oJ o0 o5;simp (maxSteps:=9^7) -implicitDefEqProofs only[E4.rv67,xf,kN,hdm,hI,chR,msD,a1,a2,i0,i2,i3,hgx,hb,b1,b2,zy,InR,not_true_eq_false,not_false_eq_true,WU,Ent.of0,Ent.of1,Ent.of2,Ent.of3,Ent.of4,V,W3,↓reduceIte,seval,reduceCtorEq]
     . rw[if_neg (by simp[b3])]at hE;rcases a0 with a1 | ⟨a1,a2⟩
       . delta E4.c67k9 oO oN oM oG oS oK oV oC oI oX oP oH oD oE oJ o0 o5;simp (maxSteps:=9^7) -implicitDefEqProofs only[E4.rv67,xf,kN,hdm,hI,chR,msD,a1,i0,i2,i3,hgx,hb,b1,b2,zy,InR,not_true_eq_false,not_false_eq_true,WU,Ent.of0,Ent.of1,Ent.of2,Ent.of3,Ent.of4,V,W3,↓reduceIte,seval,reduceCtorEq];exact hgo hE
       . delta E4.c67k9 oO oN oM oG oS oK oV oC oI oX oP oH oD oE oJ o0 o5;simp (maxSteps:=9^7) -implicitDefEqProofs only[E4.rv67,xf,kN,hdm,hI,chR,msD,a1,a2,i0,i2,i3,hgx,hb,b1,b2,zy,InR,not_true_eq_false,not_false_eq_true,WU,Ent.of0,Ent.of1,Ent.of2,Ent.of3,Ent.of4,V,W3,↓reduceIte,seval,reduceCtorEq];exact hgo hE
theorem rst_10 (n:Nw) (m:Ms) (hn:NwS n) (hm:MsB m) (net:NetOk n) (hlen:m.buf.length=n.cells.length) (q2:rgB m=true) (q3:msB n m=true) (cx:Cx) (E:Int) (tgw srw:Bool) (htg:tgw=!decide (m.target=-1)) (hsr:srw=!decide (m.source=-1)) (hE:(if clB n m=false then 13 else if stB n m=false then 22 else pkE m)=E):SG Tryz.prog cx (cB [RV.tmp 4] [] (enc E) []) [It.c E4.c67k10.cut] ⟨[(2,.ptr 2 0),(3,.ptr 3 0),(5,.s (.bool tgw)),(6,.s (.bool srw))],chR n m⟩:=by
 have hdn:=gO n;have hgo:=rst_9 n m hm net hlen q2 q3 cx E tgw srw htg hsr;refine iw (dC [xH] 500 ?_);have hcl:clB n m=((!tgw || nbr n m.target m.serving) && (!srw || nbr n m.source m.serving)):=by rw[htg,hsr];simp[clB]
 have hc:(tgw=true/\nbr n m.target m.serving=false/\clB n m=false)\/((tgw=false\/(tgw=true/\nbr n m.target m.serving=true))/\((srw=false/\clB n m=true)\/(srw=true/\nbr n m.source m.serving=false/\clB n m=false)\/(srw=true/\nbr n m.source m.serving=true/\clB n m=true))):=by
  rw[hcl];cases tgw <;> cases srw <;> cases nbr n m.target m.serving <;> cases nbr n m.source m.serving <;> simp
 clear hcl;rcases hc with⟨rfl,a2,a3⟩ | ⟨rfl | ⟨rfl,a2⟩,⟨rfl,a3⟩ | ⟨rfl,a4,a3⟩ | ⟨rfl,a4,a3⟩⟩
 . rw[if_pos a3]at hE;subst hE;delta E4.c67k10 oO oM oG oS oK oV oI oX oP oH oD oE oJ;simp (maxSteps:=9^7) -implicitDefEqProofs only[E4.rv67,xH,ed,hdn,hn,chR,msD,a2,not_true_eq_false,not_false_eq_true,WU,Ent.of0,Ent.of1,Ent.of2,Ent.of3,Ent.of4,V,W3,↓reduceIte,seval,reduceCtorEq]
 . rw[if_neg (by simp[a3])]at hE;delta E4.c67k10 oO oM oG oS oK oV oI oX oP oH oD oE oJ;simp (maxSteps:=9^7) -implicitDefEqProofs only[E4.rv67,xH,ed,hdn,hn,chR,msD,not_true_eq_false,not_false_eq_true,WU,Ent.of0,Ent.of1,Ent.of2,Ent.of3,Ent.of4,V,W3,↓reduceIte,seval,reduceCtorEq];exact hgo hE
 . rw[if_pos a3]at hE;subst hE;delta E4.c67k10 oO oM oG oS oK oV oI oX oP oH oD oE oJ;simp (maxSteps:=9^7) -implicitDefEqProofs only[E4.rv67,xH,ed,hdn,hn,chR,msD,a4,not_true_eq_false,not_false_eq_true,WU,Ent.of0,Ent.of1,Ent.of2,Ent.of3,Ent.of4,V,W3,↓reduceIte,seval,reduceCtorEq]
 . rw[if_neg (by simp[a3])]at hE;delta E4.c67k10 oO oM oG oS oK oV oI oX oP oH oD oE oJ;simp (maxSteps:=9^7) -implicitDefEqProofs only[E4.rv67,xH,ed,hdn,hn,chR,msD,a4,not_true_eq_false,not_false_eq_true,WU,Ent.of0,Ent.of1,Ent.of2,Ent.of3,Ent.of4,V,W3,↓reduceIte,seval,reduceCtorEq];exact hgo hE
 . rw[if_neg (by simp[a3])]at hE;delta E4.c67k10 oO oM oG oS oK oV oI oX oP oH oD oE oJ;simp (maxSteps:=9^7) -implicitDefEqProofs only[E4.rv67,xH,ed,hdn,hn,chR,msD,a2,not_true_eq_false,not_false_eq_true,WU,Ent.of0,Ent.of1,Ent.of2,Ent.of3,Ent.of4,V,W3,↓reduceIte,seval,reduceCtorEq];exact hgo hE
 . rw[if_pos a3]at hE;subst hE;delta E4.c67k10 oO oM oG oS oK oV oI oX oP oH oD oE oJ;simp (maxSteps:=9^7) -implicitDefEqProofs only[E4.rv67,xH,ed,hdn,hn,chR,msD,a2,a4,not_true_eq_false,not_false_eq_true,WU,Ent.of0,Ent.of1,Ent.of2,Ent.of3,Ent.of4,V,W3,↓reduceIte,seval,reduceCtorEq]
 . rw[if_neg (by simp[a3])]at hE;delta E4.c67k10 oO oM oG oS oK oV oI oX oP oH oD oE oJ;simp (maxSteps:=9^7) -implicitDefEqProofs only[E4.rv67,xH,ed,hdn,hn,chR,msD,a2,a4,not_true_eq_false,not_false_eq_true,WU,Ent.of0,Ent.of1,Ent.of2,Ent.of3,Ent.of4,V,W3,↓reduceIte,seval,reduceCtorEq];exact hgo hE
theorem rst_11 (n:Nw) (m:Ms) (hn:NwS n) (hm:MsB m) (net:NetOk n) (hlen:m.buf.length=n.cells.length) (q2:rgB m=true) (q3:msB n m=true) (cx:Cx) (E:Int) (tgw srw:Bool) (htg:tgw=!decide (m.target=-1)) (hsr:srw=!decide (m.source=-1)) (hE:(if fmB m=false then 3 else if clB n m=false then 13 else if stB n m=false then 22 else pkE m)=E):SG Tryz.prog cx (cB [RV.tmp 4] [] (enc E) []) [It.c E4.c67k11.cut] ⟨[(2,.ptr 2 0),(3,.ptr 3 0),(5,.s (.bool tgw)),(6,.s (.bool srw))],chR n m⟩:=by
 have hgo:=rst_10 n m hn hm net hlen q2 q3 cx E tgw srw htg hsr;refine iw (dC [] 800 ?_);have hfm:fmB m=!((tgw && decide (m.phase=0)) || (!tgw && (decide (m.phase=1) || decide (m.phase=2))) || (srw && ((decide (m.phase=1) || decide (m.phase=2)) || tgw)) || (!decide (m.path=m.serving) && (!srw || !decide (m.path=m.source)))):=by
  rw[htg,hsr];simp[fmB,bsyB]
 have hc:(tgw=true/\(m.phase=0)=True/\(m.phase=1)=False/\(m.phase=2)=False/\fmB m=false)\/(tgw=true/\(m.phase=0)=False/\((m.phase=1)=True\/((m.phase=1)=False/\(m.phase=2)=True)\/((m.phase=1)=False/\(m.phase=2)=False))/\((srw=true/\fmB m=false)\/(srw=false/\(((m.path=m.serving)=True/\fmB m=true)\/((m.path=m.serving)=False/\fmB m=false)))))\/(tgw=false/\((((m.phase=1)=True\/((m.phase=1)=False/\(m.phase=2)=True))/\fmB m=false)\/((m.phase=1)=False/\(m.phase=2)=False/\((srw=true/\(((m.path=m.serving)=True/\fmB m=true)\/((m.path=m.serving)=False/\(m.path=m.source)=True/\fmB m=true)\/((m.path=m.serving)=False/\(m.path=m.source)=False/\fmB m=false)))\/(srw=false/\(((m.path=m.serving)=True/\fmB m=true)\/((m.path=m.serving)=False/\fmB m=false))))))):=by
  rw[hfm];by_cases h0:m.phase=0
  . rcases Classical.propComplete (m.path=m.serving)with s1 | s1 <;> rcases Classical.propComplete (m.path=m.source)with s2 | s2 <;> cases tgw <;> cases srw <;> simp[h0,s1,s2]
  . rcases Classical.propComplete (m.phase=1)with h1 | h1 <;> rcases Classical.propComplete (m.phase=2)with h2 | h2 <;> rcases Classical.propComplete (m.path=m.serving)with s1 | s1 <;> rcases Classical.propComplete (m.path=m.source)with s2 | s2 <;> cases tgw <;> cases srw <;> simp[h0,h1,h2,s1,s2]
 clear hfm;rcases hc with⟨rfl,p0,p1,p2,b⟩ | ⟨rfl,p0,p1 | ⟨p1,p2⟩ | ⟨p1,p2⟩,⟨rfl,b⟩ | ⟨rfl,⟨s1,b⟩ | ⟨s1,b⟩⟩⟩ | ⟨rfl,⟨p1 | ⟨p1,p2⟩,b⟩ | ⟨p1,p2,⟨rfl,⟨s1,b⟩ | ⟨s1,s2,b⟩ | ⟨s1,s2,b⟩⟩ | ⟨rfl,⟨s1,b⟩ | ⟨s1,b⟩⟩⟩⟩
 . simp only[b,if_true,if_false,ym]at hE;delta E4.c67k11 oO oN oM oG oS oK oF oL oV oI oX oP oH oB oD oE oJ;simp (maxSteps:=9^7) -implicitDefEqProofs only[E4.rv67,chR,msD,p0,p1,p2,not_true_eq_false,not_false_eq_true,WU,Ent.of0,Ent.of1,Ent.of2,Ent.of3,Ent.of4,V,W3,↓reduceIte,seval,reduceCtorEq];exact hE
 . simp only[b,if_true,if_false,ym]at hE;delta E4.c67k11 oO oN oM oG oS oK oF oL oV oI oX oP oH oB oD oE oJ;simp (maxSteps:=9^7) -implicitDefEqProofs only[E4.rv67,chR,msD,p0,p1,not_true_eq_false,not_false_eq_true,WU,Ent.of0,Ent.of1,Ent.of2,Ent.of3,Ent.of4,V,W3,↓reduceIte,seval,reduceCtorEq];exact hE
 . simp only[b,if_true,if_false,ym]at hE;delta E4.c67k11 oO oN oM oG oS oK oF oL oV oI oX oP oH oB oD oE oJ;simp (maxSteps:=9^7) -implicitDefEqProofs only[E4.rv67,chR,msD,p0,p1,s1,not_true_eq_false,not_false_eq_true,WU,Ent.of0,Ent.of1,Ent.of2,Ent.of3,Ent.of4,V,W3,↓reduceIte,seval,reduceCtorEq];exact hgo hE
 . simp only[b,if_true,if_false,ym]at hE;delta E4.c67k11 oO oN oM oG oS oK oF oL oV oI oX oP oH oB oD oE oJ;simp (maxSteps:=9^7) -implicitDefEqProofs only[E4.rv67,chR,msD,p0,p1,s1,not_true_eq_false,not_false_eq_true,WU,Ent.of0,Ent.of1,Ent.of2,Ent.of3,Ent.of4,V,W3,↓reduceIte,seval,reduceCtorEq];exact hE
 . simp only[b,if_true,if_false,ym]at hE;delta E4.c67k11 oO oN oM oG oS oK oF oL oV oI oX oP oH oB oD oE oJ;simp (maxSteps:=9^7) -implicitDefEqProofs only[E4.rv67,chR,msD,p0,p1,p2,not_true_eq_false,not_false_eq_true,WU,Ent.of0,Ent.of1,Ent.of2,Ent.of3,Ent.of4,V,W3,↓reduceIte,seval,reduceCtorEq];exact hE
 . simp only[b,if_true,if_false,ym]at hE;delta E4.c67k11 oO oN oM oG oS oK oF oL oV oI oX oP oH oB oD oE oJ;simp (maxSteps:=9^7) -implicitDefEqProofs only[E4.rv67,chR,msD,p0,p1,p2,s1,not_true_eq_false,not_false_eq_true,WU,Ent.of0,Ent.of1,Ent.of2,Ent.of3,Ent.of4,V,W3,↓reduceIte,seval,reduceCtorEq];exact hgo hE
 . simp only[b,if_true,if_false,ym]at hE;delta E4.c67k11 oO oN oM oG oS oK oF oL oV oI oX oP oH oB oD oE oJ;simp (maxSteps:=9^7) -implicitDefEqProofs only[E4.rv67,chR,msD,p0,p1,p2,s1,not_true_eq_false,not_false_eq_true,WU,Ent.of0,Ent.of1,Ent.of2,Ent.of3,Ent.of4,V,W3,↓reduceIte,seval,reduceCtorEq];exact hE
 . simp only[b,if_true,if_false,ym]at hE;delta E4.c67k11 oO oN oM oG oS oK oF oL oV oI oX oP oH oB oD oE oJ;simp (maxSteps:=9^7) -implicitDefEqProofs only[E4.rv67,chR,msD,p0,p1,p2,not_true_eq_false,not_false_eq_true,WU,Ent.of0,Ent.of1,Ent.of2,Ent.of3,Ent.of4,V,W3,↓reduceIte,seval,reduceCtorEq];exact hE
 . simp only[b,if_true,if_false,ym]at hE;delta E4.c67k11 oO oN oM oG oS oK oF oL oV oI oX oP oH oB oD oE oJ;simp (maxSteps:=9^7) -implicitDefEqProofs only[E4.rv67,chR,msD,p0,p1,p2,s1,not_true_eq_false,not_false_eq_true,WU,Ent.of0,Ent.of1,Ent.of2,Ent.of3,Ent.of4,V,W3,↓reduceIte,seval,reduceCtorEq];exact hgo hE
 . simp only[b,if_true,if_false,ym]at hE;delta E4.c67k11 oO oN oM oG oS oK oF oL oV oI oX oP oH oB oD oE oJ;simp (maxSteps:=9^7) -implicitDefEqProofs only[E4.rv67,chR,msD,p0,p1,p2,s1,not_true_eq_false,not_false_eq_true,WU,Ent.of0,Ent.of1,Ent.of2,Ent.of3,Ent.of4,V,W3,↓reduceIte,seval,reduceCtorEq];exact hE
 . simp only[b,if_true,if_false,ym]at hE;delta E4.c67k11 oO oN oM oG oS oK oF oL oV oI oX oP oH oB oD oE oJ;simp (maxSteps:=9^7) -implicitDefEqProofs only[E4.rv67,chR,msD,p1,not_true_eq_false,not_false_eq_true,WU,Ent.of0,Ent.of1,Ent.of2,Ent.of3,Ent.of4,V,W3,↓reduceIte,seval,reduceCtorEq];exact hE
 . simp only[b,if_true,if_false,ym]at hE;delta E4.c67k11 oO oN oM oG oS oK oF oL oV oI oX oP oH oB oD oE oJ;simp (maxSteps:=9^7) -implicitDefEqProofs only[E4.rv67,chR,msD,p1,p2,not_true_eq_false,not_false_eq_true,WU,Ent.of0,Ent.of1,Ent.of2,Ent.of3,Ent.of4,V,W3,↓reduceIte,seval,reduceCtorEq];exact hE
 . simp only[b,if_true,if_false,ym]at hE;delta E4.c67k11 oO oN oM oG oS oK oF oL oV oI oX oP oH oB oD oE oJ;simp (maxSteps:=9^7) -implicitDefEqProofs only[E4.rv67,chR,msD,p1,p2,s1,not_true_eq_false,not_false_eq_true,WU,Ent.of0,Ent.of1,Ent.of2,Ent.of3,Ent.of4,V,W3,↓reduceIte,seval,reduceCtorEq];exact hgo hE
 . simp only[b,if_true,if_false,ym]at hE;delta E4.c67k11 oO oN oM oG oS oK oF oL oV oI oX oP oH oB oD oE oJ;simp (maxSteps:=9^7) -implicitDefEqProofs only[E4.rv67,chR,msD,p1,p2,s1,s2,not_true_eq_false,not_false_eq_true,WU,Ent.of0,Ent.of1,Ent.of2,Ent.of3,Ent.of4,V,W3,↓reduceIte,seval,reduceCtorEq];exact hgo hE
 . simp only[b,if_true,if_false,ym]at hE;delta E4.c67k11 oO oN oM oG oS oK oF oL oV oI oX oP oH oB oD oE oJ;simp (maxSteps:=9^7) -implicitDefEqProofs only[E4.rv67,chR,msD,p1,p2,s1,s2,not_true_eq_false,not_false_eq_true,WU,Ent.of0,Ent.of1,Ent.of2,Ent.of3,Ent.of4,V,W3,↓reduceIte,seval,reduceCtorEq];exact hE
 . simp only[b,if_true,if_false,ym]at hE;delta E4.c67k11 oO oN oM oG oS oK oF oL oV oI oX oP oH oB oD oE oJ;simp (maxSteps:=9^7) -implicitDefEqProofs only[E4.rv67,chR,msD,p1,p2,s1,not_true_eq_false,not_false_eq_true,WU,Ent.of0,Ent.of1,Ent.of2,Ent.of3,Ent.of4,V,W3,↓reduceIte,seval,reduceCtorEq];exact hgo hE
 . simp only[b,if_true,if_false,ym]at hE;delta E4.c67k11 oO oN oM oG oS oK oF oL oV oI oX oP oH oB oD oE oJ;simp (maxSteps:=9^7) -implicitDefEqProofs only[E4.rv67,chR,msD,p1,p2,s1,not_true_eq_false,not_false_eq_true,WU,Ent.of0,Ent.of1,Ent.of2,Ent.of3,Ent.of4,V,W3,↓reduceIte,seval,reduceCtorEq];exact hE
theorem rst_12 (n:Nw) (m:Ms) (hn:NwS n) (hm:MsB m) (net:NetOk n) (hlen:m.buf.length=n.cells.length) (q2:rgB m=true) (cx:Cx) (E:Int) (hE:(if msB n m=false then 6 else if fmB m=false then 3 else if clB n m=false then 13 else if stB n m=false then 22 else pkE m)=E):SG Tryz.prog cx (cB [RV.tmp 4] [] (enc E) []) [It.c E4.c67k12.cut] ⟨[(2,.ptr 2 0),(3,.ptr 3 0)],chR n m⟩:=by
 have hdn:=gO n;have hgo:=fun q3 tgw srw htg hsr=>rst_11 n m hn hm net hlen q2 q3 cx E tgw srw htg hsr
 refine iw (dC [my] 800 ?_);have hms:msB n m=(isC n m.serving && isC n m.path && (decide (m.target=-1) || isC n m.target) && (decide (m.source=-1) || isC n m.source)):=rfl;have hc:(isC n m.serving=false/\msB n m=false)\/(isC n m.serving=true/\isC n m.path=false/\msB n m=false)\/(isC n m.serving=true/\isC n m.path=true/\((((m.target=-1)=False/\isC n m.target=false)/\msB n m=false)\/(((m.target=-1)=True\/((m.target=-1)=False/\isC n m.target=true))/\(((m.source=-1)=True/\msB n m=true)\/((m.source=-1)=False/\isC n m.source=false/\msB n m=false)\/((m.source=-1)=False/\isC n m.source=true/\msB n m=true))))):=by
  rw[hms];rcases Classical.propComplete (m.target=-1)with h1 | h1 <;> rcases Classical.propComplete (m.source=-1)with h2 | h2 <;> cases isC n m.serving <;> cases isC n m.path <;> cases isC n m.target <;> cases isC n m.source <;> simp[h1,h2]
 clear hms;rcases hc with⟨a1,b⟩ | ⟨a1,a2,b⟩ | ⟨a1,a2,⟨⟨a3,a4⟩,b⟩ | ⟨a3 | ⟨a3,a4⟩,⟨a5,b⟩ | ⟨a5,a6w,b⟩ | ⟨a5,a6w,b⟩⟩⟩
 . simp only[b,if_true,if_false,ym]at hE;delta E4.c67k12 oO oN oA oM oT oG oQ oS oK oF oL oV oC oI oX oH oB oD oE oJ o5;simp (maxSteps:=9^7) -implicitDefEqProofs only[E4.rv67,my,ed,hdn,hn,chR,msD,a1,not_true_eq_false,not_false_eq_true,WU,Ent.of0,Ent.of1,Ent.of2,Ent.of3,Ent.of4,V,W3,↓reduceIte,seval,reduceCtorEq];exact hE
 . simp only[b,if_true,if_false,ym]at hE;delta E4.c67k12 oO oN oA oM oT oG oQ oS oK oF oL oV oC oI oX oH oB oD oE oJ o5;simp (maxSteps:=9^7) -implicitDefEqProofs only[E4.rv67,my,ed,hdn,hn,chR,msD,a1,a2,not_true_eq_false,not_false_eq_true,WU,Ent.of0,Ent.of1,Ent.of2,Ent.of3,Ent.of4,V,W3,↓reduceIte,seval,reduceCtorEq];exact hE
 . simp only[b,if_true,if_false,ym]at hE;delta E4.c67k12 oO oN oA oM oT oG oQ oS oK oF oL oV oC oI oX oH oB oD oE oJ o5;simp (maxSteps:=9^7) -implicitDefEqProofs only[E4.rv67,my,ed,hdn,hn,chR,msD,a1,a2,a3,a4,not_true_eq_false,not_false_eq_true,WU,Ent.of0,Ent.of1,Ent.of2,Ent.of3,Ent.of4,V,W3,↓reduceIte,seval,reduceCtorEq];exact hE
 . simp only[b,if_true,if_false,ym]at hE;delta E4.c67k12 oO oN oA oM oT oG oQ oS oK oF oL oV oC oI oX oH oB oD oE oJ o5;simp (maxSteps:=9^7) -implicitDefEqProofs only[E4.rv67,my,ed,hdn,hn,chR,msD,a1,a2,a3,a5,not_true_eq_false,not_false_eq_true,WU,Ent.of0,Ent.of1,Ent.of2,Ent.of3,Ent.of4,V,W3,↓reduceIte,seval,reduceCtorEq];exact hgo b _ _ (by simp[a3]) (by simp[a5]) hE
 . simp only[b,if_true,if_false,ym]at hE;delta E4.c67k12 oO oN oA oM oT oG oQ oS oK oF oL oV oC oI oX oH oB oD oE oJ o5;simp (maxSteps:=9^7) -implicitDefEqProofs only[E4.rv67,my,ed,hdn,hn,chR,msD,a1,a2,a3,a5,a6w,not_true_eq_false,not_false_eq_true,WU,Ent.of0,Ent.of1,Ent.of2,Ent.of3,Ent.of4,V,W3,↓reduceIte,seval,reduceCtorEq];exact hE
 . simp only[b,if_true,if_false,ym]at hE;delta E4.c67k12 oO oN oA oM oT oG oQ oS oK oF oL oV oC oI oX oH oB oD oE oJ o5;simp (maxSteps:=9^7) -implicitDefEqProofs only[E4.rv67,my,ed,hdn,hn,chR,msD,a1,a2,a3,a5,a6w,not_true_eq_false,not_false_eq_true,WU,Ent.of0,Ent.of1,Ent.of2,Ent.of3,Ent.of4,V,W3,↓reduceIte,seval,reduceCtorEq];exact hgo b _ _ (by simp[a3]) (by simp[a5]) hE
 . simp only[b,if_true,if_false,ym]at hE;delta E4.c67k12 oO oN oA oM oT oG oQ oS oK oF oL oV oC oI oX oH oB oD oE oJ o5;simp (maxSteps:=9^7) -implicitDefEqProofs only[E4.rv67,my,ed,hdn,hn,chR,msD,a1,a2,a3,a4,a5,not_true_eq_false,not_false_eq_true,WU,Ent.of0,Ent.of1,Ent.of2,Ent.of3,Ent.of4,V,W3,↓reduceIte,seval,reduceCtorEq];exact hgo b _ _ (by simp[a3]) (by simp[a5]) hE
 . simp only[b,if_true,if_false,ym]at hE;delta E4.c67k12 oO oN oA oM oT oG oQ oS oK oF oL oV oC oI oX oH oB oD oE oJ o5;simp (maxSteps:=9^7) -implicitDefEqProofs only[E4.rv67,my,ed,hdn,hn,chR,msD,a1,a2,a3,a4,a5,a6w,not_true_eq_false,not_false_eq_true,WU,Ent.of0,Ent.of1,Ent.of2,Ent.of3,Ent.of4,V,W3,↓reduceIte,seval,reduceCtorEq];exact hE
 . simp only[b,if_true,if_false,ym]at hE;delta E4.c67k12 oO oN oA oM oT oG oQ oS oK oF oL oV oC oI oX oH oB oD oE oJ o5;simp (maxSteps:=9^7) -implicitDefEqProofs only[E4.rv67,my,ed,hdn,hn,chR,msD,a1,a2,a3,a4,a5,a6w,not_true_eq_false,not_false_eq_true,WU,Ent.of0,Ent.of1,Ent.of2,Ent.of3,Ent.of4,V,W3,↓reduceIte,seval,reduceCtorEq];exact hgo b _ _ (by simp[a3]) (by simp[a5]) hE
theorem yX (n:Nw) (m:Ms) (hn:NwS n) (hm:MsB m) (net:NetOk n):FC Tryz.prog 67 [enc n,enc m] [] (enc (x3 n m)) []:=by
 obtain⟨E,hE⟩:∃ E,x3 n m=E:=⟨_,rfl⟩;rw[hE];unfold x3 at hE;refine dD [] E4.is67 (by simp) (by simp[bk]) (by simp[an,ag]) (by simp[an,ag]) (by simp[aB]) (fun cx _ hl _=>dC [oa] 1500 ?_);by_cases h2:m.buf.length=n.cells.length
 rotate_left
 . rw[if_pos h2]at hE;have h2':=eq_false (show ¬ (m.buf.length:Int)=(n.cells.length:Int) by omega);delta E4.c67 oO oN oA oM oG oS oK oF oL oV oC oI oX oH oB oE oJ o4 o7;simp (maxSteps:=9^7) -implicitDefEqProofs only[E4.rv67,ed,kN,h2',InR,not_true_eq_false,not_false_eq_true,WU,Ent.of0,Ent.of1,Ent.of2,Ent.of3,Ent.of4,V,W3,↓reduceIte,seval,reduceCtorEq];exact hE
 rw[if_neg (by simp[h2])]at hE;have h2':=eq_true (show (m.buf.length:Int)=(n.cells.length:Int) by omega);by_cases h3:0<=m.phase/\m.phase<=3
 rotate_left
 . rw[if_pos h3]at hE;have h3':=eq_false h3;delta E4.c67 oO oN oA oM oG oS oK oF oL oV oC oI oX oH oB oE oJ o4 o7;simp (maxSteps:=9^7) -implicitDefEqProofs only[E4.rv67,oa,ed,kN,h2',h3',InR,not_true_eq_false,not_false_eq_true,WU,Ent.of0,Ent.of1,Ent.of2,Ent.of3,Ent.of4,V,W3,↓reduceIte,seval,reduceCtorEq];exact hE
 rw[if_neg (fun q=>q h3)]at hE;have h3':=eq_true h3;have hc:((0<=m.at_/\m.at_<=1000000000)=False/\rgB m=false)\/((0<=m.at_/\m.at_<=1000000000)=True/\(0<=m.since/\m.since<=m.at_)=False/\rgB m=false)\/((0<=m.at_/\m.at_<=1000000000)=True/\(0<=m.since/\m.since<=m.at_)=True/\(0<=m.fresh/\m.fresh<=1000000)=False/\rgB m=false)\/((0<=m.at_/\m.at_<=1000000000)=True/\(0<=m.since/\m.since<=m.at_)=True/\(0<=m.fresh/\m.fresh<=1000000)=True/\(0<=m.got/\m.got<=m.fresh)=False/\rgB m=false)\/((0<=m.at_/\m.at_<=1000000000)=True/\(0<=m.since/\m.since<=m.at_)=True/\(0<=m.fresh/\m.fresh<=1000000)=True/\(0<=m.got/\m.got<=m.fresh)=True/\rgB m=true):=by
  rcases Classical.propComplete (0<=m.at_/\m.at_<=1000000000)with g1 | g1 <;> rcases Classical.propComplete (0<=m.since/\m.since<=m.at_)with g2 | g2 <;> rcases Classical.propComplete (0<=m.fresh/\m.fresh<=1000000)with g3 | g3 <;> rcases Classical.propComplete (0<=m.got/\m.got<=m.fresh)with g4 | g4 <;> simp[rgB,g1,g2,g3,g4]
 rcases hc with⟨g1,b⟩ | ⟨g1,g2,b⟩ | ⟨g1,g2,g3,b⟩ | ⟨g1,g2,g3,g4,b⟩ | ⟨g1,g2,g3,g4,b⟩
 . simp only[b,if_true,if_false,ym]at hE;delta E4.c67 oO oN oA oM oG oS oK oF oL oV oC oI oX oH oB oE oJ o4 o7;simp (maxSteps:=9^7) -implicitDefEqProofs only[E4.rv67,oa,ed,kN,h2',h3',g1,InR,not_true_eq_false,not_false_eq_true,WU,Ent.of0,Ent.of1,Ent.of2,Ent.of3,Ent.of4,V,W3,↓reduceIte,seval,reduceCtorEq];exact hE
 . simp only[b,if_true,if_false,ym]at hE;delta E4.c67 oO oN oA oM oG oS oK oF oL oV oC oI oX oH oB oE oJ o4 o7;simp (maxSteps:=9^7) -implicitDefEqProofs only[E4.rv67,oa,ed,kN,h2',h3',g1,g2,InR,not_true_eq_false,not_false_eq_true,WU,Ent.of0,Ent.of1,Ent.of2,Ent.of3,Ent.of4,V,W3,↓reduceIte,seval,reduceCtorEq];exact hE
 . simp only[b,if_true,if_false,ym]at hE;delta E4.c67 oO oN oA oM oG oS oK oF oL oV oC oI oX oH oB oE oJ o4 o7;simp (maxSteps:=9^7) -implicitDefEqProofs only[E4.rv67,oa,ed,kN,h2',h3',g1,g2,g3,InR,not_true_eq_false,not_false_eq_true,WU,Ent.of0,Ent.of1,Ent.of2,Ent.of3,Ent.of4,V,W3,↓reduceIte,seval,reduceCtorEq];exact hE
 . simp only[b,if_true,if_false,ym]at hE;delta E4.c67 oO oN oA oM oG oS oK oF oL oV oC oI oX oH oB oE oJ o4 o7;simp (maxSteps:=9^7) -implicitDefEqProofs only[E4.rv67,oa,ed,kN,h2',h3',g1,g2,g3,g4,InR,not_true_eq_false,not_false_eq_true,WU,Ent.of0,Ent.of1,Ent.of2,Ent.of3,Ent.of4,V,W3,↓reduceIte,seval,reduceCtorEq];exact hE
 . simp only[b,if_true,if_false,ym]at hE;delta E4.c67 oO oN oA oM oG oS oK oF oL oV oC oI oX oH oB oE oJ o4 o7;simp (maxSteps:=9^7) -implicitDefEqProofs only[E4.rv67,oa,ed,kN,h2',h3',g1,g2,g3,g4,InR,not_true_eq_false,not_false_eq_true,WU,Ent.of0,Ent.of1,Ent.of2,Ent.of3,Ent.of4,V,W3,↓reduceIte,seval,reduceCtorEq];exact rst_12 n m hn hm net h2 b cx E hE
def smB (m:Ms):Bool:=decide (m.buf.length<=8) && m.buf.all fun x=>decide (x.length<=64)
theorem Small_c (m:Ms):FC Tryz.prog 63 [enc m] [] (enc (smB m)) []:=by
 obtain⟨B,hB⟩:∃ B,smB m=B:=⟨_,rfl⟩;rw[hB];unfold smB at hB;refine dD [] is63 (by simp) (by simp[bk]) (by simp[an,ag]) (by simp[an,ag]) (by simp[aB]) (fun cx _ hl _=>dC [] 800 ?_);by_cases h8:m.buf.length<=8
 rotate_left
 . have h8':¬ (m.buf.length:Int)<=8:=by omega
   have h9':(m.buf.length:Int) > 8:=by omega
   simp only[h8,decide_false,z7]at hB;subst hB;delta c63 oN oS oK oF oL oV oI oX oB o4 o7 o9;simp (maxSteps:=9^7) -implicitDefEqProofs only[rv63,kN,h9',not_true_eq_false,not_false_eq_true,WU,Ent.of0,Ent.of1,Ent.of2,Ent.of3,Ent.of4,V,W3,↓reduceIte,seval,reduceCtorEq]
 have h9':¬ (m.buf.length:Int) > 8:=by omega
 simp only[h8,decide_true,zY]at hB;delta c63 oN oS oK oF oL oV oI oX oB o4 o7 o9;simp (maxSteps:=9^7) -implicitDefEqProofs only[rv63,kN,h9',not_true_eq_false,not_false_eq_true,WU,Ent.of0,Ent.of1,Ent.of2,Ent.of3,Ent.of4,V,W3,↓reduceIte,seval,reduceCtorEq];refine eN m.buf.length (fun i=>[(3,.s (.int .i64 (i:Int)))]) (fun _=>[]) (fun i=>B=(m.buf.drop i).all fun x=>decide (x.length<=64)) (by rw[<- hB];rfl) ?_ (fun i hi hv=>dC [] 800 ?_)
 . simp (maxSteps:=9^7) -implicitDefEqProofs only[Ent.of0,Ent.of1,Ent.of2,Ent.of3,Ent.of4,V,W3,↓reduceIte,seval,reduceCtorEq]
   all_goals simp
 . by_cases h:i < m.buf.length
   . have hi2:(i:Int) < (m.buf.length:Int):=by omega
     have hi0:(0:Int)<=i:=by omega
     have hgx:List.getD (m.buf.map Dat.cells) i [C.sl 0 []]=[C.sl 1 ((m.buf.getD i []).map Dat.cells)]:=by
      rw[zb,zb,zh,ze h];rfl
     rw[eg [] h,List.all_cons]at hv;generalize m.buf.getD i []=q at *;by_cases hq:q.length<=64
     . have hq':¬ (q.length:Int) > 64:=by omega
       simp only[hq,decide_true,zY]at hv;delta Ai oO oN oA oM oR oS oK oF oL oI oX oB o0 o4 o9;simp (maxSteps:=9^7) -implicitDefEqProofs only[rv63,hi0,hi2,h,hgx,hq',zy,InR,not_true_eq_false,not_false_eq_true,WU,Ent.of0,Ent.of1,Ent.of2,Ent.of3,Ent.of4,V,W3,↓reduceIte,seval,reduceCtorEq];exact⟨⟨by omega,by omega⟩,hv,by omega⟩
     . have hq':(q.length:Int) > 64:=by omega
       simp only[hq,decide_false,z7]at hv;subst hv;delta Ai oO oN oA oM oR oS oK oF oL oI oX oB o0 o4 o9;simp (maxSteps:=9^7) -implicitDefEqProofs only[rv63,hi0,hi2,h,hgx,hq',zy,InR,not_true_eq_false,not_false_eq_true,WU,Ent.of0,Ent.of1,Ent.of2,Ent.of3,Ent.of4,V,W3,↓reduceIte,seval,reduceCtorEq]
   . have hi2:¬ (i:Int) < (m.buf.length:Int):=by omega
     have hd:m.buf.drop i=[]:=zv (by omega);rw[hd,List.all_nil]at hv;subst hv;delta Ai oO oN oA oM oR oS oK oF oL oI oX oB o0 o4 o9;simp (maxSteps:=9^7) -implicitDefEqProofs only[rv63,hi2,InR,WU,Ent.of0,Ent.of1,Ent.of2,Ent.of3,Ent.of4,V,W3,↓reduceIte,seval,reduceCtorEq]
def xF : Ent Tryz.prog:=.of1 63 (fun _=>True) (fun m:Ms=>enc (smB m)) (fun _=>trivial) (fun m _=>Small_c m)
theorem sm_msB {m:Ms} (h:smB m=true) (hI:∀ a∈m.buf,∀ b∈a,-9223372036854775808<=b/\b<=9223372036854775807):MsB m:=by
 simp only[smB,zm,decide_eq_true_eq,zx]at h;refine⟨by omega,fun x hx=>by have:=h.2 x hx;omega,fun x hx=>?_⟩;obtain⟨a,ha,hx⟩:=List.mem_flatten.1 hx;have:=hI a ha x hx;exact⟨this.1,this.2⟩
theorem Bk (n:Nw) (m:Ms) (hn:NwS n) (hm:MsB m):FC Tryz.prog 70 [enc n,enc m] [] (enc (opE n m)) []:=by
 have hdn:=gO n;obtain⟨E,hE⟩:∃ E,opE n m=E:=⟨_,rfl⟩;rw[hE];unfold opE at hE;by_cases h1:(eW n).2=0
 . rw[if_neg (by simp[h1])]at hE;have h67:=yX n m hn hm (rS h1);rw[hE]at h67;refine dD [] is70 (by simp) (by simp[bk]) (by simp[an,ag]) (by simp[an,ag]) (by simp[aB]) (fun cx _ hl _=>dC [ent46,entX 67 _ _ h67 trivial] 800 ?_);delta c70 oO oN oM oS oK oV oC oI oX oB o5 o7;simp (maxSteps:=9^7) -implicitDefEqProofs only[rv70,ed,kN,hdn,hn,ent46,entX,h1,not_true_eq_false,not_false_eq_true,WU,Ent.of0,Ent.of1,Ent.of2,Ent.of3,Ent.of4,V,W3,↓reduceIte,seval,reduceCtorEq]
 . rw[if_pos h1]at hE;refine dD [] is70 (by simp) (by simp[bk]) (by simp[an,ag]) (by simp[an,ag]) (by simp[aB]) (fun cx _ hl _=>dC [ent46] 800 ?_);delta c70 oO oN oM oS oK oV oC oI oX oB o5 o7;simp (maxSteps:=9^7) -implicitDefEqProofs only[rv70,ed,kN,hdn,hn,ent46,h1,not_true_eq_false,not_false_eq_true,WU,Ent.of0,Ent.of1,Ent.of2,Ent.of3,Ent.of4,V,W3,↓reduceIte,seval,reduceCtorEq];exact hE
theorem MsB.bs {m:Ms} (h:MsB m):BufS m.buf:=⟨h.l,fun x hx=>by have:=h.r x hx;omega⟩
theorem AP (m:Ms) (h:BufS m.buf):FC Tryz.prog 65 [enc m] [] (enc m) []:=by
 refine dD [] is65 (by simp) (by simp[bk]) (by simp[an,ag]) (by simp[an,ag]) (by simp[aB]) (fun cx _ hl _=>dC [ent60] 800 ?_);delta c65 oO oA oF oL oC oW oX oZ o5 o7;simp (maxSteps:=9^7) -implicitDefEqProofs only[rv65,ent60,kN,h,WU,Ent.of0,Ent.of1,Ent.of2,Ent.of3,Ent.of4,V,W3,↓reduceIte,seval,reduceCtorEq]
def xp : Ent Tryz.prog:=.of1 65 (fun m:Ms=>BufS m.buf) (fun m=>enc m) (fun m=>by simp[kN,dF,dF.keysIns]) (fun m h=>AP m h)
theorem apS_eq {n:Nw} {m:Ms} {e:T3} (h:opE n m=0):apE n m e=gi n m e/\apS n m e=yY n m e:=by
 have h1:apE n m e=gi n m e:=by unfold apE;rw[if_neg (by simp[h])]
 exact⟨h1,by unfold apS yY;rw[h1]⟩
theorem hdn_ms0 : fy (.agg [C.s (.int .i64 0),.s (.int .i64 0),.s (.int .i64 0),.s (.int .i64 0),.s (.int .i64 0),.s (.int .i64 0),.s (.int .i64 0),.s (.int .i64 0),.s (.int .i64 0),.s (.slice none 0 0)])=some ms0:=rfl
theorem AA {n:Nw} {m:Ms} (net:NetOk n) (g:dP n m):MsB m:=by
 have h1:=net.len;have h2:m.buf.length=n.cells.length:=g.len;have h3:m.buf.flatten.length<=60:=g.large;have h4:0<=m.fresh/\m.fresh<=1000000:=g.fresh;refine⟨by omega,fun x hx=>?_,fun x hx=>?_⟩
 . have:=(List.sublist_flatten_of_mem hx).length_le;omega
 . have:=g.rng x hx;simp only[InR];omega
theorem AB {n:Nw} {m:Ms} (h:(eW n).2=0) (g:dP n m):opE n m=0:=by
 unfold opE;rw[if_neg (by simp[h])];exact AD g
def inN (v:Int):List (List Int)->Int
 |[]=>0
 | b :: bs=>(if (b.any fun x=>decide (x=v))=true then 1 else 0)+inN v bs
theorem AE (v:Int):∀ bs,0<=inN v bs/\inN v bs<=(bs.length:Int)
 |[]=>by simp[inN]
 | b :: bs=>by
  have:=AE v bs;rw[inN,zQ];split <;> omega
theorem AF (v:Int):∀ bs:List (List Int),v∉bs.flatten->inN v bs=0
 |[],_=>rfl
 | b :: bs,h=>by
  rw[List.flatten_cons,zW]at h
  rw[inN,AF v bs (fun q=>h (.inr q)),if_neg (fun q=>by
   simp only[List.any_eq_true,decide_eq_true_eq]at q;obtain⟨x,hx,rfl⟩:=q
   exact h (.inl hx))]
  rfl
theorem AX (v:Int):∀ bs:List (List Int),bs.flatten.Nodup->v∈bs.flatten->inN v bs=1
 |[],_,h=>by simp at h
 | b :: bs,hn,h=>by
  rw[List.flatten_cons,List.nodup_append]at hn;rw[List.flatten_cons,zW]at h;rw[inN];by_cases hb:v∈b
  . rw[AF v bs (fun q=>hn.2.2 v hb v q rfl),if_pos (by simp only[List.any_eq_true,decide_eq_true_eq];exact⟨v,hb,rfl⟩)];rfl
  . rw[AX v bs hn.2.1 (h.resolve_left hb),if_neg (fun q=>by
     simp only[List.any_eq_true,decide_eq_true_eq]at q;obtain⟨x,hx,rfl⟩:=q
     exact hb hx)]
    rfl
theorem Bj (n:Nw) (m:Ms) (e:T3):(rf n m e).at_=e.y:=by
 have h:=at_done (qN n m e.y) e e.y;unfold rf lB;rw[<- h]
theorem Bf (n:Nw) (m:Ms) (e:T3):(rf n m e).got=m.got\/((rf n m e).got=m.got+1/\e.x=1):=by
 unfold rf;have h1:(lB n m e.y).got=m.got:=Bt n m e.y;generalize lB n m e.y=q at *;rw[<- h1];unfold kd;by_cases h10:e.x=10
 . rw[if_pos h10];exact .inl rfl
 . rw[if_neg h10,Bg,got_act];split
   . rename_i h;exact .inr ⟨rfl,by first | exact h | exact h.1⟩
   . exact .inl rfl
theorem BD {n:Nw} {m:Ms} (net:NetOk n) (g:dP n m):smB m=true:=by
 have h1:=net.len;have h2:m.buf.length=n.cells.length:=g.len;have h3:m.buf.flatten.length<=60:=g.large;simp only[smB,zm,decide_eq_true_eq,zx];refine⟨by omega,fun x hx=>?_⟩;have:=(List.sublist_flatten_of_mem hx).length_le;omega
def chK (n:Nw) (m S:Ms) (e:T3):Chs:=[(7,.box (msD S)),(5,.box [.s (.int .i64 e.x),.s (.int .i64 e.y),.s (.int .i64 e.z)]),(4,.box (msD m)),(3,.box [.sl 1 (n.cells.map Dat.cells),.sl 2 (n.nb.map Dat.cells),.s (.int .i64 n.limit)])]
theorem kept_2 (n:Nw) (m S:Ms) (e:T3) (hn:NwS n) (net:NetOk n) (hN:(eW n).2=0) (g2:dP n S) (cx:Cx):SG Tryz.prog cx (cB [RV.tmp 6] [] (.s (.bool true)) []) [It.c E5.c15k3.cut] ⟨[(7,.ptr 7 0),(3,.ptr 3 0)],chK n m S e⟩:=by
 have hdn:=gO n;have hdS:=xu S;have hmS:=AA net g2;have hml:=hmS.l;have hbS:=hmS.bs;have h73:=AT n S hn hmS;unfold dueE at h73;have hO:=AB hN g2;rw[if_neg (by simp[hO])]at h73;have hgt:0<=S.got/\S.got<=S.fresh:=g2.got;have hft:0<=S.fresh/\S.fresh<=1000000:=g2.fresh;have hnd:S.buf.flatten.Nodup:=g2.nd;have hgap:∀ x,S.got<=x->x < S.fresh->x∈S.buf.flatten:=g2.gap;obtain⟨J,hJw⟩:∃ J,(S.fresh - S.got).toNat=J:=⟨_,rfl⟩;refine iw (dC [] 500 ?_);delta E5.c15k3 oO oN oM oT oG oQ oS oK oF oL oC oI oX oP oB oD oE oJ o5 o8;simp (maxSteps:=9^7) -implicitDefEqProofs only[E5.rv15,chK,msD,InR,WU,Ent.of0,Ent.of1,Ent.of2,Ent.of3,Ent.of4,V,W3,↓reduceIte,seval,reduceCtorEq];refine eN J (fun i=>[(11,.s (.int .i64 (S.got+(i:Int))))]) (fun _=>[]) (fun _=>True) trivial ?_ (fun i hi _=>?_)
 . simp (maxSteps:=9^7) -implicitDefEqProofs only[Ent.of0,Ent.of1,Ent.of2,Ent.of3,Ent.of4,V,W3,↓reduceIte,seval,reduceCtorEq]
   all_goals simp
 . by_cases h:i < J
   . refine dC [] 800 ?_;have hi2:=eq_true (show S.got+(i:Int) < S.fresh by omega);have hone:=AX (S.got+(i:Int)) S.buf hnd (hgap _ (by omega) (by omega));generalize hv:S.got+(i:Int)=v at *;delta E5.c15l2 oO oN oM oR oS oK oF oL oV oI oX oB o9;simp (maxSteps:=9^7) -implicitDefEqProofs only[E5.rv15,hi2,InR,WU,Ent.of0,Ent.of1,Ent.of2,Ent.of3,Ent.of4,V,W3,↓reduceIte,seval,reduceCtorEq];refine eN S.buf.length (fun k=>[(12,.s (.int .i64 (1 - inN v (S.buf.drop k)))),(13,.s (.int .i64 (k:Int)))]) (fun _=>[]) (fun k=>0<=1 - inN v (S.buf.drop k)) (by simp[hone]) ?_ (fun k hk hw=>dC [yO] 800 ?_)
     . simp (maxSteps:=9^7) -implicitDefEqProofs only[Ent.of0,Ent.of1,Ent.of2,Ent.of3,Ent.of4,V,W3,↓reduceIte,seval,reduceCtorEq]
       all_goals simp[hone]
     . by_cases hkl:k < S.buf.length
       . have hk2:(k:Int) < (S.buf.length:Int):=by omega
         have hk0:(0:Int)<=k:=by omega
         have hgx:List.getD (S.buf.map Dat.cells) k [C.sl 0 []]=[C.sl 1 ((S.buf.getD k []).map Dat.cells)]:=by
          rw[zb,zb,zh,ze hkl];rfl
         have hnn:=AE v (S.buf.drop (k+1));have hnl:=AE v (S.buf.drop k);have hdl:(S.buf.drop k).length<=S.buf.length:=by rw[List.length_drop];omega
         rw[eg [] hkl,inN]at hw hnl;rw[eg [] hkl,inN];generalize S.buf.getD k []=q at *;cases hx:q.any fun x=>decide (x=v)
         . rw[hx]at hw hnl;simp only[zr,if_false,Int.zero_add]at hw hnl ⊢;delta E5.c15l1 oO oN oA oM oR oS oK oF oL oC oI oX oB o0 o4;simp (maxSteps:=9^7) -implicitDefEqProofs only[E5.rv15,yO,hk0,hk2,hkl,hgx,hx,zy,InR,WU,Ent.of0,Ent.of1,Ent.of2,Ent.of3,Ent.of4,V,W3,↓reduceIte,seval,reduceCtorEq];exact⟨⟨by omega,by omega⟩,by omega,by omega⟩
         . rw[hx]at hw hnl;simp only[if_true]at hw hnl ⊢;delta E5.c15l1 oO oN oA oM oR oS oK oF oL oC oI oX oB o0 o4;simp (maxSteps:=9^7) -implicitDefEqProofs only[E5.rv15,yO,hk0,hk2,hkl,hgx,hx,zy,InR,WU,Ent.of0,Ent.of1,Ent.of2,Ent.of3,Ent.of4,V,W3,↓reduceIte,seval,reduceCtorEq];exact⟨⟨by omega,by omega⟩,⟨by omega,by omega⟩,by omega,by omega,by omega⟩
       . have hke:k=S.buf.length:=by omega
         subst hke;have hk2:¬ ((S.buf.length:Nat):Int) < (S.buf.length:Int):=by omega
         have hz:1 - inN v (S.buf.drop S.buf.length)=1:=by rw[List.drop_length];rfl
         delta E5.c15l1 oO oN oA oM oR oS oK oF oL oC oI oX oB o0 o4;simp (maxSteps:=9^7) -implicitDefEqProofs only[E5.rv15,hk2,hz,InR,WU,Ent.of0,Ent.of1,Ent.of2,Ent.of3,Ent.of4,V,W3,↓reduceIte,seval,reduceCtorEq];exact⟨⟨by omega,by omega⟩,h,by omega⟩
   . have hie:i=J:=by omega
     subst hie;have hi2:=eq_false (show ¬ S.got+(i:Int) < S.fresh by omega);have hat:=g2.at_;have hsi:=g2.since;have hli:=net.lim;cases ha:ej S
     . rw[if_neg (by simp[ha])]at h73;have hp2:(S.phase=2)=False:=eq_false (by simp[ej]at ha;exact ha.1);have hp3:(S.phase=3)=False:=eq_false (by simp[ej]at ha;exact ha.2);refine dC [ent37,xp,oa,entX 73 _ _ h73 ⟨trivial,trivial,trivial⟩] 800 ?_;delta E5.c15l2 oO oN oM oR oS oK oF oL oV oI oX oB o9;simp (maxSteps:=9^7) -implicitDefEqProofs only[E5.rv15,hi2,ent37,xp,oa,entX,ed,kN,hdn,hdS,hn,hbS,hp2,hp3,InR,not_true_eq_false,not_false_eq_true,WU,Ent.of0,Ent.of1,Ent.of2,Ent.of3,Ent.of4,V,W3,↓reduceIte,seval,reduceCtorEq]
     . rw[if_pos ha]at h73;have hdu:=g2.due ha;have hwi:=eq_true (show S.at_+1<=S.since+n.limit/\S.since+n.limit<=S.at_+n.limit by omega);have hp:(S.phase=2)=True\/((S.phase=2)=False/\(S.phase=3)=True):=by
        simp[ej]at ha;rcases Classical.propComplete (S.phase=2)with h | h
        . exact .inl h
        . right;refine⟨h,eq_true ?_⟩;rcases ha with ha | ha
          . exact absurd ha (by rw[h];exact id)
          . exact ha
       rcases hp with hp2 | ⟨hp2,hp3⟩
       . refine dC [ent37,xp,oa,entX 73 _ _ h73 ⟨trivial,trivial,trivial⟩] 800 ?_;delta E5.c15l2 oO oN oM oR oS oK oF oL oV oI oX oB o9;simp (maxSteps:=9^7) -implicitDefEqProofs only[E5.rv15,hi2,ent37,xp,oa,entX,ed,kN,hdn,hdS,hn,hbS,hp2,hwi,InR,not_true_eq_false,not_false_eq_true,WU,Ent.of0,Ent.of1,Ent.of2,Ent.of3,Ent.of4,V,W3,↓reduceIte,seval,reduceCtorEq];omega
       . refine dC [ent37,xp,oa,entX 73 _ _ h73 ⟨trivial,trivial,trivial⟩] 800 ?_;delta E5.c15l2 oO oN oM oR oS oK oF oL oV oI oX oB o9;simp (maxSteps:=9^7) -implicitDefEqProofs only[E5.rv15,hi2,ent37,xp,oa,entX,ed,kN,hdn,hdS,hn,hbS,hp2,hp3,hwi,InR,not_true_eq_false,not_false_eq_true,WU,Ent.of0,Ent.of1,Ent.of2,Ent.of3,Ent.of4,V,W3,↓reduceIte,seval,reduceCtorEq];omega
end Go.Proofs.YtcbabnbiinkafaaGreatDoor
end
