/- Part 3 of the proof of: MovePossible returns true for every input and never panics: the events that are possible at a time are those of the reference, or the same error, and Apply accepts each of them; conditions: those of the given statement. -/
import Derived.Test.YtcbabnbiinkafaaGreatDoorMovePossible2
set_option linter.all false
section
open Go Go.Am
open Go.Am.Dat (cells)
namespace Go.Proofs.YtcbabnbiinkafaaGreatDoor
set_option maxHeartbeats 4000000
set_option maxRecDepth 100000
theorem BP {ch:Chs} {m:Ms} {k:Nat} (h:lk ch k=some (dpC m)):Lend ch (.agg (msC m k)) (enc m):=by
 have hx:bz (dpC m)=some (.sl 1 (m.buf.map Dat.cells)):=by rw[dpC,bz,xh]
 refine .agg rfl (fun j a b ha hb=>?_)
 match j,ha,hb with
 | 0,ha,hb=>cases ha;cases hb;exact .same _
 | 1,ha,hb=>cases ha;cases hb;exact .same _
 | 2,ha,hb=>cases ha;cases hb;exact .same _
 | 3,ha,hb=>cases ha;cases hb;exact .same _
 | 4,ha,hb=>cases ha;cases hb;exact .same _
 | 5,ha,hb=>cases ha;cases hb;exact .same _
 | 6,ha,hb=>cases ha;cases hb;exact .same _
 | 7,ha,hb=>cases ha;cases hb;exact .same _
 | 8,ha,hb=>cases ha;cases hb;exact .same _
 | 9,ha,hb=>cases ha;cases hb;exact .own h hx
theorem AK (l:List Int):∀ e∈l.map Dat.cells,∀ c∈e,∃ v,c=C.s v:=fun e he c hc=>by
 obtain⟨x,_,rfl⟩:=zu.1 he;exact⟨_,zg.1 hc⟩
theorem done_0 (m:Ms) (y z:Int) (hi:InB m m.path) (hg:InR .i64 (m.fresh+1)) (hb1:(dQ m m.path).length<=1000000) (m1:Ms) (hm:m1={ m with buf:=m.buf.set m.path.toNat (dQ m m.path++[m.fresh]),fresh:=m.fresh+1 }) (hs:m1.source≠-1->InB m1 m1.source):xF m ⟨0,y,z⟩ m1:=by
 have hdm1:=xj m1;have hs1:=eq_true hs;refine dD [] D7.is153 (by simp) (by simp[bk]) (by simp[an,ag,av]) (by simp[an,ag]) (by simp[aB]) (fun cx _ _ _=>dC [] 1500 ?_);obtain⟨hi0,hi2⟩:=hi;have hi3:m.path < (m.buf.length:Int):=by omega
 have hbg:=fI m.buf m.path.toNat;rw[show m.buf.getD m.path.toNat []=dQ m m.path from rfl]at hbg;have hst:=jS m.buf m.path.toNat (dQ m m.path++[m.fresh]);have hap:(dQ m m.path).map Dat.cells++[[C.s (.int .i64 m.fresh)]]=(dQ m m.path++[m.fresh]).map Dat.cells:=by rw[yg];rfl
 simp only[InR]at hg;delta D7.c153 oO oN oA oM oT oR oS oK oF oL oC oW oY oI oX oB o0 o1 oZ o7;simp (maxSteps:=9^7) -implicitDefEqProofs only[D7.rv153,msA,msC,dpC,dY,InR,WU,V,W3,↓reduceIte,seval,reduceCtorEq];refine nC [] 800 ?_;simp (maxSteps:=9^7) -implicitDefEqProofs only[drS,lC,robC,reC,fixS,eQ,AOp.reads,kF,true_or,or_true,false_or,hi0,hi2,hi3,eu,hbg,hap,zy,InR,WU,V,W3,↓reduceIte,seval,reduceCtorEq];refine⟨by omega,dC [] 600 ?_⟩;simp (maxSteps:=9^7) -implicitDefEqProofs only[D7.rv153,hg,hst,msA,msC,dpC,InR,WU,V,W3,↓reduceIte,seval,reduceCtorEq];refine iw (dC [xg] 600 ?_)
 try subst hm
 try simp only[ne_eq]at hdm1 hs1
 delta D7.c153k5 oO oC oW oX o5;simp (maxSteps:=9^7) -implicitDefEqProofs only[D7.rv153,xg,hdm1,hs1,kN,xh,InR,WU,Ent.of1,V,W3,↓reduceIte,seval,reduceCtorEq]
theorem done_1 (m:Ms) (y z:Int) (hi:InB m m.serving) (x:Int) (l:List Int) (hb:dQ m m.serving=x :: l) (hg:InR .i64 (m.got+1)) (m1:Ms) (hm:m1=if x=m.got then { m with got:=m.got+1 } else m) (hs:m1.source≠-1->InB m1 m1.source):xF m ⟨1,y,z⟩ m1:=by
 have hdm1:=xj m1;have hs1:=eq_true hs;refine dD [] D7.is153 (by simp) (by simp[bk]) (by simp[an,ag,av]) (by simp[an,ag]) (by simp[aB]) (fun cx _ _ _=>dC [] 1500 ?_);obtain⟨hi0,hi2⟩:=hi;have hi3:m.serving < (m.buf.length:Int):=by omega
 have hbg:=fI m.buf m.serving.toNat;rw[show m.buf.getD m.serving.toNat []=x :: l from hb]at hbg;have hl1:(0:Int) < (l.length:Int)+1:=by omega
 simp only[InR]at hg;delta D7.c153 oO oN oA oM oT oR oS oK oF oL oC oW oY oI oX oB o0 o1 oZ o7;simp (maxSteps:=9^7) -implicitDefEqProofs only[D7.rv153,msA,msC,dpC,dY,InR,WU,V,W3,↓reduceIte,seval,reduceCtorEq];refine iw (dC [] 600 ?_);by_cases hx:x=m.got
 . subst hx;rw[if_pos rfl]at hm;delta D7.c153k1 oO oN oA oT oR oQ oS oK oF oL oW oI oB o0 o1;simp (maxSteps:=9^7) -implicitDefEqProofs only[D7.rv153,hi0,hi2,hi3,hl1,hg,eu,hbg,zt,zQ,yM,zy,InR,WU,V,W3,↓reduceIte,seval,reduceCtorEq]
   try refine⟨by omega,?_⟩
   refine iw (dC [xg] 600 ?_)
   try subst hm
   try simp only[ne_eq]at hdm1 hs1
   delta D7.c153k5 oO oC oW oX o5;simp (maxSteps:=9^7) -implicitDefEqProofs only[D7.rv153,xg,hdm1,hs1,kN,xh,InR,WU,Ent.of1,V,W3,↓reduceIte,seval,reduceCtorEq]
 . rw[if_neg hx]at hm;delta D7.c153k1 oO oN oA oT oR oQ oS oK oF oL oW oI oB o0 o1;simp (maxSteps:=9^7) -implicitDefEqProofs only[D7.rv153,hi0,hi2,hi3,hl1,hx,eu,hbg,zt,zQ,yM,zy,InR,WU,V,W3,↓reduceIte,seval,reduceCtorEq]
   try refine⟨by omega,?_⟩
   refine iw (dC [xg] 600 ?_)
   try subst hm
   try simp only[ne_eq]at hdm1 hs1
   delta D7.c153k5 oO oC oW oX o5;simp (maxSteps:=9^7) -implicitDefEqProofs only[D7.rv153,xg,hdm1,hs1,kN,xh,InR,WU,Ent.of1,V,W3,↓reduceIte,seval,reduceCtorEq]
theorem done_8 (m:Ms) (y z:Int) (m1:Ms) (hm:m1={ m with path:=m.serving }) (hs:m1.source≠-1->InB m1 m1.source):xF m ⟨8,y,z⟩ m1:=by
 have hdm1:=xj m1;have hs1:=eq_true hs;refine dD [] D7.is153 (by simp) (by simp[bk]) (by simp[an,ag,av]) (by simp[an,ag]) (by simp[aB]) (fun cx _ _ _=>dC [] 1500 ?_);delta D7.c153 oO oN oA oM oT oR oS oK oF oL oC oW oY oI oX oB o0 o1 oZ o7;simp (maxSteps:=9^7) -implicitDefEqProofs only[D7.rv153,msA,msC,dpC,dY,InR,WU,V,W3,↓reduceIte,seval,reduceCtorEq];refine iw (dC [xg] 600 ?_)
 try subst hm
 try simp only[ne_eq]at hdm1 hs1
 delta D7.c153k5 oO oC oW oX o5;simp (maxSteps:=9^7) -implicitDefEqProofs only[D7.rv153,xg,hdm1,hs1,kN,xh,InR,WU,Ent.of1,V,W3,↓reduceIte,seval,reduceCtorEq]
theorem done_9 (m:Ms) (y z:Int) (m1:Ms) (hm:m1={ m with since:=if m.phase=2 then m.since else y,phase:=3 }) (hs:m1.source≠-1->InB m1 m1.source):xF m ⟨9,y,z⟩ m1:=by
 have hdm1:=xj m1;have hs1:=eq_true hs;refine dD [] D7.is153 (by simp) (by simp[bk]) (by simp[an,ag,av]) (by simp[an,ag]) (by simp[aB]) (fun cx _ _ _=>dC [] 1500 ?_);delta D7.c153 oO oN oA oM oT oR oS oK oF oL oC oW oY oI oX oB o0 o1 oZ o7;simp (maxSteps:=9^7) -implicitDefEqProofs only[D7.rv153,msA,msC,dpC,dY,InR,WU,V,W3,↓reduceIte,seval,reduceCtorEq];refine iw (dC [] 600 ?_);by_cases h2:m.phase=2
 all_goals
  simp only[h2,if_true,if_false]at hm;delta D7.c153k3 oO oN oR oS oK oF oL oW oY oI oX oB;simp (maxSteps:=9^7) -implicitDefEqProofs only[D7.rv153,h2,not_true_eq_false,not_false_eq_true,InR,WU,V,W3,↓reduceIte,seval,reduceCtorEq];refine iw (dC [xg] 600 ?_)
  try subst hm
  try simp only[ne_eq]at hdm1 hs1
  delta D7.c153k5 oO oC oW oX o5;simp (maxSteps:=9^7) -implicitDefEqProofs only[D7.rv153,xg,hdm1,hs1,kN,xh,InR,WU,Ent.of1,V,W3,↓reduceIte,seval,reduceCtorEq]
theorem done_11 (m:Ms) (y z:Int) (hs:m.source≠-1->InB m m.source):xF m ⟨11,y,z⟩ m:=by
 have hdm1:=xj m;have hs1:=eq_true hs;refine dD [] D7.is153 (by simp) (by simp[bk]) (by simp[an,ag,av]) (by simp[an,ag]) (by simp[aB]) (fun cx _ _ _=>dC [] 1500 ?_);delta D7.c153 oO oN oA oM oT oR oS oK oF oL oC oW oY oI oX oB o0 o1 oZ o7;simp (maxSteps:=9^7) -implicitDefEqProofs only[D7.rv153,msA,msC,dpC,dY,InR,WU,V,W3,↓reduceIte,seval,reduceCtorEq];refine iw (dC [xg] 600 ?_)
 try subst hm
 try simp only[ne_eq]at hdm1 hs1
 delta D7.c153k5 oO oC oW oX o5;simp (maxSteps:=9^7) -implicitDefEqProofs only[D7.rv153,xg,hdm1,hs1,kN,xh,InR,WU,Ent.of1,V,W3,↓reduceIte,seval,reduceCtorEq]
theorem done_10 (m:Ms) (y z:Int) (h:MsS m) (hz:InB m z):FC Tryz.prog 153 [msA m 100000,enc (⟨10,y,z⟩:T3)] [(100000,dpC m)] (enc (iP m z y)) []:=by
 refine dD [] D7.is153 (by simp) (by simp[bk]) (by simp[an,ag,av]) (by simp[an,ag]) (by simp[aB]) (fun cx _ _ _=>dC [] 1500 ?_);delta D7.c153 oO oN oA oM oT oR oS oK oF oL oC oW oY oI oX oB o0 o1 oZ o7;simp (maxSteps:=9^7) -implicitDefEqProofs only[D7.rv153,msA,msC,dpC,dY,InR,WU,V,W3,↓reduceIte,seval,reduceCtorEq];refine iw (dC [] 600 ?_);delta D7.c153k4 oO oF oL oC oW oX o5;simp (maxSteps:=9^7) -implicitDefEqProofs only[D7.rv153,InR,WU,V,W3,↓reduceIte,seval,reduceCtorEq];refine pw rfl (OpM.lend1 (Ak m z y h hz) rfl ⟨BP rfl,.same _,.same _,trivial⟩ rfl (AM _)) (fun ef he=>?_);subst he;refine nz [] 800 ?_;simp (maxSteps:=9^7) -implicitDefEqProofs only[D7.rv153,msA,msC,kN,dpC,xh,ak,ak.renCs,rn,InR,WU,V,W3,↓reduceIte,seval,reduceCtorEq]
theorem done_2 (m:Ms) (y z:Int) (hi:InB m m.serving) (hb1:(dQ m m.serving).length<=1000000) (m1:Ms) (hm:m1={ m with buf:=m.buf.set m.serving.toNat (frm (dQ m m.serving) m.got) }) (hs:m1.source≠-1->InB m1 m1.source):xF m ⟨2,y,z⟩ m1:=by
 have hdm1:=xj m1;have hs1:=eq_true hs;refine dD [] D7.is153 (by simp) (by simp[bk]) (by simp[an,ag,av]) (by simp[an,ag]) (by simp[aB]) (fun cx _ _ _=>dC [] 1500 ?_);obtain⟨hi0,hi2⟩:=hi;have hi3:m.serving < (m.buf.length:Int):=by omega
 have hbg:=fI m.buf m.serving.toNat;rw[show m.buf.getD m.serving.toNat []=dQ m m.serving from rfl]at hbg;have hst:=jS m.buf m.serving.toNat (frm (dQ m m.serving) m.got);delta D7.c153 oO oN oA oM oT oR oS oK oF oL oC oW oY oI oX oB o0 o1 oZ o7;simp (maxSteps:=9^7) -implicitDefEqProofs only[D7.rv153,msA,msC,dpC,dY,InR,WU,V,W3,↓reduceIte,seval,reduceCtorEq];refine qZ [Ag (dQ m m.serving) m.got hb1] 800 ?_;simp (maxSteps:=9^7) -implicitDefEqProofs only[gL,mFin2,ml,pF,ops2,jo,reM2,oU,qO,qP,mE,finM,kE,ia,ip,gh,ft,fW,fW.fixBs,fV,ndE2,an,ag,av,aU,aF,kF,eQ,a6,bF,Ag,xv,hi0,hi2,hi3,hbg,eu,InR,WU,V,W3,↓reduceIte,seval,reduceCtorEq];refine⟨rfl,⟨AK _,.inl trivial⟩,dC [] 600 ?_⟩;simp (maxSteps:=9^7) -implicitDefEqProofs only[D7.rv153,hst,WU,V,W3,↓reduceIte,seval,reduceCtorEq];refine iw (dC [xg] 600 ?_);subst hm;simp only[ne_eq]at hdm1 hs1;delta D7.c153k5 oO oC oW oX o5;simp (maxSteps:=9^7) -implicitDefEqProofs only[D7.rv153,xg,hdm1,hs1,kN,xh,InR,WU,Ent.of1,V,W3,↓reduceIte,seval,reduceCtorEq]
theorem done_3 (m:Ms) (y z:Int) (m1:Ms) (hm:m1={ m with phase:=1,since:=y,target:=z }) (hs:m1.source≠-1->InB m1 m1.source):xF m ⟨3,y,z⟩ m1:=by
 have hdm1:=xj m1;have hs1:=eq_true hs;refine dD [] D7.is153 (by simp) (by simp[bk]) (by simp[an,ag,av]) (by simp[an,ag]) (by simp[aB]) (fun cx _ _ _=>dC [] 1500 ?_);delta D7.c153 oO oN oA oM oT oR oS oK oF oL oC oW oY oI oX oB o0 o1 oZ o7;simp (maxSteps:=9^7) -implicitDefEqProofs only[D7.rv153,msA,msC,dpC,dY,InR,WU,V,W3,↓reduceIte,seval,reduceCtorEq];refine kI [] 800 ?_;simp (maxSteps:=9^7) -implicitDefEqProofs only[drM,mFin,kx,lz,ib,reM,iu,gV,gK,ndE,an,ag,av,aU,aF,WU,V,W3,↓reduceIte,seval,reduceCtorEq];refine dC [] 400 ?_;simp (maxSteps:=9^7) -implicitDefEqProofs only[D7.rv153,WU,V,W3,↓reduceIte,seval,reduceCtorEq];refine iw (dC [xg] 600 ?_);subst hm;simp only[ne_eq]at hdm1 hs1;delta D7.c153k5 oO oC oW oX o5;simp (maxSteps:=9^7) -implicitDefEqProofs only[D7.rv153,xg,hdm1,hs1,kN,xh,InR,WU,Ent.of1,V,W3,↓reduceIte,seval,reduceCtorEq]
theorem done_4 (m:Ms) (y z:Int) (m1:Ms) (hm:m1={ m with phase:=0,since:=y,target:=-1 }) (hs:m1.source≠-1->InB m1 m1.source):xF m ⟨4,y,z⟩ m1:=by
 have hdm1:=xj m1;have hs1:=eq_true hs;refine dD [] D7.is153 (by simp) (by simp[bk]) (by simp[an,ag,av]) (by simp[an,ag]) (by simp[aB]) (fun cx _ _ _=>dC [] 1500 ?_);delta D7.c153 oO oN oA oM oT oR oS oK oF oL oC oW oY oI oX oB o0 o1 oZ o7;simp (maxSteps:=9^7) -implicitDefEqProofs only[D7.rv153,msA,msC,dpC,dY,InR,WU,V,W3,↓reduceIte,seval,reduceCtorEq];refine kI [] 800 ?_;simp (maxSteps:=9^7) -implicitDefEqProofs only[drM,mFin,kx,lz,ib,reM,iu,gV,gK,ndE,an,ag,av,aU,aF,WU,V,W3,↓reduceIte,seval,reduceCtorEq];refine dC [] 400 ?_;simp (maxSteps:=9^7) -implicitDefEqProofs only[D7.rv153,WU,V,W3,↓reduceIte,seval,reduceCtorEq];refine iw (dC [xg] 600 ?_);subst hm;simp only[ne_eq]at hdm1 hs1;delta D7.c153k5 oO oC oW oX o5;simp (maxSteps:=9^7) -implicitDefEqProofs only[D7.rv153,xg,hdm1,hs1,kN,xh,InR,WU,Ent.of1,V,W3,↓reduceIte,seval,reduceCtorEq]
theorem done_5 (m:Ms) (y z:Int) (m1:Ms) (hm:m1={ m with phase:=2,since:=y }) (hs:m1.source≠-1->InB m1 m1.source):xF m ⟨5,y,z⟩ m1:=by
 have hdm1:=xj m1;have hs1:=eq_true hs;refine dD [] D7.is153 (by simp) (by simp[bk]) (by simp[an,ag,av]) (by simp[an,ag]) (by simp[aB]) (fun cx _ _ _=>dC [] 1500 ?_);delta D7.c153 oO oN oA oM oT oR oS oK oF oL oC oW oY oI oX oB o0 o1 oZ o7;simp (maxSteps:=9^7) -implicitDefEqProofs only[D7.rv153,msA,msC,dpC,dY,InR,WU,V,W3,↓reduceIte,seval,reduceCtorEq];refine kI [] 800 ?_;simp (maxSteps:=9^7) -implicitDefEqProofs only[drM,mFin,kx,lz,ib,reM,iu,gV,gK,ndE,an,ag,av,aU,aF,WU,V,W3,↓reduceIte,seval,reduceCtorEq];refine dC [] 400 ?_;simp (maxSteps:=9^7) -implicitDefEqProofs only[D7.rv153,WU,V,W3,↓reduceIte,seval,reduceCtorEq];refine iw (dC [xg] 600 ?_);subst hm;simp only[ne_eq]at hdm1 hs1;delta D7.c153k5 oO oC oW oX o5;simp (maxSteps:=9^7) -implicitDefEqProofs only[D7.rv153,xg,hdm1,hs1,kN,xh,InR,WU,Ent.of1,V,W3,↓reduceIte,seval,reduceCtorEq]
theorem done_6 (m:Ms) (y z:Int) (m1:Ms) (hm:m1={ m with phase:=0,since:=y,source:=m.serving,serving:=m.target,target:=-1 }) (hs:m1.source≠-1->InB m1 m1.source):xF m ⟨6,y,z⟩ m1:=by
 have hdm1:=xj m1;have hs1:=eq_true hs;refine dD [] D7.is153 (by simp) (by simp[bk]) (by simp[an,ag,av]) (by simp[an,ag]) (by simp[aB]) (fun cx _ _ _=>dC [] 1500 ?_);delta D7.c153 oO oN oA oM oT oR oS oK oF oL oC oW oY oI oX oB o0 o1 oZ o7;simp (maxSteps:=9^7) -implicitDefEqProofs only[D7.rv153,msA,msC,dpC,dY,InR,WU,V,W3,↓reduceIte,seval,reduceCtorEq];refine kI [] 800 ?_;simp (maxSteps:=9^7) -implicitDefEqProofs only[drM,mFin,kx,lz,ib,reM,iu,gV,gK,ndE,an,ag,av,aU,aF,WU,V,W3,↓reduceIte,seval,reduceCtorEq];refine dC [] 400 ?_;simp (maxSteps:=9^7) -implicitDefEqProofs only[D7.rv153,WU,V,W3,↓reduceIte,seval,reduceCtorEq];refine iw (dC [xg] 600 ?_);subst hm;simp only[ne_eq]at hdm1 hs1;delta D7.c153k5 oO oC oW oX o5;simp (maxSteps:=9^7) -implicitDefEqProofs only[D7.rv153,xg,hdm1,hs1,kN,xh,InR,WU,Ent.of1,V,W3,↓reduceIte,seval,reduceCtorEq]
def BN (l:List Int) (n:Int) (h:l.length<=1000000):Ent Tryz.prog:=xv 163 [enc l,enc n] (.own 5) 5 (.row 1 3 ((gc l n).map Dat.cells)) (by simp[dF]) (by simp[gm]) (put_o l n h)
theorem done_7 (m:Ms) (y z:Int) (hf:InB m (dW m)) (ht:InB m (toC m)) (hne:dW m≠toC m) (x:Int) (B:List Int) (hb:dQ m (dW m)=x :: B) (hl1:(dQ m (toC m)).length<=1000000) (hl2:B.length<=1000000) (m1:Ms)
 (hm:m1={ m with buf:=(m.buf.set (toC m).toNat (gc (dQ m (toC m)) x)).set (dW m).toNat B }) (hs:m1.source≠-1->InB m1 m1.source):xF m ⟨7,y,z⟩ m1:=by
 have hdm:=xj m;obtain⟨i0,i2⟩:=hf;obtain⟨j0w,j2w⟩:=ht;have i3:dW m < (m.buf.length:Int):=by omega
 have j3w:toC m < (m.buf.length:Int):=by omega
 have hnn:(toC m).toNat≠(dW m).toNat:=by omega
 have hbf:=fI m.buf (dW m).toNat;rw[show m.buf.getD (dW m).toNat []=x :: B from hb]at hbf;have hbt:=fI m.buf (toC m).toNat;rw[show m.buf.getD (toC m).toNat []=dQ m (toC m)from rfl]at hbt;have hst:=jS m.buf (toC m).toNat (gc (dQ m (toC m)) x);have hbf2:(fP (m.buf.set (toC m).toNat (gc (dQ m (toC m)) x))).getD (dW m).toNat []=(x :: B).map Dat.cells:=by
  rw[fI,fA,if_neg (fun q=>hnn q.1)];rw[show m.buf.getD (dW m).toNat []=x :: B from hb]
 have hlen1:(m.buf.set (toC m).toNat (gc (dQ m (toC m)) x)).length=m.buf.length:=by simp
 have hst2:=jS (m.buf.set (toC m).toNat (gc (dQ m (toC m)) x)) (dW m).toNat B;have hl00:(0:Int) < (B.length:Int)+1:=by omega
 have hl01:(1:Int)<=(B.length:Int)+1:=by omega
 have hdt:List.drop 1 (List.take ((B.length:Int)+1).toNat ([C.s (.int .i64 x)] :: B.map Dat.cells))=B.map Dat.cells:=by
  have e1:((B.length:Int)+1).toNat=B.length+1:=by omega
  rw[e1,yD,yw,yB,List.take_of_length_le (by simp)]
 have hdm1:=xj m1;have hs1:=eq_true hs;refine dD [] D7.is153 (by simp) (by simp[bk]) (by simp[an,ag,av]) (by simp[an,ag]) (by simp[aB]) (fun cx _ _ _=>dC [] 1500 ?_);delta D7.c153 oO oN oA oM oT oR oS oK oF oL oC oW oY oI oX oB o0 o1 oZ o7;simp (maxSteps:=9^7) -implicitDefEqProofs only[D7.rv153,msA,msC,dpC,dY,InR,WU,V,W3,↓reduceIte,seval,reduceCtorEq];refine iw (dC [xX] 600 ?_);delta D7.c153k2 oO oN oA oM oT oS oK oF oL oC oX o0 o1 o5 o8;simp (maxSteps:=9^7) -implicitDefEqProofs only[D7.rv153,xX,hdm,kN,xh,InR,WU,Ent.of1,V,W3,↓reduceIte,seval,reduceCtorEq];generalize hF:dW m=F at *;generalize hG:toC m=G at *;refine qZ [BN (dQ m G) x hl1] 800 ?_;simp (maxSteps:=9^7) -implicitDefEqProofs only[gL,mFin2,ml,pF,ops2,jo,reM2,oU,qO,qP,mE,finM,kE,ia,ip,gh,ft,fW,fW.fixBs,fV,ndE2,an,ag,av,aU,aF,kF,eQ,a6,bF,BN,xv,i0,i2,i3,j0w,j2w,j3w,hl00,hbf,hbt,eu,zt,zQ,yM,zy,InR,WU,V,W3,↓reduceIte,seval,reduceCtorEq];refine⟨rfl,⟨by omega,AK _,.inl trivial⟩,dC [] 600 ?_⟩;simp (maxSteps:=9^7) -implicitDefEqProofs only[D7.rv153,hst,WU,V,W3,↓reduceIte,seval,reduceCtorEq];refine qZ [AB B hl2] 800 ?_;simp (maxSteps:=9^7) -implicitDefEqProofs only[gL,mFin2,ml,pF,ops2,jo,reM2,oU,qO,qP,mE,finM,kE,ia,ip,gh,ft,fW,fW.fixBs,fV,ndE2,an,ag,av,aU,aF,kF,eQ,a6,bF,AB,xv,i0,i2,i3,hl00,hl01,hbf2,hlen1,hdt,eu,zt,zQ,yM,zy,InR,WU,V,W3,↓reduceIte,seval,reduceCtorEq];refine⟨rfl,⟨Int.le_refl _,AK _,.inr trivial⟩,dC [] 600 ?_⟩;simp (maxSteps:=9^7) -implicitDefEqProofs only[D7.rv153,hst2,WU,V,W3,↓reduceIte,seval,reduceCtorEq];refine iw (dC [xg] 600 ?_);subst hm;simp only[ne_eq]at hdm1 hs1;delta D7.c153k5 oO oC oW oX o5;simp (maxSteps:=9^7) -implicitDefEqProofs only[D7.rv153,xg,hdm1,hs1,kN,xh,InR,WU,Ent.of1,V,W3,↓reduceIte,seval,reduceCtorEq]
theorem G0.inB {n:Nw} {m:Ms} (g:G0 n m) {c:Int} (h:isC n c=true):InB m c:=⟨(fS h).1,g.ix h⟩
theorem dP.msS {n:Nw} {m:Ms} (net:NetOk n) (g:dP n m):MsS m:=by
 have h1:=g.len;have h2:=g.large;have h3:=net.len;refine⟨⟨by omega,fun x hx=>?_⟩,by omega⟩;have:=(List.sublist_flatten_of_mem hx).length_le;omega
theorem bufA_le {n:Nw} {m:Ms} (net:NetOk n) (g:dP n m) (c:Int):(dQ m c).length<=1000000:=by
 rcases yu c.toNat m.buf.length with h | h
 . have e:dQ m c=m.buf[c.toNat]:=by rw[dQ,zb,ze h];rfl
   rw[e];exact (g.msS net).b.r _ (yy h)
 . have e:dQ m c=[]:=by rw[dQ,zb,List.getElem?_eq_none h];rfl
   rw[e];simp
theorem Ck {m:Ms} {t:Int} (h:MsS { m with at_:=t }):MsS m:=⟨h.b,h.f⟩
theorem BV {n:Nw} {m:Ms} (net:NetOk n) (g:dP n m) (h:m.phase=2\/(m.phase=0/\m.source≠-1)):InB m (dW m)/\InB m (toC m)/\dW m≠toC m:=by
 by_cases p:m.phase=2
 . have htn:m.target≠-1:=fun q=>(g.f2 q).2 p
   rw[dW,toC,if_pos p,if_pos p];exact⟨g.inB g.srv,g.inB (g.tgt htn),fun q=>net.ne _ _ (g.c1 htn) q.symm⟩
 . have hs:m.source≠-1:=by
    rcases h with q | q
    . exact absurd q p
    . exact q.2
   rw[dW,toC,if_neg p,if_neg p];exact⟨g.inB (g.src hs),g.inB g.srv,net.ne _ _ (g.c2 hs)⟩
theorem Rdone_c (n:Nw) (m:Ms) (e:T3) (net:NetOk n) (G:dP n { m with at_:=e.y }) (hev:evE n e=0) (hd:eA n m e=0):FC Tryz.prog 153 [msA m 100000,enc e] [(100000,dpC m)] (enc (kd m e)) []:=by
 obtain⟨hk,hy,hcz⟩:=ev_ok hev;have S:=Ck (G.msS net);have hd':eA n { m with at_:=e.y } e=0:=hd;have hI:∀ c,isC n c=true->InB m c:=fun c h=>G.inB h
 have hB:∀ c,(dQ m c).length<=1000000:=fun c=>bufA_le net G c
 obtain⟨ex,ey,ezw⟩:=e;simp only at hk hy hcz hd hd' G;by_cases h10:ex=10
 . subst h10;rw[kd,if_pos rfl];exact done_10 m ey ezw S (hI _ (hcz rfl))
 have hdn:kd m ⟨ex,ey,ezw⟩=settle (eK m ⟨ex,ey,ezw⟩):=by rw[kd,if_neg h10]
 rw[hdn];have A:=G.toG0.act net hev rfl hd' h10;rw[<- at_act]at A;have hs:(eK m ⟨ex,ey,ezw⟩).source≠-1->InB (eK m ⟨ex,ey,ezw⟩) (eK m ⟨ex,ey,ezw⟩).source:=fun q=>A.inB (A.src q)
 clear A;have k:ex=0\/ex=1\/ex=2\/ex=3\/ex=4\/ex=5\/ex=6\/ex=7\/ex=8\/ex=9\/ex=11:=by omega
 generalize hm:eK m ⟨ex,ey,ezw⟩=m1 at *;unfold eK at hm;unfold eA at hd;rcases k with rfl | rfl | rfl | rfl | rfl | rfl | rfl | rfl | rfl | rfl | rfl <;> simp only[Int.reduceEq,if_true,if_false]at hm hd
 . have hfr:=G.fresh;exact done_0 m ey ezw (hI _ G.pth) (by simp only[InR];simp only at hfr;omega) (hB _) m1 hm.symm hs
 . have hgt:=G.got;have hfr:=G.fresh;simp only at hgt hfr;cases hb:dQ m m.serving with
   | nil=>
    rw[hb]at hd;simp at hd;split at hd <;> cases hd
   | cons x l=>
    rw[hb]at hm;exact done_1 m ey ezw (hI _ G.srv) x l hb (by simp only[InR];omega) m1 hm.symm hs
 . exact done_2 m ey ezw (hI _ G.srv) (hB _) m1 hm.symm hs
 . exact done_3 m ey ezw m1 hm.symm hs
 . exact done_4 m ey ezw m1 hm.symm hs
 . exact done_5 m ey ezw m1 hm.symm hs
 . exact done_6 m ey ezw m1 hm.symm hs
 . have hq:m.phase=2\/(m.phase=0/\m.source≠-1):=by
    by_cases q:m.phase=2
    . exact .inl q
    . by_cases q0:m.phase=0
      . by_cases qs:m.source=-1
        . rw[if_pos ⟨q,.inr qs⟩]at hd;cases hd
        . exact .inr ⟨q0,qs⟩
      . rw[if_pos ⟨q,.inl q0⟩]at hd;cases hd
   obtain⟨w1,w2,w3⟩:=BV net G hq;have hne:dQ m (dW m)≠[]:=fun q=>by
    split at hd
    . cases hd
    . first | cases hd | (rw[if_pos q]at hd;cases hd)
   cases hb:dQ m (dW m)with
   | nil=>exact absurd hb hne
   | cons x B=>
    rw[hb]at hm;have hbl:=hB (dW m);rw[hb]at hbl;exact done_7 m ey ezw w1 w2 w3 x B hb (hB _) (by simp at hbl;omega) m1 hm.symm hs
 . exact done_8 m ey ezw m1 hm.symm hs
 . exact done_9 m ey ezw m1 hm.symm hs
 . subst hm;exact done_11 m ey ezw hs
theorem FC.keys {f:FuncId} {cs:List C} {r:C} {c:Ch} (k:Nat) (h:FC Tryz.prog f cs [(100000,c)] r []) (hr:ak [(100000,k)] r=r) (hk:dF [100000] r) (hc:aG [(100000,k)] c=c):FC Tryz.prog f (cs.map (ak [(100000,k)])) [(k,c)] r []:=by
 have:=FC.ren h [(100000,k)] [100000] (by simp[rn,lk]) (fun k' c' hm=>by simp at hm ⊢;exact hm.1) (fun k' c' hm=>by simp at hm) hk;rw[hr]at this;simpa[ar,rn,lk,hc]using this
theorem BK (m:Ms) (k:Nat):ak [(100000,k)] (enc m)=enc m/\dF [100000] (enc m):=by
 rw[kN];simp[ak,ak.renCs,dF,dF.keysIns]
def yN (n:Nw) (m:Ms) (e:T3):Ms:=if qU n m e≠0 then ms0 else rf n m e
theorem Step_c (n:Nw) (m:Ms) (e:T3) (hn:NwS n) (net:NetOk n) (g:dP n m) (hev:evE n e=0):FC Tryz.prog 119 [enc n,enc m,enc e] [] (.tup [enc (yN n m e),enc (qU n m e)]) []:=by
 obtain⟨hk,hy,hcz⟩:=ev_ok hev;have S:=g.msS net;have hlen:=g.len;have hlen0:=net.len;have hsi:=g.since;have hat:=g.at_;have hli:=net.lim;by_cases ht:e.y < m.at_
 . have hE:qU n m e=9:=by rw[qU,if_pos ht]
   have hS:yN n m e=ms0:=by rw[yN,hE];rfl
   rw[hE,hS];refine dD [] is119 (by simp) (by simp[bk]) (by simp[an,ag]) (by simp[an,ag]) (by simp[aB]) (fun cx _ _ _=>dC [] 1500 ?_);delta c119 oO oN oA oM oS oK oF oL oV oC oW oI oX oB oZ o5 o7 o8;simp (maxSteps:=9^7) -implicitDefEqProofs only[Ai,ed,kN,dY,ht,ms0,InR,WU,V,W3,↓reduceIte,seval,reduceCtorEq]
 . have hE:qU n m e=eA n (qN n m e.y) e:=by rw[qU,if_neg ht];rfl
   have G:dP n { qN n m e.y with at_:=e.y }:=g.pass net (by omega) hy.2;have hap:rf n m e={ kd (qN n m e.y) e with at_:=e.y }:=by rw[at_done];rfl
   have SY:=Ck (G.msS net);have hdoes:=does_c n (qN n m e.y) e hn SY hk (G.inB G.srv) (fun q=>(BV net G q).1);generalize hY:qN n m e.y=Y at *;have pass:=Pass_o n m e.y hn S (by omega) (fun _=>by simp only[InR];omega);rw[hY]at pass;refine dD [] is119 (by simp) (by simp[bk]) (by simp[an,ag]) (by simp[an,ag]) (by simp[aB]) (fun cx _ _ _=>dC [xv 110 [enc n,enc m,enc e.y] (.tup [msA Y 25,enc (yT n m e.y)]) 25 (.deep 1 3 24 none (fP Y.buf)) ⟨Aw _ 25,trivial,trivial⟩ (by simp[gm]) pass] 1500 ?_);delta c119 oO oN oA oM oS oK oF oL oV oC oW oI oX oB oZ o5 o7 o8;simp (maxSteps:=9^7) -implicitDefEqProofs only[Ai,ed,kN,dY,ht,xv,msA,msC,InR,not_true_eq_false,WU,V,W3,↓reduceIte,seval,reduceCtorEq];refine pw rfl (OpM.lend0 hdoes rfl ⟨.same _,BP rfl,.same _,trivial⟩ rfl rfl) (fun ef he=>?_);subst he;refine nz [] 800 ?_;by_cases h0:eA n Y e=0
   . have hE0:qU n m e=0:=hE.trans h0;have hS:yN n m e={ kd Y e with at_:=e.y }:=by rw[yN,if_neg (by simp[hE0]),hap]
     have hdone:=FC.keys 22 (Rdone_c n Y e net G hev h0) (BK _ 22).1 (BK _ 22).2 rfl;rw[hE0,hS];simp (maxSteps:=9^7) -implicitDefEqProofs only[Ai,h0,not_true_eq_false,WU,V,W3,↓reduceIte,seval,reduceCtorEq];refine qD (.yes _ rfl (OpR.give (k:=22) (c:=dpC Y) rfl hdone (by rfl) rfl (fun cs q=>by cases q) (by rw[kN];simp[dF,dF.keysIns]))) trivial ?_;refine nz [] 800 ?_;simp (maxSteps:=9^7) -implicitDefEqProofs only[Ai,kN,a7,az,bA,InR,WU,V,W3,↓reduceIte,seval,reduceCtorEq]
   . have hE0:¬ qU n m e=0:=by rw[hE];exact h0
     have hS:yN n m e=ms0:=by rw[yN,if_pos hE0]
     rw[hS,hE];simp (maxSteps:=9^7) -implicitDefEqProofs only[Ai,h0,ms0,not_true_eq_false,not_false_eq_true,WU,V,W3,↓reduceIte,seval,reduceCtorEq]
theorem keys_ms (m:Ms):dF [] (enc m):=by rw[kN];simp[dF,dF.keysIns]
theorem Apply_c (n:Nw) (m:Ms) (e:T3) (hn:NwS n) (net:NetOk n) (g:dP n m):FC Tryz.prog 71 [enc n,enc m,enc e] [] (.tup [enc (xM n m e),enc (gi n m e)]) []:=by
 have hdn:=gO n;have eta:(⟨e.x,e.y,e.z⟩:T3)=e:=rfl;by_cases hev:evE n e=0
 . have hE:gi n m e=qU n m e:=by rw[gi,if_neg (by simp[hev])]
   have hS:xM n m e=yN n m e:=by rw[xM,hE];rfl
   rw[hE,hS];have hx:=Step_c n m e hn net g hev;refine dD [] is71 (by simp) (by simp[bk]) (by simp[an,ag]) (by simp[an,ag]) (by simp[aB]) (fun cx _ _ _=>dC [Bc,entX 119 _ _ hx ⟨keys_ms _,trivial,trivial⟩] 1500 ?_);delta c71 oO oN oA oM oS oK oV oC oW oI oX oB oZ o5 o7 o8;simp (maxSteps:=9^7) -implicitDefEqProofs only[rv71,Bc,entX,ed,kN,dY,mt,eta,hdn,hn,hev,not_true_eq_false,WU,Ent.of2,V,W3,↓reduceIte,seval,reduceCtorEq]
 . have hE:gi n m e=evE n e:=by rw[gi,if_pos hev]
   have hS:xM n m e=ms0:=by rw[xM,hE,if_pos hev]
   rw[hE,hS];refine dD [] is71 (by simp) (by simp[bk]) (by simp[an,ag]) (by simp[an,ag]) (by simp[aB]) (fun cx _ _ _=>dC [Bc] 1500 ?_);delta c71 oO oN oA oM oS oK oV oC oW oI oX oB oZ o5 o7 o8;simp (maxSteps:=9^7) -implicitDefEqProofs only[rv71,Bc,ed,kN,dY,mt,eta,hdn,hn,hev,ms0,not_true_eq_false,not_false_eq_true,WU,Ent.of2,V,W3,↓reduceIte,seval,reduceCtorEq]
theorem FC.post {f:FuncId} {as0:List C} {r r':C} (hfc:FC Tryz.prog f as0 [] r []) (hp:∀ E U h v,Rep E U h r v->Rep E U h r' v):FC Tryz.prog f as0 [] r' []:=
 ⟨hfc.1,fun E U vs w hg ha hi=>(hfc.2 E U vs w hg ha hi).mono fun e w' ⟨v,E',U',he,hr,hc⟩=>⟨v,E',U',he,hp _ _ _ _ hr,hc⟩⟩
structure Bst where
 f:Bool
 t:Int
 c:Int
 v:Int
def sgT (r:Rul) (L:List (List Int)) (s:Int) (k:Nat):List Int:=iv r (L.getD s.toNat []) (L.getD k [])
def sgIn (r:Rul) (L:List (List Int)) (s t:Int):Nat->Int
 | 0=>-1
 | k+1=>if (k:Int)≠s/\t∈sgT r L s k/\(sgIn r L s t k < 0\/(L.getD (sgIn r L s t k).toNat []).getD t.toNat 0 < (L.getD k []).getD t.toNat 0)then (k:Int)else sgIn r L s t k
structure SgInv (r:Rul) (L:List (List Int)) (s:Int) (k:Nat) (b:Bst):Prop where
 no:b.f=false->∀ t,sgIn r L s t k=-1
 yes:b.f=true->sgIn r L s b.t k=b.c/\(0<=b.c/\b.c < k)/\b.v=(L.getD b.c.toNat []).getD b.t.toNat 0/\(∀ t,t < b.t->sgIn r L s t k=-1)/\0<=b.t/\b.t < (L.getD s.toNat []).length
theorem BF (b:List (List Int)) (h:BufS b):FC Tryz.prog 60 [enc b] [] (enc b) []:=by
 have:=FC.frz (Aj b h) (x:=.sl 1 (b.map Dat.cells)) (by simp[bz,fP];intro a _;rfl);exact this
def ent60 : Ent Tryz.prog:=.of1 60 BufS (fun b:List (List Int)=>enc b) (fun _=>trivial) (fun b h=>BF b h)
def xx (f:Int) (seen:List Int):Int->List Int->Int
 |_,[]=>0
 | p,x :: l=>if ¬ (0<=x/\x < f)then 2 else if x<=p then 9 else if x∈seen then 26 else xx f seen x l
def pkL (f:Int):List Int->List (List Int)->Int
 |_,[]=>0
 | seen,b :: bs=>if xx f seen (-1) b≠0 then xx f seen (-1) b else pkL f (seen++b) bs
def rgB (m:Ms):Bool:=decide (0<=m.at_/\m.at_<=1000000000) && decide (0<=m.since/\m.since<=m.at_) && decide (0<=m.fresh/\m.fresh<=1000000) && decide (0<=m.got/\m.got<=m.fresh)
def msB (n:Nw) (m:Ms):Bool:=isC n m.serving && isC n m.path && (decide (m.target=-1) || isC n m.target) && (decide (m.source=-1) || isC n m.source)
def bsyB (m:Ms):Bool:=decide (m.phase=1) || decide (m.phase=2)
def fmB (m:Ms):Bool:=
 !((!decide (m.target=-1) && decide (m.phase=0)) || (decide (m.target=-1) && bsyB m) || (!decide (m.source=-1) && (bsyB m || !decide (m.target=-1))) || (!decide (m.path=m.serving) && (decide (m.source=-1) || !decide (m.path=m.source))))
def clB (n:Nw) (m:Ms):Bool:=(decide (m.target=-1) || nbr n m.target m.serving) && (decide (m.source=-1) || nbr n m.source m.serving)
def stB (n:Nw) (m:Ms):Bool:=!(ej m && decide (m.since+n.limit<=m.at_)) && !(!decide (m.source=-1) && decide (m.path=m.serving) && (dQ m m.source).isEmpty)
def xE (m:Ms) (i:Nat):Bool:=(m.buf.getD i []).isEmpty || decide ((i:Int)=m.serving) || decide ((i:Int)=m.source) || (ej m && decide ((i:Int)=m.target))
def xQ (m:Ms):Bool:=(List.range m.buf.length).all (xE m)
def xD (l:List Int):Nat->Int->Bool
 | 0,_=>true
 | k+1,a=>decide (a∈l) && xD l k (a+1)
def yP (m:Ms):Bool:=decide (m.fresh - m.got<=60) && xD m.buf.flatten (m.fresh - m.got).toNat m.got
def pkE (m:Ms):Int:=if 60 < m.buf.flatten.length then 8 else if pkL m.fresh [] m.buf≠0 then pkL m.fresh [] m.buf else if xQ m=false then 23 else if yP m=false then 14 else 0
def Ad (n:Nw) (m:Ms):Int:=
 if m.buf.length≠n.cells.length then 10
 else if ¬ (0<=m.phase/\m.phase<=3)then 15
 else if rgB m=false then 2
 else if msB n m=false then 6
 else if fmB m=false then 3
 else if clB n m=false then 13
 else if stB n m=false then 22
 else pkE m
theorem xA {c:Prop} [Decidable c] {a b:Int} (ha:a≠0) (h:(if c then a else b)=0):¬ c/\b=0:=by
 by_cases hc:c
 . rw[if_pos hc]at h;exact absurd h ha
 . rw[if_neg hc]at h;exact⟨hc,h⟩
theorem Bs {a b:Int} (h:(if a≠0 then a else b)=0):a=0/\b=0:=by
 by_cases hc:a=0
 . rw[if_neg (by simp[hc])]at h;exact⟨hc,h⟩
 . rw[if_pos hc]at h;exact absurd h hc
theorem x7 {f:Int} {seen:List Int}:∀ (l:List Int) (p:Int),xx f seen p l=0↔(∀ x∈l,(0<=x/\x < f)/\p < x/\x∉seen)/\l.Pairwise (· < ·)
 |[],p=>by simp[xx]
 | x :: l,p=>by
  rw[xx];constructor
  . intro h;obtain⟨h1,h⟩:=xA (by decide) h;obtain⟨h2,h⟩:=xA (by decide) h;obtain⟨h3,h⟩:=xA (by decide) h;obtain⟨g1,g2⟩:=(x7 l x).1 h;refine⟨fun y hy=>?_,yK.2 ⟨fun y hy=>(g1 y hy).2.1,g2⟩⟩;rcases zl.1 hy with rfl | hy
    . exact⟨by omega,by omega,h3⟩
    . have:=g1 y hy;exact⟨this.1,by omega,this.2.2⟩
  . rintro⟨h1,h2⟩
    obtain⟨q1,q2,q3⟩:=h1 x (by simp);rw[yK]at h2;rw[if_neg (fun q=>q q1),if_neg (by omega),if_neg q3];exact (x7 l x).2 ⟨fun y hy=>⟨(h1 y (by simp[hy])).1,h2.1 y hy,(h1 y (by simp[hy])).2.2⟩,h2.2⟩
theorem y3 {f:Int}:∀ (bs:List (List Int)) (seen:List Int),pkL f seen bs=0↔(∀ x∈bs.flatten,(0<=x/\x < f)/\x∉seen)/\(∀ b∈bs,b.Pairwise (· < ·))/\bs.flatten.Nodup
 |[],seen=>by simp[pkL]
 | b :: bs,seen=>by
  rw[pkL];constructor
  . intro h;obtain⟨h1,h⟩:=Bs h;obtain⟨g1,g2⟩:=(x7 b _).1 h1;obtain⟨k1,k2,k3⟩:=(y3 bs _).1 h;refine⟨fun x hx=>?_,fun c hc=>?_,?_⟩
    . rw[List.flatten_cons,zW]at hx;rcases hx with hx | hx
      . exact⟨(g1 x hx).1,(g1 x hx).2.2⟩
      . exact⟨(k1 x hx).1,fun q=>(k1 x hx).2 (List.mem_append_left _ q)⟩
    . rcases zl.1 hc with rfl | hc
      . exact g2
      . exact k2 c hc
    . rw[List.flatten_cons,List.nodup_append];exact⟨r8 g2,k3,fun x hx y hy e=>(k1 y hy).2 (List.mem_append_right _ (e ▸ hx))⟩
  . rintro⟨h1,h2,h3⟩
    rw[List.flatten_cons,List.nodup_append]at h3
    have e:xx f seen (-1) b=0:=(x7 b _).2 ⟨fun x hx=>by
     have:=h1 x (by rw[List.flatten_cons];exact List.mem_append_left _ hx)
     exact⟨this.1,by omega,this.2⟩,h2 b (by simp)⟩
    rw[if_neg (by simp[e])];refine (y3 bs _).2 ⟨fun x hx=>?_,fun c hc=>h2 c (by simp[hc]),h3.2.1⟩;have:=h1 x (by rw[List.flatten_cons];exact List.mem_append_right _ hx);refine⟨this.1,fun q=>?_⟩;rcases zW.1 q with q | q
    . exact this.2 q
    . exact h3.2.2 x q x hx rfl
theorem yY {l:List Int}:∀ (k:Nat) (a:Int),xD l k a=true↔∀ x,a<=x->x < a+k->x∈l
 | 0,a=>by simp[xD];intro x h1 h2;omega
 | k+1,a=>by
  rw[xD,zm,yY k,decide_eq_true_eq];constructor
  . rintro⟨h1,h2⟩ x q1 q2
    rcases Int.lt_or_eq_of_le q1 with q | q
    . exact h2 x (by omega) (by push_cast at q2;omega)
    . exact q ▸ h1
  . exact fun h=>⟨h a (Int.le_refl _) (by push_cast;omega),fun x q1 q2=>h x (by omega) (by push_cast;omega)⟩
theorem Ax {m:Ms}:xQ m=true↔∀ i:Nat,m.buf.getD i []≠[]->(i:Int)=m.serving\/(i:Int)=m.source\/(ej m=true/\(i:Int)=m.target):=by
 rw[xQ,zx];constructor
 . intro h i hi;have hl:i < m.buf.length:=by
    rcases yu i m.buf.length with q | q
    . exact q
    . rw[zb,List.getElem?_eq_none q]at hi;exact absurd rfl hi
   have:=h i (zE.2 hl);simp only[xE,zV,zm,decide_eq_true_eq,List.isEmpty_iff]at this;rcases this with ((q | q) | q) | q
   . exact absurd q hi
   . exact .inl q
   . exact .inr (.inl q)
   . exact .inr (.inr q)
 . intro h i _;simp only[xE,zV,zm,decide_eq_true_eq,List.isEmpty_iff];rcases Classical.em (m.buf.getD i []=[])with q | q
   . exact .inl (.inl (.inl q))
   . rcases h i q with q | q | q
     . exact .inl (.inl (.inr q))
     . exact .inl (.inr q)
     . exact .inr q
theorem CC {n:Nw} {m:Ms} (h:Ad n m=0):dP n m:=by
 unfold Ad at h;obtain⟨h1,h⟩:=xA (by decide) h;obtain⟨h2,h⟩:=xA (by decide) h;obtain⟨h3,h⟩:=xA (by decide) h;obtain⟨h4,h⟩:=xA (by decide) h;obtain⟨h5,h⟩:=xA (by decide) h;obtain⟨h6,h⟩:=xA (by decide) h;obtain⟨h7,h⟩:=xA (by decide) h;unfold pkE at h;obtain⟨h8,h⟩:=xA (by decide) h;obtain⟨h9,h⟩:=Bs h;obtain⟨h10,h⟩:=xA (by decide) h;obtain⟨h11,h⟩:=xA (by decide) h;clear h;obtain⟨p1,p2,p3⟩:=(y3 _ _).1 h9;have h1':m.buf.length=n.cells.length:=Classical.not_not.1 h1;have h2':0<=m.phase/\m.phase<=3:=Classical.not_not.1 h2;replace h3:rgB m=true:=by simpa using h3
 simp only[rgB,zm,decide_eq_true_eq]at h3;replace h4:msB n m=true:=by simpa using h4
 simp only[msB,zm,zV,decide_eq_true_eq]at h4;replace h5:fmB m=true:=by simpa using h5
 simp only[fmB,bsyB,yC,zm,zV,Bool.and_eq_false_iff,Bool.or_eq_false_iff,Bool.not_eq_false',decide_eq_true_eq,decide_eq_false_iff_not]at h5;replace h6:clB n m=true:=by simpa using h6
 simp only[clB,zm,zV,decide_eq_true_eq]at h6;replace h7:stB n m=true:=by simpa using h7
 simp only[stB,yC,zm,Bool.and_eq_false_iff,Bool.not_eq_false',decide_eq_true_eq,decide_eq_false_iff_not,List.isEmpty_eq_false_iff]at h7;have h10':=Ax.1 (by simpa using h10);have h11':yP m=true:=by simpa using h11
 simp only[yP,zm,decide_eq_true_eq,yY]at h11';obtain⟨⟨⟨a1,a2⟩,a3⟩,a4⟩:=h3;obtain⟨⟨⟨b1,b2⟩,b3⟩,b4⟩:=h4;obtain⟨⟨⟨c1,c2⟩,c3⟩,c4⟩:=h5;refine⟨⟨h1',h2',a1,a2,a3,a4,b1,b2,fun q=>?_,fun q=>?_,fun q=>?_,fun q=>?_,fun q=>?_,fun q=>?_,fun q=>?_,fun q=>?_,fun q=>?_,by omega,fun x hx=>(p1 x hx).1,p2,p3,h10',fun x q1 q2=>h11'.2 x q1 (by omega)⟩,fun q1 q2=>?_⟩
 . rcases b3 with r | r
   . exact absurd r q
   . exact r
 . rcases b4 with r | r
   . exact absurd r q
   . exact r
 . rcases c1 with r | r
   . exact absurd r q
   . exact r
 . rcases c2 with r | r
   . exact absurd q r
   . exact r
 . rcases c3 with r | r
   . exact absurd r q
   . exact⟨r.1.1,r.1.2,r.2⟩
 . rcases c4 with r | r
   . exact absurd r q
   . exact r
 . rcases h6.1 with r | r
   . exact absurd r q
   . exact r
 . rcases h6.2 with r | r
   . exact absurd r q
   . exact r
 . rcases h7.1 with r | r
   . rw[q]at r;cases r
   . omega
 . rcases h7.2 with (r | r) | r
   . exact absurd r q1
   . exact absurd q2 r
   . exact r
theorem AP : ∀ (k:Nat) (l:List Int) (a:Int),l.Nodup->(∀ x∈l,a<=x/\x < a+k)->(l.length=k↔xD l k a=true)
 | 0,l,a,hn,h=>by
  have:l=[]:=by
   cases l with
   | nil=>rfl
   | cons x l=>have:=h x (by simp);omega
  subst this;simp[xD]
 | k+1,l,a,hn,h=>by
  rw[yY];have hle:∀ (k:Nat) (l:List Int) (a:Int),l.Nodup->(∀ x∈l,a<=x/\x < a+k)->l.length<=k:=by
   intro k
   induction k with
   | zero=>
    intro l a _ h;cases l with
    | nil=>simp
    | cons x l=>have:=h x (by simp);omega
   | succ k ih=>
    intro l a hn h
    have h1:=ih (l.erase a) (a+1) (hn.erase a) (fun x hx=>by
     have hx2:=(hn.mem_erase_iff).1 hx;have:=h x hx2.2
     push_cast at this
     omega)
    have:l.length<=(l.erase a).length+1:=by
     rw[List.length_erase];split <;> omega
    omega
  have hE:∀ x∈l.erase a,a+1<=x/\x < a+1+k:=fun x hx=>by
   have hx2:=(hn.mem_erase_iff).1 hx;have:=h x hx2.2
   push_cast at this
   omega
  have ih:=AP k (l.erase a) (a+1) (hn.erase a) hE;rw[yY]at ih;have h1:=hle k (l.erase a) (a+1) (hn.erase a) hE;constructor
  . intro hl x q1 q2;have ha:a∈l:=by
     rcases Classical.em (a∈l)with q | q
     . exact q
     . rw[List.erase_of_not_mem q]at h1;omega
    rcases Int.lt_or_eq_of_le q1 with q | q
    . have h2:=List.length_erase_of_mem ha;exact List.mem_of_mem_erase (ih.1 (by omega) x (by omega) (by push_cast at q2;omega))
    . exact q ▸ ha
  . intro hx;have ha:a∈l:=hx a (Int.le_refl _) (by push_cast;omega);have h2:=List.length_erase_of_mem ha;have h3:=List.length_pos_of_mem ha;have:=ih.2 (fun x q1 q2=>(hn.mem_erase_iff).2 ⟨by omega,hx x (by omega) (by push_cast;omega)⟩);omega
def fmP (m:Ms):Bool:=if m.target≠-1/\m.phase=0 then false else if m.target=-1/\(m.phase=1\/m.phase=2)then false else if m.source≠-1/\((m.phase=1\/m.phase=2)\/m.target≠-1)then false else decide (m.path=m.serving\/m.path=m.source)
theorem Cw (n:Nw) (p:Ph):FC Tryz.prog 146 [.ptr 100000 0] (phX n p) (enc (fmP p.m)) (phX n p):=by
 refine dD [100001] is146 (by simp) (dR n p) (dE n p) (dE n p) (dI n p p) (fun cx _ hl _=>dC [] 1200 ?_);delta c146 oO oN oA oM oT oG oR oQ oS oK oF oL oI oX oP oH oB oD oE oJ o6 o9;simp (maxSteps:=9^7) -implicitDefEqProofs only[rv146,phX,phC,InR,not_true_eq_false,not_false_eq_true,WU,V,W3,↓reduceIte,seval,reduceCtorEq];unfold fmP;by_cases a:p.m.target=-1 <;> by_cases b0:p.m.phase=0 <;> by_cases b:p.m.phase=1 <;> by_cases b2:p.m.phase=2 <;> by_cases c:p.m.source=-1 <;> by_cases q:p.m.path=p.m.serving <;> by_cases r:p.m.path=p.m.source <;> simp[a,b,b2,b0,c,q,r] <;> omega
def xn (h:Int->Option Int) (c:Int):List Int->(Int->Option Int)
 |[]=>h
 | x :: l=>xn (upd h x c) c l
theorem Ao (c x:Int):∀ (l:List Int) (h:Int->Option Int),xn h c (l++[x])=upd (xn h c l) x c
 |[],h=>rfl
 | y :: l,h=>Ao c x l (upd h y c)
theorem x9 (c:Int):∀ (l:List Int) (h:Int->Option Int) (z:Int),xn h c l z=if z∈l then some c else h z
 |[],h,z=>by simp[xn]
 | x :: l,h,z=>by
  rw[xn,x9 c l];by_cases h1:z∈l
  . simp[h1]
  . by_cases h2:z=x
    . simp[h1,h2,upd]
    . simp[h1,h2,upd]
def xp (bs:List (List Int)):Nat->(Int->Option Int)
 | 0=>fun _=>none
 | i+1=>xn (xp bs i) (i:Int) (bs.getD i [])
theorem Aq {α:Type} (d:α) {l:List α} {i:Nat} (h:i < l.length):l.take (i+1)=l.take i++[l.getD i d]:=by
 rw[yI h,zb,ze h];rfl
theorem Aa {bs:List (List Int)} {i:Nat} (h:i < bs.length):(bs.take (i+1)).flatten=(bs.take i).flatten++bs.getD i []:=by
 rw[Aq [] h,List.flatten_append,List.flatten_cons,List.flatten_nil,z4]
theorem Ab {bs:List (List Int)}:∀ (i:Nat),i<=bs.length->∀ z,(xp bs i z).isSome=decide (z∈(bs.take i).flatten)
 | 0,_,z=>by simp[xp]
 | i+1,h,z=>by
  rw[xp,x9,Aa (by omega)];by_cases h1:z∈bs.getD i []
  . rw[if_pos h1];exact (decide_eq_true (List.mem_append_right _ h1)).symm
  . rw[if_neg h1,Ab i (by omega) z];rw[decide_eq_decide,zW];exact⟨.inl,fun q=>q.resolve_right h1⟩
theorem BO {bs:List (List Int)}:∀ (i:Nat) (z c:Int),xp bs i z=some c->∃ k:Nat,k < i/\c=(k:Int)/\z∈bs.getD k []
 | 0,z,c,h=>by cases h
 | i+1,z,c,h=>by
  rw[xp,x9]at h;by_cases h1:z∈bs.getD i []
  . rw[if_pos h1]at h;cases h;exact⟨i,by omega,rfl,h1⟩
  . rw[if_neg h1]at h;obtain⟨k,q1,q2,q3⟩:=BO i z c h;exact⟨k,by omega,q2,q3⟩
def xy (F:List Int) (g:Int) (left:Int->Bool):Nat:=F.countP fun x=>!left x && decide (g<=x)
theorem Cc {F:List Int} (hn:F.Nodup) {z:Int} (hz:z∈F) {left:Int->Bool} (hl:left z=true) (g:Int):xy F g (fun y=>left y && decide (y≠z))=xy F g left+if g<=z then 1 else 0:=by
 induction F with
 | nil=>cases hz
 | cons x F ih=>
  rw[zI]at hn;unfold xy;rw[List.countP_cons,List.countP_cons];rcases zl.1 hz with rfl | hz'
  . have e:F.countP (fun x=>!(left x && decide (x≠z)) && decide (g<=x))=F.countP (fun x=>!left x && decide (g<=x)):=by
     refine List.countP_congr fun x hx=>?_
     have:x≠z:=fun e=>hn.1 (e ▸ hx)
     simp[this]
    rw[e];simp[hl]
  . have hne:x≠z:=fun e=>hn.1 (e ▸ hz')
    have:=ih hn.2 hz';unfold xy at this;rw[this];simp only[hne,ne_eq,not_false_eq_true,decide_true,zZ];omega
theorem Cv (F:List Int) (g:Int) {left:Int->Bool} (h:∀ z,left z=false):xy F g left=(F.filter fun x=>decide (g<=x)).length:=by
 unfold xy;rw[<- List.countP_eq_length_filter];exact List.countP_congr fun x _=>by simp[h x]
theorem Cb (F:List Int) (g:Int) {left:Int->Bool} (h:∀ z∈F,left z=true):xy F g left=0:=by
 unfold xy;rw[yk];intro x hx;simp[h x hx]
theorem cntG_le (F:List Int) (g:Int) (left:Int->Bool):xy F g left<=F.length:=List.countP_le_length
theorem An {F:List Int} {g:Int}:∀ (k:Nat) (a:Int),g<=a->xD (F.filter fun x=>decide (g<=x)) k a=xD F k a
 | 0,a,_=>rfl
 | k+1,a,h=>by
  rw[xD,xD,An k (a+1) (by omega)]
  congr 1
  rw[decide_eq_decide,yf];simp[h]
theorem Ci {m:Ms} (hn:m.buf.flatten.Nodup) (hr:∀ x∈m.buf.flatten,0<=x/\x < m.fresh) (hg:0<=m.got/\m.got<=m.fresh) (hl:m.buf.flatten.length<=60) :
 (((m.buf.flatten.filter fun x=>decide (m.got<=x)).length:Int)=m.fresh - m.got)↔yP m=true:=by
 have hN:=hn.filter (fun x=>decide (m.got<=x))
 have h1:=AP (m.fresh - m.got).toNat (m.buf.flatten.filter fun x=>decide (m.got<=x)) m.got hN (fun x hx=>by
  simp only[yf,decide_eq_true_eq]at hx;have:=hr x hx.1
  omega)
 rw[An _ _ (Int.le_refl _)]at h1;have hle:(m.buf.flatten.filter fun x=>decide (m.got<=x)).length<=m.buf.flatten.length:=List.length_filter_le _ _;unfold yP;rw[zm,decide_eq_true_eq,<- h1];constructor
 . intro q;omega
 . rintro⟨_,q⟩;omega
theorem AN {f:Int} {seen:List Int} {p:Int} {l:List Int} {k:Nat} (h:k < l.length):xx f seen p (l.drop k)=if ¬ (0<=l.getD k 0/\l.getD k 0 < f)then 2 else if l.getD k 0<=p then 9 else if l.getD k 0∈seen then 26 else xx f seen (l.getD k 0) (l.drop (k+1)):=by
 rw[eg 0 h,xx]
theorem mapT : MapTy Tryz.prog 214 3 3 where
 ht:=by kernel_rfl
 hk:=by kernel_rfl
 he:=by kernel_rfl
 hz:=fun w=>by
  have h:(Tryz.prog.info? 3).map (fun i=>(i.zero,i.size,i.bytes))=some (some (.int .i64 0),1,8):=by kernel_rfl
  obtain⟨i,hi,hq⟩:=za.1 h;simp only[zf]at hq;simp[zeroValue,typeInfo,Sem.run,Sem.run_bind,hi,hq.1,Result.andThen]
theorem xO (xs:List Int) (i:Nat) (h:i < xs.length):List.getD (xs.map Dat.cells) i []=[C.s (.int .i64 (xs.getD i 0))]:=by
 rw[zb,zb,zh,ze h];rfl
theorem Bu {bs:List (List Int)} (hn:bs.flatten.Nodup) {i k:Nat} (hik:k≠i) {z:Int} (h1:z∈bs.getD i []):z∉bs.getD k []:=fun h2=>by
 have hlen:∀ j,z∈bs.getD j []->j < bs.length:=fun j h=>by
  rcases yu j bs.length with q | q
  . exact q
  . rw[zb,List.getElem?_eq_none q]at h;cases h
 have hs:=(fT bs i (hlen i h1)).nodup_iff.1 hn;rw[List.nodup_append]at hs;have hk:k < (bs.set i []).length:=by rw[List.length_set];exact hlen k h2
 refine hs.2.2 z h1 z ?_ rfl;refine (fT (bs.set i []) k hk).mem_iff.2 (List.mem_append_left _ ?_);rw[fA,if_neg (fun q=>hik q.1.symm)];exact h2
theorem Ah {k n:Nat} (h:¬ k=0) (hk:k < n):(if (k:Int) - 1 > 0 then (k:Int) - 1 else 0)=((k - 1:Nat):Int)/\(0:Int)<=((k - 1:Nat):Int)/\((k - 1:Nat):Int) < (n:Int)/\k - 1 < n:=by omega
theorem Bx (n:Nw) (p:Ph) (hf:0<=p.m.fresh/\p.m.fresh<=1000000) (hg:0<=p.m.got/\p.m.got<=p.m.fresh) (hl1:p.m.buf.length<=1000000) (hp:fj p.m.buf<=1000000000) (hI:∀ x∈p.m.buf.flatten,InR .i64 x):FC Tryz.prog 150 [.ptr 100000 0] (phX n p) (enc (pkE p.m)) (phX n p):=by
 generalize hE:pkE p.m=E;refine dD [100001] is150 (by simp) (dR n p) (dE n p) (dE n p) (dI n p p) (fun cx _ hl _=>dC [lU n p hl1 hp] 800 ?_);unfold pkE at hE;have hpk:=nr p.m.buf;by_cases h60:60 < p.m.buf.flatten.length
 . rw[if_pos h60]at hE;subst hE;have h60':(60:Int) < fj p.m.buf:=by omega
   delta c150 oO oN oA oM oT oQ oS oK oF oL oV oC oI oX oB o4 o6;simp (maxSteps:=9^7) -implicitDefEqProofs only[xm,phX,phC,lU,eq,h60',WU,V,W3,↓reduceIte,seval,reduceCtorEq]
 have h60':¬ (60:Int) < fj p.m.buf:=by omega
 rw[if_neg h60]at hE;delta c150 oO oN oA oM oT oQ oS oK oF oL oV oC oI oX oB o4 o6;simp (maxSteps:=9^7) -implicitDefEqProofs only[xm,phX,phC,lU,eq,h60',not_true_eq_false,WU,V,W3,↓reduceIte,seval,reduceCtorEq];refine pw rfl (OpM.mapNew (k:=3) (e:=3)) (fun ef he=>?_);obtain⟨mb,rfl⟩:=he;refine nz [] 800 ?_;simp (maxSteps:=9^7) -implicitDefEqProofs only[phX,phC,eu,InR,WU,V,W3,↓reduceIte,seval,reduceCtorEq];refine eN p.m.buf.length (fun i=>[(24,.s (.int .i64 (i:Int)))]) (fun i=>[(17,.res (xZ Tryz.prog 3 3 mb (p.m.buf.take i).flatten.length (xp p.m.buf i)))]) (fun i=>pkL p.m.fresh [] p.m.buf=pkL p.m.fresh (p.m.buf.take i).flatten (p.m.buf.drop i)) rfl ?_ (fun i hi hv=>dC [] 800 ?_)
 . simp (maxSteps:=9^7) -implicitDefEqProofs only[V,W3,↓reduceIte,seval,reduceCtorEq]
   all_goals rfl
 . by_cases h:i < p.m.buf.length
   . have hi2:(i:Int) < (p.m.buf.length:Int):=by omega
     have hi0:(0:Int)<=i:=by omega
     have hgb:=fI p.m.buf i;have hsm:=Ab (bs:=p.m.buf) i (by omega);have hfs:=Aa h;have hN:(p.m.buf.take i).flatten.length+(p.m.buf.getD i []).length<=60:=by
      have:=y6 p.m.buf i h;omega
     rw[eg [] h,pkL]at hv;have hhs:xp p.m.buf (i+1)=xn (xp p.m.buf i) (i:Int) (p.m.buf.getD i []):=rfl;rw[<- hfs]at hv
     have hIl:∀ x∈p.m.buf.getD i [],InR .i64 x:=fun x hx=>hI x (by
      have:=(fT p.m.buf i h).mem_iff (a:=x)
      exact this.2 (List.mem_append_left _ hx))
     generalize p.m.buf.getD i []=l at *;delta Bn oO oN oA oM oR oS oK oL oV oX oB o0 o4;simp (maxSteps:=9^7) -implicitDefEqProofs only[hi0,hi2,h,hgb,eu,zy,InR,WU,V,W3,↓reduceIte,seval,reduceCtorEq];generalize hS:(p.m.buf.take i).flatten=seen at *;refine eN l.length (fun k=>[(31,.s (.int .i64 (k:Int)))]) (fun k=>[(17,.res (xZ Tryz.prog 3 3 mb (seen.length+k) (xn (xp p.m.buf i) (i:Int) (l.take k))))]) (fun k=>xx p.m.fresh seen (-1) l=xx p.m.fresh seen (if k=0 then -1 else l.getD (k - 1) 0) (l.drop k)/\∀ x∈l.take k,x<=(if k=0 then -1 else l.getD (k - 1) 0)) ⟨rfl,fun x hx=>by simp at hx⟩ ?_ (fun k hk hw=>dC [eZ,dT,dS] 800 ?_)
     . simp (maxSteps:=9^7) -implicitDefEqProofs only[V,W3,↓reduceIte,seval,reduceCtorEq]
       all_goals rfl
     . obtain⟨hw1,hw2⟩:=hw;by_cases hkl:k < l.length
       . have hk2:(k:Int) < (l.length:Int):=by omega
         have hk0:(0:Int)<=k:=by omega
         have hge:l.getD k 0=l[k]:=by rw[zb,ze hkl];rfl
         have hIu:=hIl _ (yy hkl);have htk:=Aq 0 hkl;rw[AN hkl]at hw1;rw[<- hge]at hIu;obtain⟨u,hu⟩:∃ u,l.getD k 0=u:=⟨_,rfl⟩;rw[hu]at hw1 hIu htk;have hgl:List.getD (l.map Dat.cells) k []=[C.s (.int .i64 u)]:=by rw[xO l k hkl,hu]
         have hkn:(xn (xp p.m.buf i) (i:Int) (l.take k) u).isSome=decide (u∈seen\/u∈l.take k):=by
          rw[x9];by_cases q:u∈l.take k
          . simp[q]
          . rw[if_neg q,hsm];simp[q]
         delta Bm oO oN oA oM oG oR oS oK oF oL oC oI oX oH oB oD oJ o1 o6 o8;simp (maxSteps:=9^7) -implicitDefEqProofs only[xm,hgb,eu,h,hi0,hi2,hk0,hk2,hkl,hgl,zy,yc,InR,WU,V,W3,↓reduceIte,seval,reduceCtorEq];refine pw (outs:=?qo1) rfl ?qa1 ?qb1
         case qa1=>
          refine OpM.mapGet (b:=mb) (n:=seen.length+k) (kr:=17) (q:=u) (m:=xn (xp p.m.buf i) (i:Int) (l.take k)) mapT ?_ ?_ hIu ?_ <;> rfl
         intro ef he;subst he;refine nz [eZ,dT,dS] 800 ?_;by_cases hr:0<=u/\u < p.m.fresh
         rotate_left
         . rw[if_pos hr]at hw1;rw[hw1,if_pos (by decide)]at hv;rw[hv,if_pos (by decide)]at hE;subst hE;have hwi:=eq_false (show ¬ (0<=u/\u<=p.m.fresh - 1) by omega);by_cases hk00:k=0
           . have hkI:=eq_true (show (k:Int)=0 by omega);simp (maxSteps:=9^7) -implicitDefEqProofs only[xm,eZ,dT,dS,dM,phX,phC,hkn,hwi,hkI,hgb,eu,h,hi0,hi2,hk0,hk2,hkl,hgl,zy,yc,InR,not_true_eq_false,not_false_eq_true,WU,Ent.of1,Ent.of2,Ent.of3,V,W3,↓reduceIte,seval,reduceCtorEq];omega
           . have hkI:=eq_false (show ¬ (k:Int)=0 by omega);obtain⟨hmx,hmx0,hmx1,hmx2⟩:=Ah hk00 hkl;have hgl1:=xO l (k - 1) hmx2;simp (maxSteps:=9^7) -implicitDefEqProofs only[xm,eZ,dT,dS,dM,phX,phC,hkn,hwi,hkI,hgb,eu,h,hi0,hi2,hk0,hk2,hkl,hgl,zy,yc,hmx,hmx0,hmx1,hmx2,hgl1,InR,not_true_eq_false,not_false_eq_true,WU,Ent.of1,Ent.of2,Ent.of3,V,W3,↓reduceIte,seval,reduceCtorEq];exact⟨by omega,by omega⟩
         . rw[if_neg (fun q=>q hr)]at hw1;have hwi:=eq_true (show (0<=u/\u<=p.m.fresh - 1) by omega);by_cases ho:u<=(if k=0 then -1 else l.getD (k - 1) 0)
           . have hk00:¬ k=0:=fun q=>by
              rw[if_pos q]at ho;omega
             rw[if_pos ho]at hw1;rw[hw1,if_pos (by decide)]at hv;rw[hv,if_pos (by decide)]at hE;subst hE;rw[if_neg hk00]at ho;have hgt:=eq_false (show ¬ l.getD (k - 1) 0 < u by omega);have hkI:=eq_false (show ¬ (k:Int)=0 by omega);obtain⟨hmx,hmx0,hmx1,hmx2⟩:=Ah hk00 hkl;have hgl1:=xO l (k - 1) hmx2;simp (maxSteps:=9^7) -implicitDefEqProofs only[xm,eZ,dT,dS,dM,phX,phC,hkn,hwi,hkI,hgt,hgb,eu,h,hi0,hi2,hk0,hk2,hkl,hgl,zy,yc,hmx,hmx0,hmx1,hmx2,hgl1,InR,not_true_eq_false,not_false_eq_true,WU,Ent.of1,Ent.of2,Ent.of3,V,W3,↓reduceIte,seval,reduceCtorEq];exact⟨by omega,by omega⟩
           . rw[if_neg ho]at hw1;have hnt:u∉l.take k:=fun q=>ho (hw2 u q)
             have hkn2:(xn (xp p.m.buf i) (i:Int) (l.take k) u).isSome=decide (u∈seen):=by rw[hkn];simp[hnt]
             clear hkn;have hps:upd (xn (xp p.m.buf i) (i:Int) (l.take k)) u (i:Int)=xn (xp p.m.buf i) (i:Int) (l.take (k+1)):=by rw[htk,Ao]
             have hk1:¬ k+1=0:=by omega
             have hiI:InR .i64 (i:Int):=by simp only[InR];omega
             have hord:k=0\/(¬ k=0/\l.getD (k - 1) 0 < u):=by
              by_cases q:k=0
              . exact .inl q
              . rw[if_neg q]at ho;exact .inr ⟨q,by omega⟩
             by_cases hsn:u∈seen
             . rw[if_pos hsn]at hw1;rw[hw1,if_pos (by decide)]at hv;rw[hv,if_pos (by decide)]at hE;subst hE;have hkn:=hkn2.trans (decide_eq_true hsn);rcases hord with hk00 | ⟨hk00,hgt⟩
               . have hkI:=eq_true (show (k:Int)=0 by omega);simp (maxSteps:=9^7) -implicitDefEqProofs only[xm,eZ,dT,dS,dM,phX,phC,hkn,hwi,hkI,hgb,eu,h,hi0,hi2,hk0,hk2,hkl,hgl,zy,yc,InR,not_true_eq_false,not_false_eq_true,WU,Ent.of1,Ent.of2,Ent.of3,V,W3,↓reduceIte,seval,reduceCtorEq];omega
               . have hgt:=eq_true hgt;have hkI:=eq_false (show ¬ (k:Int)=0 by omega);obtain⟨hmx,hmx0,hmx1,hmx2⟩:=Ah hk00 hkl;have hgl1:=xO l (k - 1) hmx2;simp (maxSteps:=9^7) -implicitDefEqProofs only[xm,eZ,dT,dS,dM,phX,phC,hkn,hwi,hkI,hgt,hgb,eu,h,hi0,hi2,hk0,hk2,hkl,hgl,zy,yc,hmx,hmx0,hmx1,hmx2,hgl1,InR,not_true_eq_false,not_false_eq_true,WU,Ent.of1,Ent.of2,Ent.of3,V,W3,↓reduceIte,seval,reduceCtorEq];exact⟨by omega,by omega⟩
             . rw[if_neg hsn]at hw1;have hkn:=hkn2.trans (decide_eq_false hsn);have hnx:∀ x∈l.take (k+1),x<=u:=fun x hx=>by
                rw[htk,zW,zg]at hx;rcases hx with hx | rfl
                . have:=hw2 x hx;omega
                . exact Int.le_refl _
               rcases hord with hk00 | ⟨hk00,hgt⟩
               . have hkI:=eq_true (show (k:Int)=0 by omega);simp (maxSteps:=9^7) -implicitDefEqProofs only[xm,eZ,dT,dS,dM,phX,phC,hkn,hwi,hkI,hgb,eu,h,hi0,hi2,hk0,hk2,hkl,hgl,zy,yc,InR,not_true_eq_false,not_false_eq_true,WU,Ent.of1,Ent.of2,Ent.of3,V,W3,↓reduceIte,seval,reduceCtorEq];refine⟨by omega,?_⟩;refine pw (outs:=?qo2) rfl ?qa2 ?qb2
                 case qa2=>
                  refine OpM.mapPut (b:=mb) (n:=seen.length+k) (kr:=17) (q:=u) (c:=(i:Int)) (m:=xn (xp p.m.buf i) (i:Int) (l.take k)) mapT (by omega) ?_ ?_ ?_ hIu hiI ?_ <;> rfl
                 intro ef he;subst he;refine nz [] 800 ?_;simp (maxSteps:=9^7) -implicitDefEqProofs only[xm,xU,hps,hkl,hw1,hk1,hu,Nat.add_sub_cancel,InR,WU,V,W3,↓reduceIte,seval,reduceCtorEq];exact⟨by omega,hnx,by omega,rfl⟩
               . have hgt:=eq_true hgt;have hkI:=eq_false (show ¬ (k:Int)=0 by omega);obtain⟨hmx,hmx0,hmx1,hmx2⟩:=Ah hk00 hkl;have hgl1:=xO l (k - 1) hmx2;simp (maxSteps:=9^7) -implicitDefEqProofs only[xm,eZ,dT,dS,dM,phX,phC,hkn,hwi,hkI,hgt,hgb,eu,h,hi0,hi2,hk0,hk2,hkl,hgl,zy,yc,hmx,hmx0,hmx1,hmx2,hgl1,InR,not_true_eq_false,not_false_eq_true,WU,Ent.of1,Ent.of2,Ent.of3,V,W3,↓reduceIte,seval,reduceCtorEq];refine⟨by omega,by omega,?_⟩;refine pw (outs:=?qo3) rfl ?qa3 ?qb3
                 case qa3=>
                  refine OpM.mapPut (b:=mb) (n:=seen.length+k) (kr:=17) (q:=u) (c:=(i:Int)) (m:=xn (xp p.m.buf i) (i:Int) (l.take k)) mapT (by omega) ?_ ?_ ?_ hIu hiI ?_ <;> rfl
                 intro ef he;subst he;refine nz [] 800 ?_;simp (maxSteps:=9^7) -implicitDefEqProofs only[xm,xU,hps,hkl,hw1,hk1,hu,Nat.add_sub_cancel,InR,WU,V,W3,↓reduceIte,seval,reduceCtorEq];exact⟨by omega,hnx,by omega,rfl⟩
       . have hke:k=l.length:=by omega
         subst hke;have hk2:¬ ((l.length:Nat):Int) < (l.length:Int):=by omega
         rw[zv (zw _),xx]at hw1;rw[if_neg (by simp[hw1])]at hv;rw[hfs]at hv;delta Bm oO oN oA oM oG oR oS oK oF oL oC oI oX oH oB oD oJ o1 o6 o8;simp (maxSteps:=9^7) -implicitDefEqProofs only[xm,hk2,hhs,hfs,yo,zK,InR,not_true_eq_false,not_false_eq_true,WU,V,W3,↓reduceIte,seval,reduceCtorEq];exact⟨by omega,h,hv,by omega⟩
   . have hie:i=p.m.buf.length:=by omega
     subst hie;have hi2:¬ ((p.m.buf.length:Nat):Int) < (p.m.buf.length:Int):=by omega
     rw[zv (zw _),pkL]at hv;rw[if_neg (by simp[hv])]at hE;obtain⟨z1,z2,z3⟩:=(y3 _ _).1 hv;have hho:=Ab (bs:=p.m.buf) p.m.buf.length (zw _);rw[yo]at hho;have hha:=BO (bs:=p.m.buf) p.m.buf.length;generalize hH:xp p.m.buf p.m.buf.length=H at *;delta Bn oO oN oA oM oR oS oK oL oV oX oB o0 o4;simp (maxSteps:=9^7) -implicitDefEqProofs only[xm,hi2,yo,InR,not_true_eq_false,not_false_eq_true,WU,V,W3,↓reduceIte,seval,reduceCtorEq];refine pw (outs:=?qo4) rfl ?qa4 ?qb4
     case qa4=>
      refine OpM.mapRange (b:=mb) (n:=p.m.buf.flatten.length) (kr:=17) (m:=H) mapT ?_ ?_ <;> rfl
     intro ef he;obtain⟨mrw,cnt,rfl⟩:=he;refine nz [] 800 ?_;simp (maxSteps:=9^7) -implicitDefEqProofs only[xU,InR,WU,V,W3,↓reduceIte,seval,reduceCtorEq];generalize hF:p.m.buf.flatten=F at *;have hF60:F.length<=60:=by omega
     have hok:∀ c:Int,∀ z,H z=some c->∃ k:Nat,c=(k:Int)/\z∈p.m.buf.getD k []:=fun c z q=>by
      obtain⟨k,_,q2,q3⟩:=hha z c q;exact⟨k,q2,q3⟩
     refine sJ (α:=(Int->Bool)×Nat) (fun v=>[(11,.s (.int .i64 (xy F p.m.got v.1:Nat)))]) (fun v=>[(17,.res (AE Tryz.prog 3 3 mb mrw F.length H v.1 v.2))])
      (fun v=>(∀ z,v.1 z=true->(H z).isSome=true)/\∀ z c,v.1 z=false->H z=some c->c=p.m.serving\/c=p.m.source\/(ej p.m=true/\c=p.m.target)) (fun v=>v.2) (fun x=>(H x).isSome,cnt)
      ⟨fun z q=>q,fun z c q1 q2=>(by have q1':(H z).isSome=false:=q1;rw[q2]at q1';cases q1')⟩ ?_ (fun v hv=>dC [fa n p] 800 ?_)
     . have h0:xy F p.m.got (fun x=>(H x).isSome)=0:=Cb F _ fun z hz=>by rw[hho];exact decide_eq_true hz
       simp (maxSteps:=9^7) -implicitDefEqProofs only[h0,V,W3,↓reduceIte,seval,reduceCtorEq]
       all_goals rfl
     . obtain⟨lfw,ct⟩:=v;obtain⟨i1,i2⟩:=hv;simp only at i1 i2;delta B9 oO oN oA oM oG oR oS oK oF oL oV oI oX oP oB oD oE oJ o6 o8;simp (maxSteps:=9^7) -implicitDefEqProofs only[xm,InR,WU,V,W3,↓reduceIte,seval,reduceCtorEq];refine pw (outs:=?qo5) rfl ?qa5 ?qb5
       case qa5=>
        refine OpM.mapNextE (b:=mb) (r:=mrw) (n:=F.length) (kr:=17) (cnt:=ct) (m:=H) (left:=lfw) mapT ?_ ?_ <;> rfl
       intro ef he;rcases he with⟨rfl,hall⟩ | ⟨z,c,cnt',hz,hc,hlt,hzI,rfl⟩
       . refine nz [dT] 800 ?_;have hop:xQ p.m=true:=Ax.2 fun i hi=>by
          obtain⟨z,l,hzl⟩:∃ z l,p.m.buf.getD i []=z :: l:=by
           cases hb:p.m.buf.getD i []with
           | nil=>exact absurd hb hi
           | cons z l=>exact⟨z,l,rfl⟩
          have hiL:i < p.m.buf.length:=by
           rcases yu i p.m.buf.length with q | q
           . exact q
           . rw[zb,List.getElem?_eq_none q]at hi;exact absurd rfl hi
          have hzF:z∈F:=by
           rw[<- hF];refine (fT p.m.buf i hiL).mem_iff.2 (List.mem_append_left _ ?_);rw[hzl];simp
          have hsome:(H z).isSome=true:=by rw[hho];exact decide_eq_true hzF
          obtain⟨c,hc⟩:=Option.isSome_iff_exists.1 hsome;obtain⟨k,rfl,hk⟩:=hok c z hc;have hki:k=i:=by
           rcases yr k i with q | q | q
           . exact absurd hk (Bu (hF ▸ z3) (Nat.ne_of_lt q) (by rw[hzl];simp))
           . exact q
           . exact absurd hk (Bu (hF ▸ z3) (Nat.ne_of_gt q) (by rw[hzl];simp))
          rw[<- hki];exact i2 z k (hall z) hc
         rw[if_neg (by simp[hop])]at hE;have hgc:=Ci (m:=p.m) (by rw[hF];exact z3) (fun x hx=>by rw[hF]at hx;exact (z1 x hx).1) hg (by rw[hF];exact hF60);rw[hF]at hgc;have hcn:xy F p.m.got lfw=(F.filter fun x=>decide (p.m.got<=x)).length:=Cv F _ hall;rw[<- hcn]at hgc;generalize xy F p.m.got lfw=CN at *;by_cases hgap:yP p.m=true
         . have hEq:=hgc.2 hgap;rw[if_neg (by simp[hgap])]at hE;subst hE;simp (maxSteps:=9^7) -implicitDefEqProofs only[xm,dT,phX,phC,hEq,InR,not_true_eq_false,not_false_eq_true,WU,Ent.of2,V,W3,↓reduceIte,seval,reduceCtorEq];omega
         . have hEq:((CN:Int)=p.m.fresh - p.m.got)=False:=eq_false fun q=>hgap (hgc.1 q)
           rw[if_pos (by simpa using hgap)]at hE;subst hE;simp (maxSteps:=9^7) -implicitDefEqProofs only[xm,dT,phX,phC,hEq,InR,not_true_eq_false,not_false_eq_true,WU,Ent.of2,V,W3,↓reduceIte,seval,reduceCtorEq];omega
       . refine nz [] 800 ?_;have hzF:z∈F:=by
          have:=hho z;rw[hc]at this;exact of_decide_eq_true this.symm
         have hcs:xy F p.m.got (fun y=>lfw y && decide (¬ y=z))=xy F p.m.got lfw+if p.m.got<=z then 1 else 0:=Cc z3 hzF hz p.m.got
         have hcl:=cntG_le F p.m.got lfw;simp (maxSteps:=9^7) -implicitDefEqProofs only[xm,xU,InR,not_true_eq_false,not_false_eq_true,WU,V,W3,↓reduceIte,seval,reduceCtorEq];refine pw (outs:=?qo6) rfl ?qa6 ?qb6
         case qa6=>
          refine OpM.mapEntry (P:=Tryz.prog) (k:=3) (e:=3) (b:=mb) (r:=mrw) (n:=F.length) (kr:=17) (cnt:=cnt') (m:=H) (left:=fun y=>lfw y && decide (¬ y=z)) (z:=z) (c:=c) ?_ ?_ <;> rfl
         intro ef he;subst he;refine nz [fa n p] 800 ?_;have hbad:¬ (c=p.m.serving\/c=p.m.source\/(ej p.m=true/\c=p.m.target))->E=23:=fun q=>by
          rw[<- hE,if_pos];cases hb:xQ p.m with
          | false=>rfl
          | true=>
           obtain⟨kk,rfl,hk⟩:=hok c z hc;exact absurd (Ax.1 hb kk (fun e=>by rw[e]at hk;cases hk)) q
         have hnew:(c=p.m.serving\/c=p.m.source\/(ej p.m=true/\c=p.m.target))->∀ z' c',(lfw z' && decide (¬ z'=z))=false->H z'=some c'->c'=p.m.serving\/c'=p.m.source\/(ej p.m=true/\c'=p.m.target):=fun q z' c' h1 h2=>by
          by_cases e:z'=z
          . rw[e,hc]at h2;cases h2;exact q
          . refine i2 z' c' ?_ h2;simpa[e]using h1
         have hleft:∀ z',(lfw z' && decide (¬ z'=z))=true->(H z').isSome=true:=fun z' h1=>by
          rw[zm]at h1;exact i1 z' h1.1
         have hkey:((c=p.m.serving)=True/\True/\True/\True/\(c=p.m.serving\/c=p.m.source\/(ej p.m=true/\c=p.m.target)))\/((c=p.m.serving)=False/\(c=p.m.source)=True/\True/\True/\(c=p.m.serving\/c=p.m.source\/(ej p.m=true/\c=p.m.target)))\/((c=p.m.serving)=False/\(c=p.m.source)=False/\(c=p.m.target)=False/\True/\E=23)\/((c=p.m.serving)=False/\(c=p.m.source)=False/\(c=p.m.target)=True/\ej p.m=false/\E=23)\/((c=p.m.serving)=False/\(c=p.m.source)=False/\(c=p.m.target)=True/\ej p.m=true/\(c=p.m.serving\/c=p.m.source\/(ej p.m=true/\c=p.m.target))):=by
          by_cases q1:c=p.m.serving
          . exact .inl ⟨eq_true q1,trivial,trivial,trivial,.inl q1⟩
          . by_cases q2:c=p.m.source
            . exact .inr (.inl ⟨eq_false q1,eq_true q2,trivial,trivial,.inr (.inl q2)⟩)
            . by_cases q3:c=p.m.target
              . cases q4:ej p.m
                . exact .inr (.inr (.inr (.inl ⟨eq_false q1,eq_false q2,eq_true q3,rfl,hbad (fun q=>q.elim q1 fun q=>q.elim q2 fun q=>(by have q5:=q.1;rw[q4]at q5;cases q5))⟩)))
                . exact .inr (.inr (.inr (.inr ⟨eq_false q1,eq_false q2,eq_true q3,rfl,.inr (.inr ⟨rfl,q3⟩)⟩)))
              . exact .inr (.inr (.inl ⟨eq_false q1,eq_false q2,eq_false q3,trivial,hbad (fun q=>q.elim q1 fun q=>q.elim q2 fun q=>q3 q.2)⟩))
         clear hbad i1 i2;rcases hkey with⟨q1,q2,q3,q4,q5⟩ | ⟨q1,q2,q3,q4,q5⟩ | ⟨q1,q2,q3,q4,q5⟩ | ⟨q1,q2,q3,q4,q5⟩ | ⟨q1,q2,q3,q4,q5⟩
         all_goals
          by_cases hgz:p.m.got<=z
          all_goals
           have hgz':=hgz;simp only[hgz,if_true,if_false]at hcs;simp (maxSteps:=9^7) -implicitDefEqProofs only[xm,fa,eq,phX,phC,xU,q1,q2,q3,q4,hgz,InR,not_true_eq_false,not_false_eq_true,WU,V,W3,↓reduceIte,seval,reduceCtorEq];have hcz:((xy F p.m.got (fun y=>lfw y && decide (¬ y=z)):Nat):Int)=(xy F p.m.got lfw:Nat)+if p.m.got<=z then 1 else 0:=by
            rw[hcs];simp only[hgz,if_true,if_false];omega
           simp only[hgz,if_true,if_false]at hcz
           first
           | exact q5.symm
           | exact⟨by omega,(fun y=>lfw y && decide (¬ y=z),cnt'),⟨hleft,hnew q5⟩,hlt,hcz.symm,rfl⟩
           | exact⟨(fun y=>lfw y && decide (¬ y=z),cnt'),⟨hleft,hnew q5⟩,hlt,(by rw[hcz];omega),rfl⟩
           | exact⟨by omega,(fun y=>lfw y && decide (¬ y=z),cnt'),⟨hleft,fun z' c' h1 h2=>(hnew q5 z' c' h1 h2).imp id (Or.imp id And.right)⟩,hlt,hcz.symm,rfl⟩
           | exact⟨(fun y=>lfw y && decide (¬ y=z),cnt'),⟨hleft,fun z' c' h1 h2=>(hnew q5 z' c' h1 h2).imp id (Or.imp id And.right)⟩,hlt,(by rw[hcz];omega),rfl⟩
theorem Clone_o (l:List Int) (h:l.length<=1000000):FC Tryz.prog 143 [enc l] [] (.own 5) [(5,.row 1 3 (l.map Dat.cells))]:=by
 refine dD [5] E3.is143 (by simp) (by simp[bk]) (by simp[an,ag]) (by simp[an,ag,av]) (by simp[aB,lk]) (fun cx _ hl _=>dC [] 800 ?_);cases l with
 | nil=>
  delta E3.c143 oO oA oM oS oK oI oX o1;simp (maxSteps:=9^7) -implicitDefEqProofs only[E3.rv143,zR,InR,WU,V,W3,↓reduceIte,seval,reduceCtorEq];refine pw rfl (OpM.isnilE (n:=1) rfl) (fun ef he=>?_);obtain⟨b,rfl⟩:=he;refine nz [] 800 ?_;cases b
  . simp (maxSteps:=9^7) -implicitDefEqProofs only[E3.rv143,zR,InR,WU,V,W3,↓reduceIte,seval,reduceCtorEq];refine iw (dC [] 500 ?_);delta E3.c143k2;simp (maxSteps:=9^7) -implicitDefEqProofs only[E3.rv143,WU,V,W3,↓reduceIte,seval,reduceCtorEq]
  . simp (maxSteps:=9^7) -implicitDefEqProofs only[E3.rv143,zR,InR,WU,V,W3,↓reduceIte,seval,reduceCtorEq];refine m9 (i:=2) (sz:=1) (ty:=3) (by decide) rfl ?_;refine S_ren [(2,5)] (by decide) (by simp[an,ag,dn,af,ae,rn,av]) (by simp[jn,dn,af,ae]) ?_;refine iw (dC [] 500 ?_);delta E3.c143k1;simp (maxSteps:=9^7) -implicitDefEqProofs only[E3.rv143,dn,renS,rn,WU,V,W3,↓reduceIte,seval,reduceCtorEq]
 | cons a tlw=>
  simp only[zQ]at h;delta E3.c143 oO oA oM oS oK oI oX o1;simp (maxSteps:=9^7) -implicitDefEqProofs only[E3.rv143,zt,zQ,InR,WU,V,W3,↓reduceIte,seval,reduceCtorEq];refine⟨?_,iw (dC [] 500 ?_)⟩
  . omega
  delta E3.c143k2;simp (maxSteps:=9^7) -implicitDefEqProofs only[E3.rv143,zt,WU,V,W3,↓reduceIte,seval,reduceCtorEq]
def BM (l:List Int) (h:l.length<=1000000):Ent Tryz.prog:=xv 143 [enc l] (.own 5) 5 (.row 1 3 (l.map Dat.cells)) (by simp[dF]) (by simp[gm]) (Clone_o l h)
def phO (n:Nw) (p:Ph):Chs:=[(100000,.box [.ptr 100001 0]),(100001,.box (phC n p 100002)),(100002,.deep 1 3 24 none (fP p.m.buf))]
theorem AD (n:Nw) (p:Ph):an (ag (phO n p)):=by simp[phO,an,ag,av]
theorem BS (n:Nw) (p:Ph):bk (phO n p):=by simp[phO,bk]
theorem AU (n:Nw) (p q:Ph):aB (phO n p) (phO n q):=by simp[phO,aB,lk]
theorem open1_c (n:Nw) (p:Ph) (c:Int) (h:NwS n):FC Tryz.prog 144 [enc c,.ptr 100000 0] (phO n p) (enc (decide (c=-1) || isC n c)) (phO n p):=by
 refine dD [100002] is144 (by simp) (BS n p) (AD n p) (AD n p) (AU n p p) (fun cx _ hl _=>dC [Bq n p c h] 800 ?_);by_cases hc:c=-1
 . delta c144 oO oN oM oG oX oH oB oD oJ o9;simp (maxSteps:=9^7) -implicitDefEqProofs only[rv144,phO,phX,phC,Bq,eq,hc,yz,WU,V,W3,↓reduceIte,seval,reduceCtorEq]
 . delta c144 oO oN oM oG oX oH oB oD oJ o9;simp (maxSteps:=9^7) -implicitDefEqProofs only[rv144,phO,phX,phC,Bq,eq,hc,zF,WU,V,W3,↓reduceIte,seval,reduceCtorEq]
theorem open2_c (n:Nw) (p:Ph) (c:Int):FC Tryz.prog 147 [enc c,.ptr 100000 0] (phO n p) (enc (decide (c=-1) || nbr n c p.m.serving)) (phO n p):=by
 refine dD [100002] is147 (by simp) (BS n p) (AD n p) (AD n p) (AU n p p) (fun cx _ hl _=>dC [nZ n p c] 800 ?_);by_cases hc:c=-1
 . delta c147 oO oN oM oG oX oH oB oD oJ o9;simp (maxSteps:=9^7) -implicitDefEqProofs only[rv147,phO,phX,phC,nZ,eq,hc,yz,WU,V,W3,↓reduceIte,seval,reduceCtorEq]
 . delta c147 oO oN oM oG oX oH oB oD oJ o9;simp (maxSteps:=9^7) -implicitDefEqProofs only[rv147,phO,phX,phC,nZ,eq,hc,zF,WU,V,W3,↓reduceIte,seval,reduceCtorEq]
def y8 (n:Nw) (p:Ph):Ent Tryz.prog:=eq 146 n p p [.ptr 100000 0] (enc (fmP p.m)) trivial (Cw n p)
def xW (n:Nw) (p:Ph) (hf:0<=p.m.fresh/\p.m.fresh<=1000000) (hg:0<=p.m.got/\p.m.got<=p.m.fresh) (hl1:p.m.buf.length<=1000000) (hp:fj p.m.buf<=1000000000) (hI:∀ x∈p.m.buf.flatten,InR .i64 x):Ent Tryz.prog:=eq 150 n p p [.ptr 100000 0] (enc (pkE p.m)) trivial (Bx n p hf hg hl1 hp hI)
def xG (f:FuncId) (n:Nw) (p:Ph) (g:Int->C) (hr:∀ c,dF [100000,100001] (g c)) (h:∀ c:Int,FC Tryz.prog f [.ptr 100000 0,enc c] (phX n p) (g c) (phX n p)):Ent Tryz.prog:=.mk3 f (fun args chs=>match args with
 |[.ptr 100000 0,.s (.int .i64 c)]=>some (chs=phX n p,g c,phX n p,[])
 |_=>none) (by
 intro args chs pp r' chs' nk hs hp;split at hs
 . rename_i c;simp only[zn,zf]at hs;obtain⟨rfl,rfl,rfl,rfl⟩:=hs;subst hp;refine⟨h c,⟨fun k c hm=>.inr ⟨c,hm⟩,fun k cs hm=>⟨cs,hm⟩,hr c,fun k c hm=>?_⟩⟩;simp only[phX,zl,zA,or_false,zf]at hm;rcases hm with⟨rfl,rfl⟩ | ⟨rfl,rfl⟩
   . simp[gm,phC,phX,dF,dF.keysIns]
   . trivial
 . cases hs)
def xC (f:FuncId) (n:Nw) (p:Ph) (g:Int->C) (hr:∀ c,dF [100000,100001,100002] (g c)) (h:∀ c:Int,FC Tryz.prog f [enc c,.ptr 100000 0] (phO n p) (g c) (phO n p)):Ent Tryz.prog:=.mk3 f (fun args chs=>match args with
 |[.s (.int .i64 c),.ptr 100000 0]=>some (chs=phO n p,g c,phO n p,[])
 |_=>none) (by
 intro args chs pp r' chs' nk hs hp;split at hs
 . rename_i c;simp only[zn,zf]at hs;obtain⟨rfl,rfl,rfl,rfl⟩:=hs;subst hp;refine⟨h c,⟨fun k c hm=>.inr ⟨c,hm⟩,fun k cs hm=>⟨cs,hm⟩,hr c,fun k c hm=>?_⟩⟩;simp only[phO,zl,zA,or_false,zf]at hm;rcases hm with⟨rfl,rfl⟩ | ⟨rfl,rfl⟩ | ⟨rfl,rfl⟩
   . simp[gm,phO,dF,dF.keysIns]
   . simp[gm,phC,phO,dF,dF.keysIns]
   . trivial
 . cases hs)
def yW (n:Nw) (p:Ph) (h:NwS n):Ent Tryz.prog:=xG 145 n p (fun c=>enc (isC n c)) (fun _=>trivial) (fun c=>AQ n p c h)
def yV (n:Nw) (p:Ph) (h:NwS n):Ent Tryz.prog:=xC 144 n p (fun c=>enc (decide (c=-1) || isC n c)) (fun _=>trivial) (fun c=>open1_c n p c h)
def xI (n:Nw) (p:Ph):Ent Tryz.prog:=xC 147 n p (fun c=>enc (decide (c=-1) || nbr n c p.m.serving)) (fun _=>trivial) (fun c=>open2_c n p c)
structure MsB (m:Ms):Prop where
 l:m.buf.length<=1000000
 r:∀ x∈m.buf,x.length<=1000
 i:∀ x∈m.buf.flatten,InR .i64 x
def opE (n:Nw) (m:Ms):Int:=if (eW n).2≠0 then (eW n).2 else Ad n m
def opP (m:Ms):Ph:=⟨m,[],[⟨0,0,0⟩],-1,0⟩
def msD (m:Ms):List C:=[.s (.int .i64 m.at_),.s (.int .i64 m.phase),.s (.int .i64 m.since),.s (.int .i64 m.serving),.s (.int .i64 m.target),.s (.int .i64 m.source),.s (.int .i64 m.path),.s (.int .i64 m.fresh),.s (.int .i64 m.got),.sl 1 (m.buf.map Dat.cells)]
def chO (n:Nw) (m:Ms):Chs:=[(1030,.deep 1 3 24 none (fP m.buf)),(7,.box [.ptr 30 0]),(30,.box (phC n (opP m) 1030)),(3,.box (msD m)),(2,.box [.sl 1 (n.cells.map Dat.cells),.sl 2 (n.nb.map Dat.cells),.s (.int .i64 n.limit)])]
theorem fmP_eq {n:Nw} {m:Ms} (h:isC n m.path=true):fmP m=fmB m:=by
 simp only[isC,decide_eq_true_eq]at h;unfold fmP fmB bsyB;by_cases a:m.target=-1 <;> by_cases b0:m.phase=0 <;> by_cases b:m.phase=1 <;> by_cases b2:m.phase=2 <;> by_cases c:m.source=-1 <;> by_cases q:m.path=m.serving <;> by_cases r:m.path=m.source <;> simp[a,b,b2,b0,c,q,r] <;> omega
theorem bqT (b:Bool):(b == true)=b:=by cases b <;> rfl
theorem bqF (b:Bool):(b == false)=!b:=by cases b <;> rfl
theorem open_1 (n:Nw) (m:Ms) (hn:NwS n) (hm:MsB m) (cx:Cx) (E:Int) (r:C) (ch:Chs)
 (hE:(if ¬(0<=m.phase/\m.phase<=3)then 15 else if rgB m=false then 2 else if msB n m=false then 6 else if fmB m=false then 3 else if clB n m=false then 13 else if stB n m=false then 22 else pkE m)=E)
 (her:E≠0->r=.tup [.s (.pointer none),enc E]/\ch=[])
 (hgo:(0<=m.phase/\m.phase<=3)->rgB m=true->msB n m=true->fmB m=true->SG Tryz.prog cx (cB [RV.tmp 4,RV.tmp 5] [1030] r ch) [It.c E2.c113k2.cut] ⟨[(3,.ptr 3 0),(7,.ptr 7 0),(13,.fn (.func 147) [] [.ptr 7 0])],chO n m⟩) :
 SG Tryz.prog cx (cB [RV.tmp 4,RV.tmp 5] [1030] r ch) [It.c E2.c113k3.cut] ⟨[(3,.ptr 3 0),(7,.ptr 7 0),(10,.fn (.func 144) [] [.ptr 7 0]),(11,.s (.bool (rgB m)))],chO n m⟩:=by
 have hml:=hm.l;have hEn:dM [if (0<=m.phase/\m.phase<=3)then 0 else 15,if rgB m=true then 0 else 2,if msB n m=true then 0 else 6,if fmP m=true then 0 else 3]=0/\((0<=m.phase/\m.phase<=3)/\rgB m=true/\msB n m=true/\fmB m=true)\/(dM [if (0<=m.phase/\m.phase<=3)then 0 else 15,if rgB m=true then 0 else 2,if msB n m=true then 0 else 6,if fmP m=true then 0 else 3]=E/\E≠0):=by
  by_cases a1:(0<=m.phase/\m.phase<=3)
  . cases a2:rgB m
    . simp only[a1,a2]at hE;right;subst hE;simp[dM,a1]
    . cases a3:msB n m
      . simp only[a1,a2,a3]at hE;right;subst hE;simp[dM,a1]
      . have a4:fmP m=fmB m:=fmP_eq (n:=n) (by simp only[msB,zm]at a3;exact a3.1.1.2);rw[a4];cases a5:fmB m
        . simp only[a1,a2,a3,a5]at hE;right;subst hE;simp[dM,a1]
        . left;exact⟨by simp[dM,a1],a1,rfl,rfl,rfl⟩
  . simp only[a1]at hE;right;subst hE;simp[dM,a1]
 refine iw (dC [] 500 ?_);delta E2.c113k3 oO oN oA oM oT oG oS oK oF oL oC oI oX oP oB oD oE oJ o1;simp (maxSteps:=9^7) -implicitDefEqProofs only[WU,V,W3,↓reduceIte,seval,reduceCtorEq];refine BJ [eZ,dT,dS,yW n (opP m) hn,yV n (opP m) hn,y8 n (opP m)] 800 ?_;have hc:(isC n m.serving=false/\msB n m=false)\/(isC n m.serving=true/\isC n m.path=false/\msB n m=false)\/(isC n m.serving=true/\isC n m.path=true/\(decide (m.target=-1) || isC n m.target)=false/\msB n m=false)\/(isC n m.serving=true/\isC n m.path=true/\(decide (m.target=-1) || isC n m.target)=true/\msB n m=(decide (m.source=-1) || isC n m.source)):=by
  unfold msB;cases isC n m.serving <;> cases isC n m.path <;> cases (decide (m.target=-1) || isC n m.target) <;> simp
 rcases hc with⟨g1,g4⟩ | ⟨g1,g2,g4⟩ | ⟨g1,g2,g3,g4⟩ | ⟨g1,g2,g3,g4⟩
 . simp (maxSteps:=9^7) -implicitDefEqProofs only[drR,xY,xH,stR,xR,xS,xw,br,gV,fm,chO,phC,opP,msD,phX,phO,eZ,dT,dS,yW,yV,y8,eq,xG,xC,g1,aF,an,ag,av,aU,bqT,bqF,Bool.not_true,Bool.not_false,InR,WU,Ent.of1,Ent.of2,Ent.of3,V,W3,↓reduceIte,seval,reduceCtorEq];refine⟨rfl,dC [] 600 ?_⟩;simp (maxSteps:=9^7) -implicitDefEqProofs only[E2.rv113,WU,V,W3,↓reduceIte,seval,reduceCtorEq];rw[g4]at hEn;simp only[zr,if_false,false_and,and_false,false_or]at hEn;obtain⟨hF,h0⟩:=hEn;obtain⟨rfl,rfl⟩:=her h0;rw[hF,if_pos h0];simp (maxSteps:=9^7) -implicitDefEqProofs only[V,W3,↓reduceIte,seval,reduceCtorEq]
 . simp (maxSteps:=9^7) -implicitDefEqProofs only[drR,xY,xH,stR,xR,xS,xw,br,gV,fm,chO,phC,opP,msD,phX,phO,eZ,dT,dS,yW,yV,y8,eq,xG,xC,g1,g2,aF,an,ag,av,aU,bqT,bqF,Bool.not_true,Bool.not_false,InR,WU,Ent.of1,Ent.of2,Ent.of3,V,W3,↓reduceIte,seval,reduceCtorEq];refine⟨rfl,dC [] 600 ?_⟩;simp (maxSteps:=9^7) -implicitDefEqProofs only[E2.rv113,WU,V,W3,↓reduceIte,seval,reduceCtorEq];rw[g4]at hEn;simp only[zr,if_false,false_and,and_false,false_or]at hEn;obtain⟨hF,h0⟩:=hEn;obtain⟨rfl,rfl⟩:=her h0;rw[hF,if_pos h0];simp (maxSteps:=9^7) -implicitDefEqProofs only[V,W3,↓reduceIte,seval,reduceCtorEq]
 . simp (maxSteps:=9^7) -implicitDefEqProofs only[drR,xY,xH,stR,xR,xS,xw,br,gV,fm,chO,phC,opP,msD,phX,phO,eZ,dT,dS,yW,yV,y8,eq,xG,xC,g1,g2,g3,aF,an,ag,av,aU,bqT,bqF,Bool.not_true,Bool.not_false,InR,WU,Ent.of1,Ent.of2,Ent.of3,V,W3,↓reduceIte,seval,reduceCtorEq];refine⟨rfl,dC [] 600 ?_⟩;simp (maxSteps:=9^7) -implicitDefEqProofs only[E2.rv113,WU,V,W3,↓reduceIte,seval,reduceCtorEq];rw[g4]at hEn;simp only[zr,if_false,false_and,and_false,false_or]at hEn;obtain⟨hF,h0⟩:=hEn;obtain⟨rfl,rfl⟩:=her h0;rw[hF,if_pos h0];simp (maxSteps:=9^7) -implicitDefEqProofs only[V,W3,↓reduceIte,seval,reduceCtorEq]
 . simp (maxSteps:=9^7) -implicitDefEqProofs only[drR,xY,xH,stR,xR,xS,xw,br,gV,fm,chO,phC,opP,msD,phX,phO,eZ,dT,dS,yW,yV,y8,eq,xG,xC,g1,g2,g3,aF,an,ag,av,aU,bqT,bqF,Bool.not_true,Bool.not_false,InR,WU,Ent.of1,Ent.of2,Ent.of3,V,W3,↓reduceIte,seval,reduceCtorEq];refine⟨rfl,dC [] 600 ?_⟩;simp (maxSteps:=9^7) -implicitDefEqProofs only[E2.rv113,WU,V,W3,↓reduceIte,seval,reduceCtorEq];rw[<- g4];rcases hEn with⟨hF,q1,q2,q3,q4⟩ | ⟨hF,h0⟩
   . rw[hF,if_neg (fun q=>q rfl)];exact hgo q1 q2 q3 q4
   . obtain⟨rfl,rfl⟩:=her h0;rw[hF,if_pos h0];simp (maxSteps:=9^7) -implicitDefEqProofs only[V,W3,↓reduceIte,seval,reduceCtorEq]
theorem AL : ∀ (bs:List (List Int)) (k:Nat),(∀ x∈bs,x.length<=k)->bs.flatten.length<=bs.length*k
 |[],k,h=>by simp
 | b :: bs,k,h=>by
  have h1:=AL bs k (fun x hx=>h x (by simp[hx]));have h2:=h b (by simp);rw[List.flatten_cons,zK,zQ,zP];omega
theorem stB_eq (n:Nw) (m:Ms):stB n m=(!(ej m && decide (m.since+n.limit<=m.at_)) && !(fU m)):=by
 unfold stB fU;cases h:decide (m.source=-1) <;> simp_all
theorem open_2 (n:Nw) (m:Ms) (hn:NwS n) (hm:MsB m) (net:NetOk n) (hlen:m.buf.length=n.cells.length) (cx:Cx) (E:Int) (r:C) (ch:Chs) (q2:rgB m=true) (q3:msB n m=true)
 (hE:(if clB n m=false then 13 else if stB n m=false then 22 else pkE m)=E)
 (hok:E=0->r=.tup [.ptr 30 0,enc (0:Int)]/\ch=phY n (opP m) 30 1030)
 (her:E≠0->r=.tup [.s (.pointer none),enc E]/\ch=[]) :
 SG Tryz.prog cx (cB [RV.tmp 4,RV.tmp 5] [1030] r ch) [It.c E2.c113k2.cut] ⟨[(3,.ptr 3 0),(7,.ptr 7 0),(13,.fn (.func 147) [] [.ptr 7 0])],chO n m⟩:=by
 have hml:=hm.l;have hEn:dM [if clB n m=true then 0 else 13,if stB n m=true then 0 else 22,pkE m]=E:=by
  cases a1:clB n m
  . simp only[a1]at hE;subst hE;simp[dM]
  . cases a2:stB n m
    . simp only[a1,a2]at hE;subst hE;simp[dM]
    . simp only[a1,a2]at hE;subst hE;simp only[dM,if_true];simp;exact fun h=>h.symm
 have q2':=q2;simp only[rgB,zm,decide_eq_true_eq]at q2';obtain⟨⟨⟨r1,r2⟩,r3⟩,r4⟩:=q2';have hlim:=net.lim;have hI:InR .i64 ((opP m).m.since+n.limit):=by simp only[InR,opP];omega
 simp only[msB,zm,zV,decide_eq_true_eq]at q3;have hso:(opP m).m.source≠-1->0<=(opP m).m.source/\(opP m).m.source.toNat < (opP m).m.buf.length:=fun h=>by
  rcases q3.2 with h2 | h2
  . exact absurd h2 h
  . have:=fS h2;simp only[opP];rw[hlen];omega
 have hpk:fj (opP m).m.buf<=1000000000:=by
  rw[nr];have h1:=AL m.buf 1000 hm.r;have h2:=net.len;simp only[opP];have:m.buf.length*1000<=6*1000:=zB _ (by omega);omega
 refine iw (dC [] 500 ?_);delta E2.c113k2 oO oN oA oM oT oG oS oK oF oL oV oC oI oX oP oB oD oE oJ o1;simp (maxSteps:=9^7) -implicitDefEqProofs only[WU,V,W3,↓reduceIte,seval,reduceCtorEq];refine BJ [dT,dS,xI n (opP m),fa n (opP m),nW n (opP m) hI,uE n (opP m) hso,xW n (opP m) r3 r4 hml hpk hm.i] 800 ?_;have hc:((decide (m.target=-1) || nbr n m.target m.serving)=false/\clB n m=false)\/((decide (m.target=-1) || nbr n m.target m.serving)=true/\clB n m=(decide (m.source=-1) || nbr n m.source m.serving)):=by
  unfold clB;cases (decide (m.target=-1) || nbr n m.target m.serving) <;> simp
 have hd:(ej m=false/\stB n m=!(fU m))\/(ej m=true/\(m.since+n.limit<=m.at_)=True/\stB n m=false)\/(ej m=true/\(m.since+n.limit<=m.at_)=False/\stB n m=!(fU m)):=by
  rw[stB_eq];cases ej m <;> rcases Classical.propComplete (m.since+n.limit<=m.at_)with h | h <;> simp[h]
 rcases hc with⟨g1,g2⟩ | ⟨g1,g2⟩ <;> rcases hd with⟨d1,d2⟩ | ⟨d1,d3,d2⟩ | ⟨d1,d3,d2⟩
 . simp (maxSteps:=9^7) -implicitDefEqProofs only[drR,xY,xH,stR,xR,xS,xw,br,gV,fm,chO,phC,opP,msD,phX,phO,dT,dS,xI,fa,nW,uE,xW,eq,xG,xC,g1,d1,aF,an,ag,av,aU,bqT,bqF,Bool.not_true,Bool.not_false,InR,WU,Ent.of1,Ent.of2,V,W3,↓reduceIte,seval,reduceCtorEq];refine⟨rfl,dC [] 600 ?_⟩;simp (maxSteps:=9^7) -implicitDefEqProofs only[E2.rv113,WU,V,W3,↓reduceIte,seval,reduceCtorEq];rw[g2,d2]at hEn;simp only[zr,if_false,yC]at hEn;rw[hEn];by_cases h0:E=0
   . obtain⟨rfl,rfl⟩:=hok h0;rw[if_neg (fun q=>q h0)];simp (maxSteps:=9^7) -implicitDefEqProofs only[phY,phC,opP,V,W3,↓reduceIte,seval,reduceCtorEq]
   . obtain⟨rfl,rfl⟩:=her h0;rw[if_pos h0];simp (maxSteps:=9^7) -implicitDefEqProofs only[V,W3,↓reduceIte,seval,reduceCtorEq]
 . simp (maxSteps:=9^7) -implicitDefEqProofs only[drR,xY,xH,stR,xR,xS,xw,br,gV,fm,chO,phC,opP,msD,phX,phO,dT,dS,xI,fa,nW,uE,xW,eq,xG,xC,g1,d1,d3,aF,an,ag,av,aU,bqT,bqF,Bool.not_true,Bool.not_false,InR,WU,Ent.of1,Ent.of2,V,W3,↓reduceIte,seval,reduceCtorEq];refine⟨rfl,dC [] 600 ?_⟩;simp (maxSteps:=9^7) -implicitDefEqProofs only[E2.rv113,WU,V,W3,↓reduceIte,seval,reduceCtorEq];rw[g2,d2]at hEn;simp only[zr,if_false,yC]at hEn;rw[hEn];by_cases h0:E=0
   . obtain⟨rfl,rfl⟩:=hok h0;rw[if_neg (fun q=>q h0)];simp (maxSteps:=9^7) -implicitDefEqProofs only[phY,phC,opP,V,W3,↓reduceIte,seval,reduceCtorEq]
   . obtain⟨rfl,rfl⟩:=her h0;rw[if_pos h0];simp (maxSteps:=9^7) -implicitDefEqProofs only[V,W3,↓reduceIte,seval,reduceCtorEq]
 . simp (maxSteps:=9^7) -implicitDefEqProofs only[drR,xY,xH,stR,xR,xS,xw,br,gV,fm,chO,phC,opP,msD,phX,phO,dT,dS,xI,fa,nW,uE,xW,eq,xG,xC,g1,d1,d3,aF,an,ag,av,aU,bqT,bqF,Bool.not_true,Bool.not_false,InR,WU,Ent.of1,Ent.of2,V,W3,↓reduceIte,seval,reduceCtorEq];refine⟨rfl,dC [] 600 ?_⟩;simp (maxSteps:=9^7) -implicitDefEqProofs only[E2.rv113,WU,V,W3,↓reduceIte,seval,reduceCtorEq];rw[g2,d2]at hEn;simp only[zr,if_false,yC]at hEn;rw[hEn];by_cases h0:E=0
   . obtain⟨rfl,rfl⟩:=hok h0;rw[if_neg (fun q=>q h0)];simp (maxSteps:=9^7) -implicitDefEqProofs only[phY,phC,opP,V,W3,↓reduceIte,seval,reduceCtorEq]
   . obtain⟨rfl,rfl⟩:=her h0;rw[if_pos h0];simp (maxSteps:=9^7) -implicitDefEqProofs only[V,W3,↓reduceIte,seval,reduceCtorEq]
 . simp (maxSteps:=9^7) -implicitDefEqProofs only[drR,xY,xH,stR,xR,xS,xw,br,gV,fm,chO,phC,opP,msD,phX,phO,dT,dS,xI,fa,nW,uE,xW,eq,xG,xC,g1,d1,aF,an,ag,av,aU,bqT,bqF,Bool.not_true,Bool.not_false,InR,WU,Ent.of1,Ent.of2,V,W3,↓reduceIte,seval,reduceCtorEq];refine⟨rfl,dC [] 600 ?_⟩;simp (maxSteps:=9^7) -implicitDefEqProofs only[E2.rv113,WU,V,W3,↓reduceIte,seval,reduceCtorEq];rw[g2,d2]at hEn;simp only[zr,if_false,yC]at hEn;rw[hEn];by_cases h0:E=0
   . obtain⟨rfl,rfl⟩:=hok h0;rw[if_neg (fun q=>q h0)];simp (maxSteps:=9^7) -implicitDefEqProofs only[phY,phC,opP,V,W3,↓reduceIte,seval,reduceCtorEq]
   . obtain⟨rfl,rfl⟩:=her h0;rw[if_pos h0];simp (maxSteps:=9^7) -implicitDefEqProofs only[V,W3,↓reduceIte,seval,reduceCtorEq]
 . simp (maxSteps:=9^7) -implicitDefEqProofs only[drR,xY,xH,stR,xR,xS,xw,br,gV,fm,chO,phC,opP,msD,phX,phO,dT,dS,xI,fa,nW,uE,xW,eq,xG,xC,g1,d1,d3,aF,an,ag,av,aU,bqT,bqF,Bool.not_true,Bool.not_false,InR,WU,Ent.of1,Ent.of2,V,W3,↓reduceIte,seval,reduceCtorEq];refine⟨rfl,dC [] 600 ?_⟩;simp (maxSteps:=9^7) -implicitDefEqProofs only[E2.rv113,WU,V,W3,↓reduceIte,seval,reduceCtorEq];rw[g2,d2]at hEn;simp only[zr,if_false,yC]at hEn;rw[hEn];by_cases h0:E=0
   . obtain⟨rfl,rfl⟩:=hok h0;rw[if_neg (fun q=>q h0)];simp (maxSteps:=9^7) -implicitDefEqProofs only[phY,phC,opP,V,W3,↓reduceIte,seval,reduceCtorEq]
   . obtain⟨rfl,rfl⟩:=her h0;rw[if_pos h0];simp (maxSteps:=9^7) -implicitDefEqProofs only[V,W3,↓reduceIte,seval,reduceCtorEq]
 . simp (maxSteps:=9^7) -implicitDefEqProofs only[drR,xY,xH,stR,xR,xS,xw,br,gV,fm,chO,phC,opP,msD,phX,phO,dT,dS,xI,fa,nW,uE,xW,eq,xG,xC,g1,d1,d3,aF,an,ag,av,aU,bqT,bqF,Bool.not_true,Bool.not_false,InR,WU,Ent.of1,Ent.of2,V,W3,↓reduceIte,seval,reduceCtorEq];refine⟨rfl,dC [] 600 ?_⟩;simp (maxSteps:=9^7) -implicitDefEqProofs only[E2.rv113,WU,V,W3,↓reduceIte,seval,reduceCtorEq];rw[g2,d2]at hEn;simp only[zr,if_false,yC]at hEn;rw[hEn];by_cases h0:E=0
   . obtain⟨rfl,rfl⟩:=hok h0;rw[if_neg (fun q=>q h0)];simp (maxSteps:=9^7) -implicitDefEqProofs only[phY,phC,opP,V,W3,↓reduceIte,seval,reduceCtorEq]
   . obtain⟨rfl,rfl⟩:=her h0;rw[if_pos h0];simp (maxSteps:=9^7) -implicitDefEqProofs only[V,W3,↓reduceIte,seval,reduceCtorEq]
end Go.Proofs.YtcbabnbiinkafaaGreatDoor
end
