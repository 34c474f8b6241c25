/- Part 3 of the proof of: MoveLess returns true for every input and never panics: an event that only tells the time, put into a right log, changes neither the state nor the stays nor the longest outage; conditions: those of the given statement, that the package variables it lists hold what their initialisers lay. -/
import Derived.Test.YtcbabnbiinkafaaGreatDoorMoveLess2
set_option linter.all false
section
open Go Go.Am
open Go.Am.Dat (cells)
namespace Go.Proofs.YtcbabnbiinkafaaGreatDoor
set_option maxHeartbeats 4000000
set_option maxRecDepth 100000
theorem Ak (a b:List T3):FC Tryz.prog 57 [enc a,enc b] [] (enc (decide (a=b))) []:=by
 refine eh is57 (by simp) (fun cx hl=>dC [] 800 ?_);simp only[V,W3,↓reduceIte,seval,reduceCtorEq]at hl;have hlen:=hl.1.list;delta c57 oO oM oS oK oV oI oX oB o4 o9;simp (maxSteps:=9^7) -implicitDefEqProofs only[rv57,Ent.of0,Ent.of1,Ent.of2,Ent.of3,Ent.of4,V,W3,↓reduceIte,seval,reduceCtorEq];by_cases hab:a.length=b.length
 . rw[if_neg (by simp[hab])];refine S_for a.length (fun i=>⟨[(0,enc a),(1,enc b),(5,.s (.int .i64 i))],[]⟩) (fun i=>decide (a=b)=decide (a.drop i=b.drop i)) (by simp) ?_ (fun i hi hv=>dC [] 800 ?_)
   . simp only[V,W3,↓reduceIte,seval,reduceCtorEq] <;> simp
   . by_cases h:i < a.length
     rotate_left
     . delta c57l1 oO oN oA oM oT oR oQ oS oK oI oX oB o3 o4 o5 o9;simp (maxSteps:=9^7) -implicitDefEqProofs only[Ent.of0,Ent.of1,Ent.of2,Ent.of3,Ent.of4,V,W3,↓reduceIte,seval,reduceCtorEq];rw[if_neg (by omega),hv,zv (by omega),zv (by omega)];simp
     have g1:=wl a i h;have g2:=wl b i (by omega);have hi2:(i:Int) < (a.length:Int):=by omega
     have hi3:(i:Int) < (b.length:Int):=by omega
     have hi0:(0:Int)<=i:=by omega
     rw[eg ⟨0,0,0⟩ h,eg ⟨0,0,0⟩ (by omega:i < b.length)]at hv;delta c57l1 oO oN oA oM oT oR oQ oS oK oI oX oB o3 o4 o5 o9;simp (maxSteps:=9^7) -implicitDefEqProofs only[hJ,g1,g2,hi2,hi3,hi0,Ent.of0,Ent.of1,Ent.of2,Ent.of3,Ent.of4,V,W3,↓reduceIte,seval,reduceCtorEq];rw[hv];generalize a.getD i ⟨0,0,0⟩=x at *;generalize b.getD i ⟨0,0,0⟩=y at *;obtain⟨x1,x2,x3⟩:=x;obtain⟨y1,y2,y3⟩:=y;by_cases e1:x1=y1 <;> by_cases e2:x2=y2 <;> by_cases e3:x3=y3 <;> simp[e1,e2,e3,h,InR]
     all_goals omega
 . rw[if_pos (by omega)];grind
def xF : Ent Tryz.prog:=.of2 54 (fun _ b=>0 < b/\b<=1000000) (fun a b:Int=>enc (a % b)) (fun _ _=>trivial) (fun a b h=>Mod_c a b h)
def ent57 : Ent Tryz.prog:=.of2 57 (fun _ _=>True) (fun a b:List T3=>enc (decide (a=b))) (fun _ _=>trivial) (fun a b _=>Ak a b)
theorem Ba (n:Nw) (c:Int) (l:List T3) (hn:NwS n):FC Tryz.prog 53 [enc n,enc c,enc l] [] (enc (gT n c l).2) []:=by
 have hdn:=gO n;by_cases hd:cellR n c=0
 rotate_left
 . rw[xL n c l hd];refine dD [] is53 (by simp) (by simp[bk]) (by simp[an,ag]) (by simp[an,ag]) (by simp[aB]) (fun cx _ _ _=>dC [ent40] 1500 ?_);delta c53 oO oN oA oM oS oK oV oC oW oI oX oB oZ o5 o7 o8;simp (maxSteps:=9^7) -implicitDefEqProofs only[rv53,ent40,ed,hdn,hn,hd,not_true_eq_false,not_false_eq_true,WU,Ent.of0,Ent.of1,Ent.of2,Ent.of3,Ent.of4,V,W3,↓reduceIte,seval,reduceCtorEq]
 . obtain⟨net,hc⟩:=An hd;rw[xO n c l hd];have h42:=AH n c l hn net hc;generalize rpE n c l=R at *;generalize rpS n c l=S at *;refine dD [] is53 (by simp) (by simp[bk]) (by simp[an,ag]) (by simp[an,ag]) (by simp[aB]) (fun cx _ _ _=>dC [ent40,entX 42 _ _ h42 ⟨xE _,trivial,trivial,trivial⟩] 1500 ?_);delta c53 oO oN oA oM oS oK oV oC oW oI oX oB oZ o5 o7 o8;simp (maxSteps:=9^7) -implicitDefEqProofs only[rv53,ent40,entX,ed,kN,hdn,hn,hd,not_true_eq_false,not_false_eq_true,WU,Ent.of0,Ent.of1,Ent.of2,Ent.of3,Ent.of4,V,W3,↓reduceIte,seval,reduceCtorEq]
def xx : Ent Tryz.prog:=.of3 53 (fun n _ _=>NwS n) (fun (n:Nw) (c:Int) (l:List T3)=>enc (gT n c l).2) (fun _ _ _=>trivial) (fun n c l h=>Ba n c l h)
theorem AF (l:List T3) (h:l.length<=1000000):FC Tryz.prog 38 [enc l] [] (.own 3) [(3,.row 3 83 (l.map Dat.cells))]:=by
 refine dD [3] is38 (by simp) (by simp[bk]) (by simp[an,ag]) (by simp[an,ag,av]) (by simp[aB,lk]) (fun cx _ hl _=>dC [] 800 ?_);delta c38 oO oA oM oX o3;simp (maxSteps:=9^7) -implicitDefEqProofs only[rv38,hJ,InR,WU,Ent.of0,Ent.of1,Ent.of2,Ent.of3,Ent.of4,V,W3,↓reduceIte,seval,reduceCtorEq];omega
theorem Bh {n:Nw} {c:Int} {l:List T3} (h:(gT n c l).2=0):gT n c l=(0,0):=by
 by_cases hd:cellR n c=0
 . rw[xO n c l hd]at h ⊢;exact (AW h).1
 . rw[xL n c l hd]at h;exact absurd h hd
def x7 : Ent Tryz.prog:=.of3 36 (fun n c l=>NwS n/\(gT n c l).2=0) (fun (n:Nw) (c:Int) (l:List T3)=>.tup [enc (lR n c l).m,enc (0:Int),enc (0:Int)]) (fun _ _ _=>⟨xE _,trivial,trivial,trivial⟩) (fun n c l h=>by
 have:=vL n c l h.1;rw[pK,Bh h.2,if_pos rfl]at this
 exact this)
def x8 : Ent Tryz.prog:=.of3 55 (fun n c l=>NwS n/\(gT n c l).2=0) (fun (n:Nw) (c:Int) (l:List T3)=>.tup [enc (lR n c l).stays,enc (0:Int)]) (fun _ _ _=>⟨trivial,trivial,trivial⟩) (fun n c l h=>by
 have:=Stays_c n c l h.1;rw[if_pos h.2]at this
 exact this)
def x9 : Ent Tryz.prog:=.of3 56 (fun n c l=>NwS n/\(gT n c l).2=0) (fun (n:Nw) (c:Int) (l:List T3)=>.tup [enc (lR n c l).longest,enc (0:Int)]) (fun _ _ _=>⟨trivial,trivial,trivial⟩) (fun n c l h=>by
 have:=AG n c l h.1;rw[if_pos h.2]at this
 exact this)
def AP (l:List T3) (h:l.length<=1000000):Ent Tryz.prog:=xj 38 [enc l] (.own 3) 3 (.row 3 83 (l.map Dat.cells)) (by simp[dF]) (by simp[gm]) (AF l h)
theorem less_in (haw:Awake) (n:Nw) (l:List T3) (x0 x1 x2 fr:Int) (i:Nat) (hfew:few n=true) (h40:¬ 40 < l.length) (h00:¬ l.length=0) (hr:(gT n x0 l).2=0) (hi:(i:Int)=x1 % (l.length:Int)) (hil:i < l.length) (hfr:fr=if i=0 then 0 else (l.getD (i - 1) t0).y) (hw:fr<=x2/\x2<=(l.getD i ⟨0,0,0⟩).y) :
 FC Tryz.prog 8 [enc n,enc l,enc (⟨x0,x1,x2⟩:T3)] [] (enc true) []:=by
 have hdn:=gO n;have hn:=few_nws hfew;have h40':¬ (40:Int) < l.length:=by omega
 have h00':¬ (l.length:Int)=0:=by omega
 have hi2:(i:Int) < (l.length:Int):=by omega
 have hi0:(0:Int)<=i:=by omega
 have hlp:(0:Int) < (l.length:Int)/\(l.length:Int)<=1000000:=by omega
 have hgd:=wl l i hil;have hgd1:¬ i=0->List.getD (l.map Dat.cells) (i - 1) [C.s (.int .i64 0),C.s (.int .i64 0),C.s (.int .i64 0)]=[C.s (.int .i64 (l.getD (i - 1) ⟨0,0,0⟩).x),C.s (.int .i64 fr),C.s (.int .i64 (l.getD (i - 1) ⟨0,0,0⟩).z)]:=fun q=>by
  rw[wl l (i - 1) (by omega),hfr,if_neg q]
 have hr1:¬ i=0->(0:Int) < i/\(-9223372036854775808:Int)<=(i:Int) - 1/\(i:Int) - 1<=9223372036854775807/\0<=(i:Int) - 1/\(i:Int) - 1 < (l.length:Int)/\((i:Int) - 1).toNat=i - 1:=fun q=>by omega
 have htn:(i:Int).toNat=i:=by omega
 have hlt:(l.take i).length<=1000000:=by rw[List.length_take];omega
 have htk:List.take i (l.map Dat.cells)=(l.take i).map Dat.cells:=(List.map_take).symm;have hdk:List.drop i (l.map Dat.cells)=(l.drop i).map Dat.cells:=(List.map_drop).symm;have hw':=hw;have hd:cellR n x0=0:=by
  rcases Classical.em (cellR n x0=0)with q | q
  . exact q
  . rw[xL n x0 l q]at hr;exact absurd hr q
 obtain⟨net,hc⟩:=An hd;have hok:=hr;rw[xO n x0 l hd]at hok;obtain⟨s1,s2⟩:=Bg net hc l i hil (AW hok).2.2 x2 (hfr ▸ hw.1) hw.2;obtain⟨more,hm⟩:∃ more,more=l.take i++⟨11,x2,0⟩ :: l.drop i:=⟨_,rfl⟩;have hml:more.length=l.length+1:=by rw[hm,zK,zQ,List.length_take,List.length_drop];omega
 have hmr:(gT n x0 more).2=0:=by
  rw[xO n x0 more hd,rpE,if_neg (by omega),hm];exact s1
 have hE:lR n x0 more=lR n x0 l:=by unfold lR;rw[hm,s2]
 have hmc:((l.take i).map Dat.cells++[[C.s (.int .i64 11),.s (.int .i64 x2),.s (.int .i64 0)]])++(l.drop i).map Dat.cells=more.map Dat.cells:=by
  rw[hm,yg,zt,ye];rfl
 have htl:List.take l.length (l.map Dat.cells)=l.map Dat.cells:=List.take_of_length_le (by simp);have hdl:(l.drop i).length=l.length - i:=List.length_drop;have htl2:(l.take i).length=i:=by rw[List.length_take];omega
 have hml2:more.length<=1000000:=by omega
 have hll:l.length<=1000000:=by omega
 clear hm s1 s2 hok;obtain⟨m,hmm⟩:∃ m,(lR n x0 l).m=m:=⟨_,rfl⟩;obtain⟨st,hst⟩:∃ st,(lR n x0 l).stays=st:=⟨_,rfl⟩;obtain⟨lgw,hlg⟩:∃ lgw,(lR n x0 l).longest=lgw:=⟨_,rfl⟩;have hdm:=xi m;refine dD [] D8.is8 (by simp) (by simp[bk]) (by simp[an,ag]) (by simp[an,ag]) (by simp[aB]) (fun cx _ _ _=>dC [ent21 haw,ent34,xx,xF,oa] 1500 ?_);by_cases hz:i=0;have hfr0:=hfr;rw[if_pos hz]at hfr0;rw[hfr0]at hw';have hz2:¬ (0:Int) < i:=by omega
 delta D8.c8 oO oN oA oM oT oG oR oQ oS oK oF oL oV oC oW oI oX oP oH oB oD oJ o3 oZ o4 o5 o7 o8 o9;simp (maxSteps:=9^7) -implicitDefEqProofs only[D8.rv8,ent21,ent34,xx,xF,oa,ed,dY,hdn,hfew,hn,h40',h00',hr,hlp,<- hi,hi0,hi2,hgd,htn,hz2,hw',hJ,InR,not_true_eq_false,not_false_eq_true,WU,Ent.of0,Ent.of1,Ent.of2,Ent.of3,Ent.of4,V,W3,↓reduceIte,seval,reduceCtorEq]
 rotate_left
 obtain⟨k1,k2,k3,k4,k5,k6⟩:=hr1 hz;have g1:=hgd1 hz;delta D8.c8 oO oN oA oM oT oG oR oQ oS oK oF oL oV oC oW oI oX oP oH oB oD oJ o3 oZ o4 o5 o7 o8 o9;simp (maxSteps:=9^7) -implicitDefEqProofs only[D8.rv8,ent21,ent34,xx,xF,oa,ed,dY,hdn,hfew,hn,h40',h00',hr,hlp,<- hi,hi0,hi2,hgd,htn,k1,k2,k3,k4,k5,k6,g1,hw,hJ,InR,not_true_eq_false,not_false_eq_true,WU,Ent.of0,Ent.of1,Ent.of2,Ent.of3,Ent.of4,V,W3,↓reduceIte,seval,reduceCtorEq]
 all_goals
  clear hr1 hgd1;refine xl [AP (l.take i) hlt] 800 [] ?_;simp (maxSteps:=9^7) -implicitDefEqProofs only[xm,mFin2,xt,ml,pF,ops2,jo,reM2,oU,qO,qP,mE,finM,kE,ia,ip,gh,ft,fW,fW.fixBs,fV,ndE2,an,ag,av,aU,aF,kF,eQ,a6,bF,AP,xj,ed,dY,hi0,hi2,htk,htn,hJ,InR,WU,Ent.of0,Ent.of1,Ent.of2,Ent.of3,Ent.of4,V,W3,↓reduceIte,seval,reduceCtorEq];refine⟨rfl,⟨by omega,by omega,by omega⟩,?_⟩;refine dC [] 1500 ?_;simp (maxSteps:=9^7) -implicitDefEqProofs only[D8.rv8,ed,kN,hdn,hn,hi0,hi2,htk,hdk,htn,htl,hmc,hdl,htl2,zK,zy,hml,hml2,hll,hr,hmr,hE,hmm,hst,hlg,hdm,hJ,InR,not_true_eq_false,not_false_eq_true,WU,Ent.of0,Ent.of1,Ent.of2,Ent.of3,Ent.of4,V,W3,↓reduceIte,seval,reduceCtorEq];refine⟨⟨by omega,by omega⟩,⟨by omega,by omega⟩,?_⟩;refine xl [ent37,xp,x7] 800 [1,5,6] ?_;simp (maxSteps:=9^7) -implicitDefEqProofs only[xm,mFin2,xt,ml,pF,ops2,jo,reM2,oU,qO,qP,mE,finM,kE,ia,ip,gh,ft,fW,fW.fixBs,fV,ndE2,an,ag,av,aU,aF,kF,eQ,a6,bF,ent37,xp,x7,ed,kN,hdn,hn,hi0,hi2,htk,hdk,htn,htl,hmc,hdl,htl2,zK,zy,hml,hml2,hll,hr,hmr,hE,hmm,hst,hlg,hdm,hJ,InR,not_true_eq_false,not_false_eq_true,WU,Ent.of0,Ent.of1,Ent.of2,Ent.of3,Ent.of4,V,W3,↓reduceIte,seval,reduceCtorEq];refine⟨rfl,?_⟩;refine dC [] 1500 ?_;simp (maxSteps:=9^7) -implicitDefEqProofs only[D8.rv8,ed,kN,hdn,hn,hi0,hi2,htk,hdk,htn,htl,hmc,hdl,htl2,zK,zy,hml,hml2,hll,hr,hmr,hE,hmm,hst,hlg,hdm,hJ,InR,not_true_eq_false,not_false_eq_true,WU,Ent.of0,Ent.of1,Ent.of2,Ent.of3,Ent.of4,V,W3,↓reduceIte,seval,reduceCtorEq];refine xl [ent37,xp,x7] 800 [1,5,6] ?_;simp (maxSteps:=9^7) -implicitDefEqProofs only[xm,mFin2,xt,ml,pF,ops2,jo,reM2,oU,qO,qP,mE,finM,kE,ia,ip,gh,ft,fW,fW.fixBs,fV,ndE2,an,ag,av,aU,aF,kF,eQ,a6,bF,ent37,xp,x7,ed,kN,hdn,hn,hi0,hi2,htk,hdk,htn,htl,hmc,hdl,htl2,zK,zy,hml,hml2,hll,hr,hmr,hE,hmm,hst,hlg,hdm,hJ,InR,not_true_eq_false,not_false_eq_true,WU,Ent.of0,Ent.of1,Ent.of2,Ent.of3,Ent.of4,V,W3,↓reduceIte,seval,reduceCtorEq];refine⟨rfl,by omega,?_⟩;refine dC [] 1500 ?_;simp (maxSteps:=9^7) -implicitDefEqProofs only[D8.rv8,ed,kN,hdn,hn,hi0,hi2,htk,hdk,htn,htl,hmc,hdl,htl2,zK,zy,hml,hml2,hll,hr,hmr,hE,hmm,hst,hlg,hdm,hJ,InR,not_true_eq_false,not_false_eq_true,WU,Ent.of0,Ent.of1,Ent.of2,Ent.of3,Ent.of4,V,W3,↓reduceIte,seval,reduceCtorEq];refine xl [ent37,xp,x8] 800 [1,5,6] ?_;simp (maxSteps:=9^7) -implicitDefEqProofs only[xm,mFin2,xt,ml,pF,ops2,jo,reM2,oU,qO,qP,mE,finM,kE,ia,ip,gh,ft,fW,fW.fixBs,fV,ndE2,an,ag,av,aU,aF,kF,eQ,a6,bF,ent37,xp,x8,ed,kN,hdn,hn,hi0,hi2,htk,hdk,htn,htl,hmc,hdl,htl2,zK,zy,hml,hml2,hll,hr,hmr,hE,hmm,hst,hlg,hdm,hJ,InR,not_true_eq_false,not_false_eq_true,WU,Ent.of0,Ent.of1,Ent.of2,Ent.of3,Ent.of4,V,W3,↓reduceIte,seval,reduceCtorEq];refine⟨rfl,?_⟩;refine dC [] 1500 ?_;simp (maxSteps:=9^7) -implicitDefEqProofs only[D8.rv8,ed,kN,hdn,hn,hi0,hi2,htk,hdk,htn,htl,hmc,hdl,htl2,zK,zy,hml,hml2,hll,hr,hmr,hE,hmm,hst,hlg,hdm,hJ,InR,not_true_eq_false,not_false_eq_true,WU,Ent.of0,Ent.of1,Ent.of2,Ent.of3,Ent.of4,V,W3,↓reduceIte,seval,reduceCtorEq];refine xl [ent37,xp,x8] 800 [1,5,6] ?_;simp (maxSteps:=9^7) -implicitDefEqProofs only[xm,mFin2,xt,ml,pF,ops2,jo,reM2,oU,qO,qP,mE,finM,kE,ia,ip,gh,ft,fW,fW.fixBs,fV,ndE2,an,ag,av,aU,aF,kF,eQ,a6,bF,ent37,xp,x8,ed,kN,hdn,hn,hi0,hi2,htk,hdk,htn,htl,hmc,hdl,htl2,zK,zy,hml,hml2,hll,hr,hmr,hE,hmm,hst,hlg,hdm,hJ,InR,not_true_eq_false,not_false_eq_true,WU,Ent.of0,Ent.of1,Ent.of2,Ent.of3,Ent.of4,V,W3,↓reduceIte,seval,reduceCtorEq];refine⟨rfl,by omega,?_⟩;refine dC [] 1500 ?_;simp (maxSteps:=9^7) -implicitDefEqProofs only[D8.rv8,ed,kN,hdn,hn,hi0,hi2,htk,hdk,htn,htl,hmc,hdl,htl2,zK,zy,hml,hml2,hll,hr,hmr,hE,hmm,hst,hlg,hdm,hJ,InR,not_true_eq_false,not_false_eq_true,WU,Ent.of0,Ent.of1,Ent.of2,Ent.of3,Ent.of4,V,W3,↓reduceIte,seval,reduceCtorEq];refine xl [ent37,xp,x9] 800 [1,5,6] ?_;simp (maxSteps:=9^7) -implicitDefEqProofs only[xm,mFin2,xt,ml,pF,ops2,jo,reM2,oU,qO,qP,mE,finM,kE,ia,ip,gh,ft,fW,fW.fixBs,fV,ndE2,an,ag,av,aU,aF,kF,eQ,a6,bF,ent37,xp,x9,ed,kN,hdn,hn,hi0,hi2,htk,hdk,htn,htl,hmc,hdl,htl2,zK,zy,hml,hml2,hll,hr,hmr,hE,hmm,hst,hlg,hdm,hJ,InR,not_true_eq_false,not_false_eq_true,WU,Ent.of0,Ent.of1,Ent.of2,Ent.of3,Ent.of4,V,W3,↓reduceIte,seval,reduceCtorEq];refine⟨rfl,?_⟩;refine dC [] 1500 ?_;simp (maxSteps:=9^7) -implicitDefEqProofs only[D8.rv8,ed,kN,hdn,hn,hi0,hi2,htk,hdk,htn,htl,hmc,hdl,htl2,zK,zy,hml,hml2,hll,hr,hmr,hE,hmm,hst,hlg,hdm,hJ,InR,not_true_eq_false,not_false_eq_true,WU,Ent.of0,Ent.of1,Ent.of2,Ent.of3,Ent.of4,V,W3,↓reduceIte,seval,reduceCtorEq];refine xl [ent37,xp,x9] 800 [1,5,6] ?_;simp (maxSteps:=9^7) -implicitDefEqProofs only[xm,mFin2,xt,ml,pF,ops2,jo,reM2,oU,qO,qP,mE,finM,kE,ia,ip,gh,ft,fW,fW.fixBs,fV,ndE2,an,ag,av,aU,aF,kF,eQ,a6,bF,ent37,xp,x9,ed,kN,hdn,hn,hi0,hi2,htk,hdk,htn,htl,hmc,hdl,htl2,zK,zy,hml,hml2,hll,hr,hmr,hE,hmm,hst,hlg,hdm,hJ,InR,not_true_eq_false,not_false_eq_true,WU,Ent.of0,Ent.of1,Ent.of2,Ent.of3,Ent.of4,V,W3,↓reduceIte,seval,reduceCtorEq];refine⟨rfl,by omega,?_⟩;refine dC [ent41,ent57] 1500 ?_;simp (maxSteps:=9^7) -implicitDefEqProofs only[D8.rv8,ent41,ent57,ed,kN,hdn,hn,hi0,hi2,htk,hdk,htn,htl,hmc,hdl,htl2,zK,zy,hml,hml2,hll,hr,hmr,hE,hmm,hst,hlg,hdm,hJ,InR,not_true_eq_false,not_false_eq_true,WU,Ent.of0,Ent.of1,Ent.of2,Ent.of3,Ent.of4,V,W3,↓reduceIte,seval,reduceCtorEq]
theorem Aw (haw:Awake) (n:Nw) (l:List T3) (x:T3):FC Tryz.prog 8 [enc n,enc l,enc x] [] (enc true) []:=by
 have hdn:=gO n;obtain⟨x0,x1,x2⟩:=x;by_cases hfew:few n=true
 rotate_left
 . have hf:few n=false:=by simpa using hfew
   refine dD [] is8 (by simp) (by simp[bk]) (by simp[an,ag]) (by simp[an,ag]) (by simp[aB]) (fun cx _ _ _=>dC [ent21 haw,ent34] 1500 ?_);delta c8 oO oN oA oM oT oG oR oQ oS oK oF oL oV oC oW oI oX oP oH oB oD oJ o3 oZ o4 o5 o7 o8 o9;simp (maxSteps:=9^7) -implicitDefEqProofs only[rv8,ent21,ent34,ed,dY,hdn,hf,not_true_eq_false,WU,Ent.of0,Ent.of1,Ent.of2,Ent.of3,Ent.of4,V,W3,↓reduceIte,seval,reduceCtorEq]
 have hn:=few_nws hfew;by_cases h40:40 < l.length
 . have hI:(40:Int) < (l.length:Int):=by omega
   refine dD [] is8 (by simp) (by simp[bk]) (by simp[an,ag]) (by simp[an,ag]) (by simp[aB]) (fun cx _ _ _=>dC [ent21 haw,ent34] 1500 ?_);delta c8 oO oN oA oM oT oG oR oQ oS oK oF oL oV oC oW oI oX oP oH oB oD oJ o3 oZ o4 o5 o7 o8 o9;simp (maxSteps:=9^7) -implicitDefEqProofs only[rv8,ent21,ent34,ed,dY,hdn,hfew,hI,not_true_eq_false,WU,Ent.of0,Ent.of1,Ent.of2,Ent.of3,Ent.of4,V,W3,↓reduceIte,seval,reduceCtorEq]
 have h40':¬ (40:Int) < (l.length:Int):=by omega
 by_cases h00:l.length=0
 . have hI:(l.length:Int)=0:=by omega
   refine dD [] is8 (by simp) (by simp[bk]) (by simp[an,ag]) (by simp[an,ag]) (by simp[aB]) (fun cx _ _ _=>dC [ent21 haw,ent34] 1500 ?_);delta c8 oO oN oA oM oT oG oR oQ oS oK oF oL oV oC oW oI oX oP oH oB oD oJ o3 oZ o4 o5 o7 o8 o9;simp (maxSteps:=9^7) -implicitDefEqProofs only[rv8,ent21,ent34,ed,dY,hdn,hfew,hI,h40',not_true_eq_false,WU,Ent.of0,Ent.of1,Ent.of2,Ent.of3,Ent.of4,V,W3,↓reduceIte,seval,reduceCtorEq]
 have h00':¬ (l.length:Int)=0:=by omega
 by_cases hr:(gT n x0 l).2=0
 rotate_left
 . refine dD [] is8 (by simp) (by simp[bk]) (by simp[an,ag]) (by simp[an,ag]) (by simp[aB]) (fun cx _ _ _=>dC [ent21 haw,ent34,xx] 1500 ?_);delta c8 oO oN oA oM oT oG oR oQ oS oK oF oL oV oC oW oI oX oP oH oB oD oJ o3 oZ o4 o5 o7 o8 o9;simp (maxSteps:=9^7) -implicitDefEqProofs only[rv8,ent21,ent34,xx,ed,dY,hdn,hfew,hn,h40',h00',hr,not_true_eq_false,not_false_eq_true,WU,Ent.of0,Ent.of1,Ent.of2,Ent.of3,Ent.of4,V,W3,↓reduceIte,seval,reduceCtorEq]
 obtain⟨i,hi⟩:∃ i:Nat,(i:Int)=x1 % (l.length:Int):=⟨(x1 % (l.length:Int)).toNat,by have:=Int.emod_nonneg x1 h00';omega⟩;have hil:i < l.length:=by have:=Int.emod_lt_of_pos x1 (show (0:Int) < l.length by omega);omega
 have hi2:(i:Int) < (l.length:Int):=by omega
 have hi0:(0:Int)<=i:=by omega
 have hlp:(0:Int) < (l.length:Int)/\(l.length:Int)<=1000000:=by omega
 obtain⟨fr,hfr⟩:∃ fr:Int,fr=if i=0 then 0 else (l.getD (i - 1) t0).y:=⟨_,rfl⟩
 have hgd:=wl l i hil;have hgd1:¬ i=0->List.getD (l.map Dat.cells) (i - 1) [C.s (.int .i64 0),C.s (.int .i64 0),C.s (.int .i64 0)]=[C.s (.int .i64 (l.getD (i - 1) ⟨0,0,0⟩).x),C.s (.int .i64 fr),C.s (.int .i64 (l.getD (i - 1) ⟨0,0,0⟩).z)]:=fun q=>by
  rw[wl l (i - 1) (by omega),hfr,if_neg q]
 have hr1:¬ i=0->(0:Int) < i/\(-9223372036854775808:Int)<=(i:Int) - 1/\(i:Int) - 1<=9223372036854775807/\0<=(i:Int) - 1/\(i:Int) - 1 < (l.length:Int)/\((i:Int) - 1).toNat=i - 1:=fun q=>by omega
 have htn:(i:Int).toNat=i:=by omega
 by_cases hw:fr<=x2/\x2<=(l.getD i ⟨0,0,0⟩).y
 rotate_left
 . by_cases hz:i=0
   . rw[if_pos hz]at hfr;subst hfr;have hz2:¬ (0:Int) < i:=by omega
     refine dD [] is8 (by simp) (by simp[bk]) (by simp[an,ag]) (by simp[an,ag]) (by simp[aB]) (fun cx _ _ _=>dC [ent21 haw,ent34,xx,xF,oa] 1500 ?_);delta c8 oO oN oA oM oT oG oR oQ oS oK oF oL oV oC oW oI oX oP oH oB oD oJ o3 oZ o4 o5 o7 o8 o9;simp (maxSteps:=9^7) -implicitDefEqProofs only[rv8,ent21,ent34,xx,xF,oa,ed,dY,hdn,hfew,hn,h40',h00',hr,hlp,<- hi,hi0,hi2,hgd,htn,hz2,hw,hJ,InR,not_true_eq_false,not_false_eq_true,WU,Ent.of0,Ent.of1,Ent.of2,Ent.of3,Ent.of4,V,W3,↓reduceIte,seval,reduceCtorEq]
   . obtain⟨k1,k2,k3,k4,k5,k6⟩:=hr1 hz;have g1:=hgd1 hz;refine dD [] is8 (by simp) (by simp[bk]) (by simp[an,ag]) (by simp[an,ag]) (by simp[aB]) (fun cx _ _ _=>dC [ent21 haw,ent34,xx,xF,oa] 1500 ?_);delta c8 oO oN oA oM oT oG oR oQ oS oK oF oL oV oC oW oI oX oP oH oB oD oJ o3 oZ o4 o5 o7 o8 o9;simp (maxSteps:=9^7) -implicitDefEqProofs only[rv8,ent21,ent34,xx,xF,oa,ed,dY,hdn,hfew,hn,h40',h00',hr,hlp,<- hi,hi0,hi2,hgd,htn,k1,k2,k3,k4,k5,k6,g1,hw,hJ,InR,not_true_eq_false,not_false_eq_true,WU,Ent.of0,Ent.of1,Ent.of2,Ent.of3,Ent.of4,V,W3,↓reduceIte,seval,reduceCtorEq]
 exact less_in haw n l x0 x1 x2 fr i hfew h40 h00 hr hi hil hfr hw
end Go.Proofs.YtcbabnbiinkafaaGreatDoor
end
section
open Go Go.Am
open Go.Am.Dat (cells)
namespace Go.Proofs.YtcbabnbiinkafaaGreatDoor
open Go.ChangeShapes Go.WideShapes Go.ChangeAt Go.RowKit
open Go.ChangeMaps (open_string shut_string)
set_option maxRecDepth 100000
theorem rTri : ReadsP Tryz.prog 79 T3 (fun _=>True):=by
 refine⟨by kernel_rfl,by decide,fun en w sp fuel cs x h=>?_⟩;obtain⟨xs,m,_,rfl,hl,hlen,hel⟩:=DataW.trod_array Tryz.underlying79 h;have c3:Tryz.prog.cellsOf 3=1:=by kernel_rfl
 have hl2:cs.length=3:=hl.trans (by kernel_rfl)
 match cs,hl2 with
 |[b0,b1,b2],_=>
  match xs,hlen with
  |[y0,y1,y2],_=>
   have h0:DataW.trod en Tryz.prog w 0 sp true m 3 (([b0,b1,b2].drop (0*Tryz.prog.cellsOf 3)).take (Tryz.prog.cellsOf 3))=some y0:=hel 0 (by decide);have h1:DataW.trod en Tryz.prog w 0 sp true m 3 (([b0,b1,b2].drop (1*Tryz.prog.cellsOf 3)).take (Tryz.prog.cellsOf 3))=some y1:=hel 1 (by decide);have h2:DataW.trod en Tryz.prog w 0 sp true m 3 (([b0,b1,b2].drop (2*Tryz.prog.cellsOf 3)).take (Tryz.prog.cellsOf 3))=some y2:=hel 2 (by decide);rw[c3]at h0 h1 h2;obtain⟨n0,e0,_,_⟩:=DataW.trod_int Tryz.underlying3 h0;obtain⟨n1,e1,_,_⟩:=DataW.trod_int Tryz.underlying3 h1;obtain⟨n2,e2,_,_⟩:=DataW.trod_int Tryz.underlying3 h2;have e0':b0=.int .i64 n0:=by simpa using e0
   have e1':b1=.int .i64 n1:=by simpa using e1
   have e2':b2=.int .i64 n2:=by simpa using e2
   subst e0' e1' e2';refine⟨⟨n0,n1,n2⟩,trivial,rfl,rfl,fun j c hj=>?_⟩
   match j,hj with
   | 0,hj=>cases hj;exact⟨.s _,rfl⟩
   | 1,hj=>cases hj;exact⟨.s _,rfl⟩
   | 2,hj=>cases hj;exact⟨.s _,rfl⟩
theorem argA {t te:TypeId} {n:Nat} {α:Type} [DatL α] {p:α->Prop} (h:ReadsP Tryz.prog t α p) (hag:Dat.agg α=true) (ht:Tryz.prog.underlying t=some (.array n te)) {H:Type} {en:TypeId×Value->H} {W:World} {r:Reach} {base:Nat} {sp:Nat->Bool} {v:Value} {d:DataW H} {ps:List MemPlace}
 (hval:Value.okWide Tryz.prog W r base t v) (hd:DataW.Trod en Tryz.prog W 0 sp true t v d ps):∃ a:α,p a/\∀ E,Rep E (fun b=>b < W.heap.size) W.heap (enc a) v:=by
 have hv2:∃ cs,v=.agg cs:=by
  simp only[Value.okWide,ht]at hval;obtain⟨cs,h2,_⟩:=hval;exact⟨cs,h2⟩
 obtain⟨vs,rfl⟩:=hv2;obtain⟨fuel,hf⟩:=hd;obtain⟨a,h0,h1,h2,h3⟩:=h.rd en W sp fuel _ _ hf;have hc:(Value.agg vs).cells=vs:=by simp[Value.cells]
 rw[hc]at h2 h3;have e:∀ j,vs.toList.getD j undef=vs.getD j undef:=fun j=>by simp[zb,zc]
 refine⟨a,h0,fun E=>?_⟩;rw[enc,if_pos hag];refine .agg _ vs (by simpa[h1]using h2) (fun j c hj=>.d (by have:=(h3 j c hj).1;rwa[e]at this)) (fun j hj=>?_);have hj':j < (Dat.cells a).length:=by rw[h1,<- h2];simpa using hj
 have:=(h3 j _ (ze hj')).2;rwa[e]at this
theorem rEv : ReadsP Tryz.prog 83 T3 (fun _=>True):=by
 refine⟨by kernel_rfl,by decide,fun en w sp fuel cs x h=>?_⟩;obtain⟨l,a0,p0,e0,h0⟩:=lY rInt Tryz.underlying83 h 0 rfl rfl;obtain⟨_,a1,p1,e1,h1⟩:=lY rInt Tryz.underlying83 h 1 rfl rfl;obtain⟨_,a2,p2,e2,h2⟩:=lY rInt Tryz.underlying83 h 2 rfl rfl;refine⟨⟨a0,a1,a2⟩,trivial,rfl,l.trans (by kernel_rfl),fun j c hj=>?_⟩
 match j,hj with
 | 0,hj=>cases hj;exact h0 0 _ rfl
 | 1,hj=>cases hj;exact h1 0 _ rfl
 | 2,hj=>cases hj;exact h2 0 _ rfl
theorem rEvs : ReadsP Tryz.prog 48 (List T3) (fun l=>∀ a∈l,True):=ReadsP.list rEv Tryz.underlying48 (by kernel_rfl)
theorem lifted8 (os:Os) (started:os.Started) (H:Type) (en:TypeId×Value->H) :
 ReturnsInHanded {} Tryz.checked os 8 .any (fun w args=>(Rows.moveLessSpec.pre en Tryz.prog Tryz.f8 Rows.moveLessRow.domain false w args/\laidMetH Tryz.prog Rows.moveLessRow.laid w)/\sizedMet en Tryz.prog Tryz.f8 (OpenSpec.ofChange Rows.moveLessSpec) false w args)
  (Rows.moveLessSpec.post en Tryz.prog Tryz.f8 false true false false):=by
 refine returnsInHanded_of_change_and (C:=Tryz.checked) (X:=fun w _=>laidMetH Tryz.prog Rows.moveLessRow.laid w) (fun _ _ _ hh h=>h.of_heap hh) ownOk started (by kernel_rfl) Tryz.func8
  (ChangeSpec.witness_shaped (enc:=en) (C:=Tryz.checked) (os:=os) (X:=fun w _=>laidMetH Tryz.prog Rows.moveLessRow.laid w) false (World.doorLaid Tryz.prog 89 os) #[.agg #[.slice none 0 0,.slice none 0 0,.int .i64 0],.slice none 0 0,.agg #[.int .i64 0,.int .i64 0,.int .i64 0]] 8 rfl (doorShaped os _) (by kernel_rfl) (by kernel_rfl) (by kernel_rfl) (door_met os _)) ?_
 intro W base args ds gs before hval0 hW hcnd hsz hL _;have hval:∀ (j:Nat) t v,Tryz.f8.params[j]? = some t->args[j]? = some v->Value.okWide Tryz.prog W .any base t v:=hval0;have hW':=hW;obtain⟨p,q,hA0,hV,rfl,hfz,hnd⟩:=hW;have hA:DataW.TrodAll en Tryz.prog W 0 (fun _=>true) true Tryz.f8.params.toList args.toList ds p:=hA0;rw[Tryz.params8]at hA hval;obtain⟨v0,vs0,d0w,ds0,p0,q0,hargs,rfl,rfl,h0,r0w⟩:=trodAll_cons hA;obtain⟨v1,vs1,d1,ds1,p1,q1,rfl,rfl,rfl,h1,r1⟩:=trodAll_cons r0w;obtain⟨v2,vs2,d2,ds2,p2,q2,rfl,rfl,rfl,h2,r2⟩:=trodAll_cons r1;obtain⟨rfl,rfl,rfl⟩:=trodAll_nil r2;obtain rfl:args=#[v0,v1,v2]:=by cases args;simp_all
 obtain⟨rfl,rfl⟩:=trodVars_none hV;have lt0:∀ x∈p0,x.block < W.heap.size:=by obtain⟨m,hm⟩:=h0;exact DataW.trod_lt m _ _ _ hm
 have lt1:∀ x∈p1,x.block < W.heap.size:=by obtain⟨m,hm⟩:=h1;exact DataW.trod_lt m _ _ _ hm
 have lt2:∀ x∈p2,x.block < W.heap.size:=by obtain⟨m,hm⟩:=h2;exact DataW.trod_lt m _ _ _ hm
 obtain⟨x0,g0,hx0⟩:=rNw.argS rfl Tryz.underlying47 (hval 0 47 v0 rfl rfl) h0;obtain⟨x1,g1,hx1⟩:=rEvs.arg Tryz.underlying48 (hval 1 48 v1 rfl rfl) h1;obtain⟨x2,g2,hx2⟩:=argA rTri rfl Tryz.underlying79 (hval 2 79 v2 rfl rfl) h2;clear hA0 hval0;refine (law_walkG (Aw awake_c x0 x1 x2) (W:=W) (vs:=#[v0,v1,v2]) (glAll hL) rfl (fun j c hj E=>?_)).mono fun e W' ⟨he,bel⟩=>?_
 . match j,hj with
   | 0,hj=>cases hj;exact hx0 E
   | 1,hj=>cases hj;exact hx1 E
   | 2,hj=>cases hj;exact hx2 E
 . subst he;exact⟨_,rfl,_,_,_,[],_,[],hW',trodAll_mk1 (shut_bool Tryz.underlying4 _),(trodAll_cons_mk (Below.trod laidOut (by kernel_rfl) (of_decide_eq_true (by kernel_rfl)) h0 bel lt0) (trodAll_cons_mk (Below.trod laidOut (by kernel_rfl) (of_decide_eq_true (by kernel_rfl)) h1 bel lt1) (trodAll_cons_mk (Below.trod laidOut (by kernel_rfl) (of_decide_eq_true (by kernel_rfl)) h2 bel lt2) trodAll_mk0))),rfl,bel.frame _,fun h=>by cases h⟩
theorem jPlace8 : (Rows.moveLessRow.inPlace == Tryz.prog.inPlace 8)=true:=by kernel_rfl
theorem jUnf8 : (Rows.moveLessRow.unfollowed == Tryz.prog.unfollowed 8)=true:=by kernel_rfl
theorem jRec8 : (Rows.moveLessRow.recurses == Tryz.prog.recurses 8)=true:=by kernel_rfl
theorem jNamed8 : (Rows.moveLessRow.named == Tryz.prog.varsNamed 8)=true:=by kernel_rfl
theorem jKeys8 : (Rows.moveLessRow.plainKeys == Tryz.prog.plainKeys)=true:=jKeys
theorem jLift8 : (Rows.moveLessRow.lifted == Tryz.prog.liftsFinal)=true:=jLift
theorem jMake8 : (Tryz.prog.make == some Rows.moveLessRow.make)=true:=jMake
theorem jVeil8 : Rows.moveLessRow.veiledFits Tryz.prog Tryz.f8.params.toList (Tryz.f8.params.toList++Rows.moveLessSpec.plain.varTypes Tryz.prog++Tryz.f8.resultTypes.toList)=true:=by kernel_rfl
end Go.Proofs.YtcbabnbiinkafaaGreatDoor
end
