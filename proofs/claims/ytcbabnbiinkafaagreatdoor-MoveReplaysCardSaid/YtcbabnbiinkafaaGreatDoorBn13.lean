/- Part 13 of the proof of: the statements about chapter 8 -/
import Derived.Test.YtcbabnbiinkafaaGreatDoorBn12
set_option linter.all false
section
open Go Go.Am
open Go.Am.Dat (cells)
namespace Go.Proofs.YtcbabnbiinkafaaGreatDoor
set_option maxHeartbeats 4000000
set_option maxRecDepth 100000
theorem rX (n:Nw) (p:Ph) (e:T3) (h:p.m.phase=2) (hs:0 < p.stays.length∧p.stays.length≤1000000) (ho:p.out≠-1→InR .i64 (e.y - p.out)):FC Tryz.prog 274 [.ptr 100000 0,enc e] (phX n p) (enc (0:Int)) (phX n ({ m:={ p.m with phase:=0,since:=e.y,source:=p.m.serving,serving:=p.m.target,target:=-1 },recv:=p.recv,stays:=chg p.stays p.m.serving p.m.target e.y,out:=-1,longest:=kV p.out p.longest e.y })):=by
 refine dC [100001] D3.is274 (by simp) (dQ n p) (dD n p) (dD n _) (dH n p _) (fun cx _ hl _=>dB [n5 n { p with m:={ p.m with source:=p.m.serving } } p.m.target e.y hs,kN n (kn { p with m:={ p.m with source:=p.m.serving } } p.m.target e.y) e.y ho] 1500 ?_)
 delta D3.c274 oO oN oA oM oT oG oR oQ oS oK oF oL
 simp (maxSteps:=4000000) -implicitDefEqProofs only [D3.rv274,phX,phC,dX,h,n5,kN,eo,kn,kW,WU,Ent.of0,Ent.of1,Ent.of2,Ent.of3,Ent.of4,V,W3,↓reduceIte,seval,reduceCtorEq]
 refine kH [] 800 ?_
 simp (maxSteps:=4000000) -implicitDefEqProofs only [drM,mFin,kw,ly,ia,reM,it,gU,gJ,ndE,an,ag,av,aT,aF,WU,Ent.of0,Ent.of1,Ent.of2,Ent.of3,Ent.of4,V,W3,↓reduceIte,seval,reduceCtorEq]
 refine dB [] 400 ?_
 simp (maxSteps:=4000000) -implicitDefEqProofs only [D3.rv274,phX,phC,WU,Ent.of0,Ent.of1,Ent.of2,Ent.of3,Ent.of4,V,W3,↓reduceIte,seval,reduceCtorEq]
theorem fail_e (n:Nw) (p:Ph) (e:T3) (h:p.m.phase=3):FC Tryz.prog 277 [.ptr 100000 0,enc e] (phX n p) (enc (22:Int)) (phX n (p)):=by
 refine dC [100001] is277 (by simp) (dQ n p) (dD n p) (dD n _) (dH n p _) (fun cx _ hl _=>dB [] 1500 ?_)
 delta c277 oO oN oA oM oT oG oR oQ oS oK oF oL
 simp (maxSteps:=4000000) -implicitDefEqProofs only [qA,phX,phC,dX,h,WU,Ent.of0,Ent.of1,Ent.of2,Ent.of3,Ent.of4,V,W3,↓reduceIte,seval,reduceCtorEq]
theorem fail_ok (n:Nw) (p:Ph) (e:T3) (h:¬ p.m.phase=3):FC Tryz.prog 277 [.ptr 100000 0,enc e] (phX n p) (enc (0:Int)) (phX n (iR { p with m:={ p.m with since:=if p.m.phase=2 then p.m.since else e.y,phase:=3 } } e.y)):=by
 refine dC [100001] is277 (by simp) (dQ n p) (dD n p) (dD n _) (dH n p _) (fun cx _ hl _=>dB [lU n { p with m:={ p.m with since:=if p.m.phase=2 then p.m.since else e.y,phase:=3 } } e.y] 1500 ?_)
 by_cases h2:p.m.phase=2
 · delta c277 oO oN oA oM oT oG oR oQ oS oK oF oL
   simp (maxSteps:=4000000) -implicitDefEqProofs only [qA,phX,phC,dX,h,h2,lU,eo,iR,WU,Ent.of0,Ent.of1,Ent.of2,Ent.of3,Ent.of4,V,W3,↓reduceIte,seval,reduceCtorEq]
 · delta c277 oO oN oA oM oT oG oR oQ oS oK oF oL
   simp (maxSteps:=4000000) -implicitDefEqProofs only [qA,phX,phC,dX,h,h2,lU,eo,iR,WU,Ent.of0,Ent.of1,Ent.of2,Ent.of3,Ent.of4,V,W3,↓reduceIte,seval,reduceCtorEq]
theorem turn_e1 (n:Nw) (p:Ph) (e:T3) (h:p.m.source=-1):FC Tryz.prog 276 [.ptr 100000 0,enc e] (phX n p) (enc (12:Int)) (phX n (p)):=by
 refine dC [100001] qp (by simp) (dQ n p) (dD n p) (dD n _) (dH n p _) (fun cx _ hl _=>dB [dS,dR] 1500 ?_)
 rcases Classical.propComplete (p.m.phase=3) with h2 | h2 <;> rcases Classical.propComplete (p.m.path=p.m.serving) with h3 | h3
 all_goals
  delta c276 oO oN oA oM oT oG oR oQ oS oK oF oL
  simp (maxSteps:=4000000) -implicitDefEqProofs only [oV,phX,phC,dX,h,h2,h3,dS,dR,dL,not_true_eq_false,not_false_eq_true,WU,Ent.of0,Ent.of1,Ent.of2,Ent.of3,Ent.of4,V,W3,↓reduceIte,seval,reduceCtorEq]
theorem turn_e2 (n:Nw) (p:Ph) (e:T3) (h:¬ p.m.source=-1) (h2:p.m.phase=3):FC Tryz.prog 276 [.ptr 100000 0,enc e] (phX n p) (enc (22:Int)) (phX n (p)):=by
 refine dC [100001] qp (by simp) (dQ n p) (dD n p) (dD n _) (dH n p _) (fun cx _ hl _=>dB [dS,dR] 1500 ?_)
 rcases Classical.propComplete (p.m.path=p.m.serving) with h3 | h3
 all_goals
  delta c276 oO oN oA oM oT oG oR oQ oS oK oF oL
  simp (maxSteps:=4000000) -implicitDefEqProofs only [oV,phX,phC,dX,h,h2,h3,dS,dR,dL,not_true_eq_false,not_false_eq_true,WU,Ent.of0,Ent.of1,Ent.of2,Ent.of3,Ent.of4,V,W3,↓reduceIte,seval,reduceCtorEq]
theorem turn_e3 (n:Nw) (p:Ph) (e:T3) (h:¬ p.m.source=-1) (h2:¬ p.m.phase=3) (h3:p.m.path=p.m.serving):FC Tryz.prog 276 [.ptr 100000 0,enc e] (phX n p) (enc (26:Int)) (phX n (p)):=by
 refine dC [100001] qp (by simp) (dQ n p) (dD n p) (dD n _) (dH n p _) (fun cx _ hl _=>dB [dS,dR] 1500 ?_)
 delta c276 oO oN oA oM oT oG oR oQ oS oK oF oL
 simp (maxSteps:=4000000) -implicitDefEqProofs only [oV,phX,phC,dX,h,h2,h3,dS,dR,dL,not_true_eq_false,not_false_eq_true,WU,Ent.of0,Ent.of1,Ent.of2,Ent.of3,Ent.of4,V,W3,↓reduceIte,seval,reduceCtorEq]
theorem turn_ok (n:Nw) (p:Ph) (e:T3) (h:¬ p.m.source=-1) (h2:¬ p.m.phase=3) (h3:¬ p.m.path=p.m.serving) (hb:p.m.source≠-1→0≤p.m.source∧p.m.source.toNat < p.m.buf.length):FC Tryz.prog 276 [.ptr 100000 0,enc e] (phX n p) (enc (0:Int)) (phX n ({ p with m:=settle { p.m with path:=p.m.serving } })):=by
 refine dC [100001] qp (by simp) (dQ n p) (dD n p) (dD n _) (dH n p _) (fun cx _ hl _=>dB [dS,dR,ur n { p with m:={ p.m with path:=p.m.serving } } hb] 1500 ?_)
 delta c276 oO oN oA oM oT oG oR oQ oS oK oF oL
 simp (maxSteps:=4000000) -implicitDefEqProofs only [oV,phX,phC,dX,h,h2,h3,dS,dR,dL,ur,eo,not_true_eq_false,not_false_eq_true,WU,Ent.of0,Ent.of1,Ent.of2,Ent.of3,Ent.of4,V,W3,↓reduceIte,seval,reduceCtorEq]
theorem uX (n:Nw) (p:Ph) (e:T3) (hr:dL [if p.m.phase=0 then 0 else 22,if p.m.source=-1 then 0 else 17,if nbr n e.z p.m.serving=true then 0 else 6]≠0):FC Tryz.prog 271 [.ptr 100000 0,enc e] (phX n p) (enc (dL [if p.m.phase=0 then 0 else 22,if p.m.source=-1 then 0 else 17,if nbr n e.z p.m.serving=true then 0 else 6]:Int)) (phX n (p)):=by
 refine dC [100001] D3.is271 (by simp) (dQ n p) (dD n p) (dD n _) (dH n p _) (fun cx _ hl _=>dB [dS,dR,nY n p e.z] 1500 ?_)
 generalize hR:dL [if p.m.phase=0 then 0 else 22,if p.m.source=-1 then 0 else 17,if nbr n e.z p.m.serving=true then 0 else 6]=R at *
 rcases Classical.propComplete (p.m.phase=0) with h1 | h1 <;> rcases Classical.propComplete (p.m.source=-1) with h2 | h2 <;> cases h3:nbr n e.z p.m.serving
 all_goals
  simp [h1,h2,h3,dL] at hR
  first
   | exact absurd hR.symm hr
   | (subst hR
      delta D3.c271 oO oN oA oM oT oG oR oQ oS oK oF oL
      simp (maxSteps:=4000000) -implicitDefEqProofs only [D3.rv271,phX,phC,dX,h1,h2,h3,dS,dR,nY,eo,dL,not_true_eq_false,not_false_eq_true,WU,Ent.of0,Ent.of1,Ent.of2,Ent.of3,Ent.of4,V,W3,↓reduceIte,seval,reduceCtorEq])
theorem to (n:Nw) (p:Ph) (e:T3) (h1:p.m.phase=0) (h2:p.m.source=-1) (h3:nbr n e.z p.m.serving=true):FC Tryz.prog 271 [.ptr 100000 0,enc e] (phX n p) (enc (0:Int)) (phX n ({ p with m:={ p.m with phase:=1,since:=e.y,target:=e.z } })):=by
 refine dC [100001] D3.is271 (by simp) (dQ n p) (dD n p) (dD n _) (dH n p _) (fun cx _ hl _=>dB [dS,dR,nY n p e.z] 1500 ?_)
 delta D3.c271 oO oN oA oM oT oG oR oQ oS oK oF oL
 simp (maxSteps:=4000000) -implicitDefEqProofs only [D3.rv271,phX,phC,dX,h1,h2,h3,dS,dR,nY,eo,dL,not_true_eq_false,not_false_eq_true,WU,Ent.of0,Ent.of1,Ent.of2,Ent.of3,Ent.of4,V,W3,↓reduceIte,seval,reduceCtorEq]
 refine kH [] 800 ?_
 simp (maxSteps:=4000000) -implicitDefEqProofs only [drM,mFin,kw,ly,ia,reM,it,gU,gJ,ndE,an,ag,av,aT,aF,WU,Ent.of0,Ent.of1,Ent.of2,Ent.of3,Ent.of4,V,W3,↓reduceIte,seval,reduceCtorEq]
 refine dB [] 400 ?_
 simp (maxSteps:=4000000) -implicitDefEqProofs only [D3.rv271,phX,phC,WU,Ent.of0,Ent.of1,Ent.of2,Ent.of3,Ent.of4,V,W3,↓reduceIte,seval,reduceCtorEq]
theorem send_e1 (n:Nw) (p:Ph) (e:T3) (h:ei p.m=true):FC Tryz.prog 269 [.ptr 100000 0,enc e] (phX n p) (enc (22:Int)) (phX n (p)):=by
 refine dC [100001] oj (by simp) (dQ n p) (dD n p) (dD n _) (dH n p _) (fun cx _ hl _=>dB [e9 n p] 1500 ?_)
 delta c269 oO oN oA oM oT oG oR oQ oS oK oF oL
 simp (maxSteps:=4000000) -implicitDefEqProofs only [mH,phX,phC,dX,h,e9,eo,WU,Ent.of0,Ent.of1,Ent.of2,Ent.of3,Ent.of4,V,W3,↓reduceIte,seval,reduceCtorEq]
theorem send_e2 (n:Nw) (p:Ph) (e:T3) (h:ei p.m=false) (hi:0≤p.m.serving∧p.m.serving.toNat < p.m.buf.length) (hb:dP p.m p.m.serving=[]):FC Tryz.prog 269 [.ptr 100000 0,enc e] (phX n p) (enc (12:Int)) (phX n (p)):=by
 have hi3:p.m.serving < (p.m.buf.length:Int):=by omega
 obtain ⟨hi0,hi2⟩:=hi
 have hbg:=fH p.m.buf p.m.serving.toNat
 refine dC [100001] oj (by simp) (dQ n p) (dD n p) (dD n _) (dH n p _) (fun cx _ hl _=>dB [e9 n p] 1500 ?_)
 rw [show p.m.buf.getD p.m.serving.toNat []=[] from hb] at hbg
 delta c269 oO oN oA oM oT oG oR oQ oS oK oF oL
 simp (maxSteps:=4000000) -implicitDefEqProofs only [mH,phX,phC,dX,h,e9,eo,hi0,hi2,hi3,et,hbg,List.map_nil,InR,WU,Ent.of0,Ent.of1,Ent.of2,Ent.of3,Ent.of4,V,W3,↓reduceIte,seval,reduceCtorEq]
theorem send_e3 (n:Nw) (p:Ph) (e:T3) (h:ei p.m=false) (hi:0≤p.m.serving∧p.m.serving.toNat < p.m.buf.length) (x:Int) (l:List Int) (hb:dP p.m p.m.serving=x :: l) (hx:p.m.got < x):FC Tryz.prog 269 [.ptr 100000 0,enc e] (phX n p) (enc (14:Int)) (phX n (p)):=by
 have hi3:p.m.serving < (p.m.buf.length:Int):=by omega
 obtain ⟨hi0,hi2⟩:=hi
 have hbg:=fH p.m.buf p.m.serving.toNat
 refine dC [100001] oj (by simp) (dQ n p) (dD n p) (dD n _) (dH n p _) (fun cx _ hl _=>dB [e9 n p] 1500 ?_)
 rw [show p.m.buf.getD p.m.serving.toNat []=x :: l from hb] at hbg
 have hl0:¬ ((l.length:Int)+1=0):=by omega
 delta c269 oO oN oA oM oT oG oR oQ oS oK oF oL
 simp (maxSteps:=4000000) -implicitDefEqProofs only [mH,phX,phC,dX,h,e9,eo,hi0,hi2,hi3,hx,hl0,et,hbg,List.map_cons,List.length_cons,Int.natCast_succ,Int.natCast_add,InR,WU,Ent.of0,Ent.of1,Ent.of2,Ent.of3,Ent.of4,V,W3,↓reduceIte,seval,reduceCtorEq]
 try omega
theorem wD (n:Nw) (p:Ph) (e:T3) (h:ei p.m=false) (hi:0≤p.m.serving∧p.m.serving.toNat < p.m.buf.length) (x:Int) (l:List Int) (hb:dP p.m p.m.serving=x :: l) (hx:x=p.m.got) (hr:p.recv.length≤1000000) (hg:InR .i64 (p.m.got+1)):FC Tryz.prog 269 [.ptr 100000 0,enc e] (phX n p) (enc (0:Int)) (phX n ({ p with m:={ p.m with got:=p.m.got+1 },recv:=p.recv++[p.m.got] })):=by
 have hi3:p.m.serving < (p.m.buf.length:Int):=by omega
 obtain ⟨hi0,hi2⟩:=hi
 have hbg:=fH p.m.buf p.m.serving.toNat
 refine dC [100001] oj (by simp) (dQ n p) (dD n p) (dD n _) (dH n p _) (fun cx _ hl _=>dB [e9 n p] 1500 ?_)
 rw [show p.m.buf.getD p.m.serving.toNat []=x :: l from hb] at hbg
 have hl0:¬ ((l.length:Int)+1=0):=by omega
 subst hx
 simp only [InR] at hg
 have hap:p.recv.map Dat.cells++[[C.s (.int .i64 p.m.got)]]=(p.recv++[p.m.got]).map Dat.cells:=by rw [List.map_append]; rfl
 delta c269 oO oN oA oM oT oG oR oQ oS oK oF oL
 simp (maxSteps:=4000000) -implicitDefEqProofs only [mH,phX,phC,dX,h,e9,eo,hi0,hi2,hi3,hl0,hg,hap,et,hbg,List.map_cons,List.length_cons,Int.natCast_succ,Int.natCast_add,List.length_map,InR,WU,Ent.of0,Ent.of1,Ent.of2,Ent.of3,Ent.of4,V,W3,↓reduceIte,seval,reduceCtorEq]
 try omega
theorem wE (n:Nw) (p:Ph) (e:T3) (h:ei p.m=false) (hi:0≤p.m.serving∧p.m.serving.toNat < p.m.buf.length) (x:Int) (l:List Int) (hb:dP p.m p.m.serving=x :: l) (hx:x < p.m.got):FC Tryz.prog 269 [.ptr 100000 0,enc e] (phX n p) (enc (0:Int)) (phX n (p)):=by
 have hi3:p.m.serving < (p.m.buf.length:Int):=by omega
 obtain ⟨hi0,hi2⟩:=hi
 have hbg:=fH p.m.buf p.m.serving.toNat
 refine dC [100001] oj (by simp) (dQ n p) (dD n p) (dD n _) (dH n p _) (fun cx _ hl _=>dB [e9 n p] 1500 ?_)
 rw [show p.m.buf.getD p.m.serving.toNat []=x :: l from hb] at hbg
 have hl0:¬ ((l.length:Int)+1=0):=by omega
 have hx1:¬ p.m.got < x:=by omega
 have hx2:¬ x=p.m.got:=by omega
 delta c269 oO oN oA oM oT oG oR oQ oS oK oF oL
 simp (maxSteps:=4000000) -implicitDefEqProofs only [mH,phX,phC,dX,h,e9,eo,hi0,hi2,hi3,hx1,hx2,hl0,et,hbg,List.map_cons,List.length_cons,Int.natCast_succ,Int.natCast_add,InR,WU,Ent.of0,Ent.of1,Ent.of2,Ent.of3,Ent.of4,V,W3,↓reduceIte,seval,reduceCtorEq]
 try omega
theorem ack_e (n:Nw) (p:Ph) (e:T3) (h:ei p.m=true):FC Tryz.prog 270 [.ptr 100000 0,enc e] (phX n p) (enc (22:Int)) (phX n (p)):=by
 refine dC [100001] is270 (by simp) (dQ n p) (dD n p) (dD n _) (dH n p _) (fun cx _ hl _=>dB [e9 n p] 1500 ?_)
 delta c270 oO oN oA oM oT oG oR oQ oS oK oF oL
 simp (maxSteps:=4000000) -implicitDefEqProofs only [qz,phX,phC,dX,h,e9,eo,WU,Ent.of0,Ent.of1,Ent.of2,Ent.of3,Ent.of4,V,W3,↓reduceIte,seval,reduceCtorEq]
theorem ack_ok (n:Nw) (p:Ph) (e:T3) (h:ei p.m=false) (hi:0≤p.m.serving∧p.m.serving.toNat < p.m.buf.length) (hb1:(dP p.m p.m.serving).length≤1000000):FC Tryz.prog 270 [.ptr 100000 0,enc e] (phX n p) (enc (0:Int)) (phX n ({ p with m:={ p.m with buf:=p.m.buf.set p.m.serving.toNat (frm (dP p.m p.m.serving) p.m.got) } })):=by
 have hi3:p.m.serving < (p.m.buf.length:Int):=by omega
 obtain ⟨hi0,hi2⟩:=hi
 have hbg:=fH p.m.buf p.m.serving.toNat
 refine dC [100001] is270 (by simp) (dQ n p) (dD n p) (dD n _) (dH n p _) (fun cx _ hl _=>dB [e9 n p] 1500 ?_)
 rw [show p.m.buf.getD p.m.serving.toNat []=dP p.m p.m.serving from rfl] at hbg
 have hst:=jR p.m.buf p.m.serving.toNat (frm (dP p.m p.m.serving) p.m.got)
 delta c270 oO oN oA oM oT oG oR oQ oS oK oF oL
 simp (maxSteps:=4000000) -implicitDefEqProofs only [qz,phX,phC,dX,h,e9,eo,hi0,hi2,hi3,hbg,et,InR,WU,Ent.of0,Ent.of1,Ent.of2,Ent.of3,Ent.of4,V,W3,↓reduceIte,seval,reduceCtorEq]
 refine o6 rfl (dW.take (s:=22) (k:=100001) (j:=p.m.serving.toNat) (by decide) rfl rfl ⟨by rw [et]; exact hi2,by simp⟩ rfl (by decide)) ?_
 refine o7 rfl (OpM.delF vE (dP p.m p.m.serving) hb1 rfl rfl rfl (by show some (Ch.row 1 3 ((fO p.m.buf).getD p.m.serving.toNat []))=_; rw [hbg]) rfl rfl rfl) (fun ef he=>?_)
 subst he
 refine ny [] 800 ?_
 simp (maxSteps:=4000000) -implicitDefEqProofs only [aR,bL,qz,hbg,hst,hi2,et,WU,Ent.of0,Ent.of1,Ent.of2,Ent.of3,Ent.of4,V,W3,↓reduceIte,seval,reduceCtorEq]
 exact .inr trivial
theorem data_e (n:Nw) (p:Ph) (e:T3) (h:60≤fi p.m.buf∨1000000≤p.m.fresh) (h1:p.m.buf.length≤1000000) (h2:fi p.m.buf≤1000000000):FC Tryz.prog 268 [.ptr 100000 0,enc e] (phX n p) (enc (16:Int)) (phX n (p)):=by
 refine dC [100001] D3.is268 (by simp) (dQ n p) (dD n p) (dD n _) (dH n p _) (fun cx _ hl _=>dB [lT n p h1 h2] 1500 ?_)
 by_cases h3:60≤fi p.m.buf
 · delta D3.c268 oO oN oA oM oT oG oR oQ oS oK oF oL
   simp (maxSteps:=4000000) -implicitDefEqProofs only [D3.rv268,phX,phC,dX,h3,lT,eo,WU,Ent.of0,Ent.of1,Ent.of2,Ent.of3,Ent.of4,V,W3,↓reduceIte,seval,reduceCtorEq]
 · have h4:=h.resolve_left h3
   delta D3.c268 oO oN oA oM oT oG oR oQ oS oK oF oL
   simp (maxSteps:=4000000) -implicitDefEqProofs only [D3.rv268,phX,phC,dX,h3,h4,lT,eo,WU,Ent.of0,Ent.of1,Ent.of2,Ent.of3,Ent.of4,V,W3,↓reduceIte,seval,reduceCtorEq]
theorem data_ok (n:Nw) (p:Ph) (e:T3) (h3:¬ 60≤fi p.m.buf) (h4:¬ 1000000≤p.m.fresh) (h1:p.m.buf.length≤1000000) (h2:fi p.m.buf≤1000000000) (hi:0≤p.m.path∧p.m.path.toNat < p.m.buf.length) (hg:InR .i64 (p.m.fresh+1)) (hb1:(dP p.m p.m.path).length≤1000000):FC Tryz.prog 268 [.ptr 100000 0,enc e] (phX n p) (enc (0:Int)) (phX n ({ p with m:={ p.m with buf:=p.m.buf.set p.m.path.toNat (dP p.m p.m.path++[p.m.fresh]),fresh:=p.m.fresh+1 } })):=by
 refine dC [100001] D3.is268 (by simp) (dQ n p) (dD n p) (dD n _) (dH n p _) (fun cx _ hl _=>dB [lT n p h1 h2] 1500 ?_)
 delta D3.c268 oO oN oA oM oT oG oR oQ oS oK oF oL
 simp (maxSteps:=4000000) -implicitDefEqProofs only [D3.rv268,phX,phC,dX,h3,h4,lT,eo,WU,Ent.of0,Ent.of1,Ent.of2,Ent.of3,Ent.of4,V,W3,↓reduceIte,seval,reduceCtorEq]
 have hi3:p.m.path < (p.m.buf.length:Int):=by omega
 obtain ⟨hi0,hi2⟩:=hi
 have hbg:=fH p.m.buf p.m.path.toNat
 rw [show p.m.buf.getD p.m.path.toNat []=dP p.m p.m.path from rfl] at hbg
 have hst:=jR p.m.buf p.m.path.toNat (dP p.m p.m.path++[p.m.fresh])
 have hap:(dP p.m p.m.path).map Dat.cells++[[C.s (.int .i64 p.m.fresh)]]=(dP p.m p.m.path++[p.m.fresh]).map Dat.cells:=by rw [List.map_append]; rfl
 simp only [InR] at hg
 refine nB [] 800 ?_
 simp (maxSteps:=4000000) -implicitDefEqProofs only [drS,lB,robC,reC,fixS,eP,AOp.reads,true_or,or_true,false_or,hi0,hi2,hi3,et,hbg,hap,List.length_map,InR,WU,Ent.of0,Ent.of1,Ent.of2,Ent.of3,Ent.of4,V,W3,↓reduceIte,seval,reduceCtorEq]
 refine ⟨by omega,dB [] 600 ?_⟩
 simp (maxSteps:=4000000) -implicitDefEqProofs only [D3.rv268,hg,hst,InR,WU,Ent.of0,Ent.of1,Ent.of2,Ent.of3,Ent.of4,V,W3,↓reduceIte,seval,reduceCtorEq]
theorem vm (l:List Int) (v:Int) (h:l.length≤1000000):FC Tryz.prog 288 [enc l,enc v] [] (enc (i6 (fun x=>decide (v=x)) l)) []:=by
 refine eg is288 (by simp) (fun cx hl=>dB [] 800 ?_)
 generalize hB:i6 (fun x=>decide (v=x)) l=B
 delta c288 oO oN oA oM oT oG oR oQ oS oK oF oL
 simp (maxSteps:=4000000) -implicitDefEqProofs only [oW,Ent.of0,Ent.of1,Ent.of2,Ent.of3,Ent.of4,V,W3,↓reduceIte,seval,reduceCtorEq]
 refine eM l.length (fun i=>[(8,.s (.int .i64 (i:Int)))]) (fun _=>[]) (fun i=>∀ j,j < i→decide (v=l.getD j 0)=false) (fun j hj=>by omega) ?_ (fun i hi hv=>dB [] 800 ?_)
 · simp (maxSteps:=4000000) -implicitDefEqProofs only [Ent.of0,Ent.of1,Ent.of2,Ent.of3,Ent.of4,V,W3,↓reduceIte,seval,reduceCtorEq]
   try simp
 · by_cases h:i < l.length
   · have hi2:(i:Int) < (l.length:Int):=by omega
     have hi0:(0:Int)≤i:=by omega
     by_cases hx:v=l.getD i 0
     · have hB2:=nh (p:=fun x=>decide (v=x)) 0 h (by simpa using hx) hv
       rw [hB] at hB2
       subst hB2
       delta nN oO oN oA oM oT oG oR oQ oS oK oF oL
       simp (maxSteps:=4000000) -implicitDefEqProofs only [oW,hi2,hi0,h,InR,WU,Ent.of0,Ent.of1,Ent.of2,Ent.of3,Ent.of4,V,W3,↓reduceIte,seval,reduceCtorEq]
       simp only [← hx,if_true]
     · delta nN oO oN oA oM oT oG oR oQ oS oK oF oL
       simp (maxSteps:=4000000) -implicitDefEqProofs only [oW,hi2,hi0,h,hx,InR,WU,Ent.of0,Ent.of1,Ent.of2,Ent.of3,Ent.of4,V,W3,↓reduceIte,seval,reduceCtorEq]
       refine ⟨by omega,fun j hj=>?_,by omega⟩
       by_cases hji:j=i
       · subst hji; simpa using hx
       · have:=hv j (by omega)
         simpa using this
   · have hi2:¬ (i:Int) < (l.length:Int):=by omega
     have hB2:=l5 (p:=fun x=>decide (v=x)) (l:=l) 0 (fun j hj=>hv j (by omega))
     rw [hB] at hB2
     subst hB2
     delta nN oO oN oA oM oT oG oR oQ oS oK oF oL
     simp (maxSteps:=4000000) -implicitDefEqProofs only [oW,hi2,WU,Ent.of0,Ent.of1,Ent.of2,Ent.of3,Ent.of4,V,W3,↓reduceIte,seval,reduceCtorEq]
def us : Ent Tryz.prog:=.of2 288 (fun l _=>l.length≤1000000) (fun (l:List Int) (v:Int)=>enc (i6 (fun x=>decide (v=x)) l)) (fun _ _=>trivial) (fun l v h=>vm l v h)
theorem rR (l:List Int) (v:Int) (h:l.length≤1000000):FC Tryz.prog 284 [enc l,enc v] [] (enc (l.any fun x=>decide (v=x))) []:=by
 refine eg is284 (by simp) (fun cx hl=>dB [us] 800 ?_)
 have hi:=ng (fun x=>decide (v=x)) l
 delta c284 oO oN oA oM oT oG oR oQ oS oK oF oL
 simp (maxSteps:=4000000) -implicitDefEqProofs only [rv284,us,h,hi,Ent.of0,Ent.of1,Ent.of2,Ent.of3,Ent.of4,V,W3,↓reduceIte,seval,reduceCtorEq]
def n8 : Ent Tryz.prog:=.of2 284 (fun l _=>l.length≤1000000) (fun (l:List Int) (v:Int)=>enc (l.any fun x=>decide (v=x))) (fun _ _=>trivial) (fun l v h=>rR l v h)
def recE (p:Ph) (e:T3):Int:=dL [if p.m.phase=3 then 0 else 22,if ([p.m.serving,p.m.target,p.m.source].any fun x=>decide (e.z=x))=true then 0 else 6]
theorem u6 (n:Nw) (p:Ph) (e:T3) (hr:recE p e≠0):FC Tryz.prog 278 [.ptr 100000 0,enc e] (phX n p) (enc (recE p e)) (phX n p):=by
 refine dC [100001] is278 (by simp) (dQ n p) (dD n p) (dD n _) (dH n p _) (fun cx _ hl _=>dB [dS,dR,n8] 1500 ?_)
 have h3:(3:Nat)≤1000000:=by decide
 have hcl:[[C.s (.int .i64 p.m.serving)],[C.s (.int .i64 p.m.target)],[C.s (.int .i64 p.m.source)]]=[p.m.serving,p.m.target,p.m.source].map Dat.cells:=rfl
 have hLl:[p.m.serving,p.m.target,p.m.source].length≤1000000:=by simp
 unfold recE at *
 generalize [p.m.serving,p.m.target,p.m.source]=L at *
 generalize hR:dL [if p.m.phase=3 then 0 else 22,if (L.any fun x=>decide (e.z=x))=true then 0 else 6]=R at *
 rcases Classical.propComplete (p.m.phase=3) with h1 | h1 <;> cases h2:(L.any fun x=>decide (e.z=x))
 all_goals
  rw [h2] at hR
  simp [h1,dL] at hR
  first
   | exact absurd hR.symm hr
   | (subst hR
      delta c278 oO oN oA oM oT oG oR oQ oS oK oF oL
      simp (maxSteps:=4000000) -implicitDefEqProofs only [rv278,phX,phC,dX,h1,h2,dS,dR,n8,hcl,hLl,dL,not_true_eq_false,not_false_eq_true,WU,Ent.of0,Ent.of1,Ent.of2,Ent.of3,Ent.of4,V,W3,↓reduceIte,seval,reduceCtorEq])
theorem tu (n:Nw) (p:Ph) (e:T3) (h1:p.m.phase=3) (h2:([p.m.serving,p.m.target,p.m.source].any fun x=>decide (e.z=x))=true) (hc:ConOk n p e.z e.y):FC Tryz.prog 278 [.ptr 100000 0,enc e] (phX n p) (enc (0:Int)) (phX n (lf p e.z e.y)):=by
 refine dC [100001] is278 (by simp) (dQ n p) (dD n p) (dD n _) (dH n p _) (fun cx _ hl _=>dB [dS,dR,n8,nZ n p e.z e.y hc] 1500 ?_)
 have hcl:[[C.s (.int .i64 p.m.serving)],[C.s (.int .i64 p.m.target)],[C.s (.int .i64 p.m.source)]]=[p.m.serving,p.m.target,p.m.source].map Dat.cells:=rfl
 have hLl:[p.m.serving,p.m.target,p.m.source].length≤1000000:=by simp
 generalize [p.m.serving,p.m.target,p.m.source]=L at *
 delta c278 oO oN oA oM oT oG oR oQ oS oK oF oL
 simp (maxSteps:=4000000) -implicitDefEqProofs only [rv278,phX,phC,dX,h1,h2,dS,dR,n8,nZ,eo,hcl,hLl,dL,not_true_eq_false,not_false_eq_true,WU,Ent.of0,Ent.of1,Ent.of2,Ent.of3,Ent.of4,V,W3,↓reduceIte,seval,reduceCtorEq]
def n6 : Ent Tryz.prog:=.of2 282 (fun xs _=>xs.Pairwise (·≤·)∧xs.length≤1000000) (fun (xs:List Int) (x:Int)=>.tup [.s (.int .i64 (ld xs x:Nat)),enc (xs.contains x)]) (fun _ _=>⟨trivial,trivial,trivial⟩) (fun xs x h=>o4 xs x h.1 h.2)
def n7 (xs:List Int) (i:Nat) (x:Int) (hil:i≤xs.length) (h:xs.length≤1000000):Ent Tryz.prog where
 id:=283
 tk:=[0,2]
 sp:=fun args chs=>some (args=[.own 100000,.s (.int .i64 (i:Int)),.own 100001]∧chs=[(100000,.row 1 3 (xs.map Dat.cells)),(100001,.row 1 3 [[.s (.int .i64 x)]])],.own 100000,[(100000,.row 1 3 ((jB xs i x).map Dat.cells)),(100001,.row 1 3 [[.s (.int .i64 x)]])],[])
 ok:=by
  intro args chs pp r' chs' nk hs hp
  simp only [Option.some.injEq,Prod.mk.injEq] at hs
  obtain ⟨rfl,rfl,rfl,rfl⟩:=hs
  obtain ⟨rfl,rfl⟩:=hp
  refine ⟨vo xs i x hil h,⟨fun k c hm=>.inr ?_,fun k cs hm=>?_,by simp [dE],fun k c hm=>?_⟩⟩
  · simp only [List.mem_cons,List.not_mem_nil,or_false,Prod.mk.injEq] at hm ⊢
    rcases hm with ⟨rfl,_⟩ | ⟨rfl,_⟩
    · exact ⟨_,.inl ⟨rfl,rfl⟩⟩
    · exact ⟨_,.inr ⟨rfl,rfl⟩⟩
  · simp at hm
  · simp only [List.mem_cons,List.not_mem_nil,or_false,Prod.mk.injEq] at hm
    rcases hm with ⟨_,rfl⟩ | ⟨_,rfl⟩ <;> trivial
theorem put_ins (l:List Int) (x:Int) (h:l.Pairwise (·≤·)):fZ l x=jB l (ld l x) x:=pT l x h
theorem s9 (n:Nw) (p:Ph) (e:T3) (h2:¬ p.m.phase=2) (h:¬ p.m.phase=0∨p.m.source=-1):FC Tryz.prog 275 [.ptr 100000 0,enc e] (phX n p) (enc (22:Int)) (phX n p):=by
 refine dC [100001] D3.is275 (by simp) (dQ n p) (dD n p) (dD n _) (dH n p _) (fun cx _ hl _=>dB [] 1500 ?_)
 by_cases h0:p.m.phase=0
 · have hs:=h.resolve_left (fun q=>q h0)
   delta D3.c275 oO oN oA oM oT oG oR oQ oS oK oF oL
   simp (maxSteps:=4000000) -implicitDefEqProofs only [D3.rv275,phX,phC,dX,h2,h0,hs,WU,Ent.of0,Ent.of1,Ent.of2,Ent.of3,Ent.of4,V,W3,↓reduceIte,seval,reduceCtorEq]
 · delta D3.c275 oO oN oA oM oT oG oR oQ oS oK oF oL
   simp (maxSteps:=4000000) -implicitDefEqProofs only [D3.rv275,phX,phC,dX,h2,h0,WU,Ent.of0,Ent.of1,Ent.of2,Ent.of3,Ent.of4,V,W3,↓reduceIte,seval,reduceCtorEq]
theorem tb (n:Nw) (p:Ph) (e:T3) (h:p.m.phase=2∨(p.m.phase=0∧¬ p.m.source=-1)) (hi:0≤dV p.m∧(dV p.m).toNat < p.m.buf.length) (hb:dP p.m (dV p.m)=[]):FC Tryz.prog 275 [.ptr 100000 0,enc e] (phX n p) (enc (12:Int)) (phX n p):=by
 have hi3:dV p.m < (p.m.buf.length:Int):=by omega
 obtain ⟨hi0,hi2⟩:=hi
 have hbg:=fH p.m.buf (dV p.m).toNat
 rw [show p.m.buf.getD (dV p.m).toNat []=[] from hb] at hbg
 refine dC [100001] D3.is275 (by simp) (dQ n p) (dD n p) (dD n _) (dH n p _) (fun cx _ hl _=>dB [] 1500 ?_)
 generalize hF:dV p.m=F at *
 rcases h with h1 | ⟨h1,h3⟩
 · obtain rfl:F=p.m.serving:=by rw [← hF,dV,if_pos h1]
   delta D3.c275 oO oN oA oM oT oG oR oQ oS oK oF oL
   simp (maxSteps:=4000000) -implicitDefEqProofs only [D3.rv275,phX,phC,dX,h1,hi0,hi2,hi3,hbg,et,List.map_nil,InR,WU,Ent.of0,Ent.of1,Ent.of2,Ent.of3,Ent.of4,V,W3,↓reduceIte,seval,reduceCtorEq]
 · have h2:¬ p.m.phase=2:=by omega
   obtain rfl:F=p.m.source:=by rw [← hF,dV,if_neg h2]
   delta D3.c275 oO oN oA oM oT oG oR oQ oS oK oF oL
   simp (maxSteps:=4000000) -implicitDefEqProofs only [D3.rv275,phX,phC,dX,h1,h2,h3,hi0,hi2,hi3,hbg,et,List.map_nil,InR,WU,Ent.of0,Ent.of1,Ent.of2,Ent.of3,Ent.of4,V,W3,↓reduceIte,seval,reduceCtorEq]
theorem tc (n:Nw) (p:Ph) (e:T3) (h:p.m.phase=2∨(p.m.phase=0∧¬ p.m.source=-1)) (hi:0≤dV p.m∧(dV p.m).toNat < p.m.buf.length) (hj:0≤toC p.m∧(toC p.m).toNat < p.m.buf.length) (hne:dV p.m≠toC p.m) (x:Int) (B:List Int) (hb:dP p.m (dV p.m)=x :: B)
 (hs:(dP p.m (toC p.m)).Pairwise (·≤·)) (hl1:(dP p.m (toC p.m)).length≤1000000) (hl2:B.length≤1000000) (hr:p.m.source≠-1→0≤p.m.source∧p.m.source.toNat < p.m.buf.length) :
 FC Tryz.prog 275 [.ptr 100000 0,enc e] (phX n p) (enc (0:Int)) (phX n { p with m:=settle { p.m with buf:=(p.m.buf.set (toC p.m).toNat (fZ (dP p.m (toC p.m)) x)).set (dV p.m).toNat B } }):=by
 have hi3:dV p.m < (p.m.buf.length:Int):=by omega
 have hj3:toC p.m < (p.m.buf.length:Int):=by omega
 have hnn:(toC p.m).toNat≠(dV p.m).toNat:=by omega
 obtain ⟨hi0,hi2⟩:=hi
 obtain ⟨hj0,hj2⟩:=hj
 have hbg:=fH p.m.buf (dV p.m).toNat
 rw [show p.m.buf.getD (dV p.m).toNat []=x :: B from hb] at hbg
 have hst1:=jR p.m.buf (dV p.m).toNat B
 have hgt:(fO (p.m.buf.set (dV p.m).toNat B)).getD (toC p.m).toNat []=(dP p.m (toC p.m)).map Dat.cells:=by
  rw [fH,fy,if_neg (fun q=>hnn q.1.symm)]; rfl
 have hlen1:(p.m.buf.set (dV p.m).toNat B).length=p.m.buf.length:=by simp
 have hst2:(fO (p.m.buf.set (dV p.m).toNat B)).set (toC p.m).toNat ((fZ (dP p.m (toC p.m)) x).map Dat.cells)=fO ((p.m.buf.set (toC p.m).toNat (fZ (dP p.m (toC p.m)) x)).set (dV p.m).toNat B):=by
  rw [jR,List.set_comm _ _ (fun q=>hnn q.symm)]
 have hcnt:=cntL_le (dP p.m (toC p.m)) x
 rw [put_ins _ _ hs] at hst2 ⊢
 have hl0:¬ ((B.length:Int)+1=0):=by omega
 have hl00:(0:Int) < (B.length:Int)+1:=by omega
 have hl01:(0:Int)≤(B.length:Int)+1:=by omega
 generalize hBB:(p.m.buf.set (toC p.m).toNat (jB (dP p.m (toC p.m)) (ld (dP p.m (toC p.m)) x) x)).set (dV p.m).toNat B=BB at *
 have hBl:BB.length=p.m.buf.length:=by rw [← hBB]; simp
 have hrest:=vd n { p with m:={ p.m with buf:=BB } } (fun q=>by
  have:=hr q
  show _∧_ < BB.length
  rw [hBl]; exact this)
 generalize settle { p.m with buf:=BB }=S at hrest ⊢
 refine dC [100001] D3.is275 (by simp) (dQ n p) (dD n p) (dD n _) (dH n p _) (fun cx _ hl _=>dB [] 1500 ?_)
 generalize hF:dV p.m=F at *
 generalize hG:toC p.m=G at *
 generalize hBT:dP p.m G=BT at *
 generalize hB1:p.m.buf.set F.toNat B=B1 at *
 have hdt:List.drop 1 (List.take ((B.length:Int)+1).toNat ([C.s (.int .i64 x)] :: B.map Dat.cells))=B.map Dat.cells:=by
  have e1:((B.length:Int)+1).toNat=B.length+1:=by omega
  rw [e1,List.take_succ_cons,List.drop_succ_cons,List.drop_zero,List.take_of_length_le (by simp)]
 rcases h with h1 | ⟨h1,h3⟩
 · obtain rfl:F=p.m.serving:=by rw [← hF,dV,if_pos h1]
   obtain rfl:G=p.m.target:=by rw [← hG,toC,if_pos h1]
   delta D3.c275 oO oN oA oM oT oG oR oQ oS oK oF oL
   simp (maxSteps:=4000000) -implicitDefEqProofs only [D3.rv275,phX,phC,dX,h1,hi0,hi2,hi3,hl0,hbg,et,List.map_cons,List.length_cons,Int.natCast_add,InR,WU,Ent.of0,Ent.of1,Ent.of2,Ent.of3,Ent.of4,V,W3,↓reduceIte,seval,reduceCtorEq]
   refine ⟨by omega,by omega,?_⟩
   refine nB [] 800 ?_
   simp (maxSteps:=4000000) -implicitDefEqProofs only [drS,lB,robC,reC,fixS,eP,AOp.reads,kE,true_or,or_true,false_or,hi0,hi2,hi3,hl0,hbg,et,hdt,hst1,List.length_map,List.map_cons,List.length_cons,Int.natCast_add,InR,WU,Ent.of0,Ent.of1,Ent.of2,Ent.of3,Ent.of4,V,W3,↓reduceIte,seval,reduceCtorEq]
   refine ⟨by omega,?_⟩
   refine dB [n6] 800 ?_
   simp (maxSteps:=4000000) -implicitDefEqProofs only [hj0,hj2,hj3,hlen1,hgt,n6,hs,hl1,et,InR,WU,Ent.of0,Ent.of1,Ent.of2,Ent.of3,Ent.of4,V,W3,↓reduceIte,seval,reduceCtorEq]
   refine qG [n7 BT (ld BT x) x hcnt hl1] 800 ?_
   simp (maxSteps:=4000000) -implicitDefEqProofs only [gK,mFin2,mj,pj,ops2,jn,reM2,oz,qv,qw,mD,finM,kD,hJ,io,gg,fq,fV,fV.fixBs,fU,ndE2,an,ag,av,aT,aF,kE,eP,aZ,bE,n7,hj0,hj2,hj3,hlen1,hgt,et,InR,WU,Ent.of0,Ent.of1,Ent.of2,Ent.of3,Ent.of4,V,W3,↓reduceIte,seval,reduceCtorEq]
   refine ⟨rfl,.inr trivial,?_⟩
   refine dB [eo 262 n { p with m:={ p.m with buf:=BB } } { p with m:=S } [.ptr 100000 0] (.tup []) trivial hrest] 800 ?_
   simp (maxSteps:=4000000) -implicitDefEqProofs only [D3.rv275,phX,phC,eo,hst2,h1,WU,Ent.of0,Ent.of1,Ent.of2,Ent.of3,Ent.of4,V,W3,↓reduceIte,seval,reduceCtorEq]
 · have h2:¬ p.m.phase=2:=by omega
   obtain rfl:F=p.m.source:=by rw [← hF,dV,if_neg h2]
   obtain rfl:G=p.m.serving:=by rw [← hG,toC,if_neg h2]
   delta D3.c275 oO oN oA oM oT oG oR oQ oS oK oF oL
   simp (maxSteps:=4000000) -implicitDefEqProofs only [D3.rv275,phX,phC,dX,h1,h2,h3,hi0,hi2,hi3,hl0,hbg,et,List.map_cons,List.length_cons,Int.natCast_add,InR,WU,Ent.of0,Ent.of1,Ent.of2,Ent.of3,Ent.of4,V,W3,↓reduceIte,seval,reduceCtorEq]
   refine ⟨by omega,by omega,?_⟩
   refine nB [] 800 ?_
   simp (maxSteps:=4000000) -implicitDefEqProofs only [drS,lB,robC,reC,fixS,eP,AOp.reads,kE,true_or,or_true,false_or,hi0,hi2,hi3,hl0,hbg,et,hdt,hst1,List.length_map,List.map_cons,List.length_cons,Int.natCast_add,InR,WU,Ent.of0,Ent.of1,Ent.of2,Ent.of3,Ent.of4,V,W3,↓reduceIte,seval,reduceCtorEq]
   refine ⟨by omega,?_⟩
   refine dB [n6] 800 ?_
   simp (maxSteps:=4000000) -implicitDefEqProofs only [hj0,hj2,hj3,hlen1,hgt,n6,hs,hl1,et,InR,WU,Ent.of0,Ent.of1,Ent.of2,Ent.of3,Ent.of4,V,W3,↓reduceIte,seval,reduceCtorEq]
   refine qG [n7 BT (ld BT x) x hcnt hl1] 800 ?_
   simp (maxSteps:=4000000) -implicitDefEqProofs only [gK,mFin2,mj,pj,ops2,jn,reM2,oz,qv,qw,mD,finM,kD,hJ,io,gg,fq,fV,fV.fixBs,fU,ndE2,an,ag,av,aT,aF,kE,eP,aZ,bE,n7,hj0,hj2,hj3,hlen1,hgt,et,InR,WU,Ent.of0,Ent.of1,Ent.of2,Ent.of3,Ent.of4,V,W3,↓reduceIte,seval,reduceCtorEq]
   refine ⟨rfl,.inr trivial,?_⟩
   refine dB [eo 262 n { p with m:={ p.m with buf:=BB } } { p with m:=S } [.ptr 100000 0] (.tup []) trivial hrest] 800 ?_
   simp (maxSteps:=4000000) -implicitDefEqProofs only [D3.rv275,phX,phC,eo,hst2,h1,h2,h3,WU,Ent.of0,Ent.of1,Ent.of2,Ent.of3,Ent.of4,V,W3,↓reduceIte,seval,reduceCtorEq]
theorem oo {x:Int} (h:0≤x∧x≤11):x=0∨x=1∨x=2∨x=3∨x=4∨x=5∨x=6∨x=7∨x=8∨x=9∨x=10∨x=11:=by omega
theorem glk : lk (Glob.gl Tryz.prog) 0=some js:=rfl
theorem s7 (n:Nw) (e:T3) (hn:NwS n):FC Tryz.prog 114 [enc n,enc e] [] (enc (evE n e)) []:=by
 have hb:=hn.c
 obtain ⟨x,y,z⟩:=e
 refine dC [] is114 (by simp) trivial trivial trivial trivial (fun cx _ hl _=>dB [eY,dS,dR,iP] 1500 ?_)
 by_cases hx:0≤x∧x≤11
 rotate_left
 · have he:evE n ⟨x,y,z⟩=15:=by rw [evE,if_pos (by simpa using hx)]
   generalize evE n ⟨x,y,z⟩=E at *
   subst he
   cases ht:eL y
   all_goals
    delta c114 oO oN oA oM oT oG oR oQ oS oK oF oL
    simp (maxSteps:=4000000) -implicitDefEqProofs only [oI,ec,dX,eY,dS,dR,iP,hx,ht,dL,not_true_eq_false,not_false_eq_true,WU,Ent.of0,Ent.of1,Ent.of2,Ent.of3,Ent.of4,V,W3,↓reduceIte,seval,reduceCtorEq]
 cases ht:eL y
 · have he:evE n ⟨x,y,z⟩=2:=by rw [evE,if_neg (by simpa using hx),if_pos ht]
   generalize evE n ⟨x,y,z⟩=E at *
   subst he
   delta c114 oO oN oA oM oT oG oR oQ oS oK oF oL
   simp (maxSteps:=4000000) -implicitDefEqProofs only [oI,ec,dX,eY,dS,dR,iP,hx,ht,dL,not_true_eq_false,not_false_eq_true,WU,Ent.of0,Ent.of1,Ent.of2,Ent.of3,Ent.of4,V,W3,↓reduceIte,seval,reduceCtorEq]
 have he:evE n ⟨x,y,z⟩=if iM x=true then (if isC n z=true then 0 else 6) else if z=0 then 0 else 3:=by
  rw [evE,if_neg (by simpa using hx),if_neg (by simp [ht])]
 generalize evE n ⟨x,y,z⟩=E at *
 subst he
 have hic:isC n z=decide (0≤z∧z≤(n.cells.length:Int) - 1):=rfl
 have glq:=glk
 unfold Glob.gl at glq
 have hr:-9223372036854775808≤(n.cells.length:Int) - 1∧(n.cells.length:Int) - 1≤9223372036854775807:=by omega
 by_cases hcell:iM x=true
 · have hk:x=3∨x=10:=by simpa [iM] using hcell
   rw [if_pos hcell]
   rcases hk with k | k <;> subst k <;> rcases Classical.propComplete (0≤z∧z≤(n.cells.length:Int) - 1) with hz | hz
   all_goals
    simp only [hz,decide_true,decide_false] at hic
    delta c114 oO oN oA oM oT oG oR oQ oS oK oF oL
    simp (maxSteps:=4000000) -implicitDefEqProofs only [oI,ec,dX,eY,dS,dR,iP,ht,hz,hic,hr,glq,js,decide_true,decide_false,List.drop_succ_cons,List.drop_zero,List.headD_cons,dL,InR,not_true_eq_false,not_false_eq_true,WU,Ent.of0,Ent.of1,Ent.of2,Ent.of3,Ent.of4,V,W3,↓reduceIte,seval,reduceCtorEq]
 · rw [if_neg hcell]
   have hk:x≠3∧x≠10:=by simpa [iM] using hcell
   rcases oo hx with k | k | k | k | k | k | k | k | k | k | k | k <;> subst k <;> first | exact absurd rfl hk.1 | exact absurd rfl hk.2 | skip
   all_goals
    by_cases hz0:z=0
   all_goals
    delta c114 oO oN oA oM oT oG oR oQ oS oK oF oL
    simp (maxSteps:=4000000) -implicitDefEqProofs only [oI,ec,dX,eY,dS,dR,iP,ht,hz0,hr,glq,js,decide_true,decide_false,List.drop_succ_cons,List.drop_zero,List.headD_cons,dL,InR,not_true_eq_false,not_false_eq_true,WU,Ent.of0,Ent.of1,Ent.of2,Ent.of3,Ent.of4,V,W3,↓reduceIte,seval,reduceCtorEq]
def lS (n:Nw) (hn:NwS n):Ent Tryz.prog:=.of2 114 (fun m _=>m=n) (fun (m:Nw) (e:T3)=>enc (evE m e)) (fun _ _=>trivial) (fun m e h=>h ▸ s7 n e hn)
def ic (n:Nw) (m:Ms) (e:T3):Int:=if evE n e≠0 then evE n e else if e.y < m.at_ then 9 else 0
theorem apply_e (n:Nw) (p:Ph) (e:T3) (hn:NwS n) (h:ic n p.m e≠0):FC Tryz.prog 118 [.ptr 100000 0,enc e] (phX n p) (enc (ic n p.m e)) (phX n p):=by
 have hdn:=gN n
 have hE:ic n p.m e=if evE n e≠0 then evE n e else if e.y < p.m.at_ then 9 else 0:=rfl
 refine dC [100001] is118 (by simp) (dQ n p) (dD n p) (dD n _) (dH n p _) (fun cx _ hl _=>dB [lS n hn,dS,dR] 1500 ?_)
 generalize ic n p.m e=E at *
 generalize hv:evE n e=v at *
 by_cases h1:v=0
 · subst h1
   rw [if_neg (by simp)] at hE
   by_cases h2:e.y < p.m.at_
   · rw [if_pos h2] at hE
     subst hE
     have h3:¬ p.m.at_≤e.y:=by omega
     delta c118 oO oN oA oM oT oG oR oQ oS oK oF oL
     simp (maxSteps:=4000000) -implicitDefEqProofs only [rv118,phX,phC,dX,mr,hdn,lS,dS,dR,hv,h3,dL,not_true_eq_false,not_false_eq_true,WU,Ent.of0,Ent.of1,Ent.of2,Ent.of3,Ent.of4,V,W3,↓reduceIte,seval,reduceCtorEq]
   · rw [if_neg h2] at hE; exact absurd hE h
 · rw [if_pos h1] at hE
   subst hE
   rcases Classical.propComplete (p.m.at_≤e.y) with h3 | h3
   all_goals
    delta c118 oO oN oA oM oT oG oR oQ oS oK oF oL
    simp (maxSteps:=4000000) -implicitDefEqProofs only [rv118,phX,phC,dX,mr,hdn,lS,dS,dR,hv,h1,h3,dL,not_true_eq_false,not_false_eq_true,WU,Ent.of0,Ent.of1,Ent.of2,Ent.of3,Ent.of4,V,W3,↓reduceIte,seval,reduceCtorEq]
theorem apply_k (n:Nw) (p:Ph) (e:T3) (hn:NwS n) (he:evE n e=0) (hy:p.m.at_≤e.y) (hd:InR .i64 (p.m.since+n.limit)) (hp:jI n p.m e.y=true→ConOk n p 0 (p.m.since+n.limit)) (q:Ph) (r:Int) (hx:0≤e.x∧e.x≤11)
 (hM:FC Tryz.prog (268+e.x.toNat) [.ptr 100000 0,enc e] (phX n (eO n p e.y)) (enc r) (phX n q)) :
 FC Tryz.prog 118 [.ptr 100000 0,enc e] (phX n p) (enc r) (phX n (if r=0 then atP q e.y else q)):=by
 have hdn:=gN n
 have hpass:=pass_c n p e.y hd hp
 generalize eO n p e.y=p1 at *
 have glq:=glk
 unfold Glob.gl at glq
 refine dC [100001] D4.is118 (by simp) (dQ n p) (dD n p) (dD n _) (dH n p _) (fun cx _ hl _=>dB [lS n hn,dS,dR,eo 151 n p p1 [.ptr 100000 0,enc e.y] (.tup []) trivial hpass] 1500 ?_)
 delta D4.c118 oO oN oA oM oT oG oR oQ oS oK oF oL
 simp (maxSteps:=4000000) -implicitDefEqProofs only [D4.rv118,phX,phC,dX,mr,hdn,lS,dS,dR,eo,he,hy,dL,not_true_eq_false,not_false_eq_true,WU,Ent.of0,Ent.of1,Ent.of2,Ent.of3,Ent.of4,V,W3,↓reduceIte,seval,reduceCtorEq]
 obtain ⟨x,y,z⟩:=e
 simp only at hx hy hpass
 rcases oo hx with k | k | k | k | k | k | k | k | k | k | k | k <;> subst k
 all_goals
  refine iv (dB [eo _ n p1 q [.ptr 100000 0,enc _] (enc r) trivial hM] 1000 ?_)
 all_goals
  rcases Classical.propComplete (r=0) with h0 | h0
 all_goals
  delta D4.c118k1 oO oN oA oM oT oG oR oQ oS oK oF oL
  simp (maxSteps:=4000000) -implicitDefEqProofs only [D4.rv118,phX,phC,dX,mr,eo,h0,glq,js,atP,List.drop_succ_cons,List.drop_zero,List.headD_cons,not_true_eq_false,not_false_eq_true,WU,Ent.of0,Ent.of1,Ent.of2,Ent.of3,Ent.of4,V,W3,↓reduceIte,seval,reduceCtorEq]
  try exact (of_eq_true h0).symm
structure PhB (p:Ph):Prop where
 s0:0 < p.stays.length
 s1:p.stays.length≤900000
 r1:p.recv.length≤900000
 o1:-1≤p.out∧p.out≤1000000000
theorem qV {n:Nw} {p:Ph} {c t:Int} (hn:NwS n) (net:NetOk n) (hl:p.m.buf.length=n.cells.length) (hf:p.m.buf.flatten.length≤60) (b:PhB p) (hc:isC n c=true) (ht:0≤t∧t≤2000000000):ConOk n p c t:=by
 have h1:=fR hc
 have h2:=net.len
 have h3:=b.o1
 have h4:=b.s1
 exact ⟨hn,⟨h1.1,h1.2.1⟩,hl,by omega,by omega,⟨b.s0,by omega⟩,fun _=>by simp only [InR]; omega⟩
theorem pL {l:List Int} (h:l≠[]):∃ x t,l=x :: t:=by
 cases l with
 | nil=>exact absurd rfl h
 | cons x t=>exact ⟨x,t,rfl⟩
theorem ap_len {n:Nw} {m:Ms} (g:G0 n m) (c:Int):(dP m c).length≤60:=by
 rcases Nat.lt_or_ge c.toNat m.buf.length with h | h
 · have:=(fS m.buf c.toNat h).length_eq
   have h2:=g.large
   rw [List.length_append] at this
   show (m.buf.getD c.toNat []).length≤60
   omega
 · show (m.buf.getD c.toNat []).length≤60
   rw [List.getD_eq_getElem?_getD,List.getElem?_eq_none h]; simp
def DoC (n:Nw) (p:Ph) (e:T3):Prop:=∃ q,FC Tryz.prog (268+e.x.toNat) [.ptr 100000 0,enc e] (phX n p) (enc (ez n p.m e)) (phX n q)∧(ez n p.m e=0→q=doP p e)
theorem do_data (n:Nw) (p:Ph) (y z:Int) (hf:p.m.buf.flatten.length≤60) (hl:p.m.buf.length≤1000) (hp:0≤p.m.path∧p.m.path.toNat < p.m.buf.length) (hfr:0≤p.m.fresh∧p.m.fresh≤1000000) (hb:(dP p.m p.m.path).length≤60) (hst:settle (eJ p.m ⟨0,y,z⟩)=eJ p.m ⟨0,y,z⟩):DoC n p ⟨0,y,z⟩:=by
 have hk:=nq p.m.buf
 have hD:ez n p.m ⟨0,y,z⟩=if 60≤fi p.m.buf∨1000000≤p.m.fresh then 16 else 0:=rfl
 unfold DoC
 generalize ez n p.m ⟨0,y,z⟩=D at *
 by_cases h:60≤fi p.m.buf∨1000000≤p.m.fresh
 · rw [if_pos h] at hD
   subst hD
   exact ⟨p,data_e n p ⟨0,y,z⟩ h (by omega) (by omega),fun q=>by cases q⟩
 · rw [if_neg h] at hD
   subst hD
   refine ⟨_,data_ok n p ⟨0,y,z⟩ (by omega) (by omega) (by omega) (by omega) hp (by simp only [InR]; omega) (by omega),fun _=>?_⟩
   simp only [doP,Int.reduceEq,if_false,hst,false_and,or_self]
   rfl
theorem do_send (n:Nw) (p:Ph) (y z:Int) (hs:0≤p.m.serving∧p.m.serving.toNat < p.m.buf.length) (hg:0≤p.m.got∧p.m.got≤1000000) (hr:p.recv.length≤900000) (hst:settle (eJ p.m ⟨1,y,z⟩)=eJ p.m ⟨1,y,z⟩):DoC n p ⟨1,y,z⟩:=by
 have hD:ez n p.m ⟨1,y,z⟩=if ei p.m=true then 22 else if dP p.m p.m.serving=[] then 12 else if p.m.got < (dP p.m p.m.serving).headD 0 then 14 else 0:=rfl
 unfold DoC
 generalize ez n p.m ⟨1,y,z⟩=D at *
 by_cases h:ei p.m=true
 · rw [if_pos h] at hD
   subst hD
   exact ⟨p,send_e1 n p ⟨1,y,z⟩ h,fun q=>by cases q⟩
 rw [if_neg h] at hD
 have h':ei p.m=false:=by simpa using h
 by_cases hb:dP p.m p.m.serving=[]
 · rw [if_pos hb] at hD
   subst hD
   exact ⟨p,send_e2 n p ⟨1,y,z⟩ h' hs hb,fun q=>by cases q⟩
 rw [if_neg hb] at hD
 obtain ⟨x,l,hx⟩:=pL hb
 rw [hx,List.headD_cons] at hD
 by_cases hxg:p.m.got < x
 · rw [if_pos hxg] at hD
   subst hD
   exact ⟨p,send_e3 n p ⟨1,y,z⟩ h' hs x l hx hxg,fun q=>by cases q⟩
 rw [if_neg hxg] at hD
 subst hD
 by_cases hxe:x=p.m.got
 · refine ⟨_,wD n p ⟨1,y,z⟩ h' hs x l hx hxe (by omega) (by simp only [InR]; omega),fun _=>?_⟩
   have ha:eJ p.m ⟨1,y,z⟩={ p.m with got:=p.m.got+1 }:=by
    simp only [eJ,Int.reduceEq,if_true,if_false,hx,List.headD_cons,hxe]
   rw [ha] at hst
   simp only [doP,Int.reduceEq,if_false,ha,hst,hx,List.headD_cons,hxe,true_and,if_true,or_self]
 · refine ⟨_,wE n p ⟨1,y,z⟩ h' hs x l hx (by omega),fun _=>?_⟩
   have ha:eJ p.m ⟨1,y,z⟩=p.m:=by
    simp only [eJ,Int.reduceEq,if_true,if_false,hx,List.headD_cons,hxe]
   rw [ha] at hst
   simp only [doP,Int.reduceEq,if_false,ha,hst,hx,List.headD_cons,hxe,and_false,or_self]
theorem do_ack (n:Nw) (p:Ph) (y z:Int) (hs:0≤p.m.serving∧p.m.serving.toNat < p.m.buf.length) (hb:(dP p.m p.m.serving).length≤60) (hst:settle (eJ p.m ⟨2,y,z⟩)=eJ p.m ⟨2,y,z⟩):DoC n p ⟨2,y,z⟩:=by
 have hD:ez n p.m ⟨2,y,z⟩=if ei p.m=true then 22 else 0:=rfl
 unfold DoC
 generalize ez n p.m ⟨2,y,z⟩=D at *
 by_cases h:ei p.m=true
 · rw [if_pos h] at hD
   subst hD
   exact ⟨p,ack_e n p ⟨2,y,z⟩ h,fun q=>by cases q⟩
 rw [if_neg h] at hD
 subst hD
 refine ⟨_,ack_ok n p ⟨2,y,z⟩ (by simpa using h) hs (by omega),fun _=>?_⟩
 simp only [doP,Int.reduceEq,if_false,hst,false_and,or_self]
 rfl
theorem sY (n:Nw) (p:Ph) (y z:Int) (hst:settle (eJ p.m ⟨3,y,z⟩)=eJ p.m ⟨3,y,z⟩):DoC n p ⟨3,y,z⟩:=by
 have hD:ez n p.m ⟨3,y,z⟩=dL [if p.m.phase=0 then 0 else 22,if p.m.source=-1 then 0 else 17,if nbr n z p.m.serving=true then 0 else 6]:=by
  have:ez n p.m ⟨3,y,z⟩=if p.m.phase≠0 then 22 else if p.m.source≠-1 then 17 else if nbr n z p.m.serving=true then 0 else 6:=rfl
  rw [this]
  by_cases h1:p.m.phase=0 <;> by_cases h2:p.m.source=-1 <;> cases h3:nbr n z p.m.serving <;> simp [h1,h2,dL]
 unfold DoC
 by_cases h:ez n p.m ⟨3,y,z⟩=0
 · rw [h]
   have h1:p.m.phase=0∧p.m.source=-1∧nbr n z p.m.serving=true:=by
    rw [h] at hD
    by_cases h1:p.m.phase=0 <;> by_cases h2:p.m.source=-1 <;> cases h3:nbr n z p.m.serving <;> simp [h1,h2,h3,dL] at hD ⊢
   refine ⟨_,to n p ⟨3,y,z⟩ h1.1 h1.2.1 h1.2.2,fun _=>?_⟩
   simp only [doP,Int.reduceEq,if_false,hst,false_and,or_self]
   rfl
 · have hne:=h
   rw [hD] at hne ⊢
   exact ⟨p,uX n p ⟨3,y,z⟩ hne,fun q=>absurd q hne⟩
theorem tY (n:Nw) (p:Ph) (y z:Int) (hst:settle (eJ p.m ⟨4,y,z⟩)=eJ p.m ⟨4,y,z⟩):DoC n p ⟨4,y,z⟩:=by
 have hD:ez n p.m ⟨4,y,z⟩=if p.m.phase≠1 then 22 else 0:=rfl
 unfold DoC
 generalize ez n p.m ⟨4,y,z⟩=D at *
 by_cases h:p.m.phase=1
 · rw [if_neg (fun q=>q h)] at hD
   subst hD
   refine ⟨_,tR n p ⟨4,y,z⟩ h,fun _=>?_⟩
   simp only [doP,Int.reduceEq,if_false,hst,false_and,or_self]
   rfl
 · rw [if_pos h] at hD
   subst hD
   exact ⟨p,vA n p ⟨4,y,z⟩ h,fun q=>by cases q⟩
theorem sW (n:Nw) (p:Ph) (y z:Int) (hst:settle (eJ p.m ⟨5,y,z⟩)=eJ p.m ⟨5,y,z⟩):DoC n p ⟨5,y,z⟩:=by
 have hD:ez n p.m ⟨5,y,z⟩=if p.m.phase≠1 then 22 else 0:=rfl
 unfold DoC
 generalize ez n p.m ⟨5,y,z⟩=D at *
 by_cases h:p.m.phase=1
 · rw [if_neg (fun q=>q h)] at hD
   subst hD
   refine ⟨_,sV n p ⟨5,y,z⟩ h,fun _=>?_⟩
   simp only [doP,iR,Int.reduceEq,if_false,if_true,hst,false_and,true_or,or_self]
   rfl
 · rw [if_pos h] at hD
   subst hD
   exact ⟨p,tU n p ⟨5,y,z⟩ h,fun q=>by cases q⟩
theorem rY (n:Nw) (p:Ph) (y z:Int) (b:PhB p) (hy:0≤y∧y≤1000000000) (hst:settle (eJ p.m ⟨6,y,z⟩)=eJ p.m ⟨6,y,z⟩):DoC n p ⟨6,y,z⟩:=by
 have hD:ez n p.m ⟨6,y,z⟩=if p.m.phase≠2 then 22 else 0:=rfl
 have h3:=b.o1
 have h4:=b.s1
 unfold DoC
 generalize ez n p.m ⟨6,y,z⟩=D at *
 by_cases h:p.m.phase=2
 · rw [if_neg (fun q=>q h)] at hD
   subst hD
   refine ⟨_,rX n p ⟨6,y,z⟩ h ⟨b.s0,by omega⟩ (fun _=>by simp only [InR]; omega),fun _=>?_⟩
   simp only [doP,Int.reduceEq,if_false,if_true,hst,false_and,or_self]
   rfl
 · rw [if_pos h] at hD
   subst hD
   exact ⟨p,nR n p ⟨6,y,z⟩ h,fun q=>by cases q⟩
theorem do_fail (n:Nw) (p:Ph) (y z:Int) (hst:settle (eJ p.m ⟨9,y,z⟩)=eJ p.m ⟨9,y,z⟩):DoC n p ⟨9,y,z⟩:=by
 have hD:ez n p.m ⟨9,y,z⟩=if p.m.phase=3 then 22 else 0:=rfl
 unfold DoC
 generalize ez n p.m ⟨9,y,z⟩=D at *
 by_cases h:p.m.phase=3
 · rw [if_pos h] at hD
   subst hD
   exact ⟨p,fail_e n p ⟨9,y,z⟩ h,fun q=>by cases q⟩
 · rw [if_neg h] at hD
   subst hD
   refine ⟨_,fail_ok n p ⟨9,y,z⟩ h,fun _=>?_⟩
   simp only [doP,iR,Int.reduceEq,if_false,if_true,hst,false_and,or_true,or_self]
   rfl
theorem do_pass (n:Nw) (p:Ph) (y z:Int) (hst:settle (eJ p.m ⟨11,y,z⟩)=eJ p.m ⟨11,y,z⟩):DoC n p ⟨11,y,z⟩:=by
 refine ⟨_,uW n p ⟨11,y,z⟩,fun _=>?_⟩
 simp only [doP,Int.reduceEq,if_false,hst,false_and,or_self]
 rfl
theorem do_turn (n:Nw) (p:Ph) (y z:Int) (hr:p.m.source≠-1→0≤p.m.source∧p.m.source.toNat < p.m.buf.length):DoC n p ⟨8,y,z⟩:=by
 have hD:ez n p.m ⟨8,y,z⟩=if p.m.source=-1 then 12 else if p.m.phase=3 then 22 else if p.m.path=p.m.serving then 26 else 0:=rfl
 unfold DoC
 generalize ez n p.m ⟨8,y,z⟩=D at *
 by_cases h1:p.m.source=-1
 · rw [if_pos h1] at hD
   subst hD
   exact ⟨p,turn_e1 n p ⟨8,y,z⟩ h1,fun q=>by cases q⟩
 rw [if_neg h1] at hD
 by_cases h2:p.m.phase=3
 · rw [if_pos h2] at hD
   subst hD
   exact ⟨p,turn_e2 n p ⟨8,y,z⟩ h1 h2,fun q=>by cases q⟩
 rw [if_neg h2] at hD
 by_cases h3:p.m.path=p.m.serving
 · rw [if_pos h3] at hD
   subst hD
   exact ⟨p,turn_e3 n p ⟨8,y,z⟩ h1 h2 h3,fun q=>by cases q⟩
 rw [if_neg h3] at hD
 subst hD
 refine ⟨_,turn_ok n p ⟨8,y,z⟩ h1 h2 h3 hr,fun _=>?_⟩
 simp only [doP,Int.reduceEq,if_false,false_and,or_self]
 rfl
theorem sX (n:Nw) (p:Ph) (y z:Int) (hf:p.m.phase=2∨(p.m.phase=0∧¬ p.m.source=-1)→(0≤dV p.m∧(dV p.m).toNat < p.m.buf.length)∧(0≤toC p.m∧(toC p.m).toNat < p.m.buf.length)∧dV p.m≠toC p.m)
 (hs:(dP p.m (toC p.m)).Pairwise (·≤·)) (hl:∀ c,(dP p.m c).length≤60) (hr:p.m.source≠-1→0≤p.m.source∧p.m.source.toNat < p.m.buf.length):DoC n p ⟨7,y,z⟩:=by
 have hD:ez n p.m ⟨7,y,z⟩=if p.m.phase≠2∧(p.m.phase≠0∨p.m.source=-1) then 22 else if dP p.m (dV p.m)=[] then 12 else 0:=rfl
 unfold DoC
 generalize ez n p.m ⟨7,y,z⟩=D at *
 by_cases h:p.m.phase≠2∧(p.m.phase≠0∨p.m.source=-1)
 · rw [if_pos h] at hD
   subst hD
   exact ⟨p,s9 n p ⟨7,y,z⟩ h.1 h.2,fun q=>by cases q⟩
 rw [if_neg h] at hD
 have h':p.m.phase=2∨(p.m.phase=0∧¬ p.m.source=-1):=by omega
 obtain ⟨f1,f2,f3⟩:=hf h'
 by_cases hb:dP p.m (dV p.m)=[]
 · rw [if_pos hb] at hD
   subst hD
   exact ⟨p,tb n p ⟨7,y,z⟩ h' f1 hb,fun q=>by cases q⟩
 rw [if_neg hb] at hD
 subst hD
 obtain ⟨x,B,hx⟩:=pL hb
 have hlB:=hl (dV p.m)
 have hlT:=hl (toC p.m)
 rw [hx] at hlB
 simp only [List.length_cons] at hlB
 refine ⟨_,tc n p ⟨7,y,z⟩ h' f1 f2 f3 x B hx hs (by omega) (by omega) hr,fun _=>?_⟩
 have ha:eJ p.m ⟨7,y,z⟩={ p.m with buf:=(p.m.buf.set (toC p.m).toNat (fZ (dP p.m (toC p.m)) x)).set (dV p.m).toNat B }:=by
  simp only [eJ,Int.reduceEq,if_true,if_false,hx,List.headD_cons,List.tail_cons]
 simp only [doP,Int.reduceEq,if_false,ha,false_and,or_self]
theorem sZ (n:Nw) (p:Ph) (y z:Int) (hc:isC n z=true) (hk:ConOk n p z y):DoC n p ⟨10,y,z⟩:=by
 have hz:=fR hc
 have hD:ez n p.m ⟨10,y,z⟩=recE p ⟨10,y,z⟩:=by
  have:ez n p.m ⟨10,y,z⟩=if p.m.phase≠3 then 22 else if z≠p.m.serving∧(p.m.target=-1∨z≠p.m.target)∧(p.m.source=-1∨z≠p.m.source) then 6 else 0:=rfl
  rw [this,recE]
  simp only [List.any_cons,List.any_nil,Bool.or_false,Bool.or_eq_true,decide_eq_true_eq]
  by_cases h1:p.m.phase=3
  · rw [if_neg (fun q=>q h1),if_pos h1]
    simp only [dL,ne_eq,not_true_eq_false,if_false]
    by_cases h2:z=p.m.serving∨z=p.m.target∨z=p.m.source
    · rw [if_neg (by omega),if_pos h2]; simp
    · rw [if_pos (by omega),if_neg h2]; simp
  · rw [if_pos h1,if_neg h1]; simp [dL]
 unfold DoC
 by_cases h:recE p ⟨10,y,z⟩=0
 · rw [hD,h]
   have h1:p.m.phase=3∧([p.m.serving,p.m.target,p.m.source].any fun x=>decide (z=x))=true:=by
    unfold recE at h
    by_cases h1:p.m.phase=3 <;> cases h2:([p.m.serving,p.m.target,p.m.source].any fun x=>decide (z=x))
    all_goals
     simp only [h1,if_true,if_false,dL] at h
     simp only [h2] at h
     simp at h
    exact ⟨h1,rfl⟩
   refine ⟨_,tu n p ⟨10,y,z⟩ h1.1 h1.2 hk,fun _=>?_⟩
   simp only [doP,if_true]
 · rw [hD]
   exact ⟨p,u6 n p ⟨10,y,z⟩ h,fun q=>absurd q h⟩
structure PhK (k:Nat) (p:Ph):Prop where
 s0:0 < p.stays.length
 s1:p.stays.length≤2*k+1
 r1:p.recv.length≤k
 o1:-1≤p.out∧p.out≤1000000000
theorem vh (l:List T3) (t:Int):(jK l t).length=l.length:=by simp [jK]
theorem pc (l:List T3) (a b t:Int):l.length≤(chg l a b t).length∧(chg l a b t).length≤l.length+1:=by
 unfold chg
 split
 · omega
 · simp [vh]
theorem pR (n:Nw) (p:Ph) (t:Int):(p.stays.length≤(eO n p t).stays.length∧(eO n p t).stays.length≤p.stays.length+1)∧(eO n p t).recv=p.recv∧((eO n p t).out=p.out∨(eO n p t).out=-1):=by
 unfold eO
 split
 · exact ⟨pc _ _ _ _,rfl,.inr rfl⟩
 · exact ⟨by omega,rfl,.inl rfl⟩
theorem do_lens (p:Ph) (e:T3) (hy:0≤e.y∧e.y≤1000000000):(p.stays.length≤(doP p e).stays.length∧(doP p e).stays.length≤p.stays.length+1)∧(doP p e).recv.length≤p.recv.length+1∧(-1≤p.out∧p.out≤1000000000→-1≤(doP p e).out∧(doP p e).out≤1000000000):=by
 unfold doP
 by_cases h:e.x=10
 · rw [if_pos h]
   exact ⟨pc _ _ _ _,by show p.recv.length≤_; omega,fun _=>by show (-1:Int)≤-1∧(-1:Int)≤_; omega⟩
 · rw [if_neg h]
   refine ⟨?_,?_,fun ho=>?_⟩
   · by_cases h6:e.x=6
     · simp only [h6,if_true]; exact pc _ _ _ _
     · simp only [h6,if_false]; omega
   · by_cases h6:e.x=1∧(dP p.m p.m.serving).headD 0=p.m.got
     · simp only [h6,and_self,if_true,List.length_append,List.length_cons,List.length_nil]; omega
     · simp only [h6,if_false]; omega
   · show -1≤(if _ then _ else _:Int)∧(if _ then _ else _:Int)≤_
     split
     · split <;> omega
     · split <;> omega
theorem PhK.apply {n:Nw} {k:Nat} {p:Ph} {e:T3} (h:PhK k p) (hy:0≤e.y∧e.y≤1000000000):PhK (k+1) (kK n p e):=by
 have h1:=pR n p e.y
 have h2:=do_lens (eO n p e.y) e hy
 have h3:=h.s0
 have h4:=h.s1
 have h5:=h.r1
 have h6:=h.o1
 rw [h1.2.1] at h2
 refine ⟨?_,?_,?_,h2.2.2 ?_⟩
 · show 0 < (doP (eO n p e.y) e).stays.length; omega
 · show (doP (eO n p e.y) e).stays.length≤_; omega
 · show (doP (eO n p e.y) e).recv.length≤_; omega
 · rcases h1.2.2 with q | q <;> rw [q] <;> omega
theorem ev_ok {n:Nw} {e:T3} (h:evE n e=0):(0≤e.x∧e.x≤11)∧(0≤e.y∧e.y≤1000000000)∧(iM e.x=true→isC n e.z=true):=by
 unfold evE at h
 by_cases h1:0≤e.x∧e.x≤11
 · rw [if_neg (by simp [h1])] at h
   by_cases h2:eL e.y=true
   · rw [if_neg (by simp [h2])] at h
     simp only [eL,decide_eq_true_eq] at h2
     refine ⟨h1,h2,fun q=>?_⟩
     rw [if_pos q] at h
     rcases Classical.em (isC n e.z=true) with q2 | q2
     · exact q2
     · rw [if_neg q2] at h; cases h
   · rw [if_pos (by simpa using h2)] at h; cases h
 · rw [if_pos (by simpa using h1)] at h; cases h
theorem apply_c (n:Nw) (p:Ph) (e:T3) (k:Nat) (hn:NwS n) (net:NetOk n) (g:dO n p.m) (b:PhK k p) (hk:k≤400000) :
 ∃ q,FC Tryz.prog 118 [.ptr 100000 0,enc e] (phX n p) (enc (gh n p.m e)) (phX n q)∧(gh n p.m e=0→q=kK n p e):=by
 by_cases hfr:ic n p.m e=0
 · have hev:evE n e=0:=by
    rcases Classical.em (evE n e=0) with q | q
    · exact q
    · rw [ic,if_pos q] at hfr; exact absurd hfr q
   have hat:p.m.at_≤e.y:=by
    rw [ic,if_neg (by simp [hev])] at hfr
    rcases Classical.em (e.y < p.m.at_) with q | q
    · rw [if_pos q] at hfr; cases hfr
    · omega
   obtain ⟨hx,hy,hcz⟩:=ev_ok hev
   have hE:gh n p.m e=ez n (lA n p.m e.y) e:=by
    rw [gh,if_neg (by simp [hev]),qB,if_neg (by omega)]
   have hE2:ez n (lA n p.m e.y) e=ez n (eO n p e.y).m e:=by
    rw [pm]; rfl
   have G:=dO.pass net g hat hy.2
   have b1:PhB (eO n p e.y):=by
    have h1:=pR n p e.y
    have h3:=b.s0
    have h4:=b.s1
    have h5:=b.r1
    have h6:=b.o1
    refine ⟨by omega,by omega,by rw [h1.2.1]; omega,?_⟩
    rcases h1.2.2 with q | q <;> rw [q] <;> omega
   have hm:({ (eO n p e.y).m with at_:=e.y }:Ms)=lA n p.m e.y:=by rw [pm]; rfl
   have hsi:=g.since
   have hai:=g.at_
   have hli:=net.lim
   have b0:PhB p:=by
    have h3:=b.s0
    have h4:=b.s1
    have h5:=b.r1
    exact ⟨h3,by omega,by omega,b.o1⟩
   have hdo:DoC n (eO n p e.y) e:=by
    rw [← hm] at G
    generalize eO n p e.y=p1 at *
    have hle:=net.len
    have hlen:p1.m.buf.length=n.cells.length:=G.len
    have hpth:isC n p1.m.path=true:=G.pth
    have hsrv:isC n p1.m.serving=true:=G.srv
    have hsrc:p1.m.source≠-1→isC n p1.m.source=true:=G.src
    have htgt:p1.m.target≠-1→isC n p1.m.target=true:=G.tgt
    have hc1:p1.m.target≠-1→nbr n p1.m.target p1.m.serving=true:=G.c1
    have hc2:p1.m.source≠-1→nbr n p1.m.source p1.m.serving=true:=G.c2
    have hf2:p1.m.target=-1→p1.m.phase≠1∧p1.m.phase≠2:=G.f2
    have hf3:p1.m.source≠-1→p1.m.phase≠1∧p1.m.phase≠2∧p1.m.target=-1:=G.f3
    have hf4:p1.m.path≠p1.m.serving→p1.m.source≠-1∧p1.m.path=p1.m.source:=G.f4
    have hbusy:p1.m.source≠-1→p1.m.path=p1.m.serving→dP p1.m p1.m.source≠[]:=G.busy
    have hlarge:p1.m.buf.flatten.length≤60:=G.large
    have hfresh:0≤p1.m.fresh∧p1.m.fresh≤1000000:=G.fresh
    have hgot:0≤p1.m.got∧p1.m.got≤p1.m.fresh:=G.got
    have hbl:∀ c,(dP p1.m c).length≤60:=fun c=>ap_len G.toG0 c
    have hasc:∀ c,(dP p1.m c).Pairwise (·≤·):=fun c=>p5 (G.toG0.asc_at c.toNat)
    have ix:∀ {c:Int},isC n c=true→0≤c∧c.toNat < p1.m.buf.length:=fun h=>by
     have:=fR h; omega
    clear hE hE2 hm
    have hst:(e.x=6→p1.m.phase=2)→e.x≠7→e.x≠8→settle (eJ p1.m e)=eJ p1.m e:=fun h6 h7 h8=>by
     refine tA net hlen hpth hsrv hsrc htgt hc1 hc2 hbusy (fun q=>?_) hx h7 h8
     have h2:=h6 q
     have ht:p1.m.target≠-1:=fun q2=>(hf2 q2).2 h2
     refine ⟨ht,?_⟩
     rcases Classical.em (p1.m.path=p1.m.serving) with q2 | q2
     · exact q2
     · exact absurd h2 (hf3 (hf4 q2).1).2.1
    obtain ⟨x,y,z⟩:=e
    simp only at hx hy hcz hst
    have hxs:x=0∨x=1∨x=2∨x=3∨x=4∨x=5∨x=6∨x=7∨x=8∨x=9∨x=10∨x=11:=by omega
    rcases hxs with q | q | q | q | q | q | q | q | q | q | q | q <;> subst q
    · exact do_data n p1 y z hlarge (by omega) (ix hpth) hfresh (hbl _) (hst (by omega) (by omega) (by omega))
    · exact do_send n p1 y z (ix hsrv) (by omega) b1.r1 (hst (by omega) (by omega) (by omega))
    · exact do_ack n p1 y z (ix hsrv) (hbl _) (hst (by omega) (by omega) (by omega))
    · exact sY n p1 y z (hst (by omega) (by omega) (by omega))
    · exact tY n p1 y z (hst (by omega) (by omega) (by omega))
    · exact sW n p1 y z (hst (by omega) (by omega) (by omega))
    · by_cases h2:p1.m.phase=2
      · exact rY n p1 y z b1 hy (hst (fun _=>h2) (by omega) (by omega))
      · have hD:ez n p1.m ⟨6,y,z⟩=22:=by
         show (if p1.m.phase≠2 then (22:Int) else 0)=22
         rw [if_pos h2]
        unfold DoC
        rw [hD]
        exact ⟨p1,nR n p1 ⟨6,y,z⟩ h2,fun q=>by cases q⟩
    · refine sX n p1 y z (fun h=>?_) (hasc _) hbl (fun q=>ix (hsrc q))
      by_cases h2:p1.m.phase=2
      · have ht:p1.m.target≠-1:=fun q2=>(hf2 q2).2 h2
        rw [dV,toC,if_pos h2,if_pos h2]
        exact ⟨ix hsrv,ix (htgt ht),fun h=>net.ne _ _ (hc1 ht) h.symm⟩
      · have hs:p1.m.source≠-1:=by
         rcases h with h | h
         · exact absurd h h2
         · exact h.2
        rw [dV,toC,if_neg h2,if_neg h2]
        exact ⟨ix (hsrc hs),ix hsrv,net.ne _ _ (hc2 hs)⟩
    · exact do_turn n p1 y z (fun q=>ix (hsrc q))
    · exact do_fail n p1 y z (hst (by omega) (by omega) (by omega))
    · have hc:=hcz (by simp [iM])
      exact sZ n p1 y z hc (qV hn net hlen hlarge b1 hc (by omega))
    · exact do_pass n p1 y z (hst (by omega) (by omega) (by omega))
   obtain ⟨q,hq,hq2⟩:=hdo
   refine ⟨if ez n (eO n p e.y).m e=0 then atP q e.y else q,?_,fun h=>?_⟩
   · rw [hE,hE2]
     exact apply_k n p e hn hev hat (by simp only [InR]; omega) (fun _=>qV hn net g.len g.large b0 (by simp only [isC,decide_eq_true_eq]; have:=net.len; omega) (by omega)) q _ hx hq
   · rw [hE,hE2] at h
     rw [if_pos h,hq2 h]; rfl
 · have hE:gh n p.m e=ic n p.m e:=by
    unfold gh ic qB
    by_cases h:evE n e≠0
    · rw [if_pos h,if_pos h]
    · rw [if_neg h,if_neg h]
      by_cases h2:e.y < p.m.at_
      · rw [if_pos h2,if_pos h2]
      · exfalso
        rw [ic,if_neg h,if_neg h2] at hfr
        exact hfr rfl
   rw [hE]
   exact ⟨p,apply_e n p e hn hfr,fun h=>absurd h hfr⟩
def phY (n:Nw) (p:Ph) (a b:Nat):Chs:=[(a,.box (phC n p b)),(b,.deep 1 3 24 none (fO p.m.buf))]
end Go.Proofs.YtcbabnbiinkafaaGreatDoor
end
