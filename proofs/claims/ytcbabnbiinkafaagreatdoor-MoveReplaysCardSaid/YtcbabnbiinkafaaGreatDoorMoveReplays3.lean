/- Part 3 of the proof of: MoveReplays returns true for every input and never panics: the state behind a log, or the number of a wrong event and the error, and the numbers that the phone takes, are as the reference says; conditions: those of the given statement, that the package variables it lists hold what their initialisers lay. -/
import Derived.Test.YtcbabnbiinkafaaGreatDoorMoveReplays2
set_option linter.all false
section
open Go Go.Am
open Go.Am.Dat (cells)
namespace Go.Proofs.YtcbabnbiinkafaaGreatDoor
set_option maxHeartbeats 4000000
set_option maxRecDepth 100000
theorem hdn_msn : fw (.agg [C.s (.int .i64 0),.s (.int .i64 0),.s (.int .i64 0),.s (.int .i64 0),.s (.int .i64 0),.s (.int .i64 0),.s (.int .i64 0),.s (.int .i64 0),.s (.int .i64 0),.s (.slice none 0 0)])=some ms0:=rfl
theorem xR (haw:Awake) (n:Nw) (c:Int) (l:List T3):FC Tryz.prog 5 [enc n,enc c,enc l] [] (enc true) []:=by
 have hdn:=gN n
 by_cases hfew:few n=true
 rotate_left
 · have hf:few n=false:=by simpa using hfew
   refine dC [] is5 (by simp) (by simp [bj]) (by simp [an,ag]) (by simp [an,ag]) (by simp [aB]) (fun cx _ _ _=>dB [ent21 haw,ent34] 1500 ?_)
   delta c5 oO oN oA oM oT oG oR oQ oS oK oF oL
   simp (maxSteps:=4000000) -implicitDefEqProofs only [rv5,ent21,ent34,ec,hdn,hf,not_true_eq_false,WU,Ent.of0,Ent.of1,Ent.of2,Ent.of3,Ent.of4,V,W3,↓reduceIte,seval,reduceCtorEq]
 by_cases hsh:l.length≤40∨(200 < l.length∧l.length≤202)
 rotate_left
 · have hs:=decide_eq_false hsh
   refine dC [] is5 (by simp) (by simp [bj]) (by simp [an,ag]) (by simp [an,ag]) (by simp [aB]) (fun cx _ _ _=>dB [ent21 haw,ent34,xc] 1500 ?_)
   delta c5 oO oN oA oM oT oG oR oQ oS oK oF oL
   simp (maxSteps:=4000000) -implicitDefEqProofs only [rv5,ent21,ent34,xc,ec,hdn,hfew,hs,not_true_eq_false,WU,Ent.of0,Ent.of1,Ent.of2,Ent.of3,Ent.of4,V,W3,↓reduceIte,seval,reduceCtorEq]
 have hs:=decide_eq_true hsh
 have hn:=few_nws hfew
 have hl:l.length≤1000000:=by omega
 have hrep:=vq n c l hn
 have hrec:=sO n c l hn
 unfold po at hrep
 by_cases hd:cellR n c=0
 rotate_left
 · rw [yL n c l hd] at hrep hrec
   rw [if_neg hd] at hrep hrec
   have hdf:=eq_false hd
   refine dC [] is5 (by simp) (by simp [bj]) (by simp [an,ag]) (by simp [an,ag]) (by simp [aB]) (fun cx _ _ _=>dB [ent21 haw,ent34,xc,ent37,xn,ent40,ent41,entX 36 _ _ hrep ⟨wT _,trivial,trivial,trivial⟩,entX 39 _ _ hrec ⟨trivial,trivial,trivial⟩] 1500 ?_)
   have hd0:=wN ms0
   delta c5 oO oN oA oM oT oG oR oQ oS oK oF oL
   simp (maxSteps:=4000000) -implicitDefEqProofs only [rv5,ent21,ent34,xc,ent37,xn,ent40,ent41,entX,ec,kM,hd0,hdn_msn,hdn,hfew,hs,hn,hl,hd,not_true_eq_false,not_false_eq_true,WU,Ent.of0,Ent.of1,Ent.of2,Ent.of3,Ent.of4,V,W3,↓reduceIte,seval,reduceCtorEq]
 · obtain ⟨net,hc⟩:=cell_ok hd
   rw [refR_ok n c l hd] at hrep hrec
   have h42:=yy n c l hn net hc
   by_cases h0:(rpE n c l).2=0
   · obtain ⟨e1,e2,e3⟩:=rpE_ok h0
     have hS:rpS n c l=(lQ n c l).m:=by rw [rpS,if_pos h0,endP_m]
     rw [hS,e1] at h42
     rw [e1] at hrep hrec
     simp only [if_true] at hrep hrec
     have hrr:(lQ n c l).recv=wV n (eQ n c) l:=by
      show (jx n (gy n c) l).recv=_
      rw [xD]; simp [gy]
     rw [hrr] at hrec
     have h43:=yg n c l hn net hc hl e3
     generalize wV n (eQ n c) l=R at *
     generalize (lQ n c l).m=m at *
     have hdm:=wN m
     refine dC [] is5 (by simp) (by simp [bj]) (by simp [an,ag]) (by simp [an,ag]) (by simp [aB]) (fun cx _ _ _=>dB [ent21 haw,ent34,xc,ent37,xn,ent40,ent41,mu,entX 36 _ _ hrep ⟨wT _,trivial,trivial,trivial⟩,entX 39 _ _ hrec ⟨trivial,trivial,trivial⟩,entX 42 _ _ h42 ⟨wT _,trivial,trivial,trivial⟩,entX 43 _ _ h43 trivial] 1500 ?_)
     delta c5 oO oN oA oM oT oG oR oQ oS oK oF oL
     simp (maxSteps:=4000000) -implicitDefEqProofs only [rv5,ent21,ent34,xc,ent37,xn,ent40,ent41,mu,entX,ec,kM,hdm,hdn,hfew,hs,hn,hl,hd,not_true_eq_false,not_false_eq_true,WU,Ent.of0,Ent.of1,Ent.of2,Ent.of3,Ent.of4,V,W3,↓reduceIte,seval,reduceCtorEq]
   · have hS:rpS n c l=ms0:=by rw [rpS,if_neg h0]
     rw [hS] at h42
     rw [if_neg h0] at hrep hrec
     generalize rpE n c l=E at *
     obtain ⟨i,e⟩:=E
     simp only at h0 hrep hrec h42
     have hd0:=wN ms0
     refine dC [] is5 (by simp) (by simp [bj]) (by simp [an,ag]) (by simp [an,ag]) (by simp [aB]) (fun cx _ _ _=>dB [ent21 haw,ent34,xc,ent37,xn,ent40,ent41,entX 36 _ _ hrep ⟨wT _,trivial,trivial,trivial⟩,entX 39 _ _ hrec ⟨trivial,trivial,trivial⟩,entX 42 _ _ h42 ⟨wT _,trivial,trivial,trivial⟩] 1500 ?_)
     delta c5 oO oN oA oM oT oG oR oQ oS oK oF oL
     simp (maxSteps:=4000000) -implicitDefEqProofs only [rv5,ent21,ent34,xc,ent37,xn,ent40,ent41,entX,ec,kM,hd0,hdn,hfew,hs,hn,hl,hd,h0,not_true_eq_false,not_false_eq_true,WU,Ent.of0,Ent.of1,Ent.of2,Ent.of3,Ent.of4,V,W3,↓reduceIte,seval,reduceCtorEq]
end Go.Proofs.YtcbabnbiinkafaaGreatDoor
end
section
open Go Go.Am
open Go.Am.Dat (cells)
namespace Go.Proofs.YtcbabnbiinkafaaGreatDoor
open Go.ChangeShapes Go.WideShapes Go.ChangeAt Go.RowKit
open Go.ChangeMaps (open_string shut_string)
set_option maxRecDepth 100000
theorem rEv : ReadsP Tryz.prog 83 T3 (fun _=>True):=by
 refine ⟨by kernel_rfl,by decide,fun en w sp fuel cs x h=>?_⟩
 obtain ⟨l,a0,p0,e0,h0⟩:=lX rInt Tryz.underlying83 h 0 rfl rfl
 obtain ⟨_,a1,p1,e1,h1⟩:=lX rInt Tryz.underlying83 h 1 rfl rfl
 obtain ⟨_,a2,p2,e2,h2⟩:=lX rInt Tryz.underlying83 h 2 rfl rfl
 refine ⟨⟨a0,a1,a2⟩,trivial,rfl,l.trans (by kernel_rfl),fun j c hj=>?_⟩
 match j,hj with
 | 0,hj=>cases hj; exact h0 0 _ rfl
 | 1,hj=>cases hj; exact h1 0 _ rfl
 | 2,hj=>cases hj; exact h2 0 _ rfl
theorem rEvs : ReadsP Tryz.prog 48 (List T3) (fun l=>∀ a∈l,True):=ReadsP.list rEv Tryz.underlying48 (by kernel_rfl)
theorem lifted5 (os:Os) (started:os.Started) (H:Type) (en:TypeId×Value→H) :
 ReturnsInHanded {} Tryz.checked os 5 .any (fun w args=>(Rows.moveReplaysSpec.pre en Tryz.prog Tryz.f5 Rows.moveReplaysRow.domain false w args∧laidMetH Tryz.prog Rows.moveReplaysRow.laid w)∧sizedMet en Tryz.prog Tryz.f5 (OpenSpec.ofChange Rows.moveReplaysSpec) false w args)
  (Rows.moveReplaysSpec.post en Tryz.prog Tryz.f5 false true false false):=by
 refine returnsInHanded_of_change_and (C:=Tryz.checked) (X:=fun w _=>laidMetH Tryz.prog Rows.moveReplaysRow.laid w) (fun _ _ _ hh h=>h.of_heap hh) ownOk started (by kernel_rfl) Tryz.func5
  (ChangeSpec.witness_shaped (enc:=en) (C:=Tryz.checked) (os:=os) (X:=fun w _=>laidMetH Tryz.prog Rows.moveReplaysRow.laid w) false (World.doorLaid Tryz.prog 89 os) #[.agg #[.slice none 0 0,.slice none 0 0,.int .i64 0],.int .i64 0,.slice none 0 0] 8 rfl (doorShaped os _) (by kernel_rfl) (by kernel_rfl) (by kernel_rfl) (door_met os _)) ?_
 intro W base args ds gs before hval0 hW hcnd hsz hL _
 have hval:∀ (j:Nat) t v,Tryz.f5.params[j]? = some t→args[j]? = some v→Value.okWide Tryz.prog W .any base t v:=hval0
 have hW':=hW
 obtain ⟨p,q,hA0,hV,rfl,hfz,hnd⟩:=hW
 have hA:DataW.TrodAll en Tryz.prog W 0 (fun _=>true) true Tryz.f5.params.toList args.toList ds p:=hA0
 rw [Tryz.params5] at hA hval
 obtain ⟨v0,vs0,d0w,ds0,p0,q0,hargs,rfl,rfl,h0,r0w⟩:=trodAll_cons hA
 obtain ⟨v1,vs1,d1,ds1,p1,q1,rfl,rfl,rfl,h1,r1⟩:=trodAll_cons r0w
 obtain ⟨v2,vs2,d2,ds2,p2,q2,rfl,rfl,rfl,h2,r2⟩:=trodAll_cons r1
 obtain ⟨rfl,rfl,rfl⟩:=trodAll_nil r2
 obtain rfl:args=#[v0,v1,v2]:=by cases args; simp_all
 obtain ⟨rfl,rfl⟩:=trodVars_none hV
 have lt0:∀ x∈p0,x.block < W.heap.size:=by obtain ⟨m,hm⟩:=h0; exact DataW.trod_lt m _ _ _ hm
 have lt2:∀ x∈p2,x.block < W.heap.size:=by obtain ⟨m,hm⟩:=h2; exact DataW.trod_lt m _ _ _ hm
 obtain ⟨x0,g0,hx0⟩:=rNw.argS rfl Tryz.underlying47 (hval 0 47 v0 rfl rfl) h0
 obtain ⟨x1,rfl,rfl,rfl,w1⟩:=open_int Tryz.underlying3 (hval 1 3 v1 rfl rfl) h1
 obtain ⟨x2,g2,hx2⟩:=rEvs.arg Tryz.underlying48 (hval 2 48 v2 rfl rfl) h2
 clear hA0 hval0
 refine (law_walkG (xR awake_c x0 x1 x2) (W:=W) (vs:=#[v0,.int .i64 x1,v2]) (glAll hL) rfl (fun j c hj E=>?_)).mono fun e W' ⟨he,bel⟩=>?_
 · match j,hj with
   | 0,hj=>cases hj; exact hx0 E
   | 1,hj=>cases hj; exact .d (.s _)
   | 2,hj=>cases hj; exact hx2 E
 · subst he
   exact ⟨_,rfl,_,_,_,[],_,[],hW',trodAll_mk1 (shut_bool Tryz.underlying4 _),(trodAll_cons_mk (Below.trod laidOut (by kernel_rfl) (of_decide_eq_true (by kernel_rfl)) h0 bel lt0) (trodAll_cons_mk (shut_int Tryz.underlying3 w1) (trodAll_cons_mk (Below.trod laidOut (by kernel_rfl) (of_decide_eq_true (by kernel_rfl)) h2 bel lt2) trodAll_mk0))),rfl,bel.frame _,fun h=>by cases h⟩
theorem jPlace5 : (Rows.moveReplaysRow.inPlace == Tryz.prog.inPlace 5)=true:=by kernel_rfl
theorem jUnf5 : (Rows.moveReplaysRow.unfollowed == Tryz.prog.unfollowed 5)=true:=by kernel_rfl
theorem jRec5 : (Rows.moveReplaysRow.recurses == Tryz.prog.recurses 5)=true:=by kernel_rfl
theorem jNamed5 : (Rows.moveReplaysRow.named == Tryz.prog.varsNamed 5)=true:=by kernel_rfl
theorem jKeys5 : (Rows.moveReplaysRow.plainKeys == Tryz.prog.plainKeys)=true:=jKeys
theorem jLift5 : (Rows.moveReplaysRow.lifted == Tryz.prog.liftsFinal)=true:=jLift
theorem jMake5 : (Tryz.prog.make == some Rows.moveReplaysRow.make)=true:=jMake
theorem jVeil5 : Rows.moveReplaysRow.veiledFits Tryz.prog Tryz.f5.params.toList (Tryz.f5.params.toList++Rows.moveReplaysSpec.plain.varTypes Tryz.prog++Tryz.f5.resultTypes.toList)=true:=by kernel_rfl
end Go.Proofs.YtcbabnbiinkafaaGreatDoor
end
