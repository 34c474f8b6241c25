/- Part 2 of the proof of: MoveStrongest returns true for every input and never panics: the strongest neighbour at the first tick at which one triggers is as the reference says, or the error; conditions: those of the given statement, that the package variables it lists hold what their initialisers lay. -/
import Derived.Test.YtcbabnbiinkafaaGreatDoorMoveStrongest1
set_option linter.all false
section
open Go Go.Am
open Go.Am.Dat (cells)
namespace Go.Proofs.YtcbabnbiinkafaaGreatDoor
set_option maxHeartbeats 4000000
set_option maxRecDepth 100000
theorem xE (haw:Awake) (r:Rul) (L:List (List Int)) (s:Int):FC Tryz.prog 10 [enc r,enc L,enc s] [] (enc true) []:=by
 have eta:(⟨r.off,r.hyst,r.trig⟩:Rul)=r:=rfl;by_cases h8:8 < L.length
 . have h8':(8:Int) < (L.length:Int):=by omega
   refine dD [] E1.is10 (by simp) trivial trivial trivial trivial (fun cx _ hl _=>dC [ent21 haw] 1500 ?_);delta E1.c10 oO oN oA oM oT oG oR oS oK oV oC oW oI oX oP oB o2 o4 o5 o7 o8 o9;simp (maxSteps:=9^7) -implicitDefEqProofs only[E1.rv10,ent21,iy,h8',not_true_eq_false,WU,Ent.of0,Ent.of1,Ent.of2,Ent.of3,Ent.of4,V,W3,↓reduceIte,seval,reduceCtorEq]
 have h8':¬ (8:Int) < (L.length:Int):=by omega
 have hgk:∀ k,k < L.length->(L.map Dat.cells).getD k [C.sl 0 []]=[C.sl 1 ((L.getD k []).map Dat.cells)]:=fun k h=>xj L k h
 refine dD [] E1.is10 (by simp) trivial trivial trivial trivial (fun cx _ hl _=>dC [ent21 haw] 1500 ?_);delta E1.c10 oO oN oA oM oT oG oR oS oK oV oC oW oI oX oP oB o2 o4 o5 o7 o8 o9;simp (maxSteps:=9^7) -implicitDefEqProofs only[E1.rv10,ent21,iy,h8',not_true_eq_false,WU,Ent.of0,Ent.of1,Ent.of2,Ent.of3,Ent.of4,V,W3,↓reduceIte,seval,reduceCtorEq];refine eN L.length (fun i=>[(7,.s (.int .i64 (i:Int)))]) (fun _=>[]) (fun i=>∀ k,k < i->(L.getD k []).length<=62) (fun k h=>by omega) ?_ (fun i hi hv=>dC [ent22] 800 ?_)
 . simp (maxSteps:=9^7) -implicitDefEqProofs only[Ent.of0,Ent.of1,Ent.of2,Ent.of3,Ent.of4,V,W3,↓reduceIte,seval,reduceCtorEq]
   all_goals rfl
 . by_cases h:i < L.length
   . have hi2:(i:Int) < (L.length:Int):=by omega
     have hi0:(0:Int)<=i:=by omega
     have hgi:=hgk i h;by_cases h62:(L.getD i []).length<=62
     . have hd:=decide_eq_true h62;delta E1.c10l1 oO oN oA oM oR oS oK oL oC oI oX oB o0 o4 o9;simp (maxSteps:=9^7) -implicitDefEqProofs only[ent22,hi0,hi2,h,hgi,hd,InR,not_true_eq_false,WU,Ent.of0,Ent.of1,Ent.of2,Ent.of3,Ent.of4,V,W3,↓reduceIte,seval,reduceCtorEq];refine⟨by omega,fun k hk=>?_,by omega⟩;rcases Nat.lt_or_eq_of_le (Nat.le_of_lt_succ hk)with q | q
       . exact hv k q
       . rw[q];exact h62
     . have hd:=decide_eq_false h62;delta E1.c10l1 oO oN oA oM oR oS oK oL oC oI oX oB o0 o4 o9;simp (maxSteps:=9^7) -implicitDefEqProofs only[E1.rv10,ent22,hi0,hi2,h,hgi,hd,InR,not_true_eq_false,not_false_eq_true,WU,Ent.of0,Ent.of1,Ent.of2,Ent.of3,Ent.of4,V,W3,↓reduceIte,seval,reduceCtorEq]
   . have hi2:¬ (i:Int) < (L.length:Int):=by omega
     have hil:i=L.length:=by omega
     subst hil;clear hi
     have hbs:BufS L:=⟨by omega,fun x hx=>by
      obtain⟨j,hj,rfl⟩:=List.getElem_of_mem hx;have:=hv j hj;rw[zb,ze hj]at this;simp only[zN]at this
      omega⟩
     have hbl:=hbs.l;delta E1.c10l1 oO oN oA oM oR oS oK oL oC oI oX oB o0 o4 o9;simp (maxSteps:=9^7) -implicitDefEqProofs only[E1.rv10,hi2,WU,Ent.of0,Ent.of1,Ent.of2,Ent.of3,Ent.of4,V,W3,↓reduceIte,seval,reduceCtorEq];refine xy [ent60,ent59] 800 [2,4] ?_;simp (maxSteps:=9^7) -implicitDefEqProofs only[xn,mFin2,xF,ml,pF,ops2,jo,reM2,oU,qO,qP,mE,finM,kE,ia,ip,gh,ft,fW,fW.fixBs,fV,ndE2,an,ag,av,aU,aF,kF,eQ,a6,bF,ent60,ent59,iy,jU,eta,hbs,hbl,InR,WU,Ent.of0,Ent.of1,Ent.of2,Ent.of3,Ent.of4,V,W3,↓reduceIte,seval,reduceCtorEq];refine⟨rfl,?_⟩;have hO:sgO r L s=if sgP r L s≠0 then (⟨0,0⟩,sgP r L s)else ((xm (xh r L s L.length)).1,if (xh r L s L.length).f=true then 0 else 12):=rfl
     generalize sgO r L s=X at *;by_cases hr:km r=0
     rotate_left
     . have hP:sgP r L s=km r:=by unfold sgP;rw[if_pos hr]
       rw[hP,if_pos hr]at hO;subst hO;have hr':=eq_false hr;refine dC [xt] 1500 ?_;simp (maxSteps:=9^7) -implicitDefEqProofs only[E1.rv10,xt,iy,jU,eta,hr',InR,not_true_eq_false,not_false_eq_true,WU,Ent.of0,Ent.of1,Ent.of2,Ent.of3,Ent.of4,V,W3,↓reduceIte,seval,reduceCtorEq]
     . have hP:sgP r L s=sgR L s:=by unfold sgP;rw[if_neg (by simp[hr])]
       rw[hP]at hO;by_cases hR:sgR L s=0
       rotate_left
       . rw[if_pos hR]at hO;subst hO;have hR':=eq_false hR;refine dC [xt,xH] 1500 ?_;simp (maxSteps:=9^7) -implicitDefEqProofs only[E1.rv10,xt,xH,iy,jU,eta,hr,hR',hbl,InR,not_true_eq_false,not_false_eq_true,WU,Ent.of0,Ent.of1,Ent.of2,Ent.of3,Ent.of4,V,W3,↓reduceIte,seval,reduceCtorEq]
       . rw[if_neg (fun q=>q hR)]at hO;have hF:sgF L s=0:=by
          unfold sgR at hR;rcases Classical.em (sgF L s=0)with q | q
          . exact q
          . rw[if_pos q]at hR;exact hR
         have hE:sgE L s L.length 0=0:=by
          unfold sgR at hR;rw[if_neg (fun q=>q hF)]at hR;exact hR
         obtain⟨_,_,hs0,hs1⟩:=sgF_ok hF;have hok:SgOk r L s:=fun k hk hks=>by
          have h1:=xB _ _ hE k (by omega) (by omega) hks;refine sc ?_;rw[iY,xI,if_neg (fun q=>q hr)];exact h1
         have hw:=hv s.toNat (by omega);have h62:=xQ r L s ⟨hs0,hs1⟩ hbl (by omega) hok;rw[sg_law hok]at h62;generalize xh r L s L.length=b at *;refine dC [xt,xH,entX 62 _ _ h62 ⟨by rw[enc_gs];simp[dF,dF.keysIns],trivial,trivial⟩] 1500 ?_;cases hf:b.f
         . have e1:xm b=(⟨0,0⟩,false):=by unfold xm;rw[hf];rfl
           rw[e1,if_neg (by simp[hf])]at hO;subst hO;simp (maxSteps:=9^7) -implicitDefEqProofs only[E1.rv10,xt,xH,entX,iy,jU,eta,hr,hR,hbl,e1,InR,not_true_eq_false,not_false_eq_true,WU,Ent.of0,Ent.of1,Ent.of2,Ent.of3,Ent.of4,V,W3,↓reduceIte,seval,reduceCtorEq]
         . have e1:xm b=(⟨b.t,b.c⟩,true):=by unfold xm;rw[hf];rfl
           rw[e1,if_pos hf]at hO;subst hO;simp (maxSteps:=9^7) -implicitDefEqProofs only[E1.rv10,xt,xH,entX,iy,jU,eta,hr,hR,hbl,e1,InR,not_true_eq_false,not_false_eq_true,WU,Ent.of0,Ent.of1,Ent.of2,Ent.of3,Ent.of4,V,W3,↓reduceIte,seval,reduceCtorEq]
end Go.Proofs.YtcbabnbiinkafaaGreatDoor
end
section
open Go Go.Am
open Go.Am.Dat (cells)
namespace Go.Proofs.YtcbabnbiinkafaaGreatDoor
open Go.ChangeShapes Go.WideShapes Go.ChangeAt Go.RowKit
open Go.ChangeMaps (open_string shut_string)
set_option maxRecDepth 100000
theorem rLls : ReadsP Tryz.prog 51 (List (List Int)) (fun l=>∀ a∈l,∀ b∈a,-9223372036854775808<=b/\b<=9223372036854775807):=ReadsP.list rInts Tryz.underlying51 (by kernel_rfl)
theorem yX (os:Os) (started:os.Started) (H:Type) (en:TypeId×Value->H) :
 ReturnsInHanded {} Tryz.checked os 10 .any (fun w args=>(Rows.moveStrongestSpec.pre en Tryz.prog Tryz.f10 Rows.moveStrongestRow.domain false w args/\laidMetH Tryz.prog Rows.moveStrongestRow.laid w)/\sizedMet en Tryz.prog Tryz.f10 (OpenSpec.ofChange Rows.moveStrongestSpec) false w args)
  (Rows.moveStrongestSpec.post en Tryz.prog Tryz.f10 false true false false):=by
 refine returnsInHanded_of_change_and (C:=Tryz.checked) (X:=fun w _=>laidMetH Tryz.prog Rows.moveStrongestRow.laid w) (fun _ _ _ hh h=>h.of_heap hh) ownOk started (by kernel_rfl) Tryz.func10
  (ChangeSpec.witness_shaped (enc:=en) (C:=Tryz.checked) (os:=os) (X:=fun w _=>laidMetH Tryz.prog Rows.moveStrongestRow.laid w) false (World.doorLaid Tryz.prog 89 os) #[.agg #[.int .i64 0,.int .i64 0,.int .i64 0],.slice none 0 0,.int .i64 0] 8 rfl (doorShaped os _) (by kernel_rfl) (by kernel_rfl) (by kernel_rfl) (door_met os _)) ?_
 intro W base args ds gs before hval0 hW hcnd hsz hL _;have hval:∀ (j:Nat) t v,Tryz.f10.params[j]? = some t->args[j]? = some v->Value.okWide Tryz.prog W .any base t v:=hval0;have hW':=hW;obtain⟨p,q,hA0,hV,rfl,hfz,hnd⟩:=hW;have hA:DataW.TrodAll en Tryz.prog W 0 (fun _=>true) true Tryz.f10.params.toList args.toList ds p:=hA0;rw[Tryz.params10]at hA hval;obtain⟨v0,vs0,d0w,ds0,p0,q0,hargs,rfl,rfl,h0,r0w⟩:=trodAll_cons hA;obtain⟨v1,vs1,d1,ds1,p1,q1,rfl,rfl,rfl,h1,r1⟩:=trodAll_cons r0w;obtain⟨v2,vs2,d2,ds2,p2,q2,rfl,rfl,rfl,h2,r2⟩:=trodAll_cons r1;obtain⟨rfl,rfl,rfl⟩:=trodAll_nil r2;obtain rfl:args=#[v0,v1,v2]:=by cases args;simp_all
 obtain⟨rfl,rfl⟩:=trodVars_none hV;have lt0:∀ x∈p0,x.block < W.heap.size:=by obtain⟨m,hm⟩:=h0;exact DataW.trod_lt m _ _ _ hm
 have lt1:∀ x∈p1,x.block < W.heap.size:=by obtain⟨m,hm⟩:=h1;exact DataW.trod_lt m _ _ _ hm
 obtain⟨x0,g0,hx0⟩:=rRul.argS rfl Tryz.underlying23 (hval 0 23 v0 rfl rfl) h0;obtain⟨x1,g1,hx1⟩:=rLls.arg Tryz.underlying51 (hval 1 51 v1 rfl rfl) h1;obtain⟨x2,rfl,rfl,rfl,w2⟩:=open_int Tryz.underlying3 (hval 2 3 v2 rfl rfl) h2;clear hA0 hval0;refine (law_walkG (xE awake_c x0 x1 x2) (W:=W) (vs:=#[v0,v1,.int .i64 x2]) (glAll hL) rfl (fun j c hj E=>?_)).mono fun e W' ⟨he,bel⟩=>?_
 . match j,hj with
   | 0,hj=>cases hj;exact hx0 E
   | 1,hj=>cases hj;exact hx1 E
   | 2,hj=>cases hj;exact .d (.s _)
 . subst he;exact⟨_,rfl,_,_,_,[],_,[],hW',trodAll_mk1 (shut_bool Tryz.underlying4 _),(trodAll_cons_mk (Below.trod laidOut (by kernel_rfl) (of_decide_eq_true (by kernel_rfl)) h0 bel lt0) (trodAll_cons_mk (Below.trod laidOut (by kernel_rfl) (of_decide_eq_true (by kernel_rfl)) h1 bel lt1) (trodAll_cons_mk (shut_int Tryz.underlying3 w2) trodAll_mk0))),rfl,bel.frame _,fun h=>by cases h⟩
theorem yV : (Rows.moveStrongestRow.inPlace == Tryz.prog.inPlace 10)=true:=by kernel_rfl
theorem jUnf10 : (Rows.moveStrongestRow.unfollowed == Tryz.prog.unfollowed 10)=true:=by kernel_rfl
theorem jRec10 : (Rows.moveStrongestRow.recurses == Tryz.prog.recurses 10)=true:=by kernel_rfl
theorem yU : (Rows.moveStrongestRow.named == Tryz.prog.varsNamed 10)=true:=by kernel_rfl
theorem jKeys10 : (Rows.moveStrongestRow.plainKeys == Tryz.prog.plainKeys)=true:=jKeys
theorem jLift10 : (Rows.moveStrongestRow.lifted == Tryz.prog.liftsFinal)=true:=jLift
theorem jMake10 : (Tryz.prog.make == some Rows.moveStrongestRow.make)=true:=jMake
theorem jVeil10 : Rows.moveStrongestRow.veiledFits Tryz.prog Tryz.f10.params.toList (Tryz.f10.params.toList++Rows.moveStrongestSpec.plain.varTypes Tryz.prog++Tryz.f10.resultTypes.toList)=true:=by kernel_rfl
end Go.Proofs.YtcbabnbiinkafaaGreatDoor
end
