/- Part 3 of the proof of: MoveOnce returns true for every input and never panics: every packet of a log comes once and in its order, or still waits; conditions: those of the given statement, that the package variables it lists hold what their initialisers lay. -/
import Derived.Test.YtcbabnbiinkafaaGreatDoorMoveOnce2
set_option linter.all false
section
open Go Go.Am
open Go.Am.Dat (cells)
namespace Go.Proofs.YtcbabnbiinkafaaGreatDoor
set_option maxHeartbeats 4000000
set_option maxRecDepth 100000
theorem AH (haw:Awake) (n:Nw) (c:Int) (l:List T3):FC Tryz.prog 13 [enc n,enc c,enc l] [] (enc true) []:=by
 have hdn:=gO n;by_cases hfew:few n=true
 rotate_left
 . have hf:few n=false:=by simpa using hfew
   refine dD [] is13 (by simp) (by simp[bk]) (by simp[an,ag]) (by simp[an,ag]) (by simp[aB]) (fun cx _ _ _=>dC [ent21 haw,ent34] 1500 ?_);delta c13 oO oN oA oM oT oG oQ oS oK oV oC oW oI oX oP oH oB oD oE oJ oZ o4 o5 o7 o8 o9;simp (maxSteps:=9^7) -implicitDefEqProofs only[xA,ent21,ent34,ed,hdn,hf,not_true_eq_false,WU,Ent.of0,Ent.of1,Ent.of2,Ent.of3,Ent.of4,V,W3,↓reduceIte,seval,reduceCtorEq]
 by_cases hsh:l.length<=40
 rotate_left
 . have hs:=eq_true (show (l.length:Int) > 40 by omega);refine dD [] is13 (by simp) (by simp[bk]) (by simp[an,ag]) (by simp[an,ag]) (by simp[aB]) (fun cx _ _ _=>dC [ent21 haw,ent34] 1500 ?_);delta c13 oO oN oA oM oT oG oQ oS oK oV oC oW oI oX oP oH oB oD oE oJ oZ o4 o5 o7 o8 o9;simp (maxSteps:=9^7) -implicitDefEqProofs only[xA,ent21,ent34,ed,hdn,hfew,hs,not_true_eq_false,WU,Ent.of0,Ent.of1,Ent.of2,Ent.of3,Ent.of4,V,W3,↓reduceIte,seval,reduceCtorEq]
 have hs:=eq_false (show ¬ (l.length:Int) > 40 by omega);have hn:=few_nws hfew;have hl:l.length<=1000000:=by omega
 have hrep:=vL n c l hn;have hrec:=td n c l hn;unfold pK at hrep;by_cases hR:(gT n c l).2=0
 rotate_left
 . rw[if_neg hR]at hrep hrec;obtain⟨⟨i,E⟩,hq⟩:∃ R,gT n c l=R:=⟨_,rfl⟩;rw[hq]at hrep hrec hR;simp only at hrep hrec hR;refine dD [] is13 (by simp) (by simp[bk]) (by simp[an,ag]) (by simp[an,ag]) (by simp[aB]) (fun cx _ _ _=>dC [ent21 haw,ent34,ent37,y6,entX 36 _ _ hrep ⟨by simp[kN,dF,dF.keysIns],trivial,trivial,trivial⟩,entX 39 _ _ hrec ⟨trivial,trivial,trivial⟩] 1500 ?_);delta c13 oO oN oA oM oT oG oQ oS oK oV oC oW oI oX oP oH oB oD oE oJ oZ o4 o5 o7 o8 o9;simp (maxSteps:=9^7) -implicitDefEqProofs only[xA,ent21,ent34,ent37,y6,entX,ed,kN,hdn,hfew,hs,hn,hl,hR,ms0,not_true_eq_false,not_false_eq_true,WU,Ent.of0,Ent.of1,Ent.of2,Ent.of3,Ent.of4,V,W3,↓reduceIte,seval,reduceCtorEq]
 obtain⟨hN,hc,hst⟩:=Bd hR;have net:=rS hN;obtain⟨g,hrv,hfr⟩:=Br net hc l hst;rw[if_pos hR]at hrep hrec;generalize (lR n c l).m=S at *;rw[hrv]at hrec;have hm:=Bk net g;have hbs:=hm.bs;have hO:=Bl hN g;have h72:=AN n S hn hm;unfold y7 at h72;rw[if_neg (by simp[hO])]at h72;unfold waitL at h72;have hdS:=Ba S;have hgt:0<=S.got/\S.got<=S.fresh:=g.got;have hft:0<=S.fresh/\S.fresh<=1000000:=g.fresh;obtain⟨K,hK⟩:∃ K,S.got.toNat=K:=⟨_,rfl⟩;obtain⟨J,hJw⟩:∃ J,(S.fresh - S.got).toNat=J:=⟨_,rfl⟩;rw[hK]at hrec;rw[hJw]at h72;have hKg:(K:Int)=S.got:=by omega
 have hJg:(J:Int)=S.fresh - S.got:=by omega
 have hLK:=upL_len K 0;have hLJ:=AF S.got J;have hgK:=Bu K 0;have hgJ:=upN_get J S.got;generalize upL 0 K=R at *;generalize upN S.got J=W at *;refine dD [] is13 (by simp) (by simp[bk]) (by simp[an,ag]) (by simp[an,ag]) (by simp[aB]) (fun cx _ _ _=>dC [ent21 haw,ent34,ent37,y6,ent65,entX 36 _ _ hrep ⟨by simp[kN,dF,dF.keysIns],trivial,trivial,trivial⟩,entX 39 _ _ hrec ⟨trivial,trivial,trivial⟩,entX 72 _ _ h72 ⟨trivial,trivial,trivial⟩] 1500 ?_);delta c13 oO oN oA oM oT oG oQ oS oK oV oC oW oI oX oP oH oB oD oE oJ oZ o4 o5 o7 o8 o9;simp (maxSteps:=9^7) -implicitDefEqProofs only[xA,ent21,ent34,ent37,y6,ent65,entX,ed,kN,hdn,hdS,hfew,hs,hn,hl,hbs,hLK,hLJ,hKg,hJg,zy,InR,not_true_eq_false,not_false_eq_true,WU,Ent.of0,Ent.of1,Ent.of2,Ent.of3,Ent.of4,V,W3,↓reduceIte,seval,reduceCtorEq];refine⟨by omega,?_⟩;obtain⟨T,hT⟩:∃ T,xj l=T:=⟨_,rfl⟩;have hT2:=xQ l;rw[hT]at hT2 hfr;refine eN l.length (fun i=>[(14,.s (.int .i64 (T - xj (l.drop i)))),(15,.s (.int .i64 (i:Int)))]) (fun _=>[]) (fun i=>0<=T - xj (l.drop i)) (by simp[hT]) ?_ (fun i hi hv=>dC [] 800 ?_)
 . simp (maxSteps:=9^7) -implicitDefEqProofs only[Ent.of0,Ent.of1,Ent.of2,Ent.of3,Ent.of4,V,W3,↓reduceIte,seval,reduceCtorEq]
   all_goals simp[hT]
 . by_cases h:i < l.length
   . have hi2:(i:Int) < (l.length:Int):=by omega
     have hi0:(0:Int)<=i:=by omega
     have hgd:=wl l i h;have hd:=eg (d:=(⟨0,0,0⟩:T3)) h;have hdl:=xQ (l.drop (i+1));have hnn:=xQ (l.drop i);rw[hd,xj]at hv hnn;rw[hd,xj];generalize l.getD i ⟨0,0,0⟩=e at *;by_cases he:e.x=0
     . rw[if_pos he]at hv hnn ⊢;have he':=eq_true he;delta y5 oO oN oA oM oR oS oK oF oL oI oX oB o3 o4;simp (maxSteps:=9^7) -implicitDefEqProofs only[xA,hi0,hi2,h,hgd,he',hJ,zy,InR,WU,Ent.of0,Ent.of1,Ent.of2,Ent.of3,Ent.of4,V,W3,↓reduceIte,seval,reduceCtorEq];exact⟨⟨by omega,by omega⟩,⟨by omega,by omega⟩,by omega,by omega,by omega⟩
     . rw[if_neg he]at hv hnn ⊢;have he':=eq_false he;delta y5 oO oN oA oM oR oS oK oF oL oI oX oB o3 o4;simp (maxSteps:=9^7) -implicitDefEqProofs only[xA,hi0,hi2,h,hgd,he',hJ,zy,InR,WU,Ent.of0,Ent.of1,Ent.of2,Ent.of3,Ent.of4,V,W3,↓reduceIte,seval,reduceCtorEq];exact⟨⟨by omega,by omega⟩,by omega,by omega,by omega⟩
   . have hie:i=l.length:=by omega
     subst hie;have hi2:¬ ((l.length:Nat):Int) < (l.length:Int):=by omega
     have hTd:T - xj (l.drop l.length)=T:=by rw[List.drop_length,xj];omega
     delta y5 oO oN oA oM oR oS oK oF oL oI oX oB o3 o4;simp (maxSteps:=9^7) -implicitDefEqProofs only[xA,hi2,hTd,WU,Ent.of0,Ent.of1,Ent.of2,Ent.of3,Ent.of4,V,W3,↓reduceIte,seval,reduceCtorEq];refine eN K (fun i=>[(16,.s (.int .i64 (i:Int)))]) (fun _=>[]) (fun _=>True) trivial ?_ (fun i hi _=>dC [] 800 ?_)
     . simp (maxSteps:=9^7) -implicitDefEqProofs only[Ent.of0,Ent.of1,Ent.of2,Ent.of3,Ent.of4,V,W3,↓reduceIte,seval,reduceCtorEq]
       all_goals simp
     . by_cases h:i < K
       . have hi2:(i:Int) < (K:Int):=by omega
         have hi2':=eq_true (show (i:Int) < S.got by omega);have hi0:(0:Int)<=i:=by omega
         have hgd:=yT R i (by omega);rw[hgK i h,Int.zero_add]at hgd;delta c13l2 oO oN oA oM oR oS oK oL oI oX oB o1 o4 o9;simp (maxSteps:=9^7) -implicitDefEqProofs only[xA,hi0,hi2,hi2',h,hgd,hLK,hKg,zy,InR,WU,Ent.of0,Ent.of1,Ent.of2,Ent.of3,Ent.of4,V,W3,↓reduceIte,seval,reduceCtorEq];exact⟨⟨by omega,by omega⟩,by omega⟩
       . have hie:i=K:=by omega
         subst hie;have hi2:¬ ((i:Nat):Int) < (i:Int):=by omega
         have hi2':=eq_false (show ¬ S.got < S.got by omega);delta c13l2 oO oN oA oM oR oS oK oL oI oX oB o1 o4 o9;simp (maxSteps:=9^7) -implicitDefEqProofs only[xA,hi2,hi2',hLK,hKg,zy,WU,Ent.of0,Ent.of1,Ent.of2,Ent.of3,Ent.of4,V,W3,↓reduceIte,seval,reduceCtorEq];refine eN J (fun i=>[(17,.s (.int .i64 (i:Int)))]) (fun _=>[]) (fun _=>True) trivial ?_ (fun i hi _=>dC [] 800 ?_)
         . simp (maxSteps:=9^7) -implicitDefEqProofs only[Ent.of0,Ent.of1,Ent.of2,Ent.of3,Ent.of4,V,W3,↓reduceIte,seval,reduceCtorEq]
           all_goals simp
         . by_cases h:i < J
           . have hi2:(i:Int) < (J:Int):=by omega
             have hi2':=eq_true (show (i:Int) < S.fresh - S.got by omega);have hi0:(0:Int)<=i:=by omega
             have hgd:=yT W i (by omega);rw[hgJ i h]at hgd;delta c13l3 oO oN oA oM oT oR oQ oS oK oF oL oI oX oB o1 o4 o9;simp (maxSteps:=9^7) -implicitDefEqProofs only[xA,hi0,hi2,hi2',h,hgd,hLJ,hJg,zy,InR,WU,Ent.of0,Ent.of1,Ent.of2,Ent.of3,Ent.of4,V,W3,↓reduceIte,seval,reduceCtorEq];exact⟨⟨by omega,by omega⟩,⟨by omega,by omega⟩,by omega⟩
           . have hie:i=J:=by omega
             subst hie;have hi2:¬ ((i:Nat):Int) < (i:Int):=by omega
             have hi2':=eq_false (show ¬ S.fresh - S.got < S.fresh - S.got by omega);delta c13l3 oO oN oA oM oT oR oQ oS oK oF oL oI oX oB o1 o4 o9;simp (maxSteps:=9^7) -implicitDefEqProofs only[xA,hi2,hi2',hLK,hLJ,hKg,hJg,zy,InR,WU,Ent.of0,Ent.of1,Ent.of2,Ent.of3,Ent.of4,V,W3,↓reduceIte,seval,reduceCtorEq];exact⟨⟨by omega,by omega⟩,by omega⟩
end Go.Proofs.YtcbabnbiinkafaaGreatDoor
end
section
open Go Go.Am
open Go.Am.Dat (cells)
namespace Go.Proofs.YtcbabnbiinkafaaGreatDoor
open Go.ChangeShapes Go.WideShapes Go.ChangeAt Go.RowKit
open Go.ChangeMaps (open_string shut_string)
set_option maxRecDepth 100000
theorem rEv : ReadsP Tryz.prog 83 T3 (fun _=>True):=by
 refine⟨by kernel_rfl,by decide,fun en w sp fuel cs x h=>?_⟩;obtain⟨l,a0,p0,e0,h0⟩:=lY rInt Tryz.underlying83 h 0 rfl rfl;obtain⟨_,a1,p1,e1,h1⟩:=lY rInt Tryz.underlying83 h 1 rfl rfl;obtain⟨_,a2,p2,e2,h2⟩:=lY rInt Tryz.underlying83 h 2 rfl rfl;refine⟨⟨a0,a1,a2⟩,trivial,rfl,l.trans (by kernel_rfl),fun j c hj=>?_⟩
 match j,hj with
 | 0,hj=>cases hj;exact h0 0 _ rfl
 | 1,hj=>cases hj;exact h1 0 _ rfl
 | 2,hj=>cases hj;exact h2 0 _ rfl
theorem rEvs : ReadsP Tryz.prog 48 (List T3) (fun l=>∀ a∈l,True):=ReadsP.list rEv Tryz.underlying48 (by kernel_rfl)
theorem Bq (os:Os) (started:os.Started) (H:Type) (en:TypeId×Value->H) :
 ReturnsInHanded {} Tryz.checked os 13 .any (fun w args=>(Rows.moveOnceSpec.pre en Tryz.prog Tryz.f13 Rows.moveOnceRow.domain false w args/\laidMetH Tryz.prog Rows.moveOnceRow.laid w)/\sizedMet en Tryz.prog Tryz.f13 (OpenSpec.ofChange Rows.moveOnceSpec) false w args)
  (Rows.moveOnceSpec.post en Tryz.prog Tryz.f13 false true false false):=by
 refine returnsInHanded_of_change_and (C:=Tryz.checked) (X:=fun w _=>laidMetH Tryz.prog Rows.moveOnceRow.laid w) (fun _ _ _ hh h=>h.of_heap hh) ownOk started (by kernel_rfl) Tryz.func13
  (ChangeSpec.witness_shaped (enc:=en) (C:=Tryz.checked) (os:=os) (X:=fun w _=>laidMetH Tryz.prog Rows.moveOnceRow.laid w) false (World.doorLaid Tryz.prog 89 os) #[.agg #[.slice none 0 0,.slice none 0 0,.int .i64 0],.int .i64 0,.slice none 0 0] 8 rfl (doorShaped os _) (by kernel_rfl) (by kernel_rfl) (by kernel_rfl) (door_met os _)) ?_
 intro W base args ds gs before hval0 hW hcnd hsz hL _;have hval:∀ (j:Nat) t v,Tryz.f13.params[j]? = some t->args[j]? = some v->Value.okWide Tryz.prog W .any base t v:=hval0;have hW':=hW;obtain⟨p,q,hA0,hV,rfl,hfz,hnd⟩:=hW;have hA:DataW.TrodAll en Tryz.prog W 0 (fun _=>true) true Tryz.f13.params.toList args.toList ds p:=hA0;rw[Tryz.params13]at hA hval;obtain⟨v0,vs0,d0w,ds0,p0,q0,hargs,rfl,rfl,h0,r0w⟩:=trodAll_cons hA;obtain⟨v1,vs1,d1,ds1,p1,q1,rfl,rfl,rfl,h1,r1⟩:=trodAll_cons r0w;obtain⟨v2,vs2,d2,ds2,p2,q2,rfl,rfl,rfl,h2,r2⟩:=trodAll_cons r1;obtain⟨rfl,rfl,rfl⟩:=trodAll_nil r2;obtain rfl:args=#[v0,v1,v2]:=by cases args;simp_all
 obtain⟨rfl,rfl⟩:=trodVars_none hV;have lt0:∀ x∈p0,x.block < W.heap.size:=by obtain⟨m,hm⟩:=h0;exact DataW.trod_lt m _ _ _ hm
 have lt2:∀ x∈p2,x.block < W.heap.size:=by obtain⟨m,hm⟩:=h2;exact DataW.trod_lt m _ _ _ hm
 obtain⟨x0,g0,hx0⟩:=rNw.argS rfl Tryz.underlying47 (hval 0 47 v0 rfl rfl) h0;obtain⟨x1,rfl,rfl,rfl,w1⟩:=open_int Tryz.underlying3 (hval 1 3 v1 rfl rfl) h1;obtain⟨x2,g2,hx2⟩:=rEvs.arg Tryz.underlying48 (hval 2 48 v2 rfl rfl) h2;clear hA0 hval0;refine (law_walkG (AH awake_c x0 x1 x2) (W:=W) (vs:=#[v0,.int .i64 x1,v2]) (glAll hL) rfl (fun j c hj E=>?_)).mono fun e W' ⟨he,bel⟩=>?_
 . match j,hj with
   | 0,hj=>cases hj;exact hx0 E
   | 1,hj=>cases hj;exact .d (.s _)
   | 2,hj=>cases hj;exact hx2 E
 . subst he;exact⟨_,rfl,_,_,_,[],_,[],hW',trodAll_mk1 (shut_bool Tryz.underlying4 _),(trodAll_cons_mk (Below.trod laidOut (by kernel_rfl) (of_decide_eq_true (by kernel_rfl)) h0 bel lt0) (trodAll_cons_mk (shut_int Tryz.underlying3 w1) (trodAll_cons_mk (Below.trod laidOut (by kernel_rfl) (of_decide_eq_true (by kernel_rfl)) h2 bel lt2) trodAll_mk0))),rfl,bel.frame _,fun h=>by cases h⟩
theorem Bo : (Rows.moveOnceRow.inPlace == Tryz.prog.inPlace 13)=true:=by kernel_rfl
theorem jUnf13 : (Rows.moveOnceRow.unfollowed == Tryz.prog.unfollowed 13)=true:=by kernel_rfl
theorem jRec13 : (Rows.moveOnceRow.recurses == Tryz.prog.recurses 13)=true:=by kernel_rfl
theorem Bn : (Rows.moveOnceRow.named == Tryz.prog.varsNamed 13)=true:=by kernel_rfl
theorem jKeys13 : (Rows.moveOnceRow.plainKeys == Tryz.prog.plainKeys)=true:=jKeys
theorem jLift13 : (Rows.moveOnceRow.lifted == Tryz.prog.liftsFinal)=true:=jLift
theorem jMake13 : (Tryz.prog.make == some Rows.moveOnceRow.make)=true:=jMake
theorem jVeil13 : Rows.moveOnceRow.veiledFits Tryz.prog Tryz.f13.params.toList (Tryz.f13.params.toList++Rows.moveOnceSpec.plain.varTypes Tryz.prog++Tryz.f13.resultTypes.toList)=true:=by kernel_rfl
end Go.Proofs.YtcbabnbiinkafaaGreatDoor
end
