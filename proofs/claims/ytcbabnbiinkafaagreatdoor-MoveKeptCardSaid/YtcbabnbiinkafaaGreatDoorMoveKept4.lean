/- Part 4 of the proof of: MoveKept returns true for every input and never panics: behind an event every packet not yet received stands in one cell and in one only, and the state is right; conditions: those of the given statement, that the package variables it lists hold what their initialisers lay. -/
import Derived.Test.YtcbabnbiinkafaaGreatDoorMoveKept3
set_option linter.all false
section
open Go Go.Am
open Go.Am.Dat (cells)
namespace Go.Proofs.YtcbabnbiinkafaaGreatDoor
set_option maxHeartbeats 4000000
set_option maxRecDepth 100000
theorem Bc (haw:Awake) (n:Nw) (m:Ms) (hI:∀ a∈m.buf,∀ b∈a,-9223372036854775808<=b/\b<=9223372036854775807) (e:T3):FC Tryz.prog 15 [enc n,enc m,enc e] [] (enc true) []:=by
 have hdn:=gO n;have hdm:=xu m;by_cases hfew:few n=true
 rotate_left
 . have hf:few n=false:=by simpa using hfew
   refine dD [] E5.is15 (by simp) (by simp[bk]) (by simp[an,ag]) (by simp[an,ag]) (by simp[aB]) (fun cx _ _ _=>dC [ent21 haw,ent34] 1500 ?_);delta E5.c15 oO oN oA oM oT oG oR oQ oS oK oF oL oV oC oW oI oX oH oB oD oE oJ oZ o5 o7 o8 o9;simp (maxSteps:=9^7) -implicitDefEqProofs only[E5.rv15,ent21,ent34,ed,kN,dY,hdn,hf,not_true_eq_false,WU,Ent.of0,Ent.of1,Ent.of2,Ent.of3,Ent.of4,V,W3,↓reduceIte,seval,reduceCtorEq]
 by_cases hsm:smB m=true
 rotate_left
 . have hs:smB m=false:=by simpa using hsm
   refine dD [] E5.is15 (by simp) (by simp[bk]) (by simp[an,ag]) (by simp[an,ag]) (by simp[aB]) (fun cx _ _ _=>dC [ent21 haw,ent34,xF] 1500 ?_);delta E5.c15 oO oN oA oM oT oG oR oQ oS oK oF oL oV oC oW oI oX oH oB oD oE oJ oZ o5 o7 o8 o9;simp (maxSteps:=9^7) -implicitDefEqProofs only[E5.rv15,ent21,ent34,xF,ed,kN,dY,hdn,hdm,hfew,hs,not_true_eq_false,WU,Ent.of0,Ent.of1,Ent.of2,Ent.of3,Ent.of4,V,W3,↓reduceIte,seval,reduceCtorEq]
 have hn:=few_nws hfew;have hm:=sm_msB hsm hI;have hbs:=hm.bs;have h69:=By n m e hn hm;have h70:=Bk n m hn hm;by_cases hO:opE n m=0
 rotate_left
 . generalize opE n m=A at *;refine dD [] E5.is15 (by simp) (by simp[bk]) (by simp[an,ag]) (by simp[an,ag]) (by simp[aB]) (fun cx _ _ _=>dC [ent21 haw,ent34,xF,entX 70 _ _ h70 trivial] 1500 ?_);delta E5.c15 oO oN oA oM oT oG oR oQ oS oK oF oL oV oC oW oI oX oH oB oD oE oJ oZ o5 o7 o8 o9;simp (maxSteps:=9^7) -implicitDefEqProofs only[E5.rv15,ent21,ent34,xF,entX,ed,kN,dY,hdn,hdm,hfew,hsm,hO,not_true_eq_false,not_false_eq_true,WU,Ent.of0,Ent.of1,Ent.of2,Ent.of3,Ent.of4,V,W3,↓reduceIte,seval,reduceCtorEq]
 obtain⟨net,g⟩:=AI hO;obtain⟨e1,e2⟩:=apS_eq (e:=e) hO;rw[e1]at h69;rw[hO]at h70;refine dD [] E5.is15 (by simp) (by simp[bk]) (by simp[an,ag]) (by simp[an,ag]) (by simp[aB]) (fun cx _ _ _=>dC [ent21 haw,ent34,xF,entX 70 _ _ h70 trivial] 1500 ?_);delta E5.c15 oO oN oA oM oT oG oR oQ oS oK oF oL oV oC oW oI oX oH oB oD oE oJ oZ o5 o7 o8 o9;simp (maxSteps:=9^7) -implicitDefEqProofs only[E5.rv15,ent21,ent34,xF,entX,ed,kN,dY,hdn,hdm,hfew,hsm,not_true_eq_false,not_false_eq_true,WU,Ent.of0,Ent.of1,Ent.of2,Ent.of3,Ent.of4,V,W3,↓reduceIte,seval,reduceCtorEq];by_cases hA:gi n m e=0
 rotate_left
 . have e3:apS n m e=ms0:=by rw[e2];unfold yY;rw[if_pos hA]
   rw[e3]at h69;generalize gi n m e=A at *;have hd0:=xu ms0;refine Ao [ent37,xp,entX 69 _ _ h69 ⟨by simp[kN,dF,dF.keysIns],trivial,trivial⟩] 800 [1,3,5] ?_;simp (maxSteps:=9^7) -implicitDefEqProofs only[xP,mFin2,Ah,ml,pF,ops2,jo,reM2,oU,qO,qP,mE,finM,kE,ia,ip,gh,ft,fW,fW.fixBs,fV,ndE2,an,ag,av,aU,aF,kF,eQ,a6,bF,ent37,xp,entX,ed,kN,dY,hdn,hdm,hn,hbs,InR,WU,Ent.of0,Ent.of1,Ent.of2,Ent.of3,Ent.of4,V,W3,↓reduceIte,seval,reduceCtorEq];refine⟨rfl,dC [ent41] 1500 ?_⟩;simp (maxSteps:=9^7) -implicitDefEqProofs only[E5.rv15,ent41,ed,kN,dY,hd0,hdn_ms0,hA,not_true_eq_false,not_false_eq_true,WU,Ent.of0,Ent.of1,Ent.of2,Ent.of3,Ent.of4,V,W3,↓reduceIte,seval,reduceCtorEq]
 have e3:apS n m e=rf n m e:=by rw[e2];unfold yY;rw[if_neg (by simp[hA])]
 rw[e3,hA]at h69;have hat:=Bj n m e;have hgt:=Bf n m e;have hfr:=AQ n m e;have g2:=dP.apply net g hA;have hN:(eW n).2=0:=(y3 (by have:=hO;unfold opE at this;exact this)).1;generalize rf n m e=S at *;have hdS:=xu S;have hmS:=AA net g2;have hbS:=hmS.bs;have hsS:=BD net g2;have h64:=An n S hn hmS;rw[AB hN g2]at h64;have h67:=yX n S hn hmS net;rw[AD g2]at h67;have h73:=AT n S hn hmS;refine Ao [ent37,xp,entX 69 _ _ h69 ⟨by simp[kN,dF,dF.keysIns],trivial,trivial⟩] 800 [1,3,5] ?_;simp (maxSteps:=9^7) -implicitDefEqProofs only[xP,mFin2,Ah,ml,pF,ops2,jo,reM2,oU,qO,qP,mE,finM,kE,ia,ip,gh,ft,fW,fW.fixBs,fV,ndE2,an,ag,av,aU,aF,kF,eQ,a6,bF,ent37,xp,entX,ed,kN,dY,hdn,hdm,hn,hbs,InR,WU,Ent.of0,Ent.of1,Ent.of2,Ent.of3,Ent.of4,V,W3,↓reduceIte,seval,reduceCtorEq];refine⟨rfl,dC [ent37,xF,xp,oa,entX 64 _ _ h64 trivial,entX 67 _ _ h67 trivial] 1500 ?_⟩;have hat':=eq_true hat;have hfin:=kept_2 n m S e hn net hN g2;unfold chK msD at hfin;have hIg:(-9223372036854775808<=S.got - m.got/\S.got - m.got<=9223372036854775807):=by have h1:=g.got;have h2:=g2.got;have h3:=g.fresh;have h4:=g2.fresh;omega
 have hIf:(-9223372036854775808<=S.fresh - m.fresh/\S.fresh - m.fresh<=9223372036854775807):=by have h3:=g.fresh;have h4:=g2.fresh;omega
 by_cases x1:e.x=1
 . have x0:¬ e.x=0:=by omega
   rw[if_neg x0]at hfr;have hwi:=eq_true (show 0<=S.got - m.got/\S.got - m.got<=1 by omega);have hfi:=eq_true (show S.fresh - m.fresh=0 by omega);have x1':=eq_true x1;have x0':=eq_false x0;simp (maxSteps:=9^7) -implicitDefEqProofs only[E5.rv15,ent37,xF,xp,oa,entX,ed,kN,dY,hdn,hdS,hn,hbS,hsS,hat',x0',x1',hwi,hfi,hIg,hIf,InR,not_true_eq_false,not_false_eq_true,WU,Ent.of0,Ent.of1,Ent.of2,Ent.of3,Ent.of4,V,W3,↓reduceIte,seval,reduceCtorEq];exact hfin cx
 . have x1':=eq_false x1;by_cases x0:e.x=0
   . rw[if_pos x0]at hfr;have hwi:=eq_true (show 0<=S.got - m.got/\S.got - m.got<=0 by omega);have hfi:=eq_true (show S.fresh - m.fresh=1 by omega);have x0':=eq_true x0;simp (maxSteps:=9^7) -implicitDefEqProofs only[E5.rv15,ent37,xF,xp,oa,entX,ed,kN,dY,hdn,hdS,hn,hbS,hsS,hat',x0',x1',hwi,hfi,hIg,hIf,InR,not_true_eq_false,not_false_eq_true,WU,Ent.of0,Ent.of1,Ent.of2,Ent.of3,Ent.of4,V,W3,↓reduceIte,seval,reduceCtorEq];exact hfin cx
   . rw[if_neg x0]at hfr;have hwi:=eq_true (show 0<=S.got - m.got/\S.got - m.got<=0 by omega);have hfi:=eq_true (show S.fresh - m.fresh=0 by omega);have x0':=eq_false x0;simp (maxSteps:=9^7) -implicitDefEqProofs only[E5.rv15,ent37,xF,xp,oa,entX,ed,kN,dY,hdn,hdS,hn,hbS,hsS,hat',x0',x1',hwi,hfi,hIg,hIf,InR,not_true_eq_false,not_false_eq_true,WU,Ent.of0,Ent.of1,Ent.of2,Ent.of3,Ent.of4,V,W3,↓reduceIte,seval,reduceCtorEq];exact hfin cx
end Go.Proofs.YtcbabnbiinkafaaGreatDoor
end
section
open Go Go.Am
open Go.Am.Dat (cells)
namespace Go.Proofs.YtcbabnbiinkafaaGreatDoor
open Go.ChangeShapes Go.WideShapes Go.ChangeAt Go.RowKit
open Go.ChangeMaps (open_string shut_string)
set_option maxRecDepth 100000
theorem rEv : ReadsP Tryz.prog 83 T3 (fun _=>True):=by
 refine⟨by kernel_rfl,by decide,fun en w sp fuel cs x h=>?_⟩;obtain⟨l,a0,p0,e0,h0⟩:=lY rInt Tryz.underlying83 h 0 rfl rfl;obtain⟨_,a1,p1,e1,h1⟩:=lY rInt Tryz.underlying83 h 1 rfl rfl;obtain⟨_,a2,p2,e2,h2⟩:=lY rInt Tryz.underlying83 h 2 rfl rfl;refine⟨⟨a0,a1,a2⟩,trivial,rfl,l.trans (by kernel_rfl),fun j c hj=>?_⟩
 match j,hj with
 | 0,hj=>cases hj;exact h0 0 _ rfl
 | 1,hj=>cases hj;exact h1 0 _ rfl
 | 2,hj=>cases hj;exact h2 0 _ rfl
theorem rLls : ReadsP Tryz.prog 51 (List (List Int)) (fun l=>∀ a∈l,∀ b∈a,-9223372036854775808<=b/\b<=9223372036854775807):=ReadsP.list rInts Tryz.underlying51 (by kernel_rfl)
theorem rMs : ReadsP Tryz.prog 53 Ms (fun m=>∀ a∈m.buf,∀ b∈a,-9223372036854775808<=b/\b<=9223372036854775807):=by
 refine⟨by kernel_rfl,by decide,fun en w sp fuel cs x h=>?_⟩;obtain⟨l,a0,p0,e0,h0⟩:=lY rInt Tryz.underlying53 h 0 rfl rfl;obtain⟨_,a1,p1,e1,h1⟩:=lY rInt Tryz.underlying53 h 1 rfl rfl;obtain⟨_,a2,p2,e2,h2⟩:=lY rInt Tryz.underlying53 h 2 rfl rfl;obtain⟨_,a3,p3,e3,h3⟩:=lY rInt Tryz.underlying53 h 3 rfl rfl;obtain⟨_,a4,p4,e4,h4⟩:=lY rInt Tryz.underlying53 h 4 rfl rfl;obtain⟨_,a5,p5w,e5,h5⟩:=lY rInt Tryz.underlying53 h 5 rfl rfl;obtain⟨_,a6w,p6w,e6,h6⟩:=lY rInt Tryz.underlying53 h 6 rfl rfl;obtain⟨_,a7w,p7w,e7,h7⟩:=lY rInt Tryz.underlying53 h 7 rfl rfl;obtain⟨_,a8w,p8w,e8w,h8⟩:=lY rInt Tryz.underlying53 h 8 rfl rfl;obtain⟨_,a9,p9w,e9w,h9⟩:=lY rLls Tryz.underlying53 h 9 rfl rfl;refine⟨⟨a0,a1,a2,a3,a4,a5,a6w,a7w,a8w,a9⟩,p9w,rfl,l.trans (by kernel_rfl),fun j c hj=>?_⟩
 match j,hj with
 | 0,hj=>cases hj;exact h0 0 _ rfl
 | 1,hj=>cases hj;exact h1 0 _ rfl
 | 2,hj=>cases hj;exact h2 0 _ rfl
 | 3,hj=>cases hj;exact h3 0 _ rfl
 | 4,hj=>cases hj;exact h4 0 _ rfl
 | 5,hj=>cases hj;exact h5 0 _ rfl
 | 6,hj=>cases hj;exact h6 0 _ rfl
 | 7,hj=>cases hj;exact h7 0 _ rfl
 | 8,hj=>cases hj;exact h8 0 _ rfl
 | 9,hj=>cases hj;exact h9 0 _ rfl
theorem BH (os:Os) (started:os.Started) (H:Type) (en:TypeId×Value->H) :
 ReturnsInHanded {} Tryz.checked os 15 .any (fun w args=>(Rows.moveKeptSpec.pre en Tryz.prog Tryz.f15 Rows.moveKeptRow.domain false w args/\laidMetH Tryz.prog Rows.moveKeptRow.laid w)/\sizedMet en Tryz.prog Tryz.f15 (OpenSpec.ofChange Rows.moveKeptSpec) false w args)
  (Rows.moveKeptSpec.post en Tryz.prog Tryz.f15 false true false false):=by
 refine returnsInHanded_of_change_and (C:=Tryz.checked) (X:=fun w _=>laidMetH Tryz.prog Rows.moveKeptRow.laid w) (fun _ _ _ hh h=>h.of_heap hh) ownOk started (by kernel_rfl) Tryz.func15
  (ChangeSpec.witness_shaped (enc:=en) (C:=Tryz.checked) (os:=os) (X:=fun w _=>laidMetH Tryz.prog Rows.moveKeptRow.laid w) false (World.doorLaid Tryz.prog 89 os) #[.agg #[.slice none 0 0,.slice none 0 0,.int .i64 0],.agg #[.int .i64 0,.int .i64 0,.int .i64 0,.int .i64 0,.int .i64 0,.int .i64 0,.int .i64 0,.int .i64 0,.int .i64 0,.slice none 0 0],.agg #[.int .i64 0,.int .i64 0,.int .i64 0]] 8 rfl (doorShaped os _) (by kernel_rfl) (by kernel_rfl) (by kernel_rfl) (door_met os _)) ?_
 intro W base args ds gs before hval0 hW hcnd hsz hL _;have hval:∀ (j:Nat) t v,Tryz.f15.params[j]? = some t->args[j]? = some v->Value.okWide Tryz.prog W .any base t v:=hval0;have hW':=hW;obtain⟨p,q,hA0,hV,rfl,hfz,hnd⟩:=hW;have hA:DataW.TrodAll en Tryz.prog W 0 (fun _=>true) true Tryz.f15.params.toList args.toList ds p:=hA0;rw[Tryz.params15]at hA hval;obtain⟨v0,vs0,d0w,ds0,p0,q0,hargs,rfl,rfl,h0,r0w⟩:=trodAll_cons hA;obtain⟨v1,vs1,d1,ds1,p1,q1,rfl,rfl,rfl,h1,r1⟩:=trodAll_cons r0w;obtain⟨v2,vs2,d2,ds2,p2,q2,rfl,rfl,rfl,h2,r2⟩:=trodAll_cons r1;obtain⟨rfl,rfl,rfl⟩:=trodAll_nil r2;obtain rfl:args=#[v0,v1,v2]:=by cases args;simp_all
 obtain⟨rfl,rfl⟩:=trodVars_none hV;have lt0:∀ x∈p0,x.block < W.heap.size:=by obtain⟨m,hm⟩:=h0;exact DataW.trod_lt m _ _ _ hm
 have lt1:∀ x∈p1,x.block < W.heap.size:=by obtain⟨m,hm⟩:=h1;exact DataW.trod_lt m _ _ _ hm
 have lt2:∀ x∈p2,x.block < W.heap.size:=by obtain⟨m,hm⟩:=h2;exact DataW.trod_lt m _ _ _ hm
 obtain⟨x0,g0,hx0⟩:=rNw.argS rfl Tryz.underlying47 (hval 0 47 v0 rfl rfl) h0;obtain⟨x1,g1,hx1⟩:=rMs.argS rfl Tryz.underlying53 (hval 1 53 v1 rfl rfl) h1;obtain⟨x2,g2,hx2⟩:=rEv.argS rfl Tryz.underlying83 (hval 2 83 v2 rfl rfl) h2;clear hA0 hval0;refine (law_walkG (Bc awake_c x0 x1 g1 x2) (W:=W) (vs:=#[v0,v1,v2]) (glAll hL) rfl (fun j c hj E=>?_)).mono fun e W' ⟨he,bel⟩=>?_
 . match j,hj with
   | 0,hj=>cases hj;exact hx0 E
   | 1,hj=>cases hj;exact hx1 E
   | 2,hj=>cases hj;exact hx2 E
 . subst he;exact⟨_,rfl,_,_,_,[],_,[],hW',trodAll_mk1 (shut_bool Tryz.underlying4 _),(trodAll_cons_mk (Below.trod laidOut (by kernel_rfl) (of_decide_eq_true (by kernel_rfl)) h0 bel lt0) (trodAll_cons_mk (Below.trod laidOut (by kernel_rfl) (of_decide_eq_true (by kernel_rfl)) h1 bel lt1) (trodAll_cons_mk (Below.trod laidOut (by kernel_rfl) (of_decide_eq_true (by kernel_rfl)) h2 bel lt2) trodAll_mk0))),rfl,bel.frame _,fun h=>by cases h⟩
theorem BF : (Rows.moveKeptRow.inPlace == Tryz.prog.inPlace 15)=true:=by kernel_rfl
theorem jUnf15 : (Rows.moveKeptRow.unfollowed == Tryz.prog.unfollowed 15)=true:=by kernel_rfl
theorem jRec15 : (Rows.moveKeptRow.recurses == Tryz.prog.recurses 15)=true:=by kernel_rfl
theorem BE : (Rows.moveKeptRow.named == Tryz.prog.varsNamed 15)=true:=by kernel_rfl
theorem jKeys15 : (Rows.moveKeptRow.plainKeys == Tryz.prog.plainKeys)=true:=jKeys
theorem jLift15 : (Rows.moveKeptRow.lifted == Tryz.prog.liftsFinal)=true:=jLift
theorem jMake15 : (Tryz.prog.make == some Rows.moveKeptRow.make)=true:=jMake
theorem jVeil15 : Rows.moveKeptRow.veiledFits Tryz.prog Tryz.f15.params.toList (Tryz.f15.params.toList++Rows.moveKeptSpec.plain.varTypes Tryz.prog++Tryz.f15.resultTypes.toList)=true:=by kernel_rfl
end Go.Proofs.YtcbabnbiinkafaaGreatDoor
end
