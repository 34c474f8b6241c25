/- Part 7 of the proof of: the statements about chapter 8 -/
import Derived.WideShapes
import Derived.ChangeArms
import Derived.OpenShut
import Derived.Below
import Derived.LaidLaws
import Derived.Lib.LaidTab
import Derived.Stop.LaidErr
import Derived.Test.YtcbabnbiinkafaaGreatDoorBu6
set_option linter.all false
set_option maxHeartbeats 8000000
set_option maxRecDepth 100000
section
namespace Go.Am
open Dat (cells)
variable {P : Program} [Glob P]
theorem pJ {E:Env} {U:Nat->Prop} {h:Array Obj}:∀ {ps:List Nat} {vs:List C} {aS:List Value} {t:dJ} {tmps:Array Value},vs.length=ps.length->aS.length=ps.length->(∀ p∈ps,p < tmps.size) ->
 (∀ j,Rep E U h (gt t j) (tmps.getD j undef))->(∀ (j:Nat) c v,vs[j]? = some c->aS[j]? = some v->Rep E U h c v) ->
 ∀ j,Rep E U h (gt (bH t ps vs) j) (((ps.zip aS).foldl (fun tmps (q:Nat×Value)=>tmps.setIfInBounds q.1 q.2) tmps).getD j undef)
 |[],vs,aS,t,tmps,_,_,_,h0,_,j=>by simp only[bH,List.zip_nil_left,List.foldl_nil];exact h0 j
 | p :: ps,[],aS,t,tmps,h1,_,_,_,_,j=>by simp at h1
 | p :: ps,v :: vs,[],t,tmps,_,h1,_,_,_,j=>by simp at h1
 | p :: ps,v :: vs,x :: aS,t,tmps,h1,h2,hp,h0,hv,j=>by
  simp only[bH,List.zip_cons_cons,List.foldl_cons];refine pJ (by simpa using h1) (by simpa using h2) (fun q hq=>by simpa using hp q (zo _ hq)) (fun i=>?_) (fun i c v hc hx=>hv (i+1) c v (by simpa using hc) (by simpa using hx)) j;rw[fF];have hpl:=hp p zq;by_cases hi:p=i
  . subst hi;rw[qb rfl,ew (v:=x) (by rw[yl];simp[hpl])];exact hv 0 v x rfl rfl
  . rw[qa hi];have:(tmps.setIfInBounds p x).getD i undef=tmps.getD i undef:=by simp[zc,Array.getElem?_setIfInBounds_ne hi]
    rw[this];exact h0 i
theorem nD : ∀ (l:List (Nat×Value)) (tmps:Array Value),(l.foldl (fun tmps (q:Nat×Value)=>tmps.setIfInBounds q.1 q.2) tmps).size=tmps.size
 |[],_=>rfl
 | (_,_) :: l,tmps=>by simp[nD l]
theorem uD {cx:Cx} {Eb Ec E2:Env} {U F U2:Nat->Prop} {w w3:World} {l D:Nat} {ob:Obj} {a2:Act} {st2:ASt} {ch0 ch1:Chs} {bx:List Nat} {tB:dJ} {tmps:Array Value} (hh:Holds P cx E2 U2 a2 w3 st2)
 (cw:cx.w0=w.putObj l ob) (cA:cx.A0=U) (cX:cx.X=fun b=>∃ k c,(k,c)∈ch0/\(Ec k).fp b) (cE:cx.E0=Eb) (ch:cx.hid=[(l,ob),(D,.deferred (some []))]) (cf:∀ k∈bx,cx.fx k) (hlD:l≠D)
 (hFU:∀ b,F b->¬ U b) (_hFs:∀ b,F b->b < w.heap.size) (hX:∀ k c,(k,c)∈ch0->∀ b,(Ec k).fp b->F b) (hFl:F l) (hFD:F D) (hsub:∀ k c,(k,c)∈ch1->(k,c)∈st2.ch) (hbx:bP bx ch1) (htB:∀ j,Rep Eb U w.heap (gt tB j) (tmps.getD j undef)) (rec:Loop) :
 ∃ F',(jR Eb l D rec bx tB tmps ch1).φ F' U2 (w3.putObj l (.loop rec)).heap/\Moved U F w U2 F' (w3.putObj l (.loop rec)):=by
 obtain⟨q1,q2,q3⟩:=hh.hid (l,ob) (by rw[ch];simp);obtain⟨p1,p2,p3⟩:=hh.hid (D,.deferred (some [])) (by rw[ch];simp);have hl3:=lt_of_getElem? q1;have hD3:=lt_of_getElem? p1;have hne:∀ b,b≠l->(w3.putObj l (.loop rec)).heap[b]? = w3.heap[b]?:=fun b hb=>World.putObj_heap_other hb
 have hne0:∀ b,b≠l->cx.w0.heap[b]? = w.heap[b]?:=fun b hb=>by rw[cw];exact World.putObj_heap_other hb
 have hs0:cx.w0.heap.size=w.heap.size:=by rw[cw];simp
 have hXF:∀ b,cx.X b->F b:=fun b hb=>by rw[cX]at hb;obtain⟨k,c,h1,h2⟩:=hb;exact hX k c h1 b h2
 have hkeep:∀ b,U b->U2 b/\(w3.putObj l (.loop rec)).heap[b]? = w.heap[b]?:=fun b hb=>by
  have hbl:b≠l:=fun e=>hFU l hFl (e ▸ hb)
  have h:=hh.keepA b (by rw[cA];exact hb);exact⟨h.1,(hne b hbl).trans (h.2.trans (hne0 b hbl))⟩
 refine⟨fun b=>(∃ k c,(k,c)∈ch1/\(E2 k).fp b)\/b=l\/b=D,⟨E2,fun k c hm=>?_,fun k c k' c' hm hm'=>hh.inv.sep k c k' c' (hsub k c hm) (hsub k' c' hm'),fun k c hm b hb=>⟨.inl ⟨k,c,hm,hb⟩,fun e=>q3 k c (hsub k c hm) (e ▸ hb),fun e=>p3 k c (hsub k c hm) (e ▸ hb)⟩,
  .inr (.inl rfl),.inr (.inr rfl),fun k hk=>?_,World.putObj_heap_same hl3,(hne D (Ne.symm hlD)).trans p1,fun j=>(htB j).same hkeep⟩,?_⟩
 . exact (hh.inv.ok k c (hsub k c hm)).same (fun b hb=>⟨hb,hne b (fun e=>q2 (e ▸ hb))⟩) (fun b hb=>hne b (fun e=>q3 k c (hsub k c hm) (e ▸ hb)))
 . obtain⟨cs,hcs⟩:=jC hbx.1 k hk;rw[<- cE];exact hh.fix k cs (cf k hk) (hsub k _ hcs)
 . refine⟨hh.os.trans (by rw[cw];rfl),hh.tape.trans (by rw[cw];rfl),hh.output.trans (by rw[cw];rfl),by rw[World.putObj_size,<- hs0];exact hh.size,hkeep,fun b hb hF=>?_,fun b hb=>?_,fun b hb=>?_,fun b hb hu=>?_,fun b hb=>?_,fun b hb=>by rw[World.putObj_size];exact hh.inv.lt b hb⟩
   . have hbl:b≠l:=fun e=>hF (e ▸ hFl)
     exact (hne b hbl).trans ((hh.fr b (by rw[hs0];exact hb) (fun hx=>hF (hXF b hx))).trans (hne0 b hbl))
   . rcases hb with⟨k,c,hm,hb⟩ | rfl | rfl
     . rcases hh.live k c (hsub k c hm) b hb with g | g
       . exact .inl (by rw[<- hs0];exact g)
       . exact .inr (hXF b g)
     . exact .inr hFl
     . exact .inr hFD
   . rcases hh.base b hb with g | g | g
     . exact .inl (by rw[<- cA];exact g)
     . exact .inr (.inl (by rw[<- hs0];exact g))
     . exact .inr (.inr (hXF b g))
   . rcases hb with⟨k,c,hm,hb⟩ | rfl | rfl
     . exact hh.inv.out k c (hsub k c hm) b hb hu
     . exact q2 hu
     . exact p2 hu
   . rw[World.putObj_size];rcases hb with⟨k,c,hm,hb⟩ | rfl | rfl
     . exact hh.inv.fpl k c (hsub k c hm) b hb
     . exact hl3
     . exact hD3
theorem vW {n hi:Nat} (hn:n<=100000) {Eb:Env} {l D:Nat} {fn:FuncId} {tmps:Array Value} {ps:Array Tmp} {x y:Code} {assign body:AC} {bx:List Nat} {tB:dJ} {vs:List C} {ch0:Chs} {Rt:Option Res} {J:Code->Chs->Prop} {N':ASt->Prop} {rec:LoopState->Option Code->Loop}
 (hrec:rec=fun s p=>{ state:=s,pending:=p,fn,tmps,params:=ps,assign:=x,body:=y,defers:=D }) (hnd:(ch0.map (·.1)).Nodup) (hbx0:bP bx ch0) (hbig:∀ k∈bx,100000<=k/\k < hi) (hlD:l≠D) (hsz:tmps.size=n) (hps:∀ p∈ps.toList,p < n)
 (hvl:vs.length=ps.toList.length) (hvk:∀ c∈vs,dG [] c) (htp:∀ j,ax bx (gt tB j)=true) (hx:d8 P n assign x=some assign) (hy:d8 P n body y=some body)
 (hrun:∀ cx',cx'.n=n->cx'.hi=hi->SG P cx' (fun _=>False) [.c assign,.post (fun st1=>∀ cx'',cx''.n=n->cx''.hi=hi->SG P cx'' (fun _=>False) [.c body,.rnd N' (fun j st'=>bP bx st'.ch/\J j st'.ch)] st1)] ⟨bH tB ps.toList vs,ch0⟩)
 (hN:∀ st',N' st'->∃ ch1,(ch1.map (·.1)).Nodup/\bP bx ch1/\(∀ k c,(k,c)∈ch1->(k,c)∈st'.ch)/\Rt=some (jR Eb l D (rec .ready none) bx tB tmps ch1)) :
 YAt P l vs (jR Eb l D (rec .ready none) bx tB tmps ch0) Rt (tG J Eb l D (fun j=>rec .done j) bx tB tmps):=by
 intro E U F w aS hg ha hφ hFU hFs hUl;obtain⟨Ec,h1,h2,h3,h4,h5,h6,h7,h8,h9⟩:=hφ;have hsa:aS.size=ps.size:=by rw[ha.1,hvl];simp
 refine⟨fn,(ps.zip aS).foldl (fun tmps (t,a)=>tmps.setIfInBounds t a) tmps,x,y,?_,fun ro=>?_⟩
 . have:=run_yield (P:=P) (args:=aS) h7 (by rw[hrec];exact hsa);rw[hrec]at this;exact this
 . have htm:(ps.zip aS).foldl (fun tmps (t,a)=>tmps.setIfInBounds t a) tmps=(ps.toList.zip aS.toList).foldl (fun tmps (q:Nat×Value)=>tmps.setIfInBounds q.1 q.2) tmps:=by
    rw[<- Array.foldl_toList,Array.toList_zip]
   rw[htm];generalize htm2:(ps.toList.zip aS.toList).foldl (fun tmps (q:Nat×Value)=>tmps.setIfInBounds q.1 q.2) tmps=tm;have htz:tm.size=n:=by rw[<- htm2,nD];exact hsz
   let cx1:Cx:={ n:=n,A0:=U,w0:=w,X:=fun b=>∃ k c,(k,c)∈ch0/\(Ec k).fp b,E0:=Eb,hn:=hn,ro:=some l,hid:=[(l,.loop (rec .ready none)),(D,.deferred (some []))],lo:=100000,hi:=hi,hlo:=zw _ }
   have hlw:=hFs l h4;have hslots:∀ j,Rep Ec U w.heap (gt tB j) (tmps.getD j undef):=fun j=>(h9 j).fixed (htp j) h6
   have hh1:Holds P cx1 Ec U { tmps:=tm,defers:=[] } w ⟨bH tB ps.toList vs,ch0⟩:=by
    refine⟨htz,⟨[],rfl,.nil,fun D hD=>by simp at hD⟩,fun j=>?_,⟨hnd,h1,h2,fun k c hm b hb=>hFU b (h3 k c hm b hb).1,fun k c hm b hb=>hFs b (h3 k c hm b hb).1,hUl⟩,rfl,rfl,rfl,zw _,fun _ _ _=>rfl,fun b hb=>⟨hb,rfl⟩,fun k c hm b hb=>.inr ⟨k,c,hm,hb⟩,fun b hb=>.inl hb,
     fun k cs hk hm=>h6 k (j8 hbx0.2 k cs hm (Cx.fx_ge hk)),fun p hp=>?_,hg⟩
    . rw[<- htm2]
      exact pJ (E:=Ec) hvl (by simpa using hsa) (fun p hp=>by rw[hsz];exact hps p hp) hslots (fun i c v hc hv=>by
       have:=ha.2 i c hc;rw[ew (v:=v) (by simpa using hv)]at this
       exact this.env (hvk c (zp hc)) (fun k hk=>by simp at hk)) j
    . simp only[cx1,zl,zA,qk]at hp;rcases hp with rfl | rfl
      . exact⟨h7,hFU l h4,fun k c hm hb=>(h3 k c hm l hb).2.1 rfl⟩
      . exact⟨h8,hFU D h5,fun k c hm hb=>(h3 k c hm D hb).2.2 rfl⟩
   refine roundIn_of_wpIn (F:=FW ro) (n:=0) trivial (wpIn_mono (hrun cx1 rfl rfl Ec U _ w hh1 x hx) (fun e a1 w1 he=>?_));cases e with
   | normal=>
    obtain⟨E1,U1,st1,g1,g2⟩:=he;obtain⟨q1,_⟩:=g1.hid (l,.loop (rec .ready none)) (by simp[cx1]);refine⟨_,run_beginRound q1 (by rw[hrec]),?_⟩;have hh2:=g1.busy (o':=.loop { rec .ready none with state:=.busy }) rfl hlD hlw;refine wpIn_mono (g2 _ rfl rfl E1 U1 a1 _ hh2 y hy) (fun e a2 w3 he=>?_);have fin:∀ (jump:Option Code) (E2:Env) (U2:Nat->Prop) (st2:ASt) (ch1:Chs),Holds P { cx1 with w0:=w.putObj l (.loop { rec .ready none with state:=.busy }),hid:=[(l,.loop { rec .ready none with state:=.busy }),(D,.deferred (some []))] } E2 U2 a2 w3 st2 ->
     (∀ k c,(k,c)∈ch1->(k,c)∈st2.ch)->bP bx ch1->(Instr.endRound l jump).run P w3=.ok (.bool jump.isNone) (w3.putObj l (.loop (rec (if jump.isNone then .ready else .done) jump))) /\
     ∃ F',(jR Eb l D (rec (if jump.isNone then .ready else .done) jump) bx tB tmps ch1).φ F' U2 (w3.putObj l (.loop (rec (if jump.isNone then .ready else .done) jump))).heap/\Moved U F w U2 F' (w3.putObj l (.loop (rec (if jump.isNone then .ready else .done) jump))):=fun jump E2 U2 st2 ch1 hh hsub hbx=>by
     obtain⟨r1,_⟩:=hh.hid (l,.loop { rec .ready none with state:=.busy }) (by simp);refine⟨?_,uD hh rfl rfl rfl rfl rfl hbig hlD hFU hFs (fun k c hm b hb=>(h3 k c hm b hb).1) h4 h5 hsub hbx h9 _⟩;have:=run_endRound (P:=P) jump r1;rw[hrec]at this ⊢;exact this
    cases e with
    | normal=>
     obtain⟨E2,U2,st2,s1,s2⟩:=he;obtain⟨ch1,c1,c2,c3,c4⟩:=hN st2 s2;obtain⟨f1,F',f2,f3⟩:=fin none E2 U2 st2 ch1 s1 c3 c2;exact⟨_,_,f1,true,F',U2,rfl,⟨_,c4,f2⟩,f3⟩
    | ret=>
     obtain⟨E2,U2,st2,s1,s2,s3⟩:=he;obtain⟨f1,F',f2,f3⟩:=fin (some .ret) E2 U2 st2 st2.ch s1 (fun _ _ h=>h) s2;exact⟨_,_,f1,false,F',U2,rfl,⟨_,_,s1.inv.nd,s2,s3,f2⟩,f3⟩
    | exit id=>
     obtain⟨E2,U2,st2,s1,s2,s3⟩:=he;obtain⟨f1,F',f2,f3⟩:=fin (some (.exit id)) E2 U2 st2 st2.ch s1 (fun _ _ h=>h) s2;exact⟨_,_,f1,false,F',U2,rfl,⟨_,_,s1.inv.nd,s2,s3,f2⟩,f3⟩
    | goto t=>exact he.elim
    | panic c=>exact he.elim
    | outgrown=>exact he.elim
   | ret=>obtain⟨_,_,_,_,hf⟩:=he;exact hf.elim
   | exit id=>exact he.elim
   | goto t=>exact he.elim
   | panic c=>exact he.elim
   | outgrown=>exact he.elim
theorem Holds.after {cx:Cx} {st:ASt} {E:Env} {U U3 F3:Nat->Prop} {a:Act} {w w1 w3:World} {l D:Nat} {rec:Loop} {o:Obj} {bx:List Nat} {ch:Chs} (hh:Holds P cx E U a w st)
 (hD:D=w.heap.size) (hl:l=w.heap.size+1) (hw1:w1.os=w.os/\w1.tape=w.tape/\w1.output=w.output/\w1.heap.size=w.heap.size+2/\∀ b,b < w.heap.size->w1.heap[b]? = w.heap[b]?)
 (hm:Moved U (fun b=>(∃ k c,(k,c)∈st.ch/\(E k).fp b)\/b=l\/b=D) w1 U3 F3 w3) (hφ:(jR E l D rec bx (bo bx st.t) a.tmps ch).φ F3 U3 w3.heap) (hnd:(ch.map (·.1)).Nodup) (hbx:bP bx ch) (hb0:∀ k∈bx,∃ cs,(k,.box cs)∈st.ch) :
 ∃ E',Holds P cx E' U3 { a with defers:=gz D :: a.defers } (w3.putObj l o) ⟨bo bx st.t,ch⟩:=by
 obtain⟨Ec,h1,h2,h3,h4,h5,h6,h7,h8,h9⟩:=hφ;obtain⟨v1,v2,v3,v4,v5⟩:=hw1;have hlD:l≠D:=by omega
 have hl3:=lt_of_getElem? h7;have hne:∀ b,b≠l->(w3.putObj l o).heap[b]? = w3.heap[b]?:=fun b hb=>World.putObj_heap_other hb
 have hUl:∀ b,U3 b->b≠l:=fun b hb e=>hm.out l h4 (e ▸ hb)
 have hU:∀ b,U3 b->U3 b/\(w3.putObj l o).heap[b]? = w3.heap[b]?:=fun b hb=>⟨hb,hne b (hUl b hb)⟩
 have hF1:∀ b,((∃ k c,(k,c)∈st.ch/\(E k).fp b)\/b=l\/b=D)->cx.w0.heap.size<=b\/cx.X b:=fun b hb=>by
  have:=hh.size;rcases hb with⟨k,c,g1,g2⟩ | rfl | rfl
  . exact hh.live k c g1 b g2
  . exact .inl (by omega)
  . exact .inl (by omega)
 have hold:∀ b,b < w.heap.size->(∀ k c,(k,c)∈st.ch->¬ (E k).fp b)->(w3.putObj l o).heap[b]? = w.heap[b]?:=fun b hb hn=>by
  rw[hne b (by omega),hm.rest b (by omega) (by rintro (⟨k,c,g1,g2⟩ | g | g);exact hn k c g1 g2;omega;omega)];exact v5 b hb
 have hkeep:∀ b,U b->U3 b/\(w3.putObj l o).heap[b]? = w.heap[b]?:=fun b hb=>by
  have hlt:=hh.inv.lt b hb;exact⟨(hm.keep b hb).1,(hne b (by omega)).trans ((hm.keep b hb).2.trans (v5 b hlt))⟩
 have hidden:∀ b o',gv E U w.heap st.ch b o'->gv Ec U3 (w3.putObj l o).heap ch b o':=fun b o' ⟨g1,g2,g3⟩=>by
  have hlt:=lt_of_getElem? g1;have hnF:¬ ((∃ k c,(k,c)∈st.ch/\(E k).fp b)\/b=l\/b=D):=by rintro (⟨k,c,q1,q2⟩ | q | q);exact g3 k c q1 q2;omega;omega
  refine⟨(hold b hlt g3).trans g1,fun hu=>?_,fun k c hk hf=>?_⟩
  . rcases hm.newU b hu with q | q | q
    . exact g2 q
    . omega
    . exact hnF q
  . rcases hm.live b (h3 k c hk b hf).1 with q | q
    . omega
    . exact hnF q
 have hfp:∀ k c,(k,c)∈ch->∀ b,(Ec k).fp b->F3 b/\b≠l:=fun k c hk b hb=>⟨(h3 k c hk b hb).1,(h3 k c hk b hb).2.1⟩
 refine⟨Ec,hh.sz,?_,fun i=>?_,⟨hnd,fun k c hk=>(h1 k c hk).same hU (fun b hb=>hne b (hfp k c hk b hb).2),h2,fun k c hk b hb=>hm.out b (hfp k c hk b hb).1,fun k c hk b hb=>by rw[World.putObj_size];exact hm.fpl b (hfp k c hk b hb).1,fun b hb=>by rw[World.putObj_size];exact hm.lt b hb⟩,
  hm.os.trans (v1.trans hh.os),hm.tape.trans (v2.trans hh.tape),hm.output.trans (v3.trans hh.output),?_,fun b hb hx=>?_,fun b hb=>?_,fun k c hk b hb=>?_,fun b hb=>?_,fun k cs hk hm'=>?_,fun p hp=>hidden _ _ (hh.hid p hp),hh.gok.mono hkeep⟩
 . obtain⟨Ds,d1,d2,d3⟩:=hh.df;refine⟨D :: Ds,by rw[zt,<- d1],zI.2 ⟨fun hm'=>?_,d2⟩,fun D' hD'=>?_⟩
   . have:=lt_of_getElem? (d3 D hm').2.1;omega
   . rcases zl.1 hD' with e | e
     . subst e;refine⟨by have:=hh.size;omega,(hne D' (Ne.symm hlD)).trans h8,hm.out D' h5,fun k c hk hf=>(h3 k c hk D' hf).2.2 rfl⟩
     . exact⟨(d3 D' e).1,hidden _ _ (d3 D' e).2⟩
 . have:=h9 i;rcases lX bx st.t i with e | ⟨e,ep⟩
   . show Rep _ _ _ (gt (bo bx st.t) i) _
     rw[e];exact .d (.any _)
   . exact (this.fixed (by rw[e];exact ep) h6).same hU
 . rw[World.putObj_size];have:=hm.size;have:=hh.size;omega
 . have hlt:=hh.size
   rw[hold b (by omega) (fun k c hk hf=>by
    rcases hh.live k c hk b hf with q | q
    . omega
    . exact hx q)]
   exact hh.fr b hb hx
 . have:=hkeep b (hh.keepA b hb).1;exact⟨this.1,this.2.trans (hh.keepA b hb).2⟩
 . rcases hm.live b (hfp k c hk b hb).1 with q | q
   . have:=hh.size;exact .inl (by omega)
   . exact hF1 b q
 . rcases hm.newU b hb with q | q | q
   . exact hh.base b q
   . have:=hh.size;exact .inr (.inl (by omega))
   . exact .inr (hF1 b q)
 . have hkb:=j8 hbx.2 k cs hm' (Cx.fx_ge hk);obtain⟨cs0,hc0⟩:=hb0 k hkb;exact (h6 k hkb).trans (hh.fix k cs0 hk hc0)
theorem rH {cx:Cx} {Q:ASt->Prop} {k:List It} {st:ASt} {g:Operand} {ps:List Nat} {assign body:AC} {f:FuncId} {first caps:List C} {ich:Chs} {kr:Nat} {vals:Nat->List C} {N:Nat} {fin:Bool} (bx:List Nat) (sh:Nat->Chs)
 (hro:cx.ro=none) (hg:bk (aq P st.t g)=some (f,first,caps)) (hit:ItC P f first caps ich kr vals N fin) (hich:ap (kr :: ag ich)/\br ich st.ch) (hkc:(∀ c∈first++caps,dG (ag ich) c)/\∀ k c,(k,c)∈ich->gd (ag ich) c)
 (hsh0:br (sh 0) st.ch/\bI (ag (sh 0)) (ag ich)) (hshn:∀ i,i<=N->ap (ag (sh i))/\bP bx (sh i)) (hbig:∀ k∈bx,100000<=k/\k < cx.hi+100000)
 (hvl:∀ i,i < N->(vals i).length=ps.length/\∀ c∈vals i,dG [] c)
 (hround:∀ i,i < N->∀ cx',cx'.n=cx.n->cx'.hi=cx.hi+100000->SG P cx' (fun _=>False) [.c assign,.post (fun st1=>∀ cx'',cx''.n=cx.n->cx''.hi=cx.hi+100000 ->
  SG P cx'' (fun _=>False) [.c body,.rnd (fun st'=>(i+1 < N\/fin=true)/\br (sh (i+1)) st'.ch) (fun j st'=>bP bx st'.ch/\bT P cx Q k (bo bx st.t) j st'.ch)] st1)] ⟨bH (bo bx st.t) ps (vals i),sh i⟩)
 (hend:fin=true->SG P cx Q k ⟨bo bx st.t,sh N⟩):SG P cx Q (.c (.rangeFunc g ps assign body) :: k) st:=eW fun code hc E U a w hh=>by
 cases code <;> simp only[d8,reduceCtorEq]at hc;rename_i g' ps' x y;split at hc
 . rename_i hps;simp only[zk,za]at hc;obtain⟨a',c1,b',c2,c3⟩:=hc;cases c3;have hbs:∀ i,i<=N->∀ k∈bx,∃ cs,(k,.box cs)∈sh i:=fun i hi=>jC (hshn i hi).2.1
   obtain⟨fv,cv,hev,hl1,hr1,hl2,hr2⟩:=qW hg (hh.ev g);refine wpIn_rangeFunc (fun fn _=>?_);have hround0:(FW cx.ro).round=none:=by rw[hro];rfl
   rw[hround0];obtain⟨rec,hrec⟩:∃ rec:LoopState->Option Code->Loop,rec=fun s p=>{ state:=s,pending:=p,fn,tmps:=a.tmps,params:=ps',assign:=x,body:=y,defers:=w.heap.size }:=⟨_,rfl⟩
   generalize hW1:(w.alloc (.deferred (some []))).alloc (.loop (rec .ready none))=W1;have hsize1:W1.heap.size=w.heap.size+2:=by rw[<- hW1];simp[World.size_alloc]
   have hL1:W1.heap[w.heap.size+1]? = some (.loop (rec .ready none)):=by
    rw[<- hW1];have:=World.alloc_heap_new (w.alloc (.deferred (some []))) (.loop (rec .ready none));rwa[World.size_alloc]at this
   have hD1:W1.heap[w.heap.size]? = some (.deferred (some [])):=by
    rw[<- hW1];show ((w.heap.push (.deferred (some []))).push (.loop (rec .ready none)))[w.heap.size]? = _
    rw[yE,qa (by simp),yE,qb rfl]
   have hold1:∀ b,b < w.heap.size->W1.heap[b]? = w.heap[b]?:=fun b hb=>by
    rw[<- hW1];show ((w.heap.push (.deferred (some []))).push (.loop (rec .ready none)))[b]? = _
    rw[yE,qa (by simp;omega),yE,qa (by omega)]
   have hos1:W1.os=w.os/\W1.tape=w.tape/\W1.output=w.output:=by rw[<- hW1];exact⟨rfl,rfl,rfl⟩
   have hkeep1:∀ b,U b->U b/\W1.heap[b]? = w.heap[b]?:=fun b hb=>⟨hb,hold1 b (hh.inv.lt b hb)⟩
   let l:=w.heap.size+1
   let D:=w.heap.size
   let J:=bT P cx Q k (bo bx st.t)
   let R:Nat->Res:=fun i=>jR E l D (rec .ready none) bx (bo bx st.t) a.tmps (sh i)
   let Rf:Res:=tG J E l D (fun j=>rec .done j) bx (bo bx st.t) a.tmps
   have htp:∀ j,ax bx (gt (bo bx st.t) j)=true:=fun j=>by
    rcases lX bx st.t j with e | ⟨e,ep⟩
    . rw[e];rfl
    . rw[e];exact ep
   have hy:∀ i,i < N->YAt P l (vals i) (R i) (if i+1 < N\/fin=true then some (R (i+1))else none) Rf:=fun i hi=>by
    refine vW (n:=cx.n) (hi:=cx.hi+100000) (assign:=assign) (body:=body) (N':=fun st'=>(i+1 < N\/fin=true)/\br (sh (i+1)) st'.ch) cx.hn hrec (by rw[<- dT];exact dY (hshn i (by omega)).1) (hshn i (by omega)).2 hbig (by show w.heap.size+1≠w.heap.size;omega) hh.sz
     (fun p hp=>by simpa using yn.1 hps p (by simpa using hp)) (hvl i hi).1 (hvl i hi).2 htp c1 c2 (hround i hi) (fun st' hst=>?_)
    refine⟨sh (i+1),by rw[<- dT];exact dY (hshn (i+1) (by omega)).1,(hshn (i+1) (by omega)).2,fun k c hm=>dH (fT hst.2 (k,c) hm),?_⟩;rw[qb hst.1]
   have hF:=hit l R Rf hy
   let F0:Nat->Prop:=fun b=>(∃ k c,(k,c)∈sh 0/\(E k).fp b)\/b=l\/b=D
   let xr:KE:={ E kr with fp:=F0 }
   let E1:=dQ E kr xr
   have hE1:∀ k∈ag ich,E1 k=E k:=fun k hk=>d0 E xr (fun e=>by
    have:=(dY hich.1)
    exact (zI.1 this).1 (e ▸ hk))
   have hsub0:∀ k c,(k,c)∈sh 0->(k,c)∈st.ch:=fun k c hm=>dH (fT hsh0.1 (k,c) hm)
   have hsubI:∀ k c,(k,c)∈ich->(k,c)∈st.ch:=fun k c hm=>dH (fT hich.2 (k,c) hm)
   have hkI:∀ k c,(k,c)∈ich->k∈ag ich:=fun k c hm=>by rw[dT];exact zu.2 ⟨_,hm,rfl⟩
   have hk0:∀ k c,(k,c)∈sh 0->k∈ag (sh 0):=fun k c hm=>by rw[dT];exact zu.2 ⟨_,hm,rfl⟩
   have hargs:jo E1 U W1.heap (first++[.s (.func (.yield l) #[] #[])]++caps) (fv++#[.func (.yield l) #[] #[]]++cv):=by
    have up:∀ c v,Rep E U w.heap c v->c∈first++caps->Rep E1 U W1.heap c v:=fun c v hr hc=>((hr.same hkeep1).env (hkc.1 c hc) hE1)
    refine⟨by simp only[Array.size_append,zK,hl1,hl2];rfl,fun j c hj=>?_⟩;simp only[zc];rw[ye,zS]at hj;rw[Array.append_assoc,yx,hl1];split at hj
    . rename_i hlt;rw[qb hlt];have:=up c _ (hr1 j c hj) (zW.2 (.inl (zp hj)));simpa[zc]using this
    . rename_i hlt;rw[qa hlt,yx];rw[zS]at hj;by_cases h2:j - first.length < 1
      . have h0:j - first.length=0:=by omega
        rw[qb (by simpa using h2)]at hj;rw[qb (by simpa using h2)];simp[h0]at hj ⊢;subst hj;exact .d (.s _)
      . rw[qa (by simpa using h2)]at hj;rw[qa (by simpa using h2)];have:=up c _ (hr2 _ c hj) (zW.2 (.inr (zp hj)));simpa[zc]using this
   have hF0:∀ b,F0 b->(∃ k c,(k,c)∈st.ch/\(E k).fp b)\/b=l\/b=D:=fun b hb=>by
    rcases hb with⟨k,c,g1,g2⟩ | g
    . exact .inl ⟨k,c,hsub0 k c g1,g2⟩
    . exact .inr g
   have hF0U:∀ b,F0 b->¬ U b:=fun b hb hu=>by
    have hlt:=hh.inv.lt b hu;rcases hF0 b hb with⟨k,c,g1,g2⟩ | g | g
    . exact hh.inv.out k c g1 b g2 hu
    . have:b=w.heap.size+1:=g;omega
    . have:b=w.heap.size:=g;omega
   have hF0l:∀ b,F0 b->b < W1.heap.size:=fun b hb=>by
    rcases hF0 b hb with⟨k,c,g1,g2⟩ | g | g
    . have:=hh.inv.fpl k c g1 b g2;omega
    . have:b=w.heap.size+1:=g;omega
    . have:b=w.heap.size:=g;omega
   have hφ0:(R 0).φ F0 U W1.heap:=by
    refine⟨E,fun k c hm=>(hh.inv.ok k c (hsub0 k c hm)).same hkeep1 (fun b hb=>hold1 b (hh.inv.fpl k c (hsub0 k c hm) b hb)),fun k c k' c' hm hm'=>hh.inv.sep k c k' c' (hsub0 k c hm) (hsub0 k' c' hm'),fun k c hm b hb=>⟨.inl ⟨k,c,hm,hb⟩,?_,?_⟩,.inr (.inl rfl),.inr (.inr rfl),fun k hk=>rfl,hL1,hD1,fun j=>?_⟩
    . have:=hh.inv.fpl k c (hsub0 k c hm) b hb;show b≠w.heap.size+1;omega
    . have:=hh.inv.fpl k c (hsub0 k c hm) b hb;show b≠w.heap.size;omega
    . rcases lX bx st.t j with e | ⟨e,ep⟩
      . rw[e];exact .d (.any _)
      . rw[e];exact (hh.tok j).same hkeep1
   have hinv1:Inv E1 U W1.heap ((kr,.res (R 0)) :: ich):=by
    have hnd:=dY hich.1;have hne:∀ k c,(k,c)∈ich->k≠kr:=fun k c hm e=>(zI.1 hnd).1 (e ▸ hkI k c hm)
    have hEk:E1 kr=xr:=updE_same E kr xr;have hfpI:∀ k c,(k,c)∈ich->∀ b,(E1 k).fp b->(E k).fp b:=fun k c hm b hb=>by rw[hE1 k (hkI k c hm)]at hb;exact hb
    have hsepI:∀ k c,(k,c)∈ich->∀ b,(E k).fp b->¬ F0 b:=fun k c hm b hb hf=>by
     have hlt:=hh.inv.fpl k c (hsubI k c hm) b hb;rcases hf with⟨k',c',g1,g2⟩ | g | g
     . have hkk:k≠k':=fun e=>iS hsh0.2 k' (hk0 k' c' g1) (e ▸ hkI k c hm)
       exact hh.inv.sep k c k' c' (hsubI k c hm) (hsub0 k' c' g1) hkk b hb g2
     . have:b=w.heap.size+1:=g;omega
     . have:b=w.heap.size:=g;omega
    refine⟨by rw[dT]at hnd;exact hnd,fun k c hm=>?_,fun k c k' c' hm hm' hne' b hb hb'=>?_,fun k c hm b hb=>?_,fun k c hm b hb=>?_,fun b hb=>by have:=hh.inv.lt b hb;omega⟩
    . rcases zl.1 hm with e | e
      . cases e;show (R 0).φ (E1 kr).fp U W1.heap
        rw[hEk];exact hφ0
      . have:=(hh.inv.ok k c (hsubI k c e)).same hkeep1 (fun b hb=>hold1 b (hh.inv.fpl k c (hsubI k c e) b hb));exact this.env (hkI k c e) (hkc.2 k c e) hE1
    . rcases zl.1 hm with e | e <;> rcases zl.1 hm' with e' | e'
      . cases e;cases e';exact hne' rfl
      . cases e;rw[hEk]at hb;exact hsepI k' c' e' b (hfpI k' c' e' b hb') hb
      . cases e';rw[hEk]at hb';exact hsepI k c e b (hfpI k c e b hb) hb'
      . exact hh.inv.sep k c k' c' (hsubI k c e) (hsubI k' c' e') hne' b (hfpI k c e b hb) (hfpI k' c' e' b hb')
    . rcases zl.1 hm with e | e
      . cases e;rw[hEk]at hb;exact hF0U b hb
      . exact hh.inv.out k c (hsubI k c e) b (hfpI k c e b hb)
    . rcases zl.1 hm with e | e
      . cases e;rw[hEk]at hb;exact hF0l b hb
      . have:=hh.inv.fpl k c (hsubI k c e) b (hfpI k c e b hb);omega
   have hcall:=hF.2 E1 U _ W1 (hh.gok.mono hkeep1) hargs hinv1;refine⟨w.heap.size+1,[{ target:=.collected w.heap.size,args:=#[] }],W1,{ target:=.fn (.func f) cv,args:=fv++#[.func (.yield (w.heap.size+1)) #[] #[]] },W1,f,fv++#[.func (.yield (w.heap.size+1)) #[] #[]]++cv,W1,?_,?_,fun _ _=>trivial,?_,fun h=>by simp[FW,Fence.wide]at h,?_⟩
   . rw[<- hW1,hrec];exact run_enterLoop_outer _ _ _ _ _
   . simp only[resolve,hev];simp[go_sem]
   . simp only[invoke,jP hF.1]
   . refine kE (hcall.mono fun e w3 h=>?_);obtain⟨o,ho,v,E',U',rfl,_,hce⟩:=h;have hmv:∀ Rz,o.2=[(kr,.res Rz)]->Rz.φ (E' kr).fp U' w3.heap/\Moved U (fun b=>(∃ k c,(k,c)∈st.ch/\(E k).fp b)\/b=l\/b=D) W1 U' (E' kr).fp w3:=fun Rz hz=>by
      have hkm:(kr,Ch.res Rz)∈o.2:=by rw[hz];simp
      have hfps:∀ b,(∃ k0 c0,(k0,c0)∈(kr,Ch.res (R 0)) :: ich/\(E1 k0).fp b)->(∃ k c,(k,c)∈st.ch/\(E k).fp b)\/b=l\/b=D:=fun b ⟨k0,c0,g1,g2⟩=>by
       rcases zl.1 g1 with e | e
       . cases e;have:(E1 kr).fp=F0:=by show (dQ E kr xr kr).fp=F0;rw[updE_same]
         rw[this]at g2;exact hF0 b g2
       . rw[hE1 k0 (hkI k0 c0 e)]at g2;exact .inl ⟨k0,c0,hsubI k0 c0 e,g2⟩
      refine⟨hce.inv.ok kr _ hkm,hce.os,hce.tape,hce.output,hce.size,hce.keep,fun b hb hn=>hce.rest b hb (fun k0 c0 g1 g2=>hn (hfps b ⟨k0,c0,g1,g2⟩)),fun b hb=>?_,fun b hb=>?_,hce.inv.out kr _ hkm,hce.inv.fpl kr _ hkm,hce.inv.lt⟩
      . rcases hce.live kr _ hkm b hb with q | q
        . exact .inl q
        . exact .inr (hfps b q)
      . rcases hce.newU b hb with q | q | q
        . exact .inl q
        . exact .inr (.inl q)
        . exact .inr (.inr (hfps b q))
     have hb0:∀ k∈bx,∃ cs,(k,.box cs)∈st.ch:=fun k hk=>by
      obtain⟨cs,hcs⟩:=hbs 0 (yF _) k hk;exact⟨cs,hsub0 k _ hcs⟩
     have hw1:W1.os=w.os/\W1.tape=w.tape/\W1.output=w.output/\W1.heap.size=w.heap.size+2/\∀ b,b < w.heap.size->W1.heap[b]? = w.heap[b]?:=⟨hos1.1,hos1.2.1,hos1.2.2,hsize1,hold1⟩;rcases zl.1 ho with e | e
     ·
      subst e;obtain⟨⟨jump,ch,n1,n2,n3,n4⟩,hm⟩:=hmv Rf rfl;have hrl:w3.heap[l]? = some (.loop (rec .done (some jump))):=n4.choose_spec.2.2.2.2.2.2.1;obtain⟨Ez,hz⟩:=hh.after (o:=.loop { rec .done (some jump)with state:=.exhausted }) rfl rfl hw1 hm n4 n1 n2 hb0;refine⟨some jump,w3.putObj l (.loop { rec .done (some jump)with state:=.exhausted }),?_,?_⟩
      . have:=run_endLoop (P:=P) hrl (by rw[hrec];simp);rw[hrec]at this ⊢;exact this
      . show jump.wpIn (FW cx.ro) 0 P (WE P cx Q k) _ _
        cases jump with
        | exit id=>
         refine wpIn_exit ?_;simp only[J,bT]at n3;cases hk:aJ id k with
         | cont k'=>rw[hk]at n3;exact jx k k' _ _ hk (n3 _ _ _ _ hz)
         | out p=>rw[hk]at n3;exact ki k p _ _ hk ⟨_,_,_,hz,n3⟩
         | none=>rw[hk]at n3;exact n3.elim
        | ret=>exact wpIn_ret (kj k _ _ ⟨_,_,_,hz,n3⟩)
        |_=>exact n3.elim
     . cases hfin:fin with
       | false=>rw[hfin]at e;simp at e
       | true=>
        rw[hfin]at e;simp only[qj,zg]at e;subst e;obtain⟨hφ,hm⟩:=hmv (R N) rfl;have hrl:w3.heap[l]? = some (.loop (rec .ready none)):=hφ.choose_spec.2.2.2.2.2.2.1;obtain⟨Ez,hz⟩:=hh.after (o:=.loop { rec .ready none with state:=.exhausted }) rfl rfl hw1 hm hφ (by rw[<- dT];exact dY (hshn N (zw _)).1) (hshn N (zw _)).2 hb0;refine⟨none,w3.putObj l (.loop { rec .ready none with state:=.exhausted }),?_,?_⟩
        . have:=run_endLoop (P:=P) hrl (by rw[hrec];simp);rw[hrec]at this ⊢;exact this
        . exact hend hfin _ _ _ _ hz
 . cases hc
end Go.Am
end
section
namespace Go.Am
open Dat (cells)
variable {P : Program} [Glob P] {cx : Cx} {Q : ASt → Prop} {k : List It} {st : ASt}
def cJ (b:Nat):List Nat->List (Nat×Nat)
 |[]=>[]
 | k :: ks=>(k,b+k) :: cJ b ks
def bu (ks:List Nat) (m:List (Nat×Nat)):dJ->dJ
 |[]=>[]
 | (i,c) :: t=>(i,match aK ks c with | true=>ak m c | false=>.any) :: bu ks m t
theorem uC {b:Nat}:∀ {ks:List Nat} {k:Nat},k∈ks->rn (cJ b ks) k=b+k
 |[],k,h=>by simp at h
 | j :: ks,k,h=>by
  simp only[rn,cJ,lk];by_cases hj:j=k
  . rw[qb hj,hj];rfl
  . rw[qa hj];have:=uC (b:=b) (ks:=ks) (k:=k) (by rcases zl.1 h with e | e;exact absurd e.symm hj;exact e);simpa only[rn]using this
theorem kN {ks:List Nat}:∀ c:C,aK ks c=true->dG ks c:=by
 intro c;have h:∀ (n:Nat) (c:C),SizeOf.sizeOf c<=n->aK ks c=true->dG ks c:=by
  intro n
  induction n with
  | zero=>intro c hc;cases c <;> simp at hc
  | succ n ih=>
   intro c hc hk;have hl:∀ cs:List C,SizeOf.sizeOf cs<=n->aK.keysBs ks cs=true->dG.keysIns ks cs:=by
    intro cs
    induction cs with
    | nil=>intro _ _;trivial
    | cons x xs ihx=>
     intro hx hkx;simp at hx;simp only[aK.keysBs,zm]at hkx;exact⟨ih x (by omega) hkx.1,ihx (by omega) hkx.2⟩
   cases c with
   | agg cs=>simp at hc;exact hl cs (by omega) hk
   | tup cs=>simp at hc;exact hl cs (by omega) hk
   | fn f xs ys=>simp at hc;simp only[aK,zm]at hk;exact⟨hl xs (by omega) hk.1,hl ys (by omega) hk.2⟩
   | own k=>exact ez.1 hk
   | ptr k off=>exact ez.1 hk
   | eptr k i j=>exact ez.1 hk
   | inn k i=>exact ez.1 hk
   | iptr k i n j=>exact ez.1 hk
   |_=>trivial
 exact h _ c (zw _)
theorem oq (ks:List Nat) (m:List (Nat×Nat)):∀ (t:dJ) (i:Nat),gt (bu ks m t) i=.any\/(gt (bu ks m t) i=ak m (gt t i)/\aK ks (gt t i)=true)
 |[],i=>.inl rfl
 | (j,c) :: t,i=>by
  have ih:=oq ks m t i;simp only[gt,bu,lk]at ih ⊢;by_cases hj:j=i
  . rw[qb hj,qb hj];cases hp:aK ks c with
    | true=>exact .inr ⟨rfl,hp⟩
    | false=>exact .inl rfl
  . rw[qa hj,qa hj];exact ih
def dw (b:Nat) (s:ASt):ASt:=⟨bu (ag s.ch) (cJ b (ag s.ch)) s.t,ar (cJ b (ag s.ch)) s.ch⟩
theorem dW.sh (b:Nat) (hb:cx.hi<=b) (hk:ba (ag st.ch) st.ch=true):dW P cx st (dw b st):=fun E U a w hh=>by
 obtain⟨ks,hks⟩:∃ ks,ag st.ch=ks:=⟨_,rfl⟩;obtain⟨m,hm⟩:∃ m,cJ b ks=m:=⟨_,rfl⟩;have hrn:∀ k∈ks,rn m k=b+k:=fun k hk=>by rw[<- hm];exact uC hk
 have hin:∀ k c,(k,c)∈st.ch->k∈ks:=fun k c h=>by rw[<- hks,dT];exact zu.2 ⟨_,h,rfl⟩
 let E':Env:=fun j=>match ks.find? (fun k=>rn m k == j)with | some k=>E k | none=>E j
 have hE:∀ k∈ks,E' (rn m k)=E k:=fun k hk=>by
  simp only[E'];cases hfnd:ks.find? (fun k'=>rn m k' == rn m k)with
  | none=>
   have:=List.find?_eq_none.1 hfnd k hk;simp at this
  | some k'=>
   have h1:=List.find?_some hfnd;have h2:=List.mem_of_find?_eq_some hfnd;have h3:rn m k'=rn m k:=by simpa using h1
   rw[hrn k' h2,hrn k hk]at h3;have:k'=k:=by omega
   rw[this]
 have hch:∀ k c,(k,c)∈ar m st.ch->∃ k0 c0,(k0,c0)∈st.ch/\k=rn m k0/\c=aF m c0/\E' k=E k0:=fun k c h=>by
  obtain⟨k0,c0,h0,rfl,rfl⟩:=eI h;exact⟨k0,c0,h0,rfl,rfl,hE k0 (hin k0 c0 h0)⟩
 have hkc:∀ k c,(k,c)∈st.ch->gd ks c:=fun k c h=>by
  cases c with
  | box cs=>exact gM fun c hc=>kN c (by rw[<- hks];exact gU hk k cs h c hc)
  |_=>trivial
 have hid:∀ D o,gv E U w.heap st.ch D o->gv E' U w.heap (ar m st.ch) D o:=fun D o ⟨h1,h2,h3⟩=>⟨h1,h2,fun k c h hf=>by
  obtain⟨k0,c0,h0,_,_,e⟩:=hch k c h;rw[e]at hf
  exact h3 k0 c0 h0 hf⟩
 have e1:dw b st=⟨bu ks m st.t,ar m st.ch⟩:=by simp only[dw,hks,hm]
 rw[e1];refine⟨E',U,hh.sz,?_,fun i=>?_,⟨?_,fun k c h=>?_,fun k c k' c' h h' hne x hx hx'=>?_,fun k c h x hx=>?_,fun k c h x hx=>?_,hh.inv.lt⟩,hh.os,hh.tape,hh.output,hh.size,hh.fr,hh.keepA,fun k c h x hx=>?_,hh.base,fun k cs hk h=>?_,fun p hp=>hid _ _ (hh.hid p hp),hh.gok⟩
 . obtain⟨Ds,h1,h2,h3⟩:=hh.df;exact⟨Ds,h1,h2,fun D hD=>⟨(h3 D hD).1,hid _ _ (h3 D hD).2⟩⟩
 . rcases oq ks m st.t i with e | ⟨e,ek⟩
   . show Rep _ _ _ (gt (bu ks m st.t) i) _
     rw[e];exact .d (.any _)
   . show Rep _ _ _ (gt (bu ks m st.t) i) _
     rw[e];exact (hh.tok i).ren (kN _ ek) hE
 . have e2:(ar m st.ch).map (·.1)=ks.map (rn m):=by rw[fl,<- hks,dT,zT,zT];rfl
   rw[e2];refine iE (by rw[<- hks,dT];exact hh.inv.nd) (fun x hx y hy e=>?_);rw[hrn x hx,hrn y hy]at e;omega
 . obtain⟨k0,c0,h0,rfl,rfl,e⟩:=hch k c h;exact (hh.inv.ok k0 c0 h0).ren (hin k0 c0 h0) (hkc k0 c0 h0) hE
 . obtain⟨k0,c0,h0,rfl,rfl,e⟩:=hch k c h;obtain⟨k1,c1,h1,rfl,rfl,e'⟩:=hch k' c' h';rw[e]at hx;rw[e']at hx';exact hh.inv.sep k0 c0 k1 c1 h0 h1 (fun e=>hne (by rw[e])) x hx hx'
 . obtain⟨k0,c0,h0,rfl,rfl,e⟩:=hch k c h;rw[e]at hx;exact hh.inv.out k0 c0 h0 x hx
 . obtain⟨k0,c0,h0,rfl,rfl,e⟩:=hch k c h;rw[e]at hx;exact hh.inv.fpl k0 c0 h0 x hx
 . obtain⟨k0,c0,h0,rfl,rfl,e⟩:=hch k c h;rw[e]at hx;exact hh.live k0 c0 h0 x hx
 . obtain⟨k0,c0,h0,rfl,_,_⟩:=hch k _ h;have h2:=hk.2;rw[hrn k0 (hin k0 c0 h0)]at h2;omega
theorem S_sh (b:Nat) (hb:cx.hi<=b) (hk:ba (ag st.ch) st.ch=true) (h:SG P cx Q k (dw b st)):SG P cx Q k st:=fE (dW.sh b hb hk) h
def dn : C->C
 |.isl n _ es=>.sl n es
 | c=>c
def dB (kk:Nat) (cs:List C) (s:ASt):ASt:=⟨bq [(kk,.inner)] s.t,(kk,.box ((cs.map dn).map (ah [(kk,.inner)]))) :: ae [(kk,.inner)] (af s.ch kk)⟩
end Go.Am
end
section
namespace Go.Am
open Dat (cells)
structure Fz where
 x:Nat
 y:Nat
 deriving DecidableEq,Inhabited
instance : DatL Fz where
 sz:=1
 agg:=false
 cells z:=[.s (.complex .f64 z.x z.y)]
 dec | [.s (.complex .f64 a b)]=>some ⟨a,b⟩ | _=>none
 ok:=by intro l a h;split at h <;> cases h;rfl
 data:=fun a=>rfl
 one:=fun _=>by first | rfl | trivial | (intros;rfl)
 dec_cells:=fun a=>rfl
end Go.Am
end
section
namespace Go.Am
open Dat (cells)
variable {P : Program}
structure ReadsAs (P:Program) (t:TypeId) (α:Type) [DatL α]:Prop where
 sz:P.cellsOf t=Dat.sz α
 pos:0 < Dat.sz α
 rd:∀ {H:Type} (en:TypeId×Value->H) (w:World) (sp:Nat->Bool) (fuel:Nat) (cs:List Value) (x:DataW H×List MemPlace),DataW.trod en P w 0 sp true fuel t cs=some x ->
  ∃ a:α,(cells a).length=Dat.sz α/\cs.length=Dat.sz α/\∀ (j:Nat) (c:C),(cells a)[j]? = some c->RepD (fun b=>b < w.heap.size) w.heap c (cs.getD j undef)/\(cs.getD j undef).oneCell'=true
theorem ReadsAs.int {t:TypeId} (ht:P.underlying t=some (.int .i64)) (hc:P.cellsOf t=1):ReadsAs P t Int:=by
 refine⟨hc,by decide,fun en w sp fuel cs x h=>?_⟩;obtain⟨n,rfl,_,_⟩:=DataW.trod_int ht h;refine⟨n,rfl,rfl,fun j c hj=>?_⟩;cases j with
 | zero=>
  simp only[cells,zD,zn]at hj;subst hj;exact⟨.s _,rfl⟩
 | succ j=>simp[cells]at hj
theorem cells?_get {w:World} {a:Addr} {n:Nat} {cs:List Value} (h:w.cells? 0 a n=some cs):cs.length=n/\∀ j,j < n->w.cell? (a.add j)=cs[j]?:=by
 unfold World.cells? at h;rw[qb (yF _)]at h;exact⟨by simpa using mapM_some_length h,fun j hj=>mapM_some_get h j j (by simp[hj])⟩
theorem iJ (a:Addr) (n m:Nat):((a.add n).add m).block=a.block/\((a.add n).add m).off=a.off+n+m:=by
 unfold Addr.add;split <;> split <;> simp_all <;> omega
theorem cell?_inv {w:World} {a:Addr} {v:Value} (h:w.cell? a=some v):a.spot=none/\∃ arr ty fz,w.heap[a.block]? = some (.cells arr ty fz)/\arr[a.off]? = some v:=by
 unfold World.cell? at h;split at h
 . rename_i arr ty fz hh;split at h
   . cases h
   . rename_i hs;exact⟨by cases hq:a.spot <;> simp_all,arr,ty,fz,hh,h⟩
 . cases h
theorem ReadsAs.list {t e:TypeId} {α:Type} [DatL α] (he:ReadsAs P e α) (ht:P.underlying t=some (.slice e)) (hc:P.cellsOf t=1):ReadsAs P t (List α):=by
 refine⟨hc,(by show 0 < 1;decide),fun en w sp fuel cs x h=>?_⟩;rcases DataW.trod_slice ht h with⟨rfl,_⟩ | ⟨a,len,cap,elems,rest,n,_,rfl,_,_,hl,hm,hlen,hel,_,_⟩
 . refine⟨[],rfl,rfl,fun j c hj=>?_⟩;cases j with
   | zero=>
    simp only[cells,zD,zn]at hj;subst hj;exact⟨.sl0 _ _ _ (by simp[maxLen]),rfl⟩
   | succ j=>simp[cells]at hj
 . have hpos:=he.pos;rcases Nat.eq_zero_or_pos len with h0 | h0
   . subst h0;refine⟨[],rfl,rfl,fun j c hj=>?_⟩;cases j with
     | zero=>
      simp only[cells,zD,zn]at hj;subst hj;exact⟨.sl0 _ _ _ hm,rfl⟩
     | succ j=>simp[cells]at hj
   . have hget:∀ i,i < len->∃ q:α×List Value,w.cells? 0 (a.add (i*Dat.sz α)) (Dat.sz α)=some q.2/\(cells q.1).length=Dat.sz α/\∀ (j:Nat) (c:C),(cells q.1)[j]? = some c->RepD (fun b=>b < w.heap.size) w.heap c (q.2.getD j undef)/\(q.2.getD j undef).oneCell'=true:=fun i hi=>by
      have h1:=hel i hi;rw[ze (by omega),zk]at h1;obtain⟨ci,h2,h3⟩:=h1;obtain⟨q,h4,h5,h6⟩:=he.rd en w sp n ci _ h3;exact⟨(q,ci),by rw[<- he.sz];exact h2,h4,h6⟩
     have hex:∀ i:Nat,∃ q:α×List Value,i < len->w.cells? 0 (a.add (i*Dat.sz α)) (Dat.sz α)=some q.2/\(cells q.1).length=Dat.sz α/\∀ (j:Nat) (c:C),(cells q.1)[j]? = some c->RepD (fun b=>b < w.heap.size) w.heap c (q.2.getD j undef)/\(q.2.getD j undef).oneCell'=true:=fun i=>by
      by_cases hi:i < len
      . obtain⟨q,hq⟩:=hget i hi;exact⟨q,fun _=>hq⟩
      . obtain⟨q,_⟩:=hget 0 h0;exact⟨q,fun h=>absurd h hi⟩
     obtain⟨f,hf⟩:=Classical.axiomOfChoice hex
     let l:List α:=(List.range len).map fun i=>(f i).1
     have hll:l.length=len:=by simp[l]
     have hli:∀ (i:Nat) (e:List C),(l.map cells)[i]? = some e->i < len/\e=cells (f i).1:=fun i e h=>by
      rw[zh,zh,Option.map_map,za]at h;obtain⟨k,h1,rfl⟩:=h;have hi:=(zi.1 h1).1;simp only[List.length_range]at hi;rw[yv hi]at h1;cases h1;exact⟨hi,rfl⟩
     have hcell:∀ i,i < len->∀ j,j < Dat.sz α->w.cell? ((a.add (i*Dat.sz α)).add j)=some ((f i).2.getD j undef):=fun i hi j hj=>by
      obtain⟨h1,h2,h3⟩:=hf i hi;obtain⟨g1,g2⟩:=cells?_get h1;rw[g2 j hj,zb,ze (by omega)];rfl
     obtain⟨hsp,arr,ty,fz,hh,_⟩:=cell?_inv (hcell 0 h0 0 hpos);have hsp':a.spot=none:=by simpa[Addr.add]using hsp
     rw[(iJ a _ _).1]at hh;obtain⟨b,off,spot⟩:=a;simp only at hsp';subst hsp';have hb:b < w.heap.size:=by
      rcases yu b w.heap.size with h | h
      . exact h
      . have hh':w.heap[b]? = some (.cells arr ty fz):=hh;rw[Array.getElem?_eq_none h]at hh';cases hh'
     refine⟨l,rfl,rfl,fun j c hj=>?_⟩;cases j with
     | succ j=>simp[cells]at hj
     | zero=>
      simp only[cells,zD,zn]at hj;subst hj;refine⟨?_,rfl⟩;have hmain:RepD (fun b=>b < w.heap.size) w.heap (.sl (Dat.sz α) (l.map cells)) (.slice (some ⟨b,off,none⟩) (l.map cells).length cap):=by
       refine .sl (l.map cells) b off cap (Dat.sz α) arr ty fz (fun i j=>(f i).2.getD j undef) hb hh (by simpa[hll]using hl) hm (fun i e h=>?_) (fun i e j c h1 h2=>?_) (fun i e j c h1 h2=>?_)
       . obtain⟨g1,rfl⟩:=hli i e h;exact (hf i g1).2.1
       . obtain⟨g1,rfl⟩:=hli i e h1;obtain⟨q1,q2,q3⟩:=hf i g1;have hj:j < Dat.sz α:=by have:=(zi.1 h2).1;omega
         obtain⟨_,arr2,ty2,fz2,hh2,hg⟩:=cell?_inv (hcell i g1 j hj);rw[(iJ _ _ _).1]at hh2;rw[(iJ _ _ _).2]at hg;have hh2':w.heap[b]? = some (.cells arr2 ty2 fz2):=hh2;have hh':w.heap[b]? = some (.cells arr ty fz):=hh;rw[hh']at hh2';cases hh2';exact⟨hg,(q3 j c h2).2⟩
       . obtain⟨g1,rfl⟩:=hli i e h1;exact ((hf i g1).2.2 j c h2).1
      simpa[hll]using hmain
theorem ReadsAs.argS {t:TypeId} {fs:Array Field} {α:Type} [DatL α] (h:ReadsAs P t α) (hag:Dat.agg α=true) (ht:P.underlying t=some (.struct fs)) {H:Type} {en:TypeId×Value->H} {W:World} {r:Reach} {base:Nat} {sp:Nat->Bool} {v:Value} {d:DataW H} {ps:List MemPlace}
 (hval:Value.okWide P W r base t v) (hd:DataW.Trod en P W 0 sp true t v d ps):∃ a:α,∀ E,Rep E (fun b=>b < W.heap.size) W.heap (enc a) v:=by
 obtain⟨vs,rfl,_⟩:=WideShapes.okWide_struct ht hval;obtain⟨fuel,hf⟩:=hd;obtain⟨a,h1,h2,h3⟩:=h.rd en W sp fuel _ _ hf;have hc:(Value.agg vs).cells=vs:=by simp[Value.cells]
 rw[hc]at h2 h3;have e:∀ j,vs.toList.getD j undef=vs.getD j undef:=fun j=>by simp[zb,zc]
 refine⟨a,fun E=>?_⟩;rw[enc,qb hag];refine .agg _ vs (by simpa[h1]using h2) (fun j c hj=>.d (by have:=(h3 j c hj).1;rwa[e]at this)) (fun j hj=>?_);have hj':j < (cells a).length:=by rw[h1,<- h2];simpa using hj
 have:=(h3 j _ (ze hj')).2;rwa[e]at this
theorem law_walkG [Glob P] {f:FuncId} {args:List C} (hF:FC P f args [] (enc true) []) {vs:Array Value} {W:World} (hg:eT P (fun b=>b < W.heap.size) W.heap) (hs:vs.size=args.length)
 (ha:∀ (j:Nat) (c:C),args[j]? = some c->∀ E,Rep E (fun b=>b < W.heap.size) W.heap c (vs.getD j undef)) :
 Calls P f vs W fun e w'=>e=.returned (.bool true)/\RowKit.Below W.heap.size W w':=by
 refine (hF.2 default (fun b=>b < W.heap.size) vs W hg ⟨hs,fun j c hj=>ha j c hj _⟩ ⟨by simp,fun k c h=>by simp at h,fun k c _ _ h=>by simp at h,fun k c h=>by simp at h,fun k c h=>by simp at h,fun b hb=>hb⟩).mono ?_
 rintro e w' ⟨v,E',U',rfl,hr,hce⟩
 have:v=.bool true:=dK hr;subst this;exact⟨rfl,hce.os,hce.tape,hce.output,hce.size,fun k hk=>hce.rest k hk (fun k c h=>by simp at h)⟩
end Go.Am
end
section
namespace Go.Am
open Dat (cells)
def v0 := aI @enc_int <| aI @vj <| aI @enc_str <| aI @mC <| aI @enc_gs <| aI @uX <| aI @sz_gs <| aI @dec_gs <| aI @decV_gs <| aI @getD_gs <| aI @gs_eta <| aI @sz_int <| aI @sz_bool <| aI @sz_str <| aI @sz_list <| aI @u9 <| aI @tx <| aI @vd <| aI @vb <| aI @decV_sl <| aI @dec_int <| aI @ve <| aI @dec_str <| aI @vg <| aI @u7 <| aI @tw <| aI @fM <| aI @vn <| aI @tW <| aI @vo <| aI @tn <| aI @sC <| aI @to <| aI @sD <| aI @zN.{0} <| aI @Option.getD_none.{0} <| aI @zU.{0,0} <| aI @Option.map_none.{0,0} <| aI @Option.bind_some.{0,0} <| @Option.bind_none.{0,0}
def v1 := aI @zn.{0} <| aI @true_and <| aI @and_true <| aI @and_self <| aI @Int.lt_irrefl <| aI @Nat.lt_irrefl <| aI @zz <| aI @zL <| aI @zr <| aI @Bool.not_true <| aI @Bool.not_false <| aI @ym <| aI @decide_true <| aI @decide_false <| aI @qf <| aI @yC <| aI @ql <| aI @zt.{0,0} <| aI @zR.{0,0} <| aI @zQ.{0} <| aI @yh.{0} <| aI @zy.{0,0} <| aI @yD.{0} <| aI @List.take_zero.{0} <| aI @List.take_nil.{0} <| aI @yw.{0} <| aI @yB.{0} <| aI @List.drop_nil.{0} <| aI @yc.{0} <| aI @List.getD_cons_zero.{0} <| aI @List.getD_cons_succ.{0} <| aI @yq.{0} <| aI @yb.{0} <| aI @z4.{0} <| aI @List.all_cons.{0} <| aI @List.all_nil.{0} <| aI @zZ <| aI @zY <| aI @Bool.and_self <| @List.isEmpty_nil.{0}
def v2 := aI @List.isEmpty_cons.{0} <| aI @List.replicate_succ.{0} <| aI @List.replicate_zero.{0} <| aI @List.set_cons_zero.{0} <| aI @List.set_cons_succ.{0} <| aI @List.lookup_nil.{0,0} <| aI @uc <| aI @qn.{0} <| aI @qm.{0} <| aI @z5 <| aI @Int.toNat_zero <| aI @and_false <| aI @false_and <| aI @imp_self <| aI @true_implies <| aI @false_implies <| aI @C.s.injEq <| aI @C.sl.injEq <| aI @C.tup.injEq <| aI @C.agg.injEq <| aI @C.own.injEq <| aI @Go.Value.int.injEq <| aI @Go.Value.bool.injEq <| aI @Go.Value.string.injEq <| aI @Bool.or_false <| aI @Bool.or_self <| aI @zF <| aI @Bool.or_true <| aI @yz <| aI @ER.cont.injEq <| aI @zD.{0} <| aI @yp.{0} <| aI @List.getElem?_nil.{0} <| aI @List.contains_cons.{0} <| aI @List.contains_nil.{0} <| @beq_self_eq_true.{0}
def V := aI @v0 <| aI @v1 <| @v2
end Go.Am
end
section
namespace Go.Am
open Dat (cells)
variable {P : Program} [Glob P] {cx : Cx} {Q : ASt → Prop} {k : List It} {st : ASt}
theorem iI {x:AC} (h:SG P cx Q (.c x :: k) st):SG P cx Q (.c (.cut x) :: k) st:=eW fun code hc E U a w hh=>by
 simp only[d8,za]at hc;obtain⟨x',h1,h2⟩:=hc;cases h2;exact h E U a w hh code h1
def Recs (P:Program) [Glob P]:List AO->ASt->List (AO×ASt×Eff)->ASt->Prop
 |[],s,[],s'=>s'=s
 | o :: os,s,r :: R,s'=>r=(o,s,r.2.2)/\StepE P o s r.2.2/\(o.tot=true\/(r.2.2.ch=s.ch/\r.2.2.sub=[]))/\Recs P os (aw o.dst r.2.2 s) R s'
 |_,_,_,_=>False
theorem pF : ∀ (aos:List AO) (s:ASt) (R:List (AO×ASt×Eff)) (s':ASt),Recs P aos s R s'->R.length=aos.length /\
 (∀ (j:Nat) r,R[j]? = some r->aos[j]? = some r.1/\r.2.1=stS (aos.zip (R.map (·.2.2))) (fun i=>decide (i < j)) s/\StepE P r.1 r.2.1 r.2.2/\(r.1.tot=true\/(r.2.2.ch=r.2.1.ch/\r.2.2.sub=[]))) /\
 s'=stS (aos.zip (R.map (·.2.2))) (fun i=>decide (i < aos.length)) s
 |[],s,[],s',h=>by
  simp only[Recs]at h;subst h;exact⟨rfl,fun j r h=>by simp at h,rfl⟩
 |[],s,_ :: _,s',h=>by simp[Recs]at h
 |_ :: _,s,[],s',h=>by simp[Recs]at h
 | o :: os,s,r :: R,s',h=>by
  obtain⟨h0,h1,h2,h3⟩:=h;have hp:aw o.dst r.2.2 s=stF (o,r.2.2) s:=by
   simp only[aw,stF,chF];rcases h2 with h | ⟨h,_⟩
   . rw[qb h]
   . by_cases ht:o.tot=true
     . rw[qb ht]
     . rw[qa ht,h]
  rw[hp]at h3;obtain⟨l1,l2,l3⟩:=pF os _ R s' h3;have shift:∀ j,stS (os.zip (R.map (·.2.2))) (fun i=>decide (i < j)) (stF (o,r.2.2) s)=stS ((o :: os).zip ((r :: R).map (·.2.2))) (fun i=>decide (i < j+1)) s:=fun j=>by
   simp only[stS,zt,List.zip_cons_cons,dR,Nat.zero_lt_succ,decide_true,qj];have:∀ (fs:List (ASt->ASt)) (k:Nat) (a:ASt),dR fs (fun i=>decide (i < j)) k a=dR fs (fun i=>decide (i < j+1)) (k+1) a:=by
    intro fs
    induction fs with
    | nil=>intro k a;rfl
    | cons f r ih=>
     intro k a;simp only[dR];rw[ih];by_cases hk:k < j
     . simp[hk]
     . simp[hk]
   exact this _ 0 _
  refine⟨by simp[l1],fun j q hj=>?_,?_⟩
  . cases j with
    | zero=>
     simp only[zD,zn]at hj;subst hj;have e0:stS ((o :: os).zip ((r :: R).map (·.2.2))) (fun i=>decide (i < 0)) s=s:=gD _ _ 0 s (fun k f _ hs=>by simp at hs);rw[e0];have g1:r.1=o:=by rw[h0]
     have g2:r.2.1=s:=by rw[h0]
     rw[g1,g2];exact⟨rfl,rfl,h1,h2⟩
    | succ j=>
     simp only[yp]at hj ⊢;rw[<- shift j];exact l2 j q hj
  . rw[l3,shift];rfl
def reC (P:Program) [Glob P] (L:List (Ent P)) (t:dJ) (h:Chs) (o:AO) (v:C):Option Eff->Prop
 | some e2=>o.guard=none/\e2.cond/\e2.v=v/\e2.ch=h/\e2.sub=[]
 | none=>match aE L (aq P t) h (o.dst.getD 0) o.op with
  |.cal (.eff e2)=>o.guard=none/\e2.cond/\e2.v=v/\e2.ch=h/\e2.sub=[]
  |_=>False
def eL : List Operand->List Nat
 |[]=>[]
 |.tmp t :: l=>t :: eL l
 |_ :: l=>eL l
theorem iY {x:Nat}:∀ {l:List Operand},x∈l.filterMap (fun x=>match x with | .tmp t=>some t | _=>none)->x∈eL l
 |[],h=>by simp at h
 | y :: l,h=>by
  simp only[List.mem_filterMap,zl]at h;obtain⟨z,hz,hx⟩:=h;rcases hz with rfl | hz
  . cases z with
    | tmp t=>simp only[zn]at hx;subst hx;exact zq
    |_=>cases hx
  . have ih:=iY (l:=l) (List.mem_filterMap.2 ⟨z,hz,hx⟩);cases y with
    | tmp t=>exact zo _ ih
    |_=>exact ih
def fixS (m:List (Nat×Sb)) (t:dJ):List Nat->Prop
 |[]=>True
 | x :: l=>ah m (gt t x)=gt t x/\fixS m t l
theorem qV {m:List (Nat×Sb)} {t:dJ} {x:Nat}:∀ {l:List Nat},fixS m t l->x∈l->ah m (gt t x)=gt t x
 |[],_,h=>by cases h
 | y :: l,h,hx=>by
  rcases zl.1 hx with rfl | hx
  . exact h.1
  . exact qV h.2 hx
def robC (P:Program) [Glob P] (L:List (Ent P)) (e j:Nat):Option (AO×ASt×Eff)->Option (AO×ASt×Eff)->Prop
 | some (o,s,ef),some (_,se,efe)=>
  ah efe.sub ef.v=ef.v/\fixS efe.sub (if j < e then s.t else se.t) (eL o.op.reads) /\
   reC P L s.t (if j < e then efe.ch else se.ch) o ef.v (ai (aq P s.t) (if j < e then efe.ch else se.ch) (o.dst.getD 0) o.op)
 |_,_=>False
def kX (P:Program) [Glob P] (L:List (Ent P)) (e:Nat) (R:List (AO×ASt×Eff)):List Nat->Prop
 |[]=>True
 | j :: rb=>robC P L e j (R[j]?) (R[e]?)/\kX P L e R rb
theorem uu {L:List (Ent P)} {t:dJ} {h:Chs} {o:AO} {v:C}:∀ {q:Option Eff},reC P L t h o v q->o.guard=none
 | some _,hr=>hr.1
 | none,hr=>by
  simp only[reC]at hr;split at hr
  . exact hr.1
  . cases hr
theorem vQ {L:List (Ent P)} {t:dJ} {h:Chs} {o:AO} {v:C} (hr:reC P L t h o v (ai (aq P t) h (o.dst.getD 0) o.op)):∃ ef2,StepE P o ⟨t,h⟩ ef2/\ef2.v=v/\ef2.ch=h/\ef2.sub=[]:=by
 cases hq:ai (aq P t) h (o.dst.getD 0) o.op with
 | some e2=>
  rw[hq]at hr;obtain⟨h1,h2,h3,h4,h5⟩:=hr;exact⟨e2,.yes e2 (by rw[h1];rfl) (.f hq h2),h3,h4,h5⟩
 | none=>
  rw[hq]at hr;simp only[reC]at hr;split at hr
  . rename_i e2 hm;obtain⟨h1,h2,h3,h4,h5⟩:=hr;have hop:OpR P (aq P t) h (o.dst.getD 0) o.op ⟨True,e2.v,e2.ch,e2.sub⟩:=by
     unfold aE at hm;split at hm
     . rename_i fo aS ho;rw[ho];cases hm':bY L h (o.dst.getD 0) (bk (aq P t fo)) (List.map (aq P t) aS)with
       | eff e=>
        rw[hm']at hm;cases hm;exact jq hm' h2
       |_=>rw[hm']at hm;cases hm
     . cases hm
    exact⟨⟨True,e2.v,e2.ch,e2.sub⟩,.yes _ (by rw[h1];rfl) hop,h3,h4,h5⟩
  . cases hr
theorem ru {L:List (Ent P)} {e:Nat} {R:List (AO×ASt×Eff)}:∀ {rb:List Nat},kX P L e R rb->∀ j∈rb,robC P L e j (R[j]?) (R[e]?)
 |[],_,j,hj=>by cases hj
 | i :: rb,h,j,hj=>by
  rcases zl.1 hj with rfl | hj
  . exact h.1
  . exact ru h.2 j hj
theorem S_draw1 {e:Nat} {rb:List Nat} {os:List AO} {L:List (Ent P)} {R:List (AO×ASt×Eff)} {st':ASt} (he9:e≠999) (hR:Recs P os st R st') (hrob:kX P L e R rb) (h2:SG P cx Q k st'):SG P cx Q (.c (.draw e rb os) :: k) st:=eW fun code hc E U a w hh=>by
 obtain⟨id,ops,rfl⟩:∃ id ops,code=.region id ops true:=by
  cases code with
  | region id ops draw=>
   cases draw with
   | false=>simp[d8]at hc
   | true=>exact⟨id,ops,rfl⟩
  |_=>simp[d8]at hc
 . simp only[d8,zk]at hc;obtain⟨r,h3,h4⟩:=hc;split at h4
   . rename_i hok;simp only[zn,AC.draw.injEq,true_and]at h4;subst h4;obtain⟨g1,g2⟩:=iz h3;have g2':∀ (j:Nat) o ao,ops[j]? = some o->r[j]? = some ao->fW P cx.n ops o ao:=fun j o ao ho ha=>g2 j o ao (by simpa using ho) ha
     simp only[zm]at hok;obtain⟨l1,l2,l3⟩:=pF _ _ _ _ hR;have hget:∀ (j:Nat) ao ef,r[j]? = some ao->(R.map (·.2.2))[j]? = some ef->∃ q,R[j]? = some q/\q.1=ao/\q.2.2=ef:=fun j ao ef ha he=>by
      rw[zh,za]at he;obtain⟨q,hq,rfl⟩:=he;have:=(l2 j q hq).1;rw[ha]at this;exact⟨q,hq,by cases this;rfl,rfl⟩
     have hchain:∀ (j:Nat) ao ef,r[j]? = some ao->(R.map (·.2.2))[j]? = some ef->StepE P ao (stS (r.zip (R.map (·.2.2))) (fun i=>decide (i < j)) st) ef/\(ao.tot=true\/(ef.ch=(stS (r.zip (R.map (·.2.2))) (fun i=>decide (i < j)) st).ch/\ef.sub=[])):=fun j ao ef ha he=>by
      obtain⟨q,hq,rfl,rfl⟩:=hget j ao ef ha he;obtain⟨_,q2,q3,q4⟩:=l2 j q hq;rw[<- q2];exact⟨q3,q4⟩
     have hrb:∀ j∈rb,RobAt P r (R.map (·.2.2)) st e j:=fun j hj ao ef aoe efe ha he hae hee=>by
      obtain⟨q,hq,rfl,rfl⟩:=hget j ao ef ha he;obtain⟨qe,hqe,rfl,rfl⟩:=hget e aoe efe hae hee;obtain⟨_,q2,_,_⟩:=l2 j q hq;obtain⟨_,qe2,_,_⟩:=l2 e qe hqe;have hC:=ru hrob j hj;rw[hq,hqe]at hC;obtain⟨o,s,ef⟩:=q;obtain⟨oe,se,efe⟩:=qe;simp only at q2 qe2;obtain⟨c1,c2,c3⟩:=hC;have hmin:∀ x,gt (if j < e then s.t else se.t) x=gt (stS (r.zip (R.map (·.2.2))) (fun i=>decide (i < min j e)) st).t x:=fun x=>by
       by_cases hje:j < e
       . rw[qb hje,Nat.min_eq_left (Nat.le_of_lt hje),q2]
       . rw[qa hje,Nat.min_eq_right (by omega),qe2]
      refine⟨c1,fun x hx=>?_,?_⟩
      . have hgd:=uu c3;have hx2:x∈eL o.op.reads:=by
         simp only[AO.slots,hgd,z4]at hx;exact iY hx
        have:=qV c2 hx2;rw[hmin]at this;exact this
      . rw[<- q2,<- qe2];exact vQ c3
     refine wpIn_region_any hok.2 (vi (by simpa using g1.symm) (by rw[zy,l1]) g2' he9 hok.1 hchain hrb l3 (fun E' U' a' w' h=>h2 E' U' a' w' h) ops.size _ E U a _ (by simp) ?_ (fun j o ho hs=>?_) ?_)
     . have:((List.range ops.size).countP fun i=>!((Array.replicate ops.size false).getD i false))=(List.range ops.size).length:=List.countP_eq_length.2 (fun i hi=>by
        have:=zE.1 hi
        simp[zc,this])
       simpa using this
     . exfalso
       by_cases h:j < ops.size <;> simp[zc,h]at hs
     . have e0:stS (r.zip (R.map (·.2.2))) (fun i=>(Array.replicate ops.size false).getD i false) st=st:=gD _ _ 0 st (fun k f _ hs=>by
        exfalso
        by_cases h:k < ops.size <;> simp[zc,h]at hs)
       rw[e0];exact⟨hh.sz,hh.df,hh.tok,hh.inv,hh.os,hh.tape,hh.output,hh.size,hh.fr,hh.keepA,hh.live,hh.base,hh.fix,hh.hid,hh.gok⟩
   . cases h4
theorem OpR.f' {ρ:Operand->C} {ch:Chs} {d:Nat} {op:AOp} {ef:Eff} (h:ai ρ ch d op=some ef) (hc:ef.cond):OpR P ρ ch d op ⟨True,ef.v,ef.ch,ef.sub⟩:=by
 obtain⟨c,v,ch',s⟩:=ef;have:c=True:=propext ⟨fun _=>trivial,fun _=>hc⟩;subst this;exact .f h trivial
def ke (s:Nat):AOp->Prop
 |.call _ aS=>av (eL aS) s=true
 |.ssl _ (.tmp t) _ _ _=>t=s
 |_=>False
theorem iO {s:Nat}:∀ {l:List Operand},s∈eL l->.tmp s∈l
 |[],h=>by cases h
 | y :: l,h=>by
  cases y with
  | tmp t=>
   rcases zl.1 h with e | e
   . subst e;exact zq
   . exact zo _ (iO e)
  |_=>exact zo _ (iO h)
theorem s6 {s:Nat} {op:AOp} (h:ke s op):.tmp s∈op.reads/\∀ x,op≠.mvs x:=by
 unfold ke at h;split at h
 . exact⟨by simp only[AOp.reads];exact zo _ (iO (ez.1 h)),fun x e=>by cases e⟩
 . exact⟨by simp[AOp.reads,h],fun x e=>by cases e⟩
 . exact h.elim
theorem mI {s kk j m:Nat} {ty:TypeId} {es:List (List C)} {p:Prop} {ch':Chs} {d:Nat} {op:AOp} {ef:Eff} (g1:s < 100000) (hp:p) (g3:kk≠s) (g4:ke s op) (hs:gt st.t s=.inn kk j) (hl:aN st.ch kk j=some (p,m,ty,es)) (hh:aM st.ch kk j=some ch')
 (h:OpR P (aq P (aT s kk m ty es ch' st).t) (aT s kk m ty es ch' st).ch d op ef):OpR P (aq P st.t) st.ch d op ⟨ef.cond,ef.v,ef.ch,a6 [(s,.c .any),(kk,.inner)] ef.sub⟩:=by
 obtain⟨r1,r2⟩:=s6 g4;refine .take r2 hs r1 hl hp hh g3 g1 (by simp[aq,aT,fF]) (fun x _ hx=>?_) h;cases x with
 | tmp i=>
  have hi:s≠i:=fun e=>hx (by rw[e])
  simp only[aq,aT,fF,qa hi];exact ie _ _ _
 | const v=>simp[aq,ah]
 | global g=>
  simp only[aq];cases lk (Glob.gl P) g <;> simp[ah]
 | func f=>simp[aq,ah,ah.subCs]
def drS (P:Program) [Glob P] (L:List (Ent P)) (cx:Cx) (Q:ASt->Prop) (k:List It) (e:Nat) (rb:List Nat):Nat->Md->List AO->ASt->List (AO×ASt×Eff)->Prop
 |_+1,.run,[],st,R=>kX P L e R rb/\SG P cx Q k st
 | n+1,.run,⟨dst,none,op,tot⟩ :: os,st,R=>drS P L cx Q k e rb n (.eff (ai (aq P st.t) st.ch (dst.getD 0) op)) (⟨dst,none,op,tot⟩ :: os) st R
 | n+1,.eff (some ef),⟨dst,none,op,tot⟩ :: os,st,R=>ef.cond/\bK true ⟨dst,none,op,tot⟩ ef st/\drS P L cx Q k e rb n .run os (aw dst ef st) (R++[(⟨dst,none,op,tot⟩,st,ef)])
 | n+1,.eff none,⟨dst,none,op,tot⟩ :: os,st,R=>drS P L cx Q k e rb n (.tk1 (ce L (aq P st.t) op)) (⟨dst,none,op,tot⟩ :: os) st R
 | n+1,.tk1 none,⟨dst,none,op,tot⟩ :: os,st,R=>drS P L cx Q k e rb n (aE L (aq P st.t) st.ch (dst.getD 0) op) (⟨dst,none,op,tot⟩ :: os) st R
 | n+1,.tk1 (some (s,kk,j)),⟨dst,none,op,tot⟩ :: os,st,R=>drS P L cx Q k e rb n (.tq s kk j (aN st.ch kk j) (aM st.ch kk j)) (⟨dst,none,op,tot⟩ :: os) st R
 | n+1,.tq s kk _ (some (p,m,ty,es)) (some ch'),⟨dst,none,op,tot⟩ :: os,st,R=>drS P L cx Q k e rb n (.tr s kk p (aT s kk m ty es ch' st) (ai (aq P (aT s kk m ty es ch' st).t) (aT s kk m ty es ch' st).ch (dst.getD 0) op)) (⟨dst,none,op,tot⟩ :: os) st R
 | n+1,.tr s kk p _ (some ef),⟨dst,none,op,tot⟩ :: os,st,R=>s < 100000/\p/\kk≠s/\ke s op/\ef.cond/\bK true ⟨dst,none,op,tot⟩ ⟨True,ef.v,ef.ch,a6 [(s,.c .any),(kk,.inner)] ef.sub⟩ st /\
  drS P L cx Q k e rb n .run os (aw dst ⟨True,ef.v,ef.ch,a6 [(s,.c .any),(kk,.inner)] ef.sub⟩ st) (R++[(⟨dst,none,op,tot⟩,st,⟨True,ef.v,ef.ch,a6 [(s,.c .any),(kk,.inner)] ef.sub⟩)])
 | n+1,.tr s kk p s1 none,⟨dst,none,op,tot⟩ :: os,st,R=>drS P L cx Q k e rb n (.ts s kk p s1 (aE L (aq P s1.t) s1.ch (dst.getD 0) op)) (⟨dst,none,op,tot⟩ :: os) st R
 | n+1,.ts s kk p _ (.cal (.eff ef)),⟨dst,none,op,tot⟩ :: os,st,R=>s < 100000/\p/\kk≠s/\ke s op/\ef.cond/\bK true ⟨dst,none,op,tot⟩ ⟨True,ef.v,ef.ch,a6 [(s,.c .any),(kk,.inner)] ef.sub⟩ st /\
  drS P L cx Q k e rb n .run os (aw dst ⟨True,ef.v,ef.ch,a6 [(s,.c .any),(kk,.inner)] ef.sub⟩ st) (R++[(⟨dst,none,op,tot⟩,st,⟨True,ef.v,ef.ch,a6 [(s,.c .any),(kk,.inner)] ef.sub⟩)])
 | n+1,.cal (.eff ef),⟨dst,none,op,tot⟩ :: os,st,R=>ef.cond/\bK true ⟨dst,none,op,tot⟩ ef st/\drS P L cx Q k e rb n .run os (aw dst ef st) (R++[(⟨dst,none,op,tot⟩,st,⟨True,ef.v,ef.ch,ef.sub⟩)])
 |_,_,_,_,_=>False
def okD (P:Program) [Glob P] (L:List (Ent P)) (m:Md) (os:List AO) (st:ASt):Prop:=
 match m,os with
 |.eff o,⟨dst,none,op,_⟩ :: _=>o=ai (aq P st.t) st.ch (dst.getD 0) op
 |.cal r,⟨dst,none,op,_⟩ :: _=>aE L (aq P st.t) st.ch (dst.getD 0) op=.cal r
 |.tk1 o,⟨_,none,op,_⟩ :: _=>o=ce L (aq P st.t) op
 |.tq s kk j o h,_=>gt st.t s=.inn kk j/\o=aN st.ch kk j/\h=aM st.ch kk j
 |.tr s kk p s1 o,⟨dst,none,op,_⟩ :: _=>∃ j m ty es ch',gt st.t s=.inn kk j/\aN st.ch kk j=some (p,m,ty,es)/\aM st.ch kk j=some ch'/\s1=aT s kk m ty es ch' st/\o=ai (aq P s1.t) s1.ch (dst.getD 0) op
 |.ts s kk p s1 md,⟨dst,none,op,_⟩ :: _=>∃ j m ty es ch',gt st.t s=.inn kk j/\aN st.ch kk j=some (p,m,ty,es)/\aM st.ch kk j=some ch'/\s1=aT s kk m ty es ch' st/\md=aE L (aq P s1.t) s1.ch (dst.getD 0) op
 |_,_=>True
theorem jh {L:List (Ent P)} {t:dJ} {h:Chs} {d:Nat} {op:AOp} {ef:Eff} (hm:aE L (aq P t) h d op=.cal (.eff ef)) (h1:ef.cond):OpR P (aq P t) h d op ⟨True,ef.v,ef.ch,ef.sub⟩:=by
 unfold aE at hm;split at hm
 . rename_i fo aS;cases hm':bY L h d (bk (aq P t fo)) (List.map (aq P t) aS)with
   | eff e=>
    rw[hm']at hm;cases hm;exact jq hm' h1
   |_=>rw[hm']at hm;cases hm
 . cases hm
theorem tD {L:List (Ent P)} {e:Nat} {rb:List Nat} (n:Nat) (m:Md) (os:List AO) (st:ASt) (R:List (AO×ASt×Eff)) (h:drS P L cx Q k e rb n m os st R) (hm:okD P L m os st) :
 ∃ R' st',Recs P os st R' st'/\kX P L e (R++R') rb/\SG P cx Q k st':=by
 induction n generalizing m os st R with
 | zero=>unfold drS at h;exact h.elim
 | succ n ih=>
  generalize hN:n+1=N at h;unfold drS at h;split at h
  all_goals (try cases hN)
  . exact⟨[],_,rfl,by rw[z4];exact h.1,h.2⟩
  . exact ih _ _ _ _ h rfl
  . rename_i ef dst op tot os;obtain⟨h1,h2,h3⟩:=h;obtain⟨R',st',g1,g2,g3⟩:=ih _ _ _ _ h3 (by unfold okD;trivial);refine⟨(⟨dst,none,op,tot⟩,st,ef) :: R',st',⟨rfl,.yes ef rfl (.f hm.symm h1),jF h2 rfl,g1⟩,?_,g3⟩;rw[List.append_cons];exact g2
  . exact ih _ _ _ _ h rfl
  . rename_i dst op tot os;have hmd:∃ r,aE L (aq P st.t) st.ch (dst.getD 0) op=.cal r:=by unfold aE;split <;> exact⟨_,rfl⟩
    obtain⟨r,hr⟩:=hmd;rw[hr]at h;exact ih _ _ _ _ h hr
  . exact ih _ _ _ _ h ⟨mR (L:=L) (ρ:=aq P st.t) hm.symm,rfl,rfl⟩
  . obtain⟨m1,m2,m3⟩:=hm;exact ih _ _ _ _ h ⟨_,_,_,_,_,m1,m2.symm,m3.symm,rfl,rfl⟩
  . rename_i s kk p s1 ef dst op tot os;obtain⟨j,m,ty,es,ch',q1,q2,q3,q4,q5⟩:=hm;obtain⟨g1,g2,g3,g4,g5,h2,h3⟩:=h;obtain⟨R',st',r1,r2,r3⟩:=ih _ _ _ _ h3 (by unfold okD;trivial);have hop:=mI (d:=dst.getD 0) (op:=op) (ef:=⟨True,ef.v,ef.ch,ef.sub⟩) g1 g2 g3 g4 q1 q2 q3 (by rw[<- q4];exact .f' q5.symm g5);refine⟨(⟨dst,none,op,tot⟩,st,_) :: R',st',⟨rfl,.yes _ rfl hop,jF h2 rfl,r1⟩,?_,r3⟩;rw[List.append_cons];exact r2
  . rename_i s kk p s1 dst op tot os;obtain⟨j,m,ty,es,ch',q1,q2,q3,q4,q5⟩:=hm;exact ih _ _ _ _ h ⟨j,m,ty,es,ch',q1,q2,q3,q4,rfl⟩
  . rename_i s kk p s1 ef dst op tot os;obtain⟨j,m,ty,es,ch',q1,q2,q3,q4,q5⟩:=hm;obtain⟨g1,g2,g3,g4,g5,h2,h3⟩:=h;obtain⟨R',st',r1,r2,r3⟩:=ih _ _ _ _ h3 (by unfold okD;trivial);have hop:=mI (d:=dst.getD 0) (op:=op) (ef:=⟨True,ef.v,ef.ch,ef.sub⟩) g1 g2 g3 g4 q1 q2 q3 (by rw[<- q4];exact jh q5.symm g5);refine⟨(⟨dst,none,op,tot⟩,st,_) :: R',st',⟨rfl,.yes _ rfl hop,jF h2 rfl,r1⟩,?_,r3⟩;rw[List.append_cons];exact r2
  . rename_i ef dst op tot os;obtain⟨h1,h2,h3⟩:=h;have hop:OpR P (aq P st.t) st.ch (dst.getD 0) op ⟨True,ef.v,ef.ch,ef.sub⟩:=by
     simp only[okD]at hm;unfold aE at hm;split at hm
     . rename_i fo aS;cases hm':bY L st.ch (dst.getD 0) (bk (aq P st.t fo)) (List.map (aq P st.t) aS)with
       | eff e=>
        rw[hm']at hm;cases hm;exact jq hm' h1
       |_=>rw[hm']at hm;cases hm
     . cases hm
    obtain⟨R',st',g1,g2,g3⟩:=ih _ _ _ _ h3 (by unfold okD;trivial);refine⟨(⟨dst,none,op,tot⟩,st,⟨True,ef.v,ef.ch,ef.sub⟩) :: R',st',⟨rfl,.yes _ rfl hop,?_,g1⟩,?_,g3⟩
    . exact jF (ef:=⟨True,ef.v,ef.ch,ef.sub⟩) (by unfold bK at h2 ⊢;exact h2) rfl
    . rw[List.append_cons];exact g2
  . exact h.elim
theorem mT {e:Nat} {rb:List Nat} {os:List AO} (L:List (Ent P)) (n:Nat) (h:drS P L cx Q k e rb n .run os st []) (he9:(e == 999)=false:=by rfl):SG P cx Q (.c (.draw e rb os) :: k) st:=by
 obtain⟨R',st',g1,g2,g3⟩:=tD n .run os st [] h (by unfold okD;trivial);exact S_draw1 (by simpa using he9) g1 g2 g3
end Go.Am
end
section
namespace Go.Am
open Dat (cells)
variable {P : Program} [Glob P]
variable {cx : Cx} {Q : ASt → Prop} {k : List It} {st : ASt}
def lg (rb:List Nat) (S:Nat->Bool):Prop:=∀ c∈rb,S (c % 100)=true->S (c / 100)=true
end Go.Am
end
section
namespace Go.Am
open Dat (cells)
variable {P : Program} [Glob P] {cx : Cx} {Q : ASt → Prop} {k : List It} {st : ASt}
theorem eE (d:Nat) (c:C) (t:dJ) (x:Nat):gt ((d,c) :: t) x=if d=x then c else gt t x:=by
 by_cases h:d=x
 . subst h;rw[qb rfl];simp[gt,lk]
 . rw[qa h];simp[gt,lk,h]
end Go.Am
end
section
namespace Go.Am
open Dat (cells)
variable {P : Program} [Glob P]
theorem CEv.below {E:Env} {U:Nat->Prop} {w w':World} (hi:Inv E U w.heap []) (hb:RowKit.Below w.heap.size w w'):CEv E U w [] E U w' []:=
 ⟨hb.os,hb.tape,hb.output,hb.size,fun b h=>⟨h,hb.block b (hi.lt b h)⟩,fun b h _=>hb.block b h,fun _ _ h=>(by cases h),fun b h=>.inl h,fun _ _ h=>(by cases h),
  ⟨hi.nd,fun _ _ h=>(by cases h),fun _ _ _ _ h=>(by cases h),fun _ _ h=>(by cases h),fun _ _ h=>(by cases h),fun b h=>yJ (hi.lt b h) hb.size⟩⟩
theorem FC.scal {f:FuncId} {vs:List Value} {r:C} (hf:FnOk P f)
 (h:∀ (U:Nat->Prop) (w:World),eT P U w.heap->(∀ b,U b->b < w.heap.size)->Calls P f vs.toArray w fun e w'=>∃ v,e=.returned v/\(∀ E U h,Rep E U h r v)/\RowKit.Below w.heap.size w w'):FC P f (vs.map C.s) [] r []:=by
 refine⟨hf,fun E U aS w hg ha hi=>?_⟩;have hv:aS=vs.toArray:=by
  refine Array.ext (by simpa using ha.1) (fun i h1 h2=>?_);have h3:(vs.map C.s)[i]? = some (.s vs[i]):=by simp at h2;simp[h2]
  have:=dK (ha.2 i _ h3);rw[zc,zj h1]at this;simpa using this
 subst hv;refine (h U w hg hi.lt).mono ?_
 rintro e w' ⟨v,rfl,hr,hb⟩
 exact⟨v,E,U,rfl,hr E U w'.heap,CEv.below hi hb⟩
theorem wb {E:Env} {U:Nat->Prop} {w:World} {xs:List ByteArray} {v:Value} (h:Rep E U w.heap (enc xs) v) (hU:∀ b,U b->b < w.heap.size) :
 (xs=[]/\∃ a c,v=.slice a 0 c)\/∃ b off cap,v=.slice (some ⟨b,off,none⟩) xs.length cap/\xs.length<=cap/\b < w.heap.size/\∀ (j:Nat) x,xs[j]? = some x->w.cell? ⟨b,off+j,none⟩=some (.string x):=by
 have h:Rep E U w.heap (.sl 1 (xs.map cells)) v:=h;generalize he:xs.map cells=es at h;cases h with
 | d hd=>
  cases hd with
  | sl0 _ a cap hc=>
   refine .inl ⟨by simpa using he,a,cap,rfl⟩
  | sl _ b off cap _ arr ty fz vf hUb hb hcap hmax hsz hv hr=>
   have hl:es.length=xs.length:=by rw[<- he,zy]
   refine .inr ⟨b,off,cap,by rw[hl],by omega,hU b hUb,fun j x hj=>?_⟩;have h1:es[j]? = some [C.s (.string x)]:=by rw[<- he,zh,hj];rfl
   obtain⟨h2,_⟩:=hv j _ 0 _ h1 rfl;have h3:=hr j _ 0 _ h1 rfl;have h4:vf j 0=.string x:=by generalize vf j 0=q at h3;cases h3;rfl
   rw[h4]at h2;have e:off+j*1+0=off+j:=by omega
   rw[e]at h2;simp only[World.cell?,hb];simpa using h2
end Go.Am
end
section
namespace Go.Am
open Dat (cells)
variable {P : Program}
structure ReadsP (P:Program) (t:TypeId) (α:Type) [DatL α] (p:α->Prop):Prop where
 sz:P.cellsOf t=Dat.sz α
 pos:0 < Dat.sz α
 rd:∀ {H:Type} (en:TypeId×Value->H) (w:World) (sp:Nat->Bool) (fuel:Nat) (cs:List Value) (x:DataW H×List MemPlace),DataW.trod en P w 0 sp true fuel t cs=some x ->
  ∃ a:α,p a/\(cells a).length=Dat.sz α/\cs.length=Dat.sz α/\∀ (j:Nat) (c:C),(cells a)[j]? = some c->RepD (fun b=>b < w.heap.size) w.heap c (cs.getD j undef)/\(cs.getD j undef).oneCell'=true
theorem ReadsP.int {t:TypeId} (ht:P.underlying t=some (.int .i64)) (hc:P.cellsOf t=1):ReadsP P t Int (fun n=>-9223372036854775808<=n/\n<=9223372036854775807):=by
 refine⟨hc,by decide,fun en w sp fuel cs x h=>?_⟩;obtain⟨n,rfl,_,hw⟩:=DataW.trod_int ht h;have hw':-9223372036854775808<=n/\n<=9223372036854775807:=by
  have e1:IntKind.i64.min=-9223372036854775808:=rfl;have e2:IntKind.i64.max=9223372036854775807:=rfl;simpa[Lit.wf,e1,e2]using hw
 refine⟨n,hw',rfl,rfl,fun j c hj=>?_⟩;cases j with
 | zero=>
  simp only[cells,zD,zn]at hj;subst hj;exact⟨.s _,rfl⟩
 | succ j=>simp[cells]at hj
theorem ReadsP.list {t e:TypeId} {α:Type} [DatL α] {p:α->Prop} (he:ReadsP P e α p) (ht:P.underlying t=some (.slice e)) (hc:P.cellsOf t=1):ReadsP P t (List α) (fun l=>∀ a∈l,p a):=by
 refine⟨hc,(by show 0 < 1;decide),fun en w sp fuel cs x h=>?_⟩;rcases DataW.trod_slice ht h with⟨rfl,_⟩ | ⟨a,len,cap,elems,rest,n,_,rfl,_,_,hl,hm,hlen,hel,_,_⟩
 . refine⟨[],fun a h=>(by cases h),rfl,rfl,fun j c hj=>?_⟩;cases j with
   | zero=>
    simp only[cells,zD,zn]at hj;subst hj;exact⟨.sl0 _ _ _ (by simp[maxLen]),rfl⟩
   | succ j=>simp[cells]at hj
 . have hpos:=he.pos;rcases Nat.eq_zero_or_pos len with h0 | h0
   . subst h0;refine⟨[],fun a h=>(by cases h),rfl,rfl,fun j c hj=>?_⟩;cases j with
     | zero=>
      simp only[cells,zD,zn]at hj;subst hj;exact⟨.sl0 _ _ _ hm,rfl⟩
     | succ j=>simp[cells]at hj
   . have hget:∀ i,i < len->∃ q:α×List Value,p q.1/\w.cells? 0 (a.add (i*Dat.sz α)) (Dat.sz α)=some q.2/\(cells q.1).length=Dat.sz α/\∀ (j:Nat) (c:C),(cells q.1)[j]? = some c->RepD (fun b=>b < w.heap.size) w.heap c (q.2.getD j undef)/\(q.2.getD j undef).oneCell'=true:=fun i hi=>by
      have h1:=hel i hi;rw[ze (by omega),zk]at h1;obtain⟨ci,h2,h3⟩:=h1;obtain⟨q,h0,h4,h5,h6⟩:=he.rd en w sp n ci _ h3;exact⟨(q,ci),h0,by rw[<- he.sz];exact h2,h4,h6⟩
     have hex:∀ i:Nat,∃ q:α×List Value,i < len->p q.1/\w.cells? 0 (a.add (i*Dat.sz α)) (Dat.sz α)=some q.2/\(cells q.1).length=Dat.sz α/\∀ (j:Nat) (c:C),(cells q.1)[j]? = some c->RepD (fun b=>b < w.heap.size) w.heap c (q.2.getD j undef)/\(q.2.getD j undef).oneCell'=true:=fun i=>by
      by_cases hi:i < len
      . obtain⟨q,hq⟩:=hget i hi;exact⟨q,fun _=>hq⟩
      . obtain⟨q,_⟩:=hget 0 h0;exact⟨q,fun h=>absurd h hi⟩
     obtain⟨f,hf⟩:=Classical.axiomOfChoice hex
     let l:List α:=(List.range len).map fun i=>(f i).1
     have hll:l.length=len:=by simp[l]
     have hli:∀ (i:Nat) (e:List C),(l.map cells)[i]? = some e->i < len/\e=cells (f i).1:=fun i e h=>by
      rw[zh,zh,Option.map_map,za]at h;obtain⟨k,h1,rfl⟩:=h;have hi:=(zi.1 h1).1;simp only[List.length_range]at hi;rw[yv hi]at h1;cases h1;exact⟨hi,rfl⟩
     have hcell:∀ i,i < len->∀ j,j < Dat.sz α->w.cell? ((a.add (i*Dat.sz α)).add j)=some ((f i).2.getD j undef):=fun i hi j hj=>by
      obtain⟨_,h1,h2,h3⟩:=hf i hi;obtain⟨g1,g2⟩:=cells?_get h1;rw[g2 j hj,zb,ze (by omega)];rfl
     obtain⟨hsp,arr,ty,fz,hh,_⟩:=cell?_inv (hcell 0 h0 0 hpos);have hsp':a.spot=none:=by simpa[Addr.add]using hsp
     rw[(iJ a _ _).1]at hh;obtain⟨b,off,spot⟩:=a;simp only at hsp';subst hsp';have hb:b < w.heap.size:=by
      rcases yu b w.heap.size with h | h
      . exact h
      . have hh':w.heap[b]? = some (.cells arr ty fz):=hh;rw[Array.getElem?_eq_none h]at hh';cases hh'
     refine⟨l,fun a ha=>(by obtain⟨i,hi,rfl⟩:=zu.1 ha;exact (hf i (zE.1 hi)).1),rfl,rfl,fun j c hj=>?_⟩;cases j with
     | succ j=>simp[cells]at hj
     | zero=>
      simp only[cells,zD,zn]at hj;subst hj;refine⟨?_,rfl⟩;have hmain:RepD (fun b=>b < w.heap.size) w.heap (.sl (Dat.sz α) (l.map cells)) (.slice (some ⟨b,off,none⟩) (l.map cells).length cap):=by
       refine .sl (l.map cells) b off cap (Dat.sz α) arr ty fz (fun i j=>(f i).2.getD j undef) hb hh (by simpa[hll]using hl) hm (fun i e h=>?_) (fun i e j c h1 h2=>?_) (fun i e j c h1 h2=>?_)
       . obtain⟨g1,rfl⟩:=hli i e h;exact (hf i g1).2.2.1
       . obtain⟨g1,rfl⟩:=hli i e h1;obtain⟨_,q1,q2,q3⟩:=hf i g1;have hj:j < Dat.sz α:=by have:=(zi.1 h2).1;omega
         obtain⟨_,arr2,ty2,fz2,hh2,hg⟩:=cell?_inv (hcell i g1 j hj);rw[(iJ _ _ _).1]at hh2;rw[(iJ _ _ _).2]at hg;have hh2':w.heap[b]? = some (.cells arr2 ty2 fz2):=hh2;have hh':w.heap[b]? = some (.cells arr ty fz):=hh;rw[hh']at hh2';cases hh2';exact⟨hg,(q3 j c h2).2⟩
       . obtain⟨g1,rfl⟩:=hli i e h1;exact ((hf i g1).2.2.2 j c h2).1
      simpa[hll]using hmain
theorem lB {t tf:TypeId} {fs:Array Field} {β:Type} [DatL β] {p:β->Prop} (hf:ReadsP P tf β p) (ht:P.underlying t=some (.struct fs)) {H:Type} {en:TypeId×Value->H} {w:World} {sp:Nat->Bool} {fuel:Nat} {cs:List Value} {x:DataW H×List MemPlace}
 (h:DataW.trod en P w 0 sp true fuel t cs=some x) (i:Nat) {f:Field} (hi:fs[i]? = some f) (hft:f.type=tf):cs.length=P.cellsOf t/\∃ b:β,p b/\(cells b).length=Dat.sz β /\
  ∀ (j:Nat) (c:C),(cells b)[j]? = some c->RepD (fun b=>b < w.heap.size) w.heap c (cs.getD (f.offset+j) undef)/\(cs.getD (f.offset+j) undef).oneCell'=true:=by
 obtain⟨xs,n,_,_,hl,hxs,hx⟩:=DataW.trod_struct ht h;refine⟨hl,?_⟩;have h1:=hx i f hi;have hi':i < xs.length:=by rw[hxs];exact (Array.getElem?_eq_some_iff.1 hi).1
 rw[ze hi',hft]at h1;obtain⟨b,h1',h2,h3,h4⟩:=hf.rd en w sp n _ _ h1;refine⟨b,h1',h2,fun j c hj=>?_⟩;have hj':j < Dat.sz β:=by have:=(zi.1 hj).1;omega
 have h5:=h4 j c hj;have e:((cs.drop f.offset).take (P.cellsOf tf)).getD j undef=cs.getD (f.offset+j) undef:=by
  rw[hf.sz];simp only[zb,ya,zO,qb hj']
 rw[e]at h5;exact h5
theorem ReadsP.argS {t:TypeId} {fs:Array Field} {α:Type} [DatL α] {p:α->Prop} (h:ReadsP P t α p) (hag:Dat.agg α=true) (ht:P.underlying t=some (.struct fs)) {H:Type} {en:TypeId×Value->H} {W:World} {r:Reach} {base:Nat} {sp:Nat->Bool} {v:Value} {d:DataW H} {ps:List MemPlace}
 (hval:Value.okWide P W r base t v) (hd:DataW.Trod en P W 0 sp true t v d ps):∃ a:α,p a/\∀ E,Rep E (fun b=>b < W.heap.size) W.heap (enc a) v:=by
 obtain⟨vs,rfl,_⟩:=WideShapes.okWide_struct ht hval;obtain⟨fuel,hf⟩:=hd;obtain⟨a,h0,h1,h2,h3⟩:=h.rd en W sp fuel _ _ hf;have hc:(Value.agg vs).cells=vs:=by simp[Value.cells]
 rw[hc]at h2 h3;have e:∀ j,vs.toList.getD j undef=vs.getD j undef:=fun j=>by simp[zb,zc]
 refine⟨a,h0,fun E=>?_⟩;rw[enc,qb hag];refine .agg _ vs (by simpa[h1]using h2) (fun j c hj=>.d (by have:=(h3 j c hj).1;rwa[e]at this)) (fun j hj=>?_);have hj':j < (cells a).length:=by rw[h1,<- h2];simpa using hj
 have:=(h3 j _ (ze hj')).2;rwa[e]at this
theorem nJ {n nm:String} {d:DataW Unit} {r:List (String×DataW Unit)} {W:World} {g:Nat} {ti:TypeId} {ms:Array (String×TypeId)} (h:laidMet P ((n,.iface nm d) :: r) W)
 (hg:P.globalNamed n=some g) (ht:(P.globals[g]?).map (·.type)=some ti) (hi:P.underlying ti=some (.interface ms)):∃ tp p ty fz,W.heap[g]? = some (.cells #[.iface tp p] ty fz):=by
 obtain⟨ps,⟨g0,t0,cs0,f0,p0,q0,hg0,ht0,hv0,hd0,_,e0⟩,_,_⟩:=h;obtain rfl:=Option.some.inj (hg.symm.trans hg0);obtain rfl:=Option.some.inj (ht.symm.trans ht0);obtain⟨_,u,v,hcs,_,_⟩:=iface_of_trod hi hd0;have hcs:cs0=#[.iface u v]:=by cases cs0;simpa using hcs
 subst hcs;unfold World.var? at hv0;rw[hg]at hv0;simp only[Option.bind_some]at hv0;split at hv0
 . rename_i cs ty fz hh;cases hv0;exact⟨u,v,ty,fz,hh⟩
 . cases hv0
theorem rC {n:String} {cs:Array Value} {W:World} {g:Nat} (h:W.var? P n=some cs) (hg:P.globalNamed n=some g):∃ ty fz,W.heap[g]? = some (.cells cs ty fz):=by
 unfold World.var? at h;rw[hg]at h;simp only[Option.bind_some]at h;split at h
 . rename_i cs ty fz hh;cases h;exact⟨ty,fz,hh⟩
 . cases h
end Go.Am
end
section
namespace Go.Am
open Dat (cells)
def w0 := aI @an.eq_1 <| aI @an.eq_2 <| aI @an.eq_3 <| aI @an.eq_4 <| aI @an.eq_5 <| aI @an.eq_6 <| aI @an.eq_7 <| aI @an.eq_8 <| aI @an.eq_9 <| aI @an.eq_10 <| aI @an.eq_11 <| aI @an.eq_12 <| aI @an.eq_13 <| aI @an.eq_14 <| aI @an.eq_15 <| aI @an.eq_16 <| aI @an.eq_17 <| aI @an.eq_18 <| aI @an.eq_19 <| aI @an.eq_20 <| aI @an.eq_21 <| aI @an.eq_22 <| aI @an.eq_23 <| aI @an.eq_24 <| aI @an.eq_25 <| aI @an.eq_26 <| aI @an.eq_27 <| aI @an.eq_28 <| aI @an.eq_29 <| aI @an.eq_30 <| aI @an.eq_31 <| aI @an.eq_32 <| aI @an.eq_33 <| aI @an.eq_34 <| aI @an.eq_35 <| aI @an.eq_36 <| aI @an.eq_37 <| aI @an.eq_38 <| aI @an.eq_39 <| @an.eq_40
def w1 := aI @an.eq_41 <| aI @bG.eq_1 <| aI @bG.eq_2 <| aI @bG.eq_3 <| aI @bG.eq_4 <| aI @bG.eq_5 <| aI @bG.eq_6 <| aI @bG.eq_7 <| aI @aE.eq_1 <| aI @aE.eq_2 <| aI @bY.eq_1 <| aI @bY.eq_2 <| aI @ai.eq_1 <| aI @ai.eq_2 <| aI @ai.eq_3 <| aI @ai.eq_4 <| aI @ai.eq_5 <| aI @ai.eq_6 <| aI @ai.eq_7 <| aI @ai.eq_8 <| aI @ai.eq_9 <| aI @ai.eq_10 <| aI @ai.eq_11 <| aI @ai.eq_12 <| aI @ai.eq_13 <| aI @ai.eq_14 <| aI @ai.eq_18 <| aI @ai.eq_19 <| aI @ai.eq_20 <| aI @ai.eq_21 <| aI @ai.eq_24 <| aI @ai.eq_25 <| aI @ai.eq_26 <| aI @ai.eq_27 <| aI @ai.eq_28 <| aI @ai.eq_29 <| aI @ai.eq_30 <| aI @ai.eq_31 <| aI @ai.eq_33 <| @ai.eq_34
def w2 := aI @aq.eq_1 <| aI @aq.eq_2 <| aI @aq.eq_3 <| aI @aq.eq_4 <| aI @gt.eq_1 <| aI @lk.eq_1 <| aI @lk.eq_2 <| aI @am.eq_1 <| aI @am.eq_2 <| aI @af.eq_1 <| aI @af.eq_2 <| aI @aU.eq_1 <| aI @aU.eq_2 <| aI @aw.eq_1 <| aI @bq.eq_1 <| aI @bq.eq_2 <| aI @ah.eq_1 <| aI @ah.eq_2 <| aI @ah.eq_3 <| aI @ah.eq_4 <| aI @ah.eq_5 <| aI @ah.eq_6 <| aI @ah.eq_7 <| aI @ah.eq_8 <| aI @ah.eq_9 <| aI @ah.subCs.eq_1 <| aI @ah.subCs.eq_2 <| aI @bK.eq_1 <| aI @bK.eq_2 <| aI @aJ.eq_1 <| aI @aJ.eq_2 <| aI @aJ.eq_3 <| aI @aJ.eq_4 <| aI @aJ.eq_5 <| aI @aJ.eq_6 <| aI @bv.eq_1 <| aI @bv.eq_2 <| aI @av.eq_1 <| aI @av.eq_2 <| @aj.eq_1
def w3 := aI @aj.eq_2 <| aI @aR.eq_1 <| aI @aR.eq_2 <| aI @aR.eq_3 <| aI @aR.eq_4 <| aI @aR.eq_5 <| aI @aR.eq_6 <| aI @aR.eq_7 <| aI @aR.eq_8 <| aI @aR.eq_9 <| aI @aR.eq_10 <| aI @a8.eq_1 <| aI @a8.eq_2 <| aI @a8.eq_3 <| aI @aH.eq_1 <| aI @bN.eq_1 <| aI @bN.eq_2 <| aI @bl.eq_1 <| aI @bl.eq_2 <| aI @ay.eq_1 <| aI @ay.eq_2 <| aI @ay.eq_3 <| aI @ae.eq_1 <| aI @ae.eq_2 <| aI @ae.eq_3 <| aI @aB.eq_1 <| aI @aB.eq_2 <| aI @aA.eq_1 <| aI @aA.eq_2 <| aI @aA.eq_3 <| aI @aA.eq_4 <| aI @aA.eq_5 <| aI @aA.eq_6 <| aI @aA.eq_7 <| aI @aA.eq_8 <| aI @aA.eq_9 <| aI @aA.eq_10 <| aI @aA.eq_11 <| aI @aA.eq_12 <| @aA.eq_13
def w4 := aI @aA.eq_14 <| aI @aA.eq_15 <| aI @aA.eq_16 <| aI @aA.eq_17 <| aI @aA.eq_18 <| aI @aA.eq_19 <| aI @aA.eq_20 <| aI @aA.eq_21 <| aI @aA.eq_22 <| aI @aA.eq_23 <| aI @aA.eq_24 <| aI @aA.eq_25 <| aI @aA.eq_26 <| aI @cI.eq_1 <| aI @cI.eq_2 <| aI @cI.eq_3 <| aI @dz.eq_1 <| aI @aQ.eq_1 <| aI @aQ.eq_2 <| aI @aQ.eq_3 <| aI @aQ.eq_4 <| aI @aQ.eq_5 <| aI @bJ.eq_1 <| aI @bJ.eq_2 <| aI @bJ.eq_3 <| aI @bJ.eq_4 <| aI @cj.eq_1 <| aI @cj.eq_2 <| aI @cj.eq_3 <| aI @cj.eq_4 <| aI @cj.eq_5 <| aI @bg.eq_1 <| aI @bg.eq_2 <| aI @bg.eq_3 <| aI @bg.eq_4 <| aI @bg.eq_5 <| aI @bg.eq_6 <| aI @bg.eq_7 <| aI @bg.eq_8 <| @bg.eq_9
def w5 := aI @bg.eq_10 <| aI @bg.eq_11 <| aI @bg.eq_12 <| aI @bg.eq_13 <| aI @bg.eq_14 <| aI @bg.eq_15 <| aI @bg.eq_16 <| aI @cD.eq_1 <| aI @cD.eq_2 <| aI @cD.eq_3 <| aI @cD.eq_4 <| aI @cC.eq_1 <| aI @cC.eq_2 <| aI @aZ.eq_1 <| aI @aZ.eq_2 <| aI @au.eq_1 <| aI @aV.eq_1 <| aI @aV.eq_2 <| aI @aV.eq_3 <| aI @aV.eq_4 <| aI @cb.eq_1 <| aI @cb.eq_2 <| aI @cb.eq_3 <| aI @cb.eq_4 <| aI @cb.eq_5 <| aI @cN.eq_1 <| aI @cN.eq_2 <| aI @zC.eq_1 <| aI @zC.eq_2 <| aI @argS.eq_1 <| aI @argS.eq_2 <| aI @cz.eq_1 <| aI @cn.eq_1 <| aI @cn.eq_2 <| aI @dv.eq_1 <| aI @dv.eq_2 <| aI @cd.eq_1 <| aI @aW.eq_1 <| aI @aW.eq_2 <| @aW.eq_3
def w6 := aI @aW.eq_4 <| aI @aW.eq_5 <| aI @aW.eq_6 <| aI @bE.eq_1 <| aI @bE.eq_2 <| aI @bf.eq_1 <| aI @bf.eq_2 <| aI @br.eq_1 <| aI @br.eq_2 <| aI @cF.eq_1 <| aI @cF.eq_2 <| aI @leC.eq_1 <| aI @leC.eq_2 <| aI @leC.eq_3 <| aI @leC.eq_4 <| aI @leC.eq_5 <| aI @bL.eq_1 <| aI @bL.eq_2 <| aI @bL.eq_3 <| aI @bB.eq_1 <| aI @bB.eq_2 <| aI @bB.eq_3 <| aI @bB.eq_4 <| aI @ca.eq_1 <| aI @ca.eq_2 <| aI @ca.eq_3 <| aI @bt.eq_1 <| aI @bt.eq_2 <| aI @bt.eq_3 <| aI @dx.eq_1 <| aI @cG.eq_1 <| aI @cU.eq_1 <| aI @cU.eq_2 <| aI @ap.eq_1 <| aI @ap.eq_2 <| aI @ag.eq_1 <| aI @ag.eq_2 <| aI @cr.eq_1 <| aI @cr.eq_2 <| @bW.eq_1
def w7 := aI @bW.eq_2 <| aI @dm.eq_1 <| aI @aD.eq_1 <| aI @aD.eq_2 <| aI @aD.eq_3 <| aI @aD.eq_4 <| aI @aD.viewCs.eq_1 <| aI @aD.viewCs.eq_2 <| aI @aP.eq_1 <| aI @aP.eq_2 <| aI @aP.eq_3 <| aI @aP.eq_4 <| aI @aP.eq_5 <| aI @aP.eq_6 <| aI @aP.eq_7 <| aI @aP.flatCs.eq_1 <| aI @aP.flatCs.eq_2 <| aI @aX.eq_1 <| aI @aX.eq_2 <| aI @aX.eq_3 <| aI @aX.eq_4 <| aI @aX.LensOks.eq_1 <| aI @aX.LensOks.eq_2 <| aI @aX.LensOks.eq_3 <| aI @Value.oneCell'.eq_1 <| aI @Value.oneCell'.eq_2 <| aI @Value.oneCell'.eq_3 <| aI @de.eq_1 <| aI @Ent.mk3.eq_1 <| aI @cK.eq_1 <| aI @cK.eq_2 <| aI @db.eq_1 <| aI @dc.eq_1 <| aI @cL.eq_1 <| aI @cL.eq_2 <| aI @dg.eq_1 <| aI @dh.eq_1 <| aI @dd.eq_1 <| aI @cM.eq_1 <| @cM.eq_2
def w8 := aI @co.eq_1 <| aI @co.eq_2 <| aI @di.eq_1 <| aI @cp.eq_1 <| aI @cS.eq_1 <| aI @cS.eq_2 <| aI @cO.eq_1 <| aI @cO.eq_2 <| aI @cH.eq_1 <| aI @cH.eq_2 <| aI @rn.eq_1 <| aI @ak.eq_1 <| aI @ak.eq_2 <| aI @ak.eq_3 <| aI @ak.eq_4 <| aI @ak.eq_5 <| aI @ak.eq_6 <| aI @ak.eq_7 <| aI @ak.eq_8 <| aI @ak.eq_9 <| aI @ak.renCs.eq_1 <| aI @ak.renCs.eq_2 <| aI @aF.eq_1 <| aI @aF.eq_2 <| aI @ar.eq_1 <| aI @ar.eq_2 <| aI @aY.eq_1 <| aI @aY.eq_2 <| aI @aY.eq_3 <| aI @aY.viewOks.eq_1 <| aI @aY.viewOks.eq_2 <| aI @bV.eq_1 <| aI @bV.eq_2 <| aI @bC.eq_1 <| aI @bC.eq_2 <| aI @bC.eq_3 <| aI @bC.eq_4 <| aI @bC.eq_5 <| aI @bC.eq_6 <| @bC.flatBs.eq_1
def w9 := aI @bC.flatBs.eq_2 <| aI @bD.eq_1 <| aI @bD.eq_2 <| aI @bD.eq_3 <| aI @bS.eq_1 <| aI @bS.eq_2 <| aI @cg.eq_1 <| aI @cg.eq_2 <| aI @bX.eq_1 <| aI @bX.eq_2 <| aI @bI.eq_1 <| aI @bI.eq_2 <| aI @aK.eq_1 <| aI @aK.eq_2 <| aI @aK.eq_3 <| aI @aK.eq_4 <| aI @aK.eq_5 <| aI @aK.eq_6 <| aI @aK.eq_7 <| aI @aK.eq_8 <| aI @aK.eq_9 <| aI @aK.keysBs.eq_1 <| aI @aK.keysBs.eq_2 <| aI @bU.eq_1 <| aI @bU.eq_2 <| aI @ba.eq_1 <| aI @ba.eq_2 <| aI @ba.eq_3 <| aI @bZ.eq_1 <| aI @bZ.eq_2 <| aI @dj.eq_1 <| aI @dj.eq_2 <| aI @bO.eq_1 <| aI @bO.eq_2 <| aI @cm.eq_1 <| aI @cm.eq_2 <| aI @aG.eq_1 <| aI @aG.eq_2 <| aI @aG.eq_3 <| @aG.eq_4
def w10 := aI @aG.eq_5 <| aI @aG.eq_6 <| aI @aG.eq_7 <| aI @aG.passKs.eq_1 <| aI @aG.passKs.eq_2 <| aI @aG.passKs.eq_3 <| aI @aG.passKs.eq_4 <| aI @aG.passKs.eq_5 <| aI @be.eq_1 <| aI @be.eq_2 <| aI @be.eq_3 <| aI @be.eq_4 <| aI @be.eq_5 <| aI @be.eq_6 <| aI @be.eq_7 <| aI @bR.eq_1 <| aI @bR.eq_2 <| aI @aO.eq_1 <| aI @aO.eq_2 <| aI @aO.eq_3 <| aI @aO.eq_4 <| aI @aO.eq_5 <| aI @aO.lendKs.eq_1 <| aI @aO.lendKs.eq_2 <| aI @aO.lendKs.eq_3 <| aI @aO.lendKs.eq_4 <| aI @bm.eq_1 <| aI @bk.eq_1 <| aI @bk.eq_2 <| aI @bk.eq_3 <| aI @bk.eq_4 <| aI @cT.eq_1 <| aI @aN.eq_1 <| aI @setInn.eq_1 <| aI @aM.eq_1 <| aI @bz.eq_1 <| aI @bz.eq_2 <| aI @bz.eq_3 <| aI @cZ.eq_1 <| @aL.eq_1
def w11 := aI @aL.eq_2 <| aI @cB.eq_1 <| aI @bw.eq_1 <| aI @bw.eq_2 <| aI @bw.eq_3 <| aI @bw.eq_4 <| aI @bw.eq_5 <| aI @bw.eq_6 <| aI @bA.eq_1 <| aI @bA.eq_2 <| aI @az.eq_1 <| aI @az.eq_2 <| aI @az.eq_3 <| aI @a7.eq_1 <| aI @a7.eq_2 <| aI @Glob.gl.eq_1 <| aI @bh.eq_1 <| aI @bh.eq_2 <| aI @bh.eq_3 <| aI @bh.eq_4 <| aI @bh.eq_5 <| aI @dt.eq_1 <| aI @dt.eq_2 <| aI @cQ.eq_1 <| aI @cQ.eq_2 <| aI @cc.eq_1 <| aI @dl.eq_1 <| aI @aC.eq_1 <| aI @aC.eq_2 <| aI @aC.eq_3 <| aI @bn.eq_1 <| aI @bn.eq_2 <| aI @cJ.eq_1 <| aI @cJ.eq_2 <| aI @bu.eq_1 <| aI @bu.eq_2 <| aI @dw.eq_1 <| aI @bo.eq_1 <| aI @bo.eq_2 <| @ax.eq_1
def w12 := aI @ax.eq_2 <| aI @ax.eq_3 <| aI @ax.eq_4 <| aI @ax.eq_5 <| aI @ax.eq_6 <| aI @ax.eq_7 <| aI @ax.eq_8 <| aI @ax.eq_9 <| aI @ax.ptrOnlys.eq_1 <| aI @ax.ptrOnlys.eq_2 <| aI @bQ.eq_1 <| aI @bQ.eq_2 <| aI @bj.eq_1 <| aI @bj.eq_2 <| aI @bj.eq_3 <| aI @bj.eq_4 <| aI @bj.eq_5 <| aI @bP.eq_1 <| aI @bT.eq_1 <| aI @bT.eq_2 <| aI @bT.eq_3 <| aI @bH.eq_1 <| aI @bH.eq_2 <| aI @cq.eq_1 <| aI @cq.eq_2 <| aI @cu.eq_1 <| aI @cR.eq_1 <| aI @dn.eq_1 <| aI @dn.eq_2 <| aI @dB.eq_1 <| aI @cP.eq_1 <| aI @cP.eq_2 <| aI @dy.eq_1 <| aI @dy.eq_2 <| aI @cV.eq_1 <| aI @cV.eq_2 <| aI @cV.eq_3 <| aI @ce.eq_1 <| aI @ce.eq_2 <| @ce.eq_3
def w13 := aI @cY.eq_1 <| aI @cY.eq_2 <| aI @da.eq_1 <| aI @da.eq_2 <| aI @dA.eq_1 <| aI @dA.eq_2 <| aI @du.eq_1 <| aI @du.eq_2 <| aI @cW.eq_1 <| aI @cW.eq_2 <| aI @cW.eq_3 <| aI @aT.eq_1 <| aI @bM.eq_1 <| aI @a6.eq_1 <| aI @bF.eq_1 <| aI @bF.eq_2 <| @undef.eq_1
def W := aI @w0 <| aI @w1 <| aI @w2 <| aI @w3 <| aI @w4 <| aI @w5 <| aI @w6 <| aI @w7 <| aI @w8 <| aI @w9 <| aI @w10 <| aI @w11 <| aI @w12 <| @w13
end Go.Am
end
section
namespace Go.Am
open Dat (cells)
variable {P : Program} [Glob P] {cx : Cx} {Q : ASt → Prop} {k : List It} {st : ASt} {ch : Chs} {d : Nat}
def refS (i kk:Nat) (cs:List C) (s:ASt):ASt:=⟨am (bq [(kk,.c .any)] s.t) i (.ref cs),ae [(kk,.c .any)] (af s.ch kk)⟩
theorem dW.refB {i kk:Nat} {cs:List C} (hl:lk st.ch kk=some (.box cs)) (hd:cs.all a8=true) (hp:gt st.t i=.ptr kk 0):dW P cx st (refS i kk cs st):=fun E U a w hh=>by
 have hkm:=dH hl;have hi:=hh.inv;obtain⟨⟨hnil,arr,ty,b1,b2,b3⟩,hf,hin⟩:=hi.ok kk _ hkm
 let U':Nat->Prop:=fun b=>U b\/b=(E kk).blk
 have hown:(E kk).fp (E kk).blk:=(hf.fp _).2 (.inl ⟨hnil,rfl⟩);have hkeep:∀ b,U b->U' b/\w.heap[b]? = w.heap[b]?:=fun b hb=>⟨.inl hb,rfl⟩
 have hdd:∀ c,(kk,c)∉af st.ch kk:=fun c=>dZ hi.nd
 have hsub:∀ k' c',[(kk,Sb.c .any)].lookup k'=some (.c c')->∀ v,Rep E U w.heap (.own k') v->Rep E U' w.heap c' v:=fun k' c' h v _=>by
  rw[fV]at h;split at h
  . cases h;exact .d (.any _)
  . cases h
 have he:=Ev.gen (w1:=w) (E':=E) (U':=U') (news:=[]) (old:=af st.ch kk) (m:=[(kk,.c .any)]) (d:=0) hi rfl rfl rfl (zw _) (eu st.ch kk) hkeep (fun _ _=>rfl) (fun _ _=>rfl) hsub (fun _ _ _=>rfl)
  (fun _ _ _ _ _=>rfl) (fun _ _ _=>rfl) (by simp) (fun k' c h=>(by cases h)) (fun k' c h=>(by cases h)) (fun k' c h b hb=>(by cases h)) (fun k' c h b hb=>(by cases h))
  (fun k1 x1 k2 x2 h1 h2 hne=>(by cases h1)) (fun b hb=>?_) (fun k' c h b hb hu=>(by cases h)) (fun b hb=>?_) (fun k' cs' h=>(by cases h))
 . have h1:=hh.ghost (by decide) he;refine⟨_,_,h1.slots fun j=>?_⟩;by_cases hj:i=j
   . subst hj;simp only[fF,qj];have hv:=ft (hp ▸ hh.tok i);rw[hv];refine .ref cs _ 0 arr ty (0,0) (fun j=>arr.getD j undef) (.inr rfl) b1 (fun j c hj=>?_) (fun j c hj=>?_)
     . have hjl:j < arr.size:=by rw[b2];exact (zi.1 hj).1
       have hda:=zx.1 hd c (zp hj);refine⟨by simp[zc,zj hjl],?_⟩;rcases b3 j c hj with⟨_,r2⟩ | ⟨⟨n,t,es,rfl⟩,_⟩
       . exact r2
       . cases hda
     . have hda:=zx.1 hd c (zp hj);rcases b3 j c hj with⟨r1,_⟩ | ⟨⟨n,t,es,rfl⟩,_⟩
       . have r3:RepD U w.heap c (arr.getD j undef):=by
          cases c with
          | s v=>cases r1 with | d h=>exact h
          | sl n es=>cases r1 with | d h=>exact h
          |_=>cases hda
         exact r3.mono hkeep
       . cases hda
   . have:=h1.tok j;simp only[fF,qa hj];exact this
 . rcases hb with hb | rfl
   . exact .inl hb
   . exact .inr (.inr ⟨_,_,hkm,hdd,hown⟩)
 . rcases hb with hb | rfl
   . exact hi.lt b hb
   . exact hi.fpl _ _ hkm _ hown
theorem S_refB (i kk:Nat) {cs:List C} (hl:lk st.ch kk=some (.box cs)) (hd:cs.all a8=true) (hp:gt st.t i=.ptr kk 0) (h:SG P cx Q k (refS i kk cs st)):SG P cx Q k st:=fE (dW.refB hl hd hp) h
end Go.Am
end
section
namespace Go.Am
open Dat (cells)
theorem opF_un (ρ:Operand->C) (ch:Chs) (d:Nat) (op:UnOp) (x:Operand):ai ρ ch d (.un op x)=(
 match op,ρ x with
 |.neg,.s (.int k n)=>some ⟨InR k (-n),.s (.int k (-n)),ch,[]⟩
 |.not,.s (.bool b)=>some ⟨True,.s (.bool (!b)),ch,[]⟩
 |_,_=>none:Option Eff):=rfl
theorem opF_ssl (ρ:Operand->C) (ch:Chs) (d:Nat) (sz:Nat) (x:Operand) (lo hi mx:Option Operand):ai ρ ch d (.ssl sz x lo hi mx)=(
 match ρ x with
 |.sl n es=>
  if n=sz then
   match aZ ρ lo 0,aZ ρ hi es.length,aZ ρ mx es.length with
   | some l,some h,some m=>some ⟨0<=l/\l<=h/\h<=es.length/\(mx.isSome=true->hi.isSome=true/\h<=m/\m<=es.length),.sl sz ((es.take h.toNat).drop l.toNat),ch,[]⟩
   |_,_,_=>none
  else none
 |.own k=>
  match lk ch k,mx with
  | some (.row n ty es),none=>
   if n=sz then
    match aZ ρ lo 0,aZ ρ hi es.length with
    | some l,some h=>some ⟨0<=l/\l<=h/\h<=es.length,.own k,am (ae [(k,.c .any)] ch) k (.row n ty ((es.take h.toNat).drop l.toNat)),[(k,.c .any)]⟩
    |_,_=>none
   else none
  |_,_=>none
 |.s (.slice none 0 0)=>
  match aZ ρ lo 0,aZ ρ hi 0,mx with
  | some l,some h,none=>some ⟨0<=l/\l<=h/\h<=0,.s (.slice none 0 0),ch,[]⟩
  |_,_,_=>none
 |_=>none:Option Eff):=rfl
theorem opF_len (ρ:Operand->C) (ch:Chs) (d:Nat) (str:Bool) (x:Operand):ai ρ ch d (.len str x)=(
 match ρ x,str with
 |.inn k i,false=>
  match aN ch k i with
  | some (p,_,_,es)=>some ⟨p,.s (.int .i64 (es.length:Int)),ch,[]⟩
  |_=>none
 | c,str=>(cb ch str c).map fun (n:Nat)=>⟨True,.s (.int .i64 (n:Int)),ch,[]⟩:Option Eff):=rfl
def W3 := aI @opF_un <| aI @opF_ssl <| aI @opF_len <| aI @W <| aI @ite_true.{1} <| aI @ite_false.{1} <| aI @qj.{1} <| aI @qi.{1} <| aI @forall_const.{0} <| aI @forall_const.{1} <| aI @implies_true.{0} @implies_true.{1}
def WU := aI @Int.cast_ofNat_Int <| aI @Int.natCast_one <| aI @Int.natCast_zero <| aI @ne_eq.{1} qd
end Go.Am
end
section
namespace Go.Am
open Dat (cells)
variable {P : Program} {E : Env} {U : Nat → Prop} {w : World} {ch : Chs} {d : Nat}
def renS (m:List (Nat×Nat)) (s:ASt):ASt:=⟨bu (ag s.ch) m s.t,ar m s.ch⟩
def i7 (m:List (Nat×Nat)):Chs->Prop
 |[]=>True
 | (k,.box _) :: r=>(rn m k=k\/rn m k < 100000)/\i7 m r
 |_ :: r=>i7 m r
theorem kn {m:List (Nat×Nat)}:∀ {ch:Chs},i7 m ch->∀ k cs,(k,.box cs)∈ch->rn m k=k\/rn m k < 100000
 |[],_,k,cs,h=>by simp at h
 | (j,c) :: r,h,k,cs,hm=>by
  rcases zl.1 hm with e | e
  . cases e;exact h.1
  . exact kn (ch:=r) (by cases c <;> first | exact h | exact h.2) k cs e
theorem lH {α β:Type} {f:α->β}:∀ {l:List α},(l.map f).Nodup->∀ x∈l,∀ y∈l,f x=f y->x=y
 |[],_,x,hx,_,_,_=>by simp at hx
 | a :: l,h,x,hx,y,hy,e=>by
  simp only[zt,zI,zu,not_exists,not_and]at h;rcases zl.1 hx with h1 | h1 <;> rcases zl.1 hy with h2 | h2
  . rw[h1,h2]
  . subst h1;exact absurd e.symm (h.1 y h2)
  . subst h2;exact absurd e (h.1 x h1)
  . exact lH h.2 x h1 y h2 e
end Go.Am
end
