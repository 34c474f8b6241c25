/- Part 6 of the proof of: TopMoveTold returns true for every input and never panics: a right log told in texts, and in two halves with the state told between them, gives the same state, and what is possible there is the same and not nothing; conditions: those of the given statement, that the package variables it lists hold what their initialisers lay. -/
import Derived.Test.YtcbabnbiinkafaaGreatDoorTopMoveTold5
set_option linter.all false
set_option maxHeartbeats 8000000
set_option maxRecDepth 100000
section
open Go Go.Am
open Go.Am.Dat (cells)
namespace Go.Proofs.YtcbabnbiinkafaaGreatDoor
theorem tl_ok {n:Nw} {c:Int} {l:List T3} (h30:l.length<=30) (hr:(gH n c l).2=0):TlOk n c l:=by
 obtain⟨hN,hc,hst⟩:=BS hr;have net:=rm hN;have hs:=BY n l _ _ hst;refine⟨hN,net,fun k=>?_,fun k=>?_,fun k=>Bf n c _,CY n l _ _ hst⟩
 . have:=(Fe net hc _ (hs k)).1;rwa[Bf]at this
 . have hd:wI n c=0:=by unfold wI;rw[qa (by simp[hN]),qb hc]
   rw[Bz n c _ hd,rpE,qa (by rw[qp];omega)];exact hs k
def nwD (n:Nw):List C:=[.sl 1 (n.cells.map Dat.cells),.sl 2 (n.nb.map Dat.cells),.s (.int .i64 n.limit)]
theorem told_k3 (n:Nw) (x z:Ms) (hn:NwS n) (net:NetOk n) (hN:(gO n).2=0) (g:dN n x) (cx:Cx):SG Tryz.prog cx (cz [RV.tmp 6] [] (.s (.bool true)) []) [It.c F3.c20k3.cut] ⟨[(3,.ptr 3 0),(11,.ptr 11 0),(21,.ptr 21 0)],[(21,.box (msD x)),(18,.box (msD z)),(14,.box (msD x)),(11,.box (msD x)),(3,.box (nwD n))]⟩:=by
 have hdn:=jd n;have hdx:=ww x;have hm:=AQ net g;have hbs:=hm.bs;have h76:=DB n x x.at_ hn hm;have ho:=CE hN g;have ht:gc x.at_=true:=by have:=g.at_;simpa[gc]using this
 have hz:Ai n x x.at_=0:=by simp[Ai,dS,ho,ht]
 have hp:=Fh net g;rw[possR,qa (by simp[hz])]at h76;generalize posL n x x.at_=L at *;have hp2:=eq_true (show (L.length:Int) > 0 by omega);refine iI ?_;delta F3.c20k3 oO oN oM oT oG oQ oS oK oF oL oC oX oP oD o5 o8;refine dC [ent37,Aq,wu 76 _ _ h76 ⟨trivial,trivial,trivial⟩,Ap,ent77] 900 ?_;simp only[F3.rv20,ent37,Aq,wu,Ap,ent77,nwD,msD,eO,qT,qx,hdn,hdx,hn,hbs,hp2,zy,InR,qc,qd,WU,Ent.of1,Ent.of2,V,W3,seval]
theorem told_k4 (n:Nw) (c:Int) (l:List T3) (h:Nat) (hn:NwS n) (q:TlOk n c l) (hh:h<=l.length) (h30:l.length<=30) (cx:Cx):SG Tryz.prog cx (cz [RV.tmp 6] [] (.s (.bool true)) []) [It.c F3.c20k4.cut] ⟨[(2,.sl 3 (l.map Dat.cells)),(3,.ptr 3 0),(11,.ptr 11 0),(17,.s (.int .i64 (h:Int))),(21,.ptr 21 0)],[(21,.box (msD (stK n c l h))),(18,.box (msD (stK n c l h))),(14,.box (msD (stK n c l l.length))),(11,.box (msD (stK n c l l.length))),(3,.box (nwD n))]⟩:=by
 have hdn:=jd n;refine iI ?_;delta F3.c20k4 oM oS oK oX;refine dC [] 900 ?_;simp only[nwD,msD,WU,V,W3,seval];refine fH (l.length - h) (fun i=>[(23,.s (.int .i64 ((h+i:Nat):Int)))]) (fun i=>[(21,.box (msD (stK n c l (h+i))))]) (fun _=>True) trivial ?_ (fun i hi _=>dC [] 800 ?_)
 . simp only[msD,zL,V,W3,seval]
   all_goals simp
 . by_cases hlt:h+i < l.length
   . have hi2:((h+i:Nat):Int) < (l.length:Int):=by omega
     have hi0:(0:Int)<=((h+i:Nat):Int):=by omega
     have hgd:=vp l (h+i) hlt;have he:=q.a (h+i) hlt;obtain⟨m2,hm2⟩:∃ m2,m2=stK n c l (h+(i+1)):=⟨_,rfl⟩;have hs:m2=qE n (stK n c l (h+i)) (l.getD (h+i) ⟨0,0,0⟩):=by rw[hm2];exact Fp n c l hlt
     have g:=q.g (h+i);have hm:=AQ q.net g;have hbs:=hm.bs;have ho:=CE q.N g;have h69:=AI n (stK n c l (h+i)) (l.getD (h+i) ⟨0,0,0⟩) hn hm;rw[(Ci ho).1,(Ci ho).2,wU,he,qa (by simp),<- hs]at h69;have hdm:=ww (stK n c l (h+i));generalize l.getD (h+i) ⟨0,0,0⟩=e at *;generalize stK n c l (h+i)=m at *;generalize hj:h+i=j at *;delta F3.c20l2 oO oN oA oM oT oR oS oK oC oW oI oX oB o3 oZ o4 o5 o8 o9;simp only[F3.rv20,msD,hi0,hi2,InR,WU,V,W3,seval];refine AJ [ent37,Aq,wu 69 _ _ h69 ⟨by simp[qT,dG,dG.keysIns],trivial,trivial⟩] 800 [1,3,8] ?_;simp only[xF,mFin2,AX,lP,ot,ops2,ja,reM2,nR,p9,qr,l6,finM,kd,gP,g9,fX,ff,fN,fN.fixBs,fL,ndE2,ap,ag,av,aU,aE,ke,eL,a6,bF,ent37,Aq,wu,eO,qT,dV,qx,hdn,hdm,hn,hbs,hi0,hi2,hgd,zy,InR,WU,Ent.of1,V,W3,seval];refine⟨rfl,dC [] 800 ?_⟩;simp only[F3.rv20,msD,hi0,hi2,InR,qc,qd,WU,V,W3,seval];exact⟨⟨by omega,by omega⟩,by omega,by omega,by rw[<- hm2]⟩
   . have hie:h+i=l.length:=by omega
     have hi2:¬ ((h+i:Nat):Int) < (l.length:Int):=by omega
     have hfin:=told_k3 n (stK n c l l.length) (stK n c l h) hn q.net q.N (q.g _);unfold msD nwD at hfin;delta F3.c20l2 oO oN oA oM oT oR oS oK oC oW oI oX oB o3 oZ o4 o5 o8 o9;simp only[hi2,hie,msD,InR,WU,V,W3,seval];exact hfin cx
theorem told_k5 (n:Nw) (c:Int) (l:List T3) (h:Nat) (hn:NwS n) (q:TlOk n c l) (hh:h<=l.length) (h30:l.length<=30) (cx:Cx):SG Tryz.prog cx (cz [RV.tmp 6] [] (.s (.bool true)) []) [It.c F3.c20k5.cut] ⟨[(18,.ptr 18 0),(2,.sl 3 (l.map Dat.cells)),(3,.ptr 3 0),(11,.ptr 11 0),(17,.s (.int .i64 (h:Int)))],[(18,.box (msD (stK n c l h))),(14,.box (msD (stK n c l l.length))),(11,.box (msD (stK n c l l.length))),(3,.box (nwD n))]⟩:=by
 have hdn:=jd n;have hfin:=told_k4 n c l h hn q hh h30;have g:=q.g h;have hm:=AQ q.net g;have hbs:=hm.bs;obtain⟨hp,hfs⟩:=E5 q.net g;obtain⟨b1,b2⟩:=Fj q.net g;unfold msD nwD at hfin;generalize stK n c l h=z at *;generalize stK n c l l.length=x at *;have hdz:=ww z;refine iI ?_;delta F3.c20k5 oO oN oA oM oG oS oK oC oW oI oX oH oB oZ o5 o8 o9;refine dC [Aq,ent80,En,Ap] 900 ?_;simp only[F3.rv20,Aq,ent80,En,Ap,nwD,msD,qT,hdn,hdz,hbs,hp,hfs,b1,b2,InR,qc,qd,WU,Ent.of1,Ent.of2,V,W3,seval];exact hfin cx
theorem told_k6 (n:Nw) (c:Int) (l:List T3) (hn:NwS n) (q:TlOk n c l) (h30:l.length<=30) (cx:Cx):SG Tryz.prog cx (cz [RV.tmp 6] [] (.s (.bool true)) []) [It.c F3.c20k6.cut] ⟨[(1,.s (.int .i64 c)),(2,.sl 3 (l.map Dat.cells)),(3,.ptr 3 0),(11,.ptr 11 0),(13,.s (.int .i64 0)),(14,.ptr 14 0),(16,.s (.int .i64 0))],[(14,.box (msD (stK n c l l.length))),(11,.box (msD (stK n c l l.length))),(3,.box (nwD n))]⟩:=by
 have hdn:=jd n;obtain⟨h,hh⟩:∃ h,h=l.length / 2:=⟨_,rfl⟩;have hfin:=told_k5 n c l h hn q (by omega) h30;have hq:Int.tdiv (l.length:Int) 2=(h:Int):=by rw[hh];rfl
 have h36:=uO n c (l.take h) hn;have hr0:=q.r h;rw[ox,BU hr0,qb rfl,q.e h]at h36;unfold msD nwD at hfin;have hdx:=ww (stK n c l l.length);have hdz:=ww (stK n c l h);have hll:l.length<=1000000:=by omega
 have hlt:(l.take h).length<=1000000:=by rw[qp];omega
 generalize stK n c l h=z at *;generalize stK n c l l.length=x at *;refine iI ?_;delta F3.c20k6 oO oN oA oM oT oG oS oK oC oW oI oX oH oB oD oZ o4 o5 o8 o9;refine dC [] 900 ?_;simp only[nwD,msD,qx,hq,zy,InR,qc,qd,WU,V,W3,seval];refine⟨⟨by omega,by omega⟩,?_⟩;refine AJ [ent37,B7,wu 36 _ _ h36 ⟨by simp[qT,dG,dG.keysIns],trivial,trivial,trivial⟩] 800 [1,5,6,7] ?_;simp only[xF,mFin2,AX,lP,ot,ops2,ja,reM2,nR,p9,qr,l6,finM,kd,gP,g9,fX,ff,fN,fN.fixBs,fL,ndE2,ap,ag,av,aU,aE,ke,eL,a6,bF,ent37,B7,wu,eO,qT,hdn,hn,hll,hlt,qx,<- List.map_take,fM,InR,qc,qd,WU,Ent.of1,V,W3,seval];refine⟨rfl,⟨by omega,by omega⟩,?_⟩;refine dC [Ap] 900 ?_;simp only[F3.rv20,Ap,qT,hdx,nwD,msD,InR,qc,qd,WU,Ent.of2,V,W3,seval];exact hfin cx
theorem told_k7 (n:Nw) (c:Int) (l:List T3) (hn:NwS n) (q:TlOk n c l) (h30:l.length<=30) (cx:Cx):SG Tryz.prog cx (cz [RV.tmp 6] [] (.s (.bool true)) []) [It.c F3.c20k7.cut] ⟨[(1,.s (.int .i64 c)),(2,.sl 3 (l.map Dat.cells)),(3,.ptr 3 0),(7,.sl 3 (l.map Dat.cells))],[(3,.box (nwD n))]⟩:=by
 have hdn:=jd n;have hfin:=told_k6 n c l hn q h30;have h36:=uO n c l hn;have hr0:=q.r l.length;have he0:=q.e l.length;rw[yo]at hr0 he0;rw[ox,BU hr0,qb rfl,he0]at h36;unfold msD nwD at hfin;have hll:l.length<=1000000:=by omega
 generalize stK n c l l.length=x at *;refine iI ?_;delta F3.c20k7 oO oA oM oC oW oX oZ o5 o8;refine dC [ent37,B7,wu 36 _ _ h36 ⟨by simp[qT,dG,dG.keysIns],trivial,trivial,trivial⟩] 900 ?_;simp only[ent37,B7,wu,nwD,eO,qT,hdn,hn,hll,qx,zy,InR,qc,qd,WU,Ent.of1,V,W3,seval];exact hfin cx
theorem Told_c (n:Nw) (c:Int) (l:List T3) (hI:∀ e∈l,InR .i64 e.y/\InR .i64 e.z):FC Tryz.prog 20 [enc n,enc c,enc l] [] (enc true) []:=by
 have hdn:=jd n;by_cases hfew:few n=true
 rotate_left
 . have hf:few n=false:=by simpa using hfew
   refine dD [] F3.is20 (by simp) (by simp[bn]) (by simp[ap,ag]) (by simp[ap,ag]) (by simp[aC]) (fun cx _ _ _=>dC [xY,ent34] 1500 ?_);delta F3.c20 oO oN oA oM oG oS oK oV oC oI oX oH oD o5 o7 o9;simp only[F3.rv20,xY,ent34,wu,eO,dV,hdn,hf,qc,WU,Ent.of1,V,W3,seval]
 by_cases h30:l.length<=30
 rotate_left
 . have hs:=eq_true (show (l.length:Int) > 30 by omega);refine dD [] F3.is20 (by simp) (by simp[bn]) (by simp[ap,ag]) (by simp[ap,ag]) (by simp[aC]) (fun cx _ _ _=>dC [xY,ent34] 1500 ?_);delta F3.c20 oO oN oA oM oG oS oK oV oC oI oX oH oD o5 o7 o9;simp only[F3.rv20,xY,ent34,wu,eO,dV,hdn,hfew,hs,qx,zy,qc,WU,Ent.of1,V,W3,seval]
 have hs:=eq_false (show ¬ (l.length:Int) > 30 by omega);have hn:=few_nws hfew;have h53:=EQ n c l hn;by_cases hR:(gH n c l).2=0
 rotate_left
 . generalize (gH n c l).2=E at *;refine dD [] F3.is20 (by simp) (by simp[bn]) (by simp[ap,ag]) (by simp[ap,ag]) (by simp[aC]) (fun cx _ _ _=>dC [xY,ent34,wu 53 _ _ h53 trivial] 1500 ?_);delta F3.c20 oO oN oA oM oG oS oK oV oC oI oX oH oD o5 o7 o9;simp only[F3.rv20,xY,ent34,wu,eO,dV,hdn,hfew,hs,hR,qx,zy,qc,qd,WU,Ent.of1,V,W3,seval]
 rw[hR]at h53;have q:=tl_ok h30 hR;have hfin:=told_k7 n c l hn q h30;unfold nwD at hfin;refine dD [] F3.is20 (by simp) (by simp[bn]) (by simp[ap,ag]) (by simp[ap,ag]) (by simp[aC]) (fun cx _ _ _=>dC [xY,ent34,wu 53 _ _ h53 trivial] 1500 ?_);delta F3.c20 oO oN oA oM oG oS oK oV oC oI oX oH oD o5 o7 o9;simp only[F3.rv20,xY,ent34,wu,eO,dV,hdn,hfew,hs,qx,zy,qc,qd,WU,Ent.of1,V,W3,seval];refine fH l.length (fun i=>[(8,.s (.int .i64 (i:Int)))]) (fun i=>[(7,.row 3 83 ((l.take i).map Dat.cells))]) (fun _=>True) trivial ?_ (fun i hi _=>dC [ent79,Em] 800 ?_)
 . simp only[List.take_zero,V,W3,seval]
   all_goals simp
 . by_cases hlt:i < l.length
   . have hi2:(i:Int) < (l.length:Int):=by omega
     have hi0:(0:Int)<=(i:Int):=by omega
     have hgd:=vp l i hlt;have hmem:l.getD i ⟨0,0,0⟩∈l:=by rw[zb,ze hlt];exact yy hlt
     obtain⟨hy,hz⟩:=hI _ hmem;obtain⟨b1,b2⟩:=Fg q.net (DW (q.a i hlt));have hsz:=Ep hy hz;have hts:(l.take (i+1)).map Dat.cells=(l.take i).map Dat.cells++[[C.s (.int .i64 (l.getD i ⟨0,0,0⟩).x),C.s (.int .i64 (l.getD i ⟨0,0,0⟩).y),C.s (.int .i64 (l.getD i ⟨0,0,0⟩).z)]]:=by rw[xy ⟨0,0,0⟩ hlt,yg];rfl
     have hde:gx (.agg [C.s (.int .i64 (l.getD i ⟨0,0,0⟩).x),.s (.int .i64 (l.getD i ⟨0,0,0⟩).y),.s (.int .i64 (l.getD i ⟨0,0,0⟩).z)])=some (l.getD i ⟨0,0,0⟩):=rfl;have hlk:(l.take i).length<=30:=by rw[qp];omega
     generalize l.getD i ⟨0,0,0⟩=e at *;delta F3.c20l1 oO oN oA oM oR oS oK oC oW oI oX oB o3 o4 o5 o8 o9;simp only[F3.rv20,ent79,Em,hi0,hi2,hgd,hy,hz,b1,b2,hsz,hde,dV,qx,zy,InR,qc,qd,WU,Ent.of1,V,W3,seval];exact⟨⟨by simpa[InR]using hy,by simpa[InR]using hz⟩,by omega,⟨by omega,by omega⟩,hlt,by omega,by rw[hts]⟩
   . have hie:i=l.length:=by omega
     subst hie;have hi2:¬ ((l.length:Nat):Int) < (l.length:Int):=by omega
     delta F3.c20l1 oO oN oA oM oR oS oK oC oW oI oX oB o3 o4 o5 o8 o9;simp only[hi2,yo,qx,zy,InR,WU,V,W3,seval];exact hfin cx
end Go.Proofs.YtcbabnbiinkafaaGreatDoor
end
section
open Go Go.Am
open Go.Am.Dat (cells)
namespace Go.Proofs.YtcbabnbiinkafaaGreatDoor
open Go.ChangeShapes Go.WideShapes Go.ChangeAt Go.RowKit
open Go.ChangeMaps (open_string shut_string)
theorem inR64 {n:Int} (h:-9223372036854775808<=n/\n<=9223372036854775807):InR .i64 n:=by simp only[InR];omega
theorem rEv : ReadsP Tryz.prog 83 T3 (fun e=>InR .i64 e.y/\InR .i64 e.z):=by
 refine⟨by kernel_rfl,by decide,fun en w sp fuel cs x h=>?_⟩;obtain⟨l,a0,p0,e0,h0⟩:=lB rInt Tryz.underlying83 h 0 rfl rfl;obtain⟨_,a1,p1,e1,h1⟩:=lB rInt Tryz.underlying83 h 1 rfl rfl;obtain⟨_,a2,p2,e2,h2⟩:=lB rInt Tryz.underlying83 h 2 rfl rfl;refine⟨⟨a0,a1,a2⟩,⟨inR64 p1,inR64 p2⟩,rfl,l.trans (by kernel_rfl),fun j c hj=>?_⟩
 match j,hj with
 | 0,hj=>cases hj;exact h0 0 _ rfl
 | 1,hj=>cases hj;exact h1 0 _ rfl
 | 2,hj=>cases hj;exact h2 0 _ rfl
theorem rEvs : ReadsP Tryz.prog 48 (List T3) (fun l=>∀ a∈l,InR .i64 a.y/\InR .i64 a.z):=ReadsP.list rEv Tryz.underlying48 (by kernel_rfl)
theorem Fd (os:Os) (started:os.Started) (H:Type) (en:TypeId×Value->H) :
 ReturnsInHanded {} Tryz.checked os 20 .any (fun w args=>(Rows.topMoveToldSpec.pre en Tryz.prog Tryz.f20 Rows.topMoveToldRow.domain false w args/\laidMetH Tryz.prog Rows.topMoveToldRow.laid w)/\sizedMet en Tryz.prog Tryz.f20 (OpenSpec.ofChange Rows.topMoveToldSpec) false w args)
  (Rows.topMoveToldSpec.post en Tryz.prog Tryz.f20 false true false false):=by
 refine returnsInHanded_of_change_and (C:=Tryz.checked) (X:=fun w _=>laidMetH Tryz.prog Rows.topMoveToldRow.laid w) (fun _ _ _ hh h=>h.of_heap hh) ownOk started (by kernel_rfl) Tryz.func20
  (ChangeSpec.witness_shaped (enc:=en) (C:=Tryz.checked) (os:=os) (X:=fun w _=>laidMetH Tryz.prog Rows.topMoveToldRow.laid w) false (doorW os) #[.agg #[.slice none 0 0,.slice none 0 0,.int .i64 0],.int .i64 0,.slice none 0 0] 8 rfl (doorShaped os _) (by kernel_rfl) (by kernel_rfl) (by kernel_rfl) (door_met os _)) ?_
 intro W base args ds gs before hval0 hW hcnd hsz hL _;have hval:∀ (j:Nat) t v,Tryz.f20.params[j]? = some t->args[j]? = some v->Value.okWide Tryz.prog W .any base t v:=hval0;have hW':=hW;obtain⟨p,q,hA0,hV,rfl,hfz,hnd⟩:=hW;have hA:DataW.TrodAll en Tryz.prog W 0 (fun _=>true) true Tryz.f20.params.toList args.toList ds p:=hA0;rw[Tryz.params20]at hA hval;obtain⟨v0,vs0,d0w,ds0,p0,q0,hargs,rfl,rfl,h0,r0w⟩:=trodAll_cons hA;obtain⟨v1,vs1,d1,ds1,p1,q1,rfl,rfl,rfl,h1,r1⟩:=trodAll_cons r0w;obtain⟨v2,vs2,d2,ds2,p2,q2,rfl,rfl,rfl,h2,r2⟩:=trodAll_cons r1;obtain⟨rfl,rfl,rfl⟩:=trodAll_nil r2;obtain rfl:args=#[v0,v1,v2]:=by cases args;simp_all
 obtain⟨rfl,rfl⟩:=trodVars_none hV;have lt0:∀ x∈p0,x.block < W.heap.size:=by obtain⟨m,hm⟩:=h0;exact DataW.trod_lt m _ _ _ hm
 have lt2:∀ x∈p2,x.block < W.heap.size:=by obtain⟨m,hm⟩:=h2;exact DataW.trod_lt m _ _ _ hm
 obtain⟨x0,g0,hx0⟩:=rNw.argS rfl Tryz.underlying47 (hval 0 47 v0 rfl rfl) h0;obtain⟨x1,rfl,rfl,rfl,w1⟩:=open_int Tryz.underlying3 (hval 1 3 v1 rfl rfl) h1;obtain⟨x2,g2,hx2⟩:=rEvs.arg Tryz.underlying48 (hval 2 48 v2 rfl rfl) h2;clear hA0 hval0;refine (law_walkG (Told_c x0 x1 x2 g2) (W:=W) (vs:=#[v0,.int .i64 x1,v2]) (glAll hL) rfl (fun j c hj E=>?_)).mono fun e W' ⟨he,bel⟩=>?_
 . match j,hj with
   | 0,hj=>cases hj;exact hx0 E
   | 1,hj=>cases hj;exact .d (.s _)
   | 2,hj=>cases hj;exact hx2 E
 . subst he;exact⟨_,rfl,_,_,_,[],_,[],hW',trodAll_mk1 (shut_bool Tryz.underlying4 _),(trodAll_cons_mk (Below.trod laidOut (by kernel_rfl) (of_decide_eq_true (by kernel_rfl)) h0 bel lt0) (trodAll_cons_mk (shut_int Tryz.underlying3 w1) (trodAll_cons_mk (Below.trod laidOut (by kernel_rfl) (of_decide_eq_true (by kernel_rfl)) h2 bel lt2) trodAll_mk0))),rfl,bel.frame _,fun h=>by cases h⟩
theorem Fa : (Rows.topMoveToldRow.inPlace == Tryz.prog.inPlace 20)=true:=by kernel_rfl
theorem jUnf20 : (Rows.topMoveToldRow.unfollowed == Tryz.prog.unfollowed 20)=true:=by kernel_rfl
theorem jRec20 : (Rows.topMoveToldRow.recurses == Tryz.prog.recurses 20)=true:=by kernel_rfl
theorem E9 : (Rows.topMoveToldRow.named == Tryz.prog.varsNamed 20)=true:=by kernel_rfl
theorem jKeys20 : (Rows.topMoveToldRow.plainKeys == Tryz.prog.plainKeys)=true:=jKeys
theorem jLift20 : (Rows.topMoveToldRow.lifted == Tryz.prog.liftsFinal)=true:=jLift
theorem jMake20 : (Tryz.prog.make == some Rows.topMoveToldRow.make)=true:=jMake
theorem jVeil20 : Rows.topMoveToldRow.veiledFits Tryz.prog Tryz.f20.params.toList (Tryz.f20.params.toList++Rows.topMoveToldSpec.plain.varTypes Tryz.prog++Tryz.f20.resultTypes.toList)=true:=by kernel_rfl
end Go.Proofs.YtcbabnbiinkafaaGreatDoor
end
