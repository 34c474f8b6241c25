/- Part 4 of the proof of: MoveApplies returns true for every input and never panics: one event at a state gives the reference's state and error, and what is refused leaves nothing; conditions: those of the given statement, that the package variables it lists hold what their initialisers lay. -/
import Derived.Test.YtcbabnbiinkafaaGreatDoorMoveApplies3
set_option linter.all false
section
open Go Go.Am
open Go.Am.Dat (cells)
namespace Go.Proofs.YtcbabnbiinkafaaGreatDoor
set_option maxHeartbeats 4000000
set_option maxRecDepth 100000
theorem open_ok (n:Nw) (m:Ms) (hn:NwS n) (hm:MsB m) (h:opE n m=0):FC Tryz.prog 113 [enc n,enc m] [] (.tup [.ptr 30 0,enc (0:Int)]) (phY n (opP m) 30 1030):=
 BY n m hn hm 0 h _ _ (fun _=>⟨rfl,rfl⟩) (fun q=>absurd rfl q) (by simp[phY,an,ag,av]) (by simp[phY,aB,lk])
theorem open_no (n:Nw) (m:Ms) (hn:NwS n) (hm:MsB m) (h:opE n m≠0):FC Tryz.prog 113 [enc n,enc m] [] (.tup [.s (.pointer none),enc (opE n m)]) []:=
 BY n m hn hm _ rfl _ _ (fun q=>absurd q h) (fun _=>⟨rfl,rfl⟩) (by simp[an,ag]) (by simp[aB])
def Av (n:Nw) (m:Ms) (hn:NwS n) (hm:MsB m) (h:opE n m=0):Ent Tryz.prog:=.mk3 113 (fun args chs=>some (args=[enc n,enc m]/\chs=[],.tup [.ptr 30 0,enc (0:Int)],phY n (opP m) 30 1030,[30,1030])) (by
 intro args chs pp r chs' nk hs hq;simp only[zn,zf]at hs;obtain⟨rfl,rfl,rfl,rfl⟩:=hs;obtain⟨rfl,rfl⟩:=hq;refine⟨open_ok n m hn hm h,⟨fun k c hm=>.inl ?_,fun k cs hm=>(by simp at hm),?_,fun k c hm=>?_⟩⟩
 . simp only[phY,zl,zA,or_false,zf]at hm ⊢;rcases hm with⟨rfl,rfl⟩ | ⟨rfl,rfl⟩
   . exact .inl rfl
   . exact .inr rfl
 . simp only[phY,zt,zR,dF,dF.keysIns];exact⟨by simp,trivial,trivial⟩
 . simp only[phY,zl,zA,or_false,zf]at hm;rcases hm with⟨rfl,rfl⟩ | ⟨rfl,rfl⟩
   . simp[phY,gm,phC,dF,dF.keysIns]
   . simp[gm])
def Bs (n:Nw) (m:Ms) (e:Int) (hn:NwS n) (hm:MsB m) (h:e≠0) (hp:opE n m=e):Ent Tryz.prog:=.mk3 113 (fun args chs=>some (args=[enc n,enc m]/\chs=[],.tup [.s (.pointer none),enc e],[],[])) (by
 intro args chs pp r chs' nk hs hq;simp only[zn,zf]at hs;obtain⟨rfl,rfl,rfl,rfl⟩:=hs;obtain⟨rfl,rfl⟩:=hq;have:=open_no n m hn hm (by rw[hp];exact h);rw[hp]at this
 exact⟨this,⟨fun k c hm=>(by simp at hm),fun k cs hm=>(by simp at hm),⟨trivial,trivial,trivial⟩,fun k c hm=>(by simp at hm)⟩⟩)
theorem BX {n:Nw} {m:Ms} (h:opE n m=0):NetOk n/\dP n m:=by
 unfold opE at h;obtain⟨h1,h2⟩:=Bf h;exact⟨rS h1,Ce h2⟩
def apE (n:Nw) (m:Ms) (e:T3):Int:=if opE n m≠0 then opE n m else gi n m e
def apS (n:Nw) (m:Ms) (e:T3):Ms:=if apE n m e≠0 then ms0 else rf n m e
theorem PhK.op (m:Ms):PhK 0 (opP m):=⟨by simp[opP],by simp[opP],by simp[opP],by simp[opP]⟩
theorem B5 (n:Nw) (m:Ms) (e:T3) (hn:NwS n) (hm:MsB m):FC Tryz.prog 69 [enc n,enc m,enc e] [] (.tup [enc (apS n m e),enc (apE n m e)]) []:=by
 by_cases h:opE n m=0
 . obtain⟨net,g⟩:=BX h;obtain⟨q,hq,hq2⟩:=apply_c n (opP m) e 0 hn net g (PhK.op m) (by omega);have hE:gi n (opP m).m e=apE n m e:=by unfold apE;rw[if_neg (by simp[h])];rfl
   rw[hE]at hq hq2;refine dD [] is69 (by simp) (by simp[bk]) (by simp[an,ag]) (by simp[an,ag]) (by simp[aB]) (fun cx _ hl _=>dC [Av n m hn hm h,eq 118 n (opP m) q [.ptr 100000 0,enc e] (enc (apE n m e)) trivial hq] 1500 ?_);unfold apS;generalize apE n m e=E at *;by_cases h0:E=0
   . subst h0;have hS:rf n m e=q.m:=by rw[hq2 rfl,rc];rfl
     rw[if_neg (fun q=>q rfl),hS];delta c69 oO oN oA oM oR oS oK oF oV oC oW oI oX oB oZ o5 o6 o7 o8;simp (maxSteps:=9^7) -implicitDefEqProofs only[rv69,Av,eq,ed,kN,dY,phX,phY,phC,opP,not_true_eq_false,not_false_eq_true,WU,Ent.of0,Ent.of1,Ent.of2,Ent.of3,Ent.of4,V,W3,↓reduceIte,seval,reduceCtorEq];rw[fP,zT];rfl
   . rw[if_pos h0];delta c69 oO oN oA oM oR oS oK oF oV oC oW oI oX oB oZ o5 o6 o7 o8;simp (maxSteps:=9^7) -implicitDefEqProofs only[rv69,Av,eq,ed,kN,dY,phX,phY,phC,opP,ms0,h0,not_true_eq_false,not_false_eq_true,WU,Ent.of0,Ent.of1,Ent.of2,Ent.of3,Ent.of4,V,W3,↓reduceIte,seval,reduceCtorEq]
 . obtain⟨E,he⟩:∃ e,opE n m=e:=⟨_,rfl⟩;have he1:apE n m e=E:=by unfold apE;rw[if_pos h];exact he
   unfold apS;rw[he]at h;rw[he1,if_pos h];refine dD [] is69 (by simp) (by simp[bk]) (by simp[an,ag]) (by simp[an,ag]) (by simp[aB]) (fun cx _ hl _=>dC [Bs n m E hn hm h he] 1500 ?_);delta c69 oO oN oA oM oR oS oK oF oV oC oW oI oX oB oZ o5 o6 o7 o8;simp (maxSteps:=9^7) -implicitDefEqProofs only[rv69,Bs,ed,kN,dY,ms0,h,not_true_eq_false,not_false_eq_true,WU,Ent.of0,Ent.of1,Ent.of2,Ent.of3,Ent.of4,V,W3,↓reduceIte,seval,reduceCtorEq]
theorem Aj : ∀ (l:List (List Int)) (v:Int) (i:Nat),(0<=xo v i l)↔v∈l.flatten
 |[],v,i=>by simp[xo]
 | r :: l,v,i=>by
  rw[xo,List.flatten_cons,zW];by_cases h:(r.any fun x=>decide (x=v))=true
  . rw[if_pos h];simp only[List.any_eq_true,decide_eq_true_eq]at h;obtain⟨x,hx,rfl⟩:=h;exact⟨fun _=>.inl hx,fun _=>Int.natCast_nonneg _⟩
  . rw[if_neg h,Aj l v (i+1)];simp only[List.any_eq_true,decide_eq_true_eq]at h;exact⟨fun q=>.inr q,fun q=>q.resolve_left fun q=>h ⟨v,q,rfl⟩⟩
theorem where_k (m:Ms) (k v:Int) (h1:m.buf.length<=1000000) (h2:0<=k) (h3:k<=m.buf.length):FC Tryz.prog 117 [enc m,enc k,enc v] [] (enc (xo v 0 (m.buf.take k.toNat))) []:=by
 obtain⟨j,rfl⟩:=Int.eq_ofNat_of_zero_le h2;exact where_c m j v h1 (by omega)
def xI : Ent Tryz.prog:=.of3 117 (fun (m:Ms) (k _:Int)=>m.buf.length<=1000000/\0<=k/\k<=m.buf.length) (fun (m:Ms) (k v:Int)=>enc (xo v 0 (m.buf.take k.toNat))) (fun _ _ _=>trivial) (fun m k v h=>where_k m k v h.1 h.2.1 h.2.2)
def chR (n:Nw) (m:Ms):Chs:=[(3,.box (msD m)),(2,.box [.sl 1 (n.cells.map Dat.cells),.sl 2 (n.nb.map Dat.cells),.s (.int .i64 n.limit)])]
theorem rst_5 (n:Nw) (m:Ms) (hm:MsB m) (hf:0<=m.fresh/\m.fresh<=1000000) (hg:0<=m.got/\m.got<=m.fresh) (cx:Cx) (E:Int) (hE:(if xZ m=false then 14 else 0)=E):SG Tryz.prog cx (cB [RV.tmp 4] [] (enc E) []) [It.c E4.c67k5.cut] ⟨[(3,.ptr 3 0)],chR n m⟩:=by
 have hml:=hm.l;have hdm:=xi m;refine iw (dC [] 500 ?_);obtain⟨K,hK⟩:∃ K,(m.fresh - m.got).toNat=K:=⟨_,rfl⟩;unfold xZ at hE;rw[hK]at hE;by_cases h60:m.fresh - m.got<=60
 . have h60':¬ (m.fresh - m.got > 60):=by omega
   delta E4.c67k5 oO oN oM oS oK oF oL oV oI oX oB;simp (maxSteps:=9^7) -implicitDefEqProofs only[E4.rv67,chR,msD,h60',not_true_eq_false,not_false_eq_true,InR,WU,Ent.of0,Ent.of1,Ent.of2,Ent.of3,Ent.of4,V,W3,↓reduceIte,seval,reduceCtorEq];refine⟨by omega,?_⟩;simp only[h60,decide_true,zY]at hE;refine eN K (fun i=>[(12,.s (.int .i64 (m.got+(i:Int))))]) (fun _=>[]) (fun i=>xA m.buf.flatten K m.got=xA m.buf.flatten (K - i) (m.got+i)) (by simp) ?_ (fun i hi hv=>dC [xI] 800 ?_)
   . simp (maxSteps:=9^7) -implicitDefEqProofs only[Ent.of0,Ent.of1,Ent.of2,Ent.of3,Ent.of4,V,W3,↓reduceIte,seval,reduceCtorEq]
     all_goals simp
   . by_cases h:i < K
     . have hi2:m.got+(i:Int) < m.fresh:=by omega
       have hk1:K - i=(K - (i+1))+1:=by omega
       rw[hk1,xA]at hv;have hw:=Aj m.buf (m.got+(i:Int)) 0;have htk:m.buf.take m.buf.length=m.buf:=yo;have hle:=eq_true (Int.le_refl (m.buf.length:Int));have hl0:(0:Int)<=(m.buf.length:Int):=by omega
       by_cases hx:(m.got+(i:Int))∈m.buf.flatten
       . have hw2:¬ (xo (m.got+(i:Int)) 0 m.buf < 0):=by have:=hw.2 hx;omega
         simp only[hx,decide_true,zY]at hv;delta E4.c67l4 oO oN oM oR oS oK oF oL oV oC oI oX oB o4 o5;simp (maxSteps:=9^7) -implicitDefEqProofs only[E4.rv67,xI,kN,hdm,hi2,hml,htk,hl0,hle,hw2,not_true_eq_false,not_false_eq_true,InR,WU,Ent.of0,Ent.of1,Ent.of2,Ent.of3,Ent.of4,V,W3,↓reduceIte,seval,reduceCtorEq];exact⟨⟨by omega,by omega⟩,h,by rw[hv,show ((i+1:Nat):Int)=(i:Int)+1 by omega,<- Int.add_assoc],by omega⟩
       . have hw2:xo (m.got+(i:Int)) 0 m.buf < 0:=by
          have:¬ (0<=xo (m.got+(i:Int)) 0 m.buf):=fun q=>hx (hw.1 q)
          omega
         simp only[hx,decide_false,z7]at hv;rw[hv]at hE;subst hE;delta E4.c67l4 oO oN oM oR oS oK oF oL oV oC oI oX oB o4 o5;simp (maxSteps:=9^7) -implicitDefEqProofs only[E4.rv67,xI,kN,hdm,hi2,hml,htk,hl0,hle,hw2,not_true_eq_false,not_false_eq_true,InR,WU,Ent.of0,Ent.of1,Ent.of2,Ent.of3,Ent.of4,V,W3,↓reduceIte,seval,reduceCtorEq]
     . have hie:i=K:=by omega
       subst hie;have hi2:¬ m.got+(i:Int) < m.fresh:=by omega
       rw[show i - i=0 by omega,xA]at hv;rw[hv]at hE;subst hE;delta E4.c67l4 oO oN oM oR oS oK oF oL oV oC oI oX oB o4 o5;simp (maxSteps:=9^7) -implicitDefEqProofs only[E4.rv67,hi2,InR,WU,Ent.of0,Ent.of1,Ent.of2,Ent.of3,Ent.of4,V,W3,↓reduceIte,seval,reduceCtorEq]
 . have h60':m.fresh - m.got > 60:=by omega
   simp only[h60,decide_false,z7]at hE;subst hE;delta E4.c67k5 oO oN oM oS oK oF oL oV oI oX oB;simp (maxSteps:=9^7) -implicitDefEqProofs only[E4.rv67,chR,msD,h60',not_true_eq_false,not_false_eq_true,InR,WU,Ent.of0,Ent.of1,Ent.of2,Ent.of3,Ent.of4,V,W3,↓reduceIte,seval,reduceCtorEq];omega
theorem rst_6 (n:Nw) (m:Ms) (hm:MsB m) (hf:0<=m.fresh/\m.fresh<=1000000) (hg:0<=m.got/\m.got<=m.fresh) (cx:Cx) (E:Int) (tgw srw:Bool) (htg:tgw=!decide (m.target=-1)) (hsr:srw=!decide (m.source=-1)) (hE:(if xL m=false then 23 else if xZ m=false then 14 else 0)=E):SG Tryz.prog cx (cB [RV.tmp 4] [] (enc E) []) [It.c E4.c67k6.cut] ⟨[(3,.ptr 3 0),(5,.s (.bool tgw)),(6,.s (.bool srw))],chR n m⟩:=by
 have hml:=hm.l;have hdm:=xi m;refine iw (dC [] 500 ?_);delta E4.c67k6 oS oK oV oX;simp (maxSteps:=9^7) -implicitDefEqProofs only[E4.rv67,chR,msD,InR,WU,Ent.of0,Ent.of1,Ent.of2,Ent.of3,Ent.of4,V,W3,↓reduceIte,seval,reduceCtorEq];refine eN m.buf.length (fun i=>[(11,.s (.int .i64 (i:Int)))]) (fun _=>[]) (fun i=>∀ j,j < i->xB m j=true) (fun j hj=>absurd hj (by omega)) ?_ (fun i hi hv=>dC [xf] 800 ?_)
 . simp (maxSteps:=9^7) -implicitDefEqProofs only[Ent.of0,Ent.of1,Ent.of2,Ent.of3,Ent.of4,V,W3,↓reduceIte,seval,reduceCtorEq]
   all_goals simp
 . by_cases h:i < m.buf.length
   . have hi2:(i:Int) < (m.buf.length:Int):=by omega
     have hi0:(0:Int)<=i:=by omega
     have hgx:List.getD (m.buf.map Dat.cells) i [C.sl 0 []]=[C.sl 1 ((m.buf.getD i []).map Dat.cells)]:=by
      rw[zb,zb,zh,ze h];rfl
     have hopn:xB m i=((m.buf.getD i []).isEmpty || decide ((i:Int)=m.serving) || decide ((i:Int)=m.source) || (ej m && decide ((i:Int)=m.target))):=rfl;have hnx:xB m i=true->∀ j,j < i+1->xB m j=true:=fun q j hj=>by
      rcases Nat.lt_or_eq_of_le (Nat.lt_succ_iff.1 hj)with q2 | q2
      . exact hv j q2
      . rw[q2];exact q
     have hbad:xB m i=false->E=23:=fun q=>by
      have:xL m=false:=by
       cases h2:xL m with
       | false=>rfl
       | true=>
        rw[xL,zx]at h2;rw[h2 i (zE.2 h)]at q;cases q
      rw[this]at hE;exact hE.symm
     generalize m.buf.getD i []=q at *;have hc:(q=[]/\xB m i=true)\/((0 < (q.length:Int))=True/\(((i:Int)=m.serving)=True/\xB m i=true\/(((i:Int)=m.serving)=False/\((srw=true/\((i:Int)=m.source)=True/\xB m i=true)\/(((srw=true/\((i:Int)=m.source)=False)\/srw=false)/\((tgw=false/\xB m i=false)\/(tgw=true/\ej m=false/\xB m i=false)\/(tgw=true/\ej m=true/\((i:Int)=m.target)=True/\xB m i=true)\/(tgw=true/\ej m=true/\((i:Int)=m.target)=False/\xB m i=false))))))):=by
      rw[hopn];cases q with
      | nil=>left;simp
      | cons a l=>
       right;refine⟨by simp,?_⟩;rcases Classical.propComplete ((i:Int)=m.serving)with g1 | g1
       . left;simp[g1]
       . right;refine⟨g1,?_⟩;have s1:srw=false->((i:Int)=m.source)=False:=fun q=>by
          rw[q]at hsr;have:m.source=-1:=by simpa using hsr
          exact eq_false (by omega)
         have s2:tgw=false->((i:Int)=m.target)=False:=fun q=>by
          rw[q]at htg;have:m.target=-1:=by simpa using htg
          exact eq_false (by omega)
         cases srw
         . right;refine⟨.inr rfl,?_⟩;have g2:=s1 rfl;cases tgw
           . left;simp[g1,g2,s2 rfl]
           . right;rcases Classical.propComplete ((i:Int)=m.target)with g3 | g3 <;> cases ej m <;> simp[g1,g2,g3]
         . rcases Classical.propComplete ((i:Int)=m.source)with g2 | g2
           . left;simp[g1,g2]
           . right;refine⟨.inl ⟨rfl,g2⟩,?_⟩;cases tgw
             . left;simp[g1,g2,s2 rfl]
             . right;rcases Classical.propComplete ((i:Int)=m.target)with g3 | g3 <;> cases ej m <;> simp[g1,g2,g3]
     clear hopn;rcases hc with⟨rfl,ho⟩ | ⟨a1,⟨a2,ho⟩ | ⟨a2,⟨rfl,a3,ho⟩ | ⟨⟨rfl,a3⟩ | rfl,⟨rfl,ho⟩ | ⟨rfl,a4,ho⟩ | ⟨rfl,a4,a5,ho⟩ | ⟨rfl,a4,a5,ho⟩⟩⟩⟩
     . delta E4.c67l3 oO oN oA oM oG oR oS oK oF oL oV oI oX oP oB oD oE oJ o0 o4;simp (maxSteps:=9^7) -implicitDefEqProofs only[E4.rv67,hi0,hi2,h,hgx,zR,InR,WU,Ent.of0,Ent.of1,Ent.of2,Ent.of3,Ent.of4,V,W3,↓reduceIte,seval,reduceCtorEq];exact⟨⟨by omega,by omega⟩,hnx ho,by omega⟩
     . delta E4.c67l3 oO oN oA oM oG oR oS oK oF oL oV oI oX oP oB oD oE oJ o0 o4;simp (maxSteps:=9^7) -implicitDefEqProofs only[E4.rv67,xf,kN,hdm,hi0,hi2,h,hgx,zy,a1,a2,InR,WU,Ent.of0,Ent.of1,Ent.of2,Ent.of3,Ent.of4,V,W3,↓reduceIte,seval,reduceCtorEq];exact⟨⟨by omega,by omega⟩,hnx ho,by omega⟩
     . delta E4.c67l3 oO oN oA oM oG oR oS oK oF oL oV oI oX oP oB oD oE oJ o0 o4;simp (maxSteps:=9^7) -implicitDefEqProofs only[E4.rv67,xf,kN,hdm,hi0,hi2,h,hgx,zy,a1,a2,a3,InR,WU,Ent.of0,Ent.of1,Ent.of2,Ent.of3,Ent.of4,V,W3,↓reduceIte,seval,reduceCtorEq];exact⟨⟨by omega,by omega⟩,hnx ho,by omega⟩
     . delta E4.c67l3 oO oN oA oM oG oR oS oK oF oL oV oI oX oP oB oD oE oJ o0 o4;simp (maxSteps:=9^7) -implicitDefEqProofs only[E4.rv67,xf,kN,hdm,hi0,hi2,h,hgx,zy,a1,a2,a3,InR,WU,Ent.of0,Ent.of1,Ent.of2,Ent.of3,Ent.of4,V,W3,↓reduceIte,seval,reduceCtorEq];exact (hbad ho).symm
     . delta E4.c67l3 oO oN oA oM oG oR oS oK oF oL oV oI oX oP oB oD oE oJ o0 o4;simp (maxSteps:=9^7) -implicitDefEqProofs only[E4.rv67,xf,kN,hdm,hi0,hi2,h,hgx,zy,a1,a2,a3,a4,InR,WU,Ent.of0,Ent.of1,Ent.of2,Ent.of3,Ent.of4,V,W3,↓reduceIte,seval,reduceCtorEq];exact (hbad ho).symm
     . delta E4.c67l3 oO oN oA oM oG oR oS oK oF oL oV oI oX oP oB oD oE oJ o0 o4;simp (maxSteps:=9^7) -implicitDefEqProofs only[E4.rv67,xf,kN,hdm,hi0,hi2,h,hgx,zy,a1,a2,a3,a4,a5,InR,WU,Ent.of0,Ent.of1,Ent.of2,Ent.of3,Ent.of4,V,W3,↓reduceIte,seval,reduceCtorEq];exact⟨⟨by omega,by omega⟩,hnx ho,by omega⟩
     . delta E4.c67l3 oO oN oA oM oG oR oS oK oF oL oV oI oX oP oB oD oE oJ o0 o4;simp (maxSteps:=9^7) -implicitDefEqProofs only[E4.rv67,xf,kN,hdm,hi0,hi2,h,hgx,zy,a1,a2,a3,a4,a5,InR,WU,Ent.of0,Ent.of1,Ent.of2,Ent.of3,Ent.of4,V,W3,↓reduceIte,seval,reduceCtorEq];exact (hbad ho).symm
     . delta E4.c67l3 oO oN oA oM oG oR oS oK oF oL oV oI oX oP oB oD oE oJ o0 o4;simp (maxSteps:=9^7) -implicitDefEqProofs only[E4.rv67,xf,kN,hdm,hi0,hi2,h,hgx,zy,a1,a2,InR,WU,Ent.of0,Ent.of1,Ent.of2,Ent.of3,Ent.of4,V,W3,↓reduceIte,seval,reduceCtorEq];exact (hbad ho).symm
     . delta E4.c67l3 oO oN oA oM oG oR oS oK oF oL oV oI oX oP oB oD oE oJ o0 o4;simp (maxSteps:=9^7) -implicitDefEqProofs only[E4.rv67,xf,kN,hdm,hi0,hi2,h,hgx,zy,a1,a2,a4,InR,WU,Ent.of0,Ent.of1,Ent.of2,Ent.of3,Ent.of4,V,W3,↓reduceIte,seval,reduceCtorEq];exact (hbad ho).symm
     . delta E4.c67l3 oO oN oA oM oG oR oS oK oF oL oV oI oX oP oB oD oE oJ o0 o4;simp (maxSteps:=9^7) -implicitDefEqProofs only[E4.rv67,xf,kN,hdm,hi0,hi2,h,hgx,zy,a1,a2,a4,a5,InR,WU,Ent.of0,Ent.of1,Ent.of2,Ent.of3,Ent.of4,V,W3,↓reduceIte,seval,reduceCtorEq];exact⟨⟨by omega,by omega⟩,hnx ho,by omega⟩
     . delta E4.c67l3 oO oN oA oM oG oR oS oK oF oL oV oI oX oP oB oD oE oJ o0 o4;simp (maxSteps:=9^7) -implicitDefEqProofs only[E4.rv67,xf,kN,hdm,hi0,hi2,h,hgx,zy,a1,a2,a4,a5,InR,WU,Ent.of0,Ent.of1,Ent.of2,Ent.of3,Ent.of4,V,W3,↓reduceIte,seval,reduceCtorEq];exact (hbad ho).symm
   . have hi2:¬ (i:Int) < (m.buf.length:Int):=by omega
     have hop:xL m=true:=by
      rw[xL,zx];exact fun j hj=>hv j (by have:=zE.1 hj;omega)
     rw[hop]at hE;delta E4.c67l3 oO oN oA oM oG oR oS oK oF oL oV oI oX oP oB oD oE oJ o0 o4;simp (maxSteps:=9^7) -implicitDefEqProofs only[E4.rv67,hi2,InR,WU,Ent.of0,Ent.of1,Ent.of2,Ent.of3,Ent.of4,V,W3,↓reduceIte,seval,reduceCtorEq];exact rst_5 n m hm hf hg cx E hE
theorem rst_7 (n:Nw) (m:Ms) (hm:MsB m) (hf:0<=m.fresh/\m.fresh<=1000000) (hg:0<=m.got/\m.got<=m.fresh) (cx:Cx) (E:Int) (tgw srw:Bool) (htg:tgw=!decide (m.target=-1)) (hsr:srw=!decide (m.source=-1)) (hE:(if pkL m.fresh [] m.buf≠0 then pkL m.fresh [] m.buf else if xL m=false then 23 else if xZ m=false then 14 else 0)=E):SG Tryz.prog cx (cB [RV.tmp 4] [] (enc E) []) [It.c E4.c67k7.cut] ⟨[(3,.ptr 3 0),(5,.s (.bool tgw)),(6,.s (.bool srw))],chR n m⟩:=by
 have hml:=hm.l;have hdm:=xi m;refine iw (dC [] 500 ?_);delta E4.c67k7 oS oK oV oX;simp (maxSteps:=9^7) -implicitDefEqProofs only[E4.rv67,chR,msD,InR,WU,Ent.of0,Ent.of1,Ent.of2,Ent.of3,Ent.of4,V,W3,↓reduceIte,seval,reduceCtorEq];refine eN m.buf.length (fun i=>[(8,.s (.int .i64 (i:Int)))]) (fun _=>[]) (fun i=>pkL m.fresh [] m.buf=pkL m.fresh (m.buf.take i).flatten (m.buf.drop i)) rfl ?_ (fun i hi hv=>dC [] 800 ?_)
 . simp (maxSteps:=9^7) -implicitDefEqProofs only[Ent.of0,Ent.of1,Ent.of2,Ent.of3,Ent.of4,V,W3,↓reduceIte,seval,reduceCtorEq]
   all_goals simp
 . by_cases h:i < m.buf.length
   . have hi2:(i:Int) < (m.buf.length:Int):=by omega
     have hi0:(0:Int)<=i:=by omega
     have hile:=eq_true (show (i:Int)<=(m.buf.length:Int) by omega);have hgx:List.getD (m.buf.map Dat.cells) i [C.sl 0 []]=[C.sl 1 ((m.buf.getD i []).map Dat.cells)]:=by
      rw[zb,zb,zh,ze h];rfl
     have hfs:=yU h;rw[eg [] h,pkL]at hv;rw[<- hfs]at hv;have hll:(m.buf.getD i []).length<=1000:=by
      rw[zb,ze h];exact hm.r _ (yy h)
     have hwh:=fun v=>Aj (m.buf.take i) v 0
     generalize m.buf.getD i []=l at *;delta E4.c67l2 oO oN oA oM oR oS oK oF oL oV oX oB o0 o4;simp (maxSteps:=9^7) -implicitDefEqProofs only[E4.rv67,hi0,hi2,h,hgx,zy,InR,WU,Ent.of0,Ent.of1,Ent.of2,Ent.of3,Ent.of4,V,W3,↓reduceIte,seval,reduceCtorEq];generalize hS:(m.buf.take i).flatten=seen at *;refine eN l.length (fun k=>[(10,.s (.int .i64 (k:Int)))]) (fun _=>[]) (fun k=>xu m.fresh seen (-1) l=xu m.fresh seen (if k=0 then -1 else l.getD (k - 1) 0) (l.drop k)) rfl ?_ (fun k hk hw=>dC [oa,xI] 800 ?_)
     . simp (maxSteps:=9^7) -implicitDefEqProofs only[Ent.of0,Ent.of1,Ent.of2,Ent.of3,Ent.of4,V,W3,↓reduceIte,seval,reduceCtorEq]
       all_goals simp
     . by_cases hkl:k < l.length
       . have hk2:(k:Int) < (l.length:Int):=by omega
         have hk0:(0:Int)<=k:=by omega
         rw[Ay hkl]at hw;obtain⟨u,hu⟩:∃ u,l.getD k 0=u:=⟨_,rfl⟩;rw[hu]at hw;have hgl:List.getD (l.map Dat.cells) k [C.s (.int .i64 0)]=[C.s (.int .i64 u)]:=by
          rw[zb,zh,ze hkl,<- hu,zb,ze hkl];rfl
         have hgp:∀ j,j < l.length->List.getD (l.map Dat.cells) j [C.s (.int .i64 0)]=[C.s (.int .i64 (l.getD j 0))]:=fun j hj=>by
          rw[zb,zh,ze hj,zb,ze hj];rfl
         by_cases hr:0<=u/\u < m.fresh
         rotate_left
         . rw[if_pos hr]at hw;rw[hw,if_pos (by decide)]at hv;rw[hv,if_pos (by decide)]at hE;subst hE;have hwi:=eq_false (show ¬ (0<=u/\u<=m.fresh - 1) by omega);delta E4.c67l1 oO oN oA oM oT oG oR oQ oS oK oF oL oV oI oX oB oD oJ o1 o4 o5;simp (maxSteps:=9^7) -implicitDefEqProofs only[E4.rv67,oa,hwi,h,hi0,hi2,hk0,hk2,hkl,hgl,hgx,zy,InR,not_true_eq_false,not_false_eq_true,WU,Ent.of0,Ent.of1,Ent.of2,Ent.of3,Ent.of4,V,W3,↓reduceIte,seval,reduceCtorEq];omega
         rw[if_neg (fun q=>q hr)]at hw;have hwi:=eq_true (show (0<=u/\u<=m.fresh - 1) by omega);by_cases ho:u<=(if k=0 then -1 else l.getD (k - 1) 0)
         . have hk00:¬ k=0:=fun q=>by
            rw[if_pos q]at ho;omega
           rw[if_pos ho]at hw;rw[hw,if_pos (by decide)]at hv;rw[hv,if_pos (by decide)]at hE;subst hE;rw[if_neg hk00]at ho;have hgt:=eq_true ho;have hkI:=eq_true (show (0:Int) < (k:Int) by omega);have e1:(k:Int) - 1=((k - 1:Nat):Int):=by omega
           have e2:(0:Int)<=((k - 1:Nat):Int):=by omega
           have e3:((k - 1:Nat):Int) < (l.length:Int):=by omega
           have e4:k - 1 < l.length:=by omega
           have hgl1:=hgp (k - 1) e4;delta E4.c67l1 oO oN oA oM oT oG oR oQ oS oK oF oL oV oI oX oB oD oJ o1 o4 o5;simp (maxSteps:=9^7) -implicitDefEqProofs only[E4.rv67,oa,hwi,hgt,hkI,e1,e2,e3,e4,hgl1,h,hi0,hi2,hk0,hk2,hkl,hgl,hgx,zy,InR,not_true_eq_false,not_false_eq_true,WU,Ent.of0,Ent.of1,Ent.of2,Ent.of3,Ent.of4,V,W3,↓reduceIte,seval,reduceCtorEq];exact⟨by omega,by omega⟩
         rw[if_neg ho]at hw;have hord:k=0\/(¬ k=0/\(u<=l.getD (k - 1) 0)=False):=by
          by_cases q:k=0
          . exact .inl q
          . rw[if_neg q]at ho;exact .inr ⟨q,eq_false ho⟩
         by_cases hsn:u∈seen
         . rw[if_pos hsn]at hw;rw[hw,if_pos (by decide)]at hv;rw[hv,if_pos (by decide)]at hE;subst hE;have hwn:=eq_true ((hwh u).2 hsn);rcases hord with hk00 | ⟨hk00,hgt⟩
           . have hkI:=eq_false (show ¬ (0:Int) < (k:Int) by omega);delta E4.c67l1 oO oN oA oM oT oG oR oQ oS oK oF oL oV oI oX oB oD oJ o1 o4 o5;simp (maxSteps:=9^7) -implicitDefEqProofs only[E4.rv67,oa,xI,kN,hdm,hml,hile,hwi,hkI,hwn,h,hi0,hi2,hk0,hk2,hkl,hgl,hgx,zy,InR,not_true_eq_false,not_false_eq_true,WU,Ent.of0,Ent.of1,Ent.of2,Ent.of3,Ent.of4,V,W3,↓reduceIte,seval,reduceCtorEq];omega
           . have hkI:=eq_true (show (0:Int) < (k:Int) by omega);have e1:(k:Int) - 1=((k - 1:Nat):Int):=by omega
             have e2:(0:Int)<=((k - 1:Nat):Int):=by omega
             have e3:((k - 1:Nat):Int) < (l.length:Int):=by omega
             have e4:k - 1 < l.length:=by omega
             have hgl1:=hgp (k - 1) e4;delta E4.c67l1 oO oN oA oM oT oG oR oQ oS oK oF oL oV oI oX oB oD oJ o1 o4 o5;simp (maxSteps:=9^7) -implicitDefEqProofs only[E4.rv67,oa,xI,kN,hdm,hml,hile,hwi,hkI,hwn,hgt,e1,e2,e3,e4,hgl1,h,hi0,hi2,hk0,hk2,hkl,hgl,hgx,zy,InR,not_true_eq_false,not_false_eq_true,WU,Ent.of0,Ent.of1,Ent.of2,Ent.of3,Ent.of4,V,W3,↓reduceIte,seval,reduceCtorEq];exact⟨by omega,by omega⟩
         . rw[if_neg hsn]at hw;have hwn:=eq_false (fun q=>hsn ((hwh u).1 q));have hnx:xu m.fresh seen (-1) l=xu m.fresh seen (if k+1=0 then -1 else l.getD (k+1 - 1) 0) (l.drop (k+1)):=by
            rw[if_neg (by omega),Nat.add_sub_cancel,hu];exact hw
           rcases hord with hk00 | ⟨hk00,hgt⟩
           . have hkI:=eq_false (show ¬ (0:Int) < (k:Int) by omega);delta E4.c67l1 oO oN oA oM oT oG oR oQ oS oK oF oL oV oI oX oB oD oJ o1 o4 o5;simp (maxSteps:=9^7) -implicitDefEqProofs only[E4.rv67,oa,xI,kN,hdm,hml,hile,hwi,hkI,hwn,h,hi0,hi2,hk0,hk2,hkl,hgl,hgx,zy,InR,not_true_eq_false,not_false_eq_true,WU,Ent.of0,Ent.of1,Ent.of2,Ent.of3,Ent.of4,V,W3,↓reduceIte,seval,reduceCtorEq];exact⟨by omega,by omega,hu ▸ hw,by omega⟩
           . have hkI:=eq_true (show (0:Int) < (k:Int) by omega);have e1:(k:Int) - 1=((k - 1:Nat):Int):=by omega
             have e2:(0:Int)<=((k - 1:Nat):Int):=by omega
             have e3:((k - 1:Nat):Int) < (l.length:Int):=by omega
             have e4:k - 1 < l.length:=by omega
             have hgl1:=hgp (k - 1) e4;delta E4.c67l1 oO oN oA oM oT oG oR oQ oS oK oF oL oV oI oX oB oD oJ o1 o4 o5;simp (maxSteps:=9^7) -implicitDefEqProofs only[E4.rv67,oa,xI,kN,hdm,hml,hile,hwi,hkI,hwn,hgt,e1,e2,e3,e4,hgl1,h,hi0,hi2,hk0,hk2,hkl,hgl,hgx,zy,InR,not_true_eq_false,not_false_eq_true,WU,Ent.of0,Ent.of1,Ent.of2,Ent.of3,Ent.of4,V,W3,↓reduceIte,seval,reduceCtorEq];exact⟨by omega,by omega,by omega,hu ▸ hw,by omega⟩
       . have hke:k=l.length:=by omega
         subst hke;have hk2:¬ ((l.length:Nat):Int) < (l.length:Int):=by omega
         rw[List.drop_length,xu]at hw;rw[hw,if_neg (fun q=>q rfl)]at hv;delta E4.c67l1 oO oN oA oM oT oG oR oQ oS oK oF oL oV oI oX oB oD oJ o1 o4 o5;simp (maxSteps:=9^7) -implicitDefEqProofs only[E4.rv67,hk2,InR,WU,Ent.of0,Ent.of1,Ent.of2,Ent.of3,Ent.of4,V,W3,↓reduceIte,seval,reduceCtorEq];exact⟨by omega,h,hv,by omega⟩
   . have hi2:¬ (i:Int) < (m.buf.length:Int):=by omega
     have hie:i=m.buf.length:=by omega
     rw[hie,List.drop_length,pkL]at hv;rw[hv,if_neg (fun q=>q rfl)]at hE;delta E4.c67l2 oO oN oA oM oR oS oK oF oL oV oX oB o0 o4;simp (maxSteps:=9^7) -implicitDefEqProofs only[E4.rv67,hi2,InR,WU,Ent.of0,Ent.of1,Ent.of2,Ent.of3,Ent.of4,V,W3,↓reduceIte,seval,reduceCtorEq];exact rst_6 n m hm hf hg cx E tgw srw htg hsr hE
theorem rst_8 (n:Nw) (m:Ms) (hm:MsB m) (hf:0<=m.fresh/\m.fresh<=1000000) (hg:0<=m.got/\m.got<=m.fresh) (hp:fj m.buf<=1000000000) (cx:Cx) (E:Int) (tgw srw:Bool) (htg:tgw=!decide (m.target=-1)) (hsr:srw=!decide (m.source=-1)) (hE:pkE m=E):SG Tryz.prog cx (cB [RV.tmp 4] [] (enc E) []) [It.c E4.c67k8.cut] ⟨[(3,.ptr 3 0),(5,.s (.bool tgw)),(6,.s (.bool srw))],chR n m⟩:=by
 have hml:=hm.l;have hdm:=xi m;unfold pkE at hE;have hpk:=nr m.buf;refine iw (dC [yR] 500 ?_);by_cases h60:60 < m.buf.flatten.length
 . rw[if_pos h60]at hE;subst hE;have h60':=eq_true (show fj m.buf > 60 by omega);delta E4.c67k8 oO oN oS oK oV oC oI oX oB o5;simp (maxSteps:=9^7) -implicitDefEqProofs only[E4.rv67,yR,kN,hdm,hml,hp,chR,msD,h60',not_true_eq_false,not_false_eq_true,WU,Ent.of0,Ent.of1,Ent.of2,Ent.of3,Ent.of4,V,W3,↓reduceIte,seval,reduceCtorEq]
 . rw[if_neg h60]at hE;have h60':=eq_false (show ¬ fj m.buf > 60 by omega);delta E4.c67k8 oO oN oS oK oV oC oI oX oB o5;simp (maxSteps:=9^7) -implicitDefEqProofs only[E4.rv67,yR,kN,hdm,hml,hp,chR,msD,h60',not_true_eq_false,not_false_eq_true,WU,Ent.of0,Ent.of1,Ent.of2,Ent.of3,Ent.of4,V,W3,↓reduceIte,seval,reduceCtorEq];exact rst_7 n m hm hf hg cx E tgw srw htg hsr hE
theorem rst_9 (n:Nw) (m:Ms) (hm:MsB m) (net:NetOk n) (hlen:m.buf.length=n.cells.length) (q2:rgB m=true) (q3:msB n m=true) (cx:Cx) (E:Int) (tgw srw:Bool) (htg:tgw=!decide (m.target=-1)) (hsr:srw=!decide (m.source=-1)) (hE:(if stB n m=false then 22 else pkE m)=E):SG Tryz.prog cx (cB [RV.tmp 4] [] (enc E) []) [It.c E4.c67k9.cut] ⟨[(2,.ptr 2 0),(3,.ptr 3 0),(5,.s (.bool tgw)),(6,.s (.bool srw))],chR n m⟩:=by
 have hml:=hm.l;have hdm:=xi m;have q2':=q2;simp only[rgB,zm,decide_eq_true_eq]at q2';obtain⟨⟨⟨r1,r2⟩,r3⟩,r4⟩:=q2';have hlim:=net.lim;have hI:(-9223372036854775808<=m.since+n.limit/\m.since+n.limit<=9223372036854775807):=by omega
 simp only[msB,zm,zV,decide_eq_true_eq]at q3;have hso:srw=true->0<=m.source/\m.source < (m.buf.length:Int)/\m.source.toNat < m.buf.length:=fun h=>by
  rcases q3.2 with h2 | h2
  . rw[h2]at hsr;rw[hsr]at h;cases h
  . have:=fS h2;rw[hlen];omega
 have hpk:fj m.buf<=1000000000:=by
  rw[nr];have h1:=Aw m.buf 1000 hm.r;have h2:=net.len;have:m.buf.length*1000<=6*1000:=zB _ (by omega);omega
 have hgo:=rst_8 n m hm r3 r4 hpk cx E tgw srw htg hsr;have hst:stB n m=(!(ej m && decide (m.since+n.limit<=m.at_)) && !(srw && decide (m.path=m.serving) && (dQ m m.source).isEmpty)):=by rw[hsr];rfl
 refine iw (dC [xf] 500 ?_);have hc:(ej m=true/\(m.since+n.limit<=m.at_)=True/\stB n m=false)\/((ej m=false\/(ej m=true/\(m.since+n.limit<=m.at_)=False))/\stB n m=!(srw && decide (m.path=m.serving) && (dQ m m.source).isEmpty)):=by
  rw[hst];cases ej m <;> rcases Classical.propComplete (m.since+n.limit<=m.at_)with h | h <;> simp[h]
 rcases hc with⟨a1,a2,a3⟩ | ⟨a0,a3⟩
 . rw[if_pos a3]at hE;subst hE;delta E4.c67k9 oO oN oM oG oS oK oV oC oI oX oP oH oD oE oJ o0 o5;simp (maxSteps:=9^7) -implicitDefEqProofs only[E4.rv67,xf,kN,hdm,hI,chR,msD,a1,a2,InR,not_true_eq_false,not_false_eq_true,WU,Ent.of0,Ent.of1,Ent.of2,Ent.of3,Ent.of4,V,W3,↓reduceIte,seval,reduceCtorEq]
 . cases hs:srw
   . subst hs;have h1:stB n m=true:=by rw[a3];rfl
     rw[if_neg (by simp[h1])]at hE;rcases a0 with a1 | ⟨a1,a2⟩
     . delta E4.c67k9 oO oN oM oG oS oK oV oC oI oX oP oH oD oE oJ o0 o5;simp (maxSteps:=9^7) -implicitDefEqProofs only[E4.rv67,xf,kN,hdm,hI,chR,msD,a1,InR,not_true_eq_false,not_false_eq_true,WU,Ent.of0,Ent.of1,Ent.of2,Ent.of3,Ent.of4,V,W3,↓reduceIte,seval,reduceCtorEq];exact hgo hE
     . delta E4.c67k9 oO oN oM oG oS oK oV oC oI oX oP oH oD oE oJ o0 o5;simp (maxSteps:=9^7) -implicitDefEqProofs only[E4.rv67,xf,kN,hdm,hI,chR,msD,a1,a2,InR,not_true_eq_false,not_false_eq_true,WU,Ent.of0,Ent.of1,Ent.of2,Ent.of3,Ent.of4,V,W3,↓reduceIte,seval,reduceCtorEq];exact hgo hE
   . subst hs;obtain⟨i0,i2,i3⟩:=hso rfl;have hgx:List.getD (m.buf.map Dat.cells) m.source.toNat [C.sl 0 []]=[C.sl 1 ((dQ m m.source).map Dat.cells)]:=by
      rw[dQ,zb,zb,zh,ze i3];rfl
     have hb:(((dQ m m.source).length:Int)=0)=((dQ m m.source).isEmpty=true):=by
      cases dQ m m.source <;> simp <;> omega
     have hc2:((dQ m m.source).isEmpty=false/\stB n m=true)\/((dQ m m.source).isEmpty=true/\(m.path=m.serving)=True/\stB n m=false)\/((dQ m m.source).isEmpty=true/\(m.path=m.serving)=False/\stB n m=true):=by
      rw[a3];cases (dQ m m.source).isEmpty <;> rcases Classical.propComplete (m.path=m.serving)with h | h <;> simp[h]
     clear hst a3;generalize dQ m m.source=B at *;rcases hc2 with⟨b1,b3⟩ | ⟨b1,b2,b3⟩ | ⟨b1,b2,b3⟩
     . rw[if_neg (by simp[b3])]at hE;rcases a0 with a1 | ⟨a1,a2⟩
       . delta E4.c67k9 oO oN oM oG oS oK oV oC oI oX oP oH oD oE oJ o0 o5;simp (maxSteps:=9^7) -implicitDefEqProofs only[E4.rv67,xf,kN,hdm,hI,chR,msD,a1,i0,i2,i3,hgx,hb,b1,zy,InR,not_true_eq_false,not_false_eq_true,WU,Ent.of0,Ent.of1,Ent.of2,Ent.of3,Ent.of4,V,W3,↓reduceIte,seval,reduceCtorEq];exact hgo hE
       . delta E4.c67k9 oO oN oM oG oS oK oV oC oI oX oP oH oD oE oJ o0 o5;simp (maxSteps:=9^7) -implicitDefEqProofs only[E4.rv67,xf,kN,hdm,hI,chR,msD,a1,a2,i0,i2,i3,hgx,hb,b1,zy,InR,not_true_eq_false,not_false_eq_true,WU,Ent.of0,Ent.of1,Ent.of2,Ent.of3,Ent.of4,V,W3,↓reduceIte,seval,reduceCtorEq];exact hgo hE
     . rw[if_pos b3]at hE;subst hE;rcases a0 with a1 | ⟨a1,a2⟩
       . delta E4.c67k9 oO oN oM oG oS oK oV oC oI oX oP oH oD oE oJ o0 o5;simp (maxSteps:=9^7) -implicitDefEqProofs only[E4.rv67,xf,kN,hdm,hI,chR,msD,a1,i0,i2,i3,hgx,hb,b1,b2,zy,InR,not_true_eq_false,not_false_eq_true,WU,Ent.of0,Ent.of1,Ent.of2,Ent.of3,Ent.of4,V,W3,↓reduceIte,seval,reduceCtorEq]
       . delta E4.c67k9 oO oN oM oG oS oK oV oC oI oX oP oH oD oE oJ o0 o5;simp (maxSteps:=9^7) -implicitDefEqProofs only[E4.rv67,xf,kN,hdm,hI,chR,msD,a1,a2,i0,i2,i3,hgx,hb,b1,b2,zy,InR,not_true_eq_false,not_false_eq_true,WU,Ent.of0,Ent.of1,Ent.of2,Ent.of3,Ent.of4,V,W3,↓reduceIte,seval,reduceCtorEq]
     . rw[if_neg (by simp[b3])]at hE;rcases a0 with a1 | ⟨a1,a2⟩
       . delta E4.c67k9 oO oN oM oG oS oK oV oC oI oX oP oH oD oE oJ o0 o5;simp (maxSteps:=9^7) -implicitDefEqProofs only[E4.rv67,xf,kN,hdm,hI,chR,msD,a1,i0,i2,i3,hgx,hb,b1,b2,zy,InR,not_true_eq_false,not_false_eq_true,WU,Ent.of0,Ent.of1,Ent.of2,Ent.of3,Ent.of4,V,W3,↓reduceIte,seval,reduceCtorEq];exact hgo hE
       . delta E4.c67k9 oO oN oM oG oS oK oV oC oI oX oP oH oD oE oJ o0 o5;simp (maxSteps:=9^7) -implicitDefEqProofs only[E4.rv67,xf,kN,hdm,hI,chR,msD,a1,a2,i0,i2,i3,hgx,hb,b1,b2,zy,InR,not_true_eq_false,not_false_eq_true,WU,Ent.of0,Ent.of1,Ent.of2,Ent.of3,Ent.of4,V,W3,↓reduceIte,seval,reduceCtorEq];exact hgo hE
theorem rst_10 (n:Nw) (m:Ms) (hn:NwS n) (hm:MsB m) (net:NetOk n) (hlen:m.buf.length=n.cells.length) (q2:rgB m=true) (q3:msB n m=true) (cx:Cx) (E:Int) (tgw srw:Bool) (htg:tgw=!decide (m.target=-1)) (hsr:srw=!decide (m.source=-1)) (hE:(if clB n m=false then 13 else if stB n m=false then 22 else pkE m)=E):SG Tryz.prog cx (cB [RV.tmp 4] [] (enc E) []) [It.c E4.c67k10.cut] ⟨[(2,.ptr 2 0),(3,.ptr 3 0),(5,.s (.bool tgw)),(6,.s (.bool srw))],chR n m⟩:=by
 have hdn:=gO n;have hgo:=rst_9 n m hm net hlen q2 q3 cx E tgw srw htg hsr;refine iw (dC [xy] 500 ?_);have hcl:clB n m=((!tgw || nbr n m.target m.serving) && (!srw || nbr n m.source m.serving)):=by rw[htg,hsr];simp[clB]
 have hc:(tgw=true/\nbr n m.target m.serving=false/\clB n m=false)\/((tgw=false\/(tgw=true/\nbr n m.target m.serving=true))/\((srw=false/\clB n m=true)\/(srw=true/\nbr n m.source m.serving=false/\clB n m=false)\/(srw=true/\nbr n m.source m.serving=true/\clB n m=true))):=by
  rw[hcl];cases tgw <;> cases srw <;> cases nbr n m.target m.serving <;> cases nbr n m.source m.serving <;> simp
 clear hcl;rcases hc with⟨rfl,a2,a3⟩ | ⟨rfl | ⟨rfl,a2⟩,⟨rfl,a3⟩ | ⟨rfl,a4,a3⟩ | ⟨rfl,a4,a3⟩⟩
 . rw[if_pos a3]at hE;subst hE;delta E4.c67k10 oO oM oG oS oK oV oI oX oP oH oD oE oJ;simp (maxSteps:=9^7) -implicitDefEqProofs only[E4.rv67,xy,ed,hdn,hn,chR,msD,a2,not_true_eq_false,not_false_eq_true,WU,Ent.of0,Ent.of1,Ent.of2,Ent.of3,Ent.of4,V,W3,↓reduceIte,seval,reduceCtorEq]
 . rw[if_neg (by simp[a3])]at hE;delta E4.c67k10 oO oM oG oS oK oV oI oX oP oH oD oE oJ;simp (maxSteps:=9^7) -implicitDefEqProofs only[E4.rv67,xy,ed,hdn,hn,chR,msD,not_true_eq_false,not_false_eq_true,WU,Ent.of0,Ent.of1,Ent.of2,Ent.of3,Ent.of4,V,W3,↓reduceIte,seval,reduceCtorEq];exact hgo hE
 . rw[if_pos a3]at hE;subst hE;delta E4.c67k10 oO oM oG oS oK oV oI oX oP oH oD oE oJ;simp (maxSteps:=9^7) -implicitDefEqProofs only[E4.rv67,xy,ed,hdn,hn,chR,msD,a4,not_true_eq_false,not_false_eq_true,WU,Ent.of0,Ent.of1,Ent.of2,Ent.of3,Ent.of4,V,W3,↓reduceIte,seval,reduceCtorEq]
 . rw[if_neg (by simp[a3])]at hE;delta E4.c67k10 oO oM oG oS oK oV oI oX oP oH oD oE oJ;simp (maxSteps:=9^7) -implicitDefEqProofs only[E4.rv67,xy,ed,hdn,hn,chR,msD,a4,not_true_eq_false,not_false_eq_true,WU,Ent.of0,Ent.of1,Ent.of2,Ent.of3,Ent.of4,V,W3,↓reduceIte,seval,reduceCtorEq];exact hgo hE
 . rw[if_neg (by simp[a3])]at hE;delta E4.c67k10 oO oM oG oS oK oV oI oX oP oH oD oE oJ;simp (maxSteps:=9^7) -implicitDefEqProofs only[E4.rv67,xy,ed,hdn,hn,chR,msD,a2,not_true_eq_false,not_false_eq_true,WU,Ent.of0,Ent.of1,Ent.of2,Ent.of3,Ent.of4,V,W3,↓reduceIte,seval,reduceCtorEq];exact hgo hE
 . rw[if_pos a3]at hE;subst hE;delta E4.c67k10 oO oM oG oS oK oV oI oX oP oH oD oE oJ;simp (maxSteps:=9^7) -implicitDefEqProofs only[E4.rv67,xy,ed,hdn,hn,chR,msD,a2,a4,not_true_eq_false,not_false_eq_true,WU,Ent.of0,Ent.of1,Ent.of2,Ent.of3,Ent.of4,V,W3,↓reduceIte,seval,reduceCtorEq]
 . rw[if_neg (by simp[a3])]at hE;delta E4.c67k10 oO oM oG oS oK oV oI oX oP oH oD oE oJ;simp (maxSteps:=9^7) -implicitDefEqProofs only[E4.rv67,xy,ed,hdn,hn,chR,msD,a2,a4,not_true_eq_false,not_false_eq_true,WU,Ent.of0,Ent.of1,Ent.of2,Ent.of3,Ent.of4,V,W3,↓reduceIte,seval,reduceCtorEq];exact hgo hE
theorem rst_11 (n:Nw) (m:Ms) (hn:NwS n) (hm:MsB m) (net:NetOk n) (hlen:m.buf.length=n.cells.length) (q2:rgB m=true) (q3:msB n m=true) (cx:Cx) (E:Int) (tgw srw:Bool) (htg:tgw=!decide (m.target=-1)) (hsr:srw=!decide (m.source=-1)) (hE:(if fmB m=false then 3 else if clB n m=false then 13 else if stB n m=false then 22 else pkE m)=E):SG Tryz.prog cx (cB [RV.tmp 4] [] (enc E) []) [It.c E4.c67k11.cut] ⟨[(2,.ptr 2 0),(3,.ptr 3 0),(5,.s (.bool tgw)),(6,.s (.bool srw))],chR n m⟩:=by
 have hgo:=rst_10 n m hn hm net hlen q2 q3 cx E tgw srw htg hsr;refine iw (dC [] 800 ?_);have hfm:fmB m=!((tgw && decide (m.phase=0)) || (!tgw && (decide (m.phase=1) || decide (m.phase=2))) || (srw && ((decide (m.phase=1) || decide (m.phase=2)) || tgw)) || (!decide (m.path=m.serving) && (!srw || !decide (m.path=m.source)))):=by
  rw[htg,hsr];simp[fmB,bsyB]
 have hc:(tgw=true/\(m.phase=0)=True/\(m.phase=1)=False/\(m.phase=2)=False/\fmB m=false)\/(tgw=true/\(m.phase=0)=False/\((m.phase=1)=True\/((m.phase=1)=False/\(m.phase=2)=True)\/((m.phase=1)=False/\(m.phase=2)=False))/\((srw=true/\fmB m=false)\/(srw=false/\(((m.path=m.serving)=True/\fmB m=true)\/((m.path=m.serving)=False/\fmB m=false)))))\/(tgw=false/\((((m.phase=1)=True\/((m.phase=1)=False/\(m.phase=2)=True))/\fmB m=false)\/((m.phase=1)=False/\(m.phase=2)=False/\((srw=true/\(((m.path=m.serving)=True/\fmB m=true)\/((m.path=m.serving)=False/\(m.path=m.source)=True/\fmB m=true)\/((m.path=m.serving)=False/\(m.path=m.source)=False/\fmB m=false)))\/(srw=false/\(((m.path=m.serving)=True/\fmB m=true)\/((m.path=m.serving)=False/\fmB m=false))))))):=by
  rw[hfm];by_cases h0:m.phase=0
  . rcases Classical.propComplete (m.path=m.serving)with s1 | s1 <;> rcases Classical.propComplete (m.path=m.source)with s2 | s2 <;> cases tgw <;> cases srw <;> simp[h0,s1,s2]
  . rcases Classical.propComplete (m.phase=1)with h1 | h1 <;> rcases Classical.propComplete (m.phase=2)with h2 | h2 <;> rcases Classical.propComplete (m.path=m.serving)with s1 | s1 <;> rcases Classical.propComplete (m.path=m.source)with s2 | s2 <;> cases tgw <;> cases srw <;> simp[h0,h1,h2,s1,s2]
 clear hfm;rcases hc with⟨rfl,p0,p1,p2,b⟩ | ⟨rfl,p0,p1 | ⟨p1,p2⟩ | ⟨p1,p2⟩,⟨rfl,b⟩ | ⟨rfl,⟨s1,b⟩ | ⟨s1,b⟩⟩⟩ | ⟨rfl,⟨p1 | ⟨p1,p2⟩,b⟩ | ⟨p1,p2,⟨rfl,⟨s1,b⟩ | ⟨s1,s2,b⟩ | ⟨s1,s2,b⟩⟩ | ⟨rfl,⟨s1,b⟩ | ⟨s1,b⟩⟩⟩⟩
 . simp only[b,if_true,if_false,ym]at hE;delta E4.c67k11 oO oN oM oG oS oK oF oL oV oI oX oP oH oB oD oE oJ;simp (maxSteps:=9^7) -implicitDefEqProofs only[E4.rv67,chR,msD,p0,p1,p2,not_true_eq_false,not_false_eq_true,WU,Ent.of0,Ent.of1,Ent.of2,Ent.of3,Ent.of4,V,W3,↓reduceIte,seval,reduceCtorEq];exact hE
 . simp only[b,if_true,if_false,ym]at hE;delta E4.c67k11 oO oN oM oG oS oK oF oL oV oI oX oP oH oB oD oE oJ;simp (maxSteps:=9^7) -implicitDefEqProofs only[E4.rv67,chR,msD,p0,p1,not_true_eq_false,not_false_eq_true,WU,Ent.of0,Ent.of1,Ent.of2,Ent.of3,Ent.of4,V,W3,↓reduceIte,seval,reduceCtorEq];exact hE
 . simp only[b,if_true,if_false,ym]at hE;delta E4.c67k11 oO oN oM oG oS oK oF oL oV oI oX oP oH oB oD oE oJ;simp (maxSteps:=9^7) -implicitDefEqProofs only[E4.rv67,chR,msD,p0,p1,s1,not_true_eq_false,not_false_eq_true,WU,Ent.of0,Ent.of1,Ent.of2,Ent.of3,Ent.of4,V,W3,↓reduceIte,seval,reduceCtorEq];exact hgo hE
 . simp only[b,if_true,if_false,ym]at hE;delta E4.c67k11 oO oN oM oG oS oK oF oL oV oI oX oP oH oB oD oE oJ;simp (maxSteps:=9^7) -implicitDefEqProofs only[E4.rv67,chR,msD,p0,p1,s1,not_true_eq_false,not_false_eq_true,WU,Ent.of0,Ent.of1,Ent.of2,Ent.of3,Ent.of4,V,W3,↓reduceIte,seval,reduceCtorEq];exact hE
 . simp only[b,if_true,if_false,ym]at hE;delta E4.c67k11 oO oN oM oG oS oK oF oL oV oI oX oP oH oB oD oE oJ;simp (maxSteps:=9^7) -implicitDefEqProofs only[E4.rv67,chR,msD,p0,p1,p2,not_true_eq_false,not_false_eq_true,WU,Ent.of0,Ent.of1,Ent.of2,Ent.of3,Ent.of4,V,W3,↓reduceIte,seval,reduceCtorEq];exact hE
 . simp only[b,if_true,if_false,ym]at hE;delta E4.c67k11 oO oN oM oG oS oK oF oL oV oI oX oP oH oB oD oE oJ;simp (maxSteps:=9^7) -implicitDefEqProofs only[E4.rv67,chR,msD,p0,p1,p2,s1,not_true_eq_false,not_false_eq_true,WU,Ent.of0,Ent.of1,Ent.of2,Ent.of3,Ent.of4,V,W3,↓reduceIte,seval,reduceCtorEq];exact hgo hE
 . simp only[b,if_true,if_false,ym]at hE;delta E4.c67k11 oO oN oM oG oS oK oF oL oV oI oX oP oH oB oD oE oJ;simp (maxSteps:=9^7) -implicitDefEqProofs only[E4.rv67,chR,msD,p0,p1,p2,s1,not_true_eq_false,not_false_eq_true,WU,Ent.of0,Ent.of1,Ent.of2,Ent.of3,Ent.of4,V,W3,↓reduceIte,seval,reduceCtorEq];exact hE
 . simp only[b,if_true,if_false,ym]at hE;delta E4.c67k11 oO oN oM oG oS oK oF oL oV oI oX oP oH oB oD oE oJ;simp (maxSteps:=9^7) -implicitDefEqProofs only[E4.rv67,chR,msD,p0,p1,p2,not_true_eq_false,not_false_eq_true,WU,Ent.of0,Ent.of1,Ent.of2,Ent.of3,Ent.of4,V,W3,↓reduceIte,seval,reduceCtorEq];exact hE
 . simp only[b,if_true,if_false,ym]at hE;delta E4.c67k11 oO oN oM oG oS oK oF oL oV oI oX oP oH oB oD oE oJ;simp (maxSteps:=9^7) -implicitDefEqProofs only[E4.rv67,chR,msD,p0,p1,p2,s1,not_true_eq_false,not_false_eq_true,WU,Ent.of0,Ent.of1,Ent.of2,Ent.of3,Ent.of4,V,W3,↓reduceIte,seval,reduceCtorEq];exact hgo hE
 . simp only[b,if_true,if_false,ym]at hE;delta E4.c67k11 oO oN oM oG oS oK oF oL oV oI oX oP oH oB oD oE oJ;simp (maxSteps:=9^7) -implicitDefEqProofs only[E4.rv67,chR,msD,p0,p1,p2,s1,not_true_eq_false,not_false_eq_true,WU,Ent.of0,Ent.of1,Ent.of2,Ent.of3,Ent.of4,V,W3,↓reduceIte,seval,reduceCtorEq];exact hE
 . simp only[b,if_true,if_false,ym]at hE;delta E4.c67k11 oO oN oM oG oS oK oF oL oV oI oX oP oH oB oD oE oJ;simp (maxSteps:=9^7) -implicitDefEqProofs only[E4.rv67,chR,msD,p1,not_true_eq_false,not_false_eq_true,WU,Ent.of0,Ent.of1,Ent.of2,Ent.of3,Ent.of4,V,W3,↓reduceIte,seval,reduceCtorEq];exact hE
 . simp only[b,if_true,if_false,ym]at hE;delta E4.c67k11 oO oN oM oG oS oK oF oL oV oI oX oP oH oB oD oE oJ;simp (maxSteps:=9^7) -implicitDefEqProofs only[E4.rv67,chR,msD,p1,p2,not_true_eq_false,not_false_eq_true,WU,Ent.of0,Ent.of1,Ent.of2,Ent.of3,Ent.of4,V,W3,↓reduceIte,seval,reduceCtorEq];exact hE
 . simp only[b,if_true,if_false,ym]at hE;delta E4.c67k11 oO oN oM oG oS oK oF oL oV oI oX oP oH oB oD oE oJ;simp (maxSteps:=9^7) -implicitDefEqProofs only[E4.rv67,chR,msD,p1,p2,s1,not_true_eq_false,not_false_eq_true,WU,Ent.of0,Ent.of1,Ent.of2,Ent.of3,Ent.of4,V,W3,↓reduceIte,seval,reduceCtorEq];exact hgo hE
 . simp only[b,if_true,if_false,ym]at hE;delta E4.c67k11 oO oN oM oG oS oK oF oL oV oI oX oP oH oB oD oE oJ;simp (maxSteps:=9^7) -implicitDefEqProofs only[E4.rv67,chR,msD,p1,p2,s1,s2,not_true_eq_false,not_false_eq_true,WU,Ent.of0,Ent.of1,Ent.of2,Ent.of3,Ent.of4,V,W3,↓reduceIte,seval,reduceCtorEq];exact hgo hE
 . simp only[b,if_true,if_false,ym]at hE;delta E4.c67k11 oO oN oM oG oS oK oF oL oV oI oX oP oH oB oD oE oJ;simp (maxSteps:=9^7) -implicitDefEqProofs only[E4.rv67,chR,msD,p1,p2,s1,s2,not_true_eq_false,not_false_eq_true,WU,Ent.of0,Ent.of1,Ent.of2,Ent.of3,Ent.of4,V,W3,↓reduceIte,seval,reduceCtorEq];exact hE
 . simp only[b,if_true,if_false,ym]at hE;delta E4.c67k11 oO oN oM oG oS oK oF oL oV oI oX oP oH oB oD oE oJ;simp (maxSteps:=9^7) -implicitDefEqProofs only[E4.rv67,chR,msD,p1,p2,s1,not_true_eq_false,not_false_eq_true,WU,Ent.of0,Ent.of1,Ent.of2,Ent.of3,Ent.of4,V,W3,↓reduceIte,seval,reduceCtorEq];exact hgo hE
 . simp only[b,if_true,if_false,ym]at hE;delta E4.c67k11 oO oN oM oG oS oK oF oL oV oI oX oP oH oB oD oE oJ;simp (maxSteps:=9^7) -implicitDefEqProofs only[E4.rv67,chR,msD,p1,p2,s1,not_true_eq_false,not_false_eq_true,WU,Ent.of0,Ent.of1,Ent.of2,Ent.of3,Ent.of4,V,W3,↓reduceIte,seval,reduceCtorEq];exact hE
theorem rst_12 (n:Nw) (m:Ms) (hn:NwS n) (hm:MsB m) (net:NetOk n) (hlen:m.buf.length=n.cells.length) (q2:rgB m=true) (cx:Cx) (E:Int) (hE:(if msB n m=false then 6 else if fmB m=false then 3 else if clB n m=false then 13 else if stB n m=false then 22 else pkE m)=E):SG Tryz.prog cx (cB [RV.tmp 4] [] (enc E) []) [It.c E4.c67k12.cut] ⟨[(2,.ptr 2 0),(3,.ptr 3 0)],chR n m⟩:=by
 have hdn:=gO n;have hgo:=fun q3 tgw srw htg hsr=>rst_11 n m hn hm net hlen q2 q3 cx E tgw srw htg hsr
 refine iw (dC [my] 800 ?_);have hms:msB n m=(isC n m.serving && isC n m.path && (decide (m.target=-1) || isC n m.target) && (decide (m.source=-1) || isC n m.source)):=rfl;have hc:(isC n m.serving=false/\msB n m=false)\/(isC n m.serving=true/\isC n m.path=false/\msB n m=false)\/(isC n m.serving=true/\isC n m.path=true/\((((m.target=-1)=False/\isC n m.target=false)/\msB n m=false)\/(((m.target=-1)=True\/((m.target=-1)=False/\isC n m.target=true))/\(((m.source=-1)=True/\msB n m=true)\/((m.source=-1)=False/\isC n m.source=false/\msB n m=false)\/((m.source=-1)=False/\isC n m.source=true/\msB n m=true))))):=by
  rw[hms];rcases Classical.propComplete (m.target=-1)with h1 | h1 <;> rcases Classical.propComplete (m.source=-1)with h2 | h2 <;> cases isC n m.serving <;> cases isC n m.path <;> cases isC n m.target <;> cases isC n m.source <;> simp[h1,h2]
 clear hms;rcases hc with⟨a1,b⟩ | ⟨a1,a2,b⟩ | ⟨a1,a2,⟨⟨a3,a4⟩,b⟩ | ⟨a3 | ⟨a3,a4⟩,⟨a5,b⟩ | ⟨a5,a6w,b⟩ | ⟨a5,a6w,b⟩⟩⟩
 . simp only[b,if_true,if_false,ym]at hE;delta E4.c67k12 oO oN oA oM oT oG oQ oS oK oF oL oV oC oI oX oH oB oD oE oJ o5;simp (maxSteps:=9^7) -implicitDefEqProofs only[E4.rv67,my,ed,hdn,hn,chR,msD,a1,not_true_eq_false,not_false_eq_true,WU,Ent.of0,Ent.of1,Ent.of2,Ent.of3,Ent.of4,V,W3,↓reduceIte,seval,reduceCtorEq];exact hE
 . simp only[b,if_true,if_false,ym]at hE;delta E4.c67k12 oO oN oA oM oT oG oQ oS oK oF oL oV oC oI oX oH oB oD oE oJ o5;simp (maxSteps:=9^7) -implicitDefEqProofs only[E4.rv67,my,ed,hdn,hn,chR,msD,a1,a2,not_true_eq_false,not_false_eq_true,WU,Ent.of0,Ent.of1,Ent.of2,Ent.of3,Ent.of4,V,W3,↓reduceIte,seval,reduceCtorEq];exact hE
 . simp only[b,if_true,if_false,ym]at hE;delta E4.c67k12 oO oN oA oM oT oG oQ oS oK oF oL oV oC oI oX oH oB oD oE oJ o5;simp (maxSteps:=9^7) -implicitDefEqProofs only[E4.rv67,my,ed,hdn,hn,chR,msD,a1,a2,a3,a4,not_true_eq_false,not_false_eq_true,WU,Ent.of0,Ent.of1,Ent.of2,Ent.of3,Ent.of4,V,W3,↓reduceIte,seval,reduceCtorEq];exact hE
 . simp only[b,if_true,if_false,ym]at hE;delta E4.c67k12 oO oN oA oM oT oG oQ oS oK oF oL oV oC oI oX oH oB oD oE oJ o5;simp (maxSteps:=9^7) -implicitDefEqProofs only[E4.rv67,my,ed,hdn,hn,chR,msD,a1,a2,a3,a5,not_true_eq_false,not_false_eq_true,WU,Ent.of0,Ent.of1,Ent.of2,Ent.of3,Ent.of4,V,W3,↓reduceIte,seval,reduceCtorEq];exact hgo b _ _ (by simp[a3]) (by simp[a5]) hE
 . simp only[b,if_true,if_false,ym]at hE;delta E4.c67k12 oO oN oA oM oT oG oQ oS oK oF oL oV oC oI oX oH oB oD oE oJ o5;simp (maxSteps:=9^7) -implicitDefEqProofs only[E4.rv67,my,ed,hdn,hn,chR,msD,a1,a2,a3,a5,a6w,not_true_eq_false,not_false_eq_true,WU,Ent.of0,Ent.of1,Ent.of2,Ent.of3,Ent.of4,V,W3,↓reduceIte,seval,reduceCtorEq];exact hE
 . simp only[b,if_true,if_false,ym]at hE;delta E4.c67k12 oO oN oA oM oT oG oQ oS oK oF oL oV oC oI oX oH oB oD oE oJ o5;simp (maxSteps:=9^7) -implicitDefEqProofs only[E4.rv67,my,ed,hdn,hn,chR,msD,a1,a2,a3,a5,a6w,not_true_eq_false,not_false_eq_true,WU,Ent.of0,Ent.of1,Ent.of2,Ent.of3,Ent.of4,V,W3,↓reduceIte,seval,reduceCtorEq];exact hgo b _ _ (by simp[a3]) (by simp[a5]) hE
 . simp only[b,if_true,if_false,ym]at hE;delta E4.c67k12 oO oN oA oM oT oG oQ oS oK oF oL oV oC oI oX oH oB oD oE oJ o5;simp (maxSteps:=9^7) -implicitDefEqProofs only[E4.rv67,my,ed,hdn,hn,chR,msD,a1,a2,a3,a4,a5,not_true_eq_false,not_false_eq_true,WU,Ent.of0,Ent.of1,Ent.of2,Ent.of3,Ent.of4,V,W3,↓reduceIte,seval,reduceCtorEq];exact hgo b _ _ (by simp[a3]) (by simp[a5]) hE
 . simp only[b,if_true,if_false,ym]at hE;delta E4.c67k12 oO oN oA oM oT oG oQ oS oK oF oL oV oC oI oX oH oB oD oE oJ o5;simp (maxSteps:=9^7) -implicitDefEqProofs only[E4.rv67,my,ed,hdn,hn,chR,msD,a1,a2,a3,a4,a5,a6w,not_true_eq_false,not_false_eq_true,WU,Ent.of0,Ent.of1,Ent.of2,Ent.of3,Ent.of4,V,W3,↓reduceIte,seval,reduceCtorEq];exact hE
 . simp only[b,if_true,if_false,ym]at hE;delta E4.c67k12 oO oN oA oM oT oG oQ oS oK oF oL oV oC oI oX oH oB oD oE oJ o5;simp (maxSteps:=9^7) -implicitDefEqProofs only[E4.rv67,my,ed,hdn,hn,chR,msD,a1,a2,a3,a4,a5,a6w,not_true_eq_false,not_false_eq_true,WU,Ent.of0,Ent.of1,Ent.of2,Ent.of3,Ent.of4,V,W3,↓reduceIte,seval,reduceCtorEq];exact hgo b _ _ (by simp[a3]) (by simp[a5]) hE
theorem BE (n:Nw) (m:Ms) (hn:NwS n) (hm:MsB m) (net:NetOk n):FC Tryz.prog 67 [enc n,enc m] [] (enc (yX n m)) []:=by
 obtain⟨E,hE⟩:∃ E,yX n m=E:=⟨_,rfl⟩;rw[hE];unfold yX at hE;refine dD [] E4.is67 (by simp) (by simp[bk]) (by simp[an,ag]) (by simp[an,ag]) (by simp[aB]) (fun cx _ hl _=>dC [oa] 1500 ?_);by_cases h2:m.buf.length=n.cells.length
 rotate_left
 . rw[if_pos h2]at hE;have h2':=eq_false (show ¬ (m.buf.length:Int)=(n.cells.length:Int) by omega);delta E4.c67 oO oN oA oM oG oS oK oF oL oV oC oI oX oH oB oE oJ o4 o7;simp (maxSteps:=9^7) -implicitDefEqProofs only[E4.rv67,ed,kN,h2',InR,not_true_eq_false,not_false_eq_true,WU,Ent.of0,Ent.of1,Ent.of2,Ent.of3,Ent.of4,V,W3,↓reduceIte,seval,reduceCtorEq];exact hE
 rw[if_neg (by simp[h2])]at hE;have h2':=eq_true (show (m.buf.length:Int)=(n.cells.length:Int) by omega);by_cases h3:0<=m.phase/\m.phase<=3
 rotate_left
 . rw[if_pos h3]at hE;have h3':=eq_false h3;delta E4.c67 oO oN oA oM oG oS oK oF oL oV oC oI oX oH oB oE oJ o4 o7;simp (maxSteps:=9^7) -implicitDefEqProofs only[E4.rv67,oa,ed,kN,h2',h3',InR,not_true_eq_false,not_false_eq_true,WU,Ent.of0,Ent.of1,Ent.of2,Ent.of3,Ent.of4,V,W3,↓reduceIte,seval,reduceCtorEq];exact hE
 rw[if_neg (fun q=>q h3)]at hE;have h3':=eq_true h3;have hc:((0<=m.at_/\m.at_<=1000000000)=False/\rgB m=false)\/((0<=m.at_/\m.at_<=1000000000)=True/\(0<=m.since/\m.since<=m.at_)=False/\rgB m=false)\/((0<=m.at_/\m.at_<=1000000000)=True/\(0<=m.since/\m.since<=m.at_)=True/\(0<=m.fresh/\m.fresh<=1000000)=False/\rgB m=false)\/((0<=m.at_/\m.at_<=1000000000)=True/\(0<=m.since/\m.since<=m.at_)=True/\(0<=m.fresh/\m.fresh<=1000000)=True/\(0<=m.got/\m.got<=m.fresh)=False/\rgB m=false)\/((0<=m.at_/\m.at_<=1000000000)=True/\(0<=m.since/\m.since<=m.at_)=True/\(0<=m.fresh/\m.fresh<=1000000)=True/\(0<=m.got/\m.got<=m.fresh)=True/\rgB m=true):=by
  rcases Classical.propComplete (0<=m.at_/\m.at_<=1000000000)with g1 | g1 <;> rcases Classical.propComplete (0<=m.since/\m.since<=m.at_)with g2 | g2 <;> rcases Classical.propComplete (0<=m.fresh/\m.fresh<=1000000)with g3 | g3 <;> rcases Classical.propComplete (0<=m.got/\m.got<=m.fresh)with g4 | g4 <;> simp[rgB,g1,g2,g3,g4]
 rcases hc with⟨g1,b⟩ | ⟨g1,g2,b⟩ | ⟨g1,g2,g3,b⟩ | ⟨g1,g2,g3,g4,b⟩ | ⟨g1,g2,g3,g4,b⟩
 . simp only[b,if_true,if_false,ym]at hE;delta E4.c67 oO oN oA oM oG oS oK oF oL oV oC oI oX oH oB oE oJ o4 o7;simp (maxSteps:=9^7) -implicitDefEqProofs only[E4.rv67,oa,ed,kN,h2',h3',g1,InR,not_true_eq_false,not_false_eq_true,WU,Ent.of0,Ent.of1,Ent.of2,Ent.of3,Ent.of4,V,W3,↓reduceIte,seval,reduceCtorEq];exact hE
 . simp only[b,if_true,if_false,ym]at hE;delta E4.c67 oO oN oA oM oG oS oK oF oL oV oC oI oX oH oB oE oJ o4 o7;simp (maxSteps:=9^7) -implicitDefEqProofs only[E4.rv67,oa,ed,kN,h2',h3',g1,g2,InR,not_true_eq_false,not_false_eq_true,WU,Ent.of0,Ent.of1,Ent.of2,Ent.of3,Ent.of4,V,W3,↓reduceIte,seval,reduceCtorEq];exact hE
 . simp only[b,if_true,if_false,ym]at hE;delta E4.c67 oO oN oA oM oG oS oK oF oL oV oC oI oX oH oB oE oJ o4 o7;simp (maxSteps:=9^7) -implicitDefEqProofs only[E4.rv67,oa,ed,kN,h2',h3',g1,g2,g3,InR,not_true_eq_false,not_false_eq_true,WU,Ent.of0,Ent.of1,Ent.of2,Ent.of3,Ent.of4,V,W3,↓reduceIte,seval,reduceCtorEq];exact hE
 . simp only[b,if_true,if_false,ym]at hE;delta E4.c67 oO oN oA oM oG oS oK oF oL oV oC oI oX oH oB oE oJ o4 o7;simp (maxSteps:=9^7) -implicitDefEqProofs only[E4.rv67,oa,ed,kN,h2',h3',g1,g2,g3,g4,InR,not_true_eq_false,not_false_eq_true,WU,Ent.of0,Ent.of1,Ent.of2,Ent.of3,Ent.of4,V,W3,↓reduceIte,seval,reduceCtorEq];exact hE
 . simp only[b,if_true,if_false,ym]at hE;delta E4.c67 oO oN oA oM oG oS oK oF oL oV oC oI oX oH oB oE oJ o4 o7;simp (maxSteps:=9^7) -implicitDefEqProofs only[E4.rv67,oa,ed,kN,h2',h3',g1,g2,g3,g4,InR,not_true_eq_false,not_false_eq_true,WU,Ent.of0,Ent.of1,Ent.of2,Ent.of3,Ent.of4,V,W3,↓reduceIte,seval,reduceCtorEq];exact rst_12 n m hn hm net h2 b cx E hE
def smB (m:Ms):Bool:=decide (m.buf.length<=8) && m.buf.all fun x=>decide (x.length<=64)
theorem Small_c (m:Ms):FC Tryz.prog 63 [enc m] [] (enc (smB m)) []:=by
 obtain⟨B,hB⟩:∃ B,smB m=B:=⟨_,rfl⟩;rw[hB];unfold smB at hB;refine dD [] is63 (by simp) (by simp[bk]) (by simp[an,ag]) (by simp[an,ag]) (by simp[aB]) (fun cx _ hl _=>dC [] 800 ?_);by_cases h8:m.buf.length<=8
 rotate_left
 . have h8':¬ (m.buf.length:Int)<=8:=by omega
   have h9':(m.buf.length:Int) > 8:=by omega
   simp only[h8,decide_false,z7]at hB;subst hB;delta c63 oN oS oK oF oL oV oI oX oB o4 o7 o9;simp (maxSteps:=9^7) -implicitDefEqProofs only[rv63,kN,h9',not_true_eq_false,not_false_eq_true,WU,Ent.of0,Ent.of1,Ent.of2,Ent.of3,Ent.of4,V,W3,↓reduceIte,seval,reduceCtorEq]
 have h9':¬ (m.buf.length:Int) > 8:=by omega
 simp only[h8,decide_true,zY]at hB;delta c63 oN oS oK oF oL oV oI oX oB o4 o7 o9;simp (maxSteps:=9^7) -implicitDefEqProofs only[rv63,kN,h9',not_true_eq_false,not_false_eq_true,WU,Ent.of0,Ent.of1,Ent.of2,Ent.of3,Ent.of4,V,W3,↓reduceIte,seval,reduceCtorEq];refine eN m.buf.length (fun i=>[(3,.s (.int .i64 (i:Int)))]) (fun _=>[]) (fun i=>B=(m.buf.drop i).all fun x=>decide (x.length<=64)) (by rw[<- hB];rfl) ?_ (fun i hi hv=>dC [] 800 ?_)
 . simp (maxSteps:=9^7) -implicitDefEqProofs only[Ent.of0,Ent.of1,Ent.of2,Ent.of3,Ent.of4,V,W3,↓reduceIte,seval,reduceCtorEq]
   all_goals simp
 . by_cases h:i < m.buf.length
   . have hi2:(i:Int) < (m.buf.length:Int):=by omega
     have hi0:(0:Int)<=i:=by omega
     have hgx:List.getD (m.buf.map Dat.cells) i [C.sl 0 []]=[C.sl 1 ((m.buf.getD i []).map Dat.cells)]:=by
      rw[zb,zb,zh,ze h];rfl
     rw[eg [] h,List.all_cons]at hv;generalize m.buf.getD i []=q at *;by_cases hq:q.length<=64
     . have hq':¬ (q.length:Int) > 64:=by omega
       simp only[hq,decide_true,zY]at hv;delta AM oO oN oA oM oR oS oK oF oL oI oX oB o0 o4 o9;simp (maxSteps:=9^7) -implicitDefEqProofs only[rv63,hi0,hi2,h,hgx,hq',zy,InR,not_true_eq_false,not_false_eq_true,WU,Ent.of0,Ent.of1,Ent.of2,Ent.of3,Ent.of4,V,W3,↓reduceIte,seval,reduceCtorEq];exact⟨⟨by omega,by omega⟩,hv,by omega⟩
     . have hq':(q.length:Int) > 64:=by omega
       simp only[hq,decide_false,z7]at hv;subst hv;delta AM oO oN oA oM oR oS oK oF oL oI oX oB o0 o4 o9;simp (maxSteps:=9^7) -implicitDefEqProofs only[rv63,hi0,hi2,h,hgx,hq',zy,InR,not_true_eq_false,not_false_eq_true,WU,Ent.of0,Ent.of1,Ent.of2,Ent.of3,Ent.of4,V,W3,↓reduceIte,seval,reduceCtorEq]
   . have hi2:¬ (i:Int) < (m.buf.length:Int):=by omega
     have hd:m.buf.drop i=[]:=zv (by omega);rw[hd,List.all_nil]at hv;subst hv;delta AM oO oN oA oM oR oS oK oF oL oI oX oB o0 o4 o9;simp (maxSteps:=9^7) -implicitDefEqProofs only[rv63,hi2,InR,WU,Ent.of0,Ent.of1,Ent.of2,Ent.of3,Ent.of4,V,W3,↓reduceIte,seval,reduceCtorEq]
def An : Ent Tryz.prog:=.of1 63 (fun _=>True) (fun m:Ms=>enc (smB m)) (fun _=>trivial) (fun m _=>Small_c m)
theorem sm_msB {m:Ms} (h:smB m=true) (hI:∀ a∈m.buf,∀ b∈a,-9223372036854775808<=b/\b<=9223372036854775807):MsB m:=by
 simp only[smB,zm,decide_eq_true_eq,zx]at h;refine⟨by omega,fun x hx=>by have:=h.2 x hx;omega,fun x hx=>?_⟩;obtain⟨a,ha,hx⟩:=List.mem_flatten.1 hx;have:=hI a ha x hx;exact⟨this.1,this.2⟩
theorem BK (n:Nw) (m:Ms) (hn:NwS n) (hm:MsB m):FC Tryz.prog 70 [enc n,enc m] [] (enc (opE n m)) []:=by
 have hdn:=gO n;obtain⟨E,hE⟩:∃ E,opE n m=E:=⟨_,rfl⟩;rw[hE];unfold opE at hE;by_cases h1:(eW n).2=0
 . rw[if_neg (by simp[h1])]at hE;have h67:=BE n m hn hm (rS h1);rw[hE]at h67;refine dD [] is70 (by simp) (by simp[bk]) (by simp[an,ag]) (by simp[an,ag]) (by simp[aB]) (fun cx _ hl _=>dC [ent46,entX 67 _ _ h67 trivial] 800 ?_);delta c70 oO oN oM oS oK oV oC oI oX oB o5 o7;simp (maxSteps:=9^7) -implicitDefEqProofs only[rv70,ed,kN,hdn,hn,ent46,entX,h1,not_true_eq_false,not_false_eq_true,WU,Ent.of0,Ent.of1,Ent.of2,Ent.of3,Ent.of4,V,W3,↓reduceIte,seval,reduceCtorEq]
 . rw[if_pos h1]at hE;refine dD [] is70 (by simp) (by simp[bk]) (by simp[an,ag]) (by simp[an,ag]) (by simp[aB]) (fun cx _ hl _=>dC [ent46] 800 ?_);delta c70 oO oN oM oS oK oV oC oI oX oB o5 o7;simp (maxSteps:=9^7) -implicitDefEqProofs only[rv70,ed,kN,hdn,hn,ent46,h1,not_true_eq_false,not_false_eq_true,WU,Ent.of0,Ent.of1,Ent.of2,Ent.of3,Ent.of4,V,W3,↓reduceIte,seval,reduceCtorEq];exact hE
theorem MsB.bs {m:Ms} (h:MsB m):BufS m.buf:=⟨h.l,fun x hx=>by have:=h.r x hx;omega⟩
theorem Bo (m:Ms) (h:BufS m.buf):FC Tryz.prog 65 [enc m] [] (enc m) []:=by
 refine dD [] is65 (by simp) (by simp[bk]) (by simp[an,ag]) (by simp[an,ag]) (by simp[aB]) (fun cx _ hl _=>dC [ent60] 800 ?_);delta c65 oO oA oF oL oC oW oX oZ o5 o7;simp (maxSteps:=9^7) -implicitDefEqProofs only[rv65,ent60,kN,h,WU,Ent.of0,Ent.of1,Ent.of2,Ent.of3,Ent.of4,V,W3,↓reduceIte,seval,reduceCtorEq]
def AN : Ent Tryz.prog:=.of1 65 (fun m:Ms=>BufS m.buf) (fun m=>enc m) (fun m=>by simp[kN,dF,dF.keysIns]) (fun m h=>Bo m h)
theorem apS_eq {n:Nw} {m:Ms} {e:T3} (h:opE n m=0):apE n m e=gi n m e/\apS n m e=xH n m e:=by
 have h1:apE n m e=gi n m e:=by unfold apE;rw[if_neg (by simp[h])]
 exact⟨h1,by unfold apS xH;rw[h1]⟩
theorem apS_ne {n:Nw} {m:Ms} {e:T3} (h:opE n m≠0):apE n m e=opE n m/\apS n m e=ms0:=by
 have h1:apE n m e=opE n m:=by unfold apE;rw[if_pos h]
 exact⟨h1,by unfold apS;rw[h1,if_pos h]⟩
theorem hdn_ms0 : fy (.agg [C.s (.int .i64 0),.s (.int .i64 0),.s (.int .i64 0),.s (.int .i64 0),.s (.int .i64 0),.s (.int .i64 0),.s (.int .i64 0),.s (.int .i64 0),.s (.int .i64 0),.s (.slice none 0 0)])=some ms0:=rfl
theorem AJ (haw:Awake) (n:Nw) (m:Ms) (hI:∀ a∈m.buf,∀ b∈a,-9223372036854775808<=b/\b<=9223372036854775807) (e:T3):FC Tryz.prog 12 [enc n,enc m,enc e] [] (enc true) []:=by
 have hdn:=gO n;have hdm:=xi m;by_cases hfew:few n=true
 rotate_left
 . have hf:few n=false:=by simpa using hfew
   refine dD [] E5.is12 (by simp) (by simp[bk]) (by simp[an,ag]) (by simp[an,ag]) (by simp[aB]) (fun cx _ _ _=>dC [ent21 haw,ent34] 1500 ?_);delta E5.c12 oO oN oA oM oT oG oR oS oK oC oW oI oX oP oH oB oZ o5 o7 o8 o9;simp (maxSteps:=9^7) -implicitDefEqProofs only[E5.rv12,ent21,ent34,ed,kN,dY,hdn,hf,not_true_eq_false,WU,Ent.of0,Ent.of1,Ent.of2,Ent.of3,Ent.of4,V,W3,↓reduceIte,seval,reduceCtorEq]
 by_cases hsm:smB m=true
 rotate_left
 . have hs:smB m=false:=by simpa using hsm
   refine dD [] E5.is12 (by simp) (by simp[bk]) (by simp[an,ag]) (by simp[an,ag]) (by simp[aB]) (fun cx _ _ _=>dC [ent21 haw,ent34,An] 1500 ?_);delta E5.c12 oO oN oA oM oT oG oR oS oK oC oW oI oX oP oH oB oZ o5 o7 o8 o9;simp (maxSteps:=9^7) -implicitDefEqProofs only[E5.rv12,ent21,ent34,An,ed,kN,dY,hdn,hdm,hfew,hs,not_true_eq_false,WU,Ent.of0,Ent.of1,Ent.of2,Ent.of3,Ent.of4,V,W3,↓reduceIte,seval,reduceCtorEq]
 have hn:=few_nws hfew;have hm:=sm_msB hsm hI;have hbs:=hm.bs;have h69:=B5 n m e hn hm;have h70:=BK n m hn hm;refine dD [] E5.is12 (by simp) (by simp[bk]) (by simp[an,ag]) (by simp[an,ag]) (by simp[aB]) (fun cx _ _ _=>dC [ent21 haw,ent34,An] 1500 ?_);by_cases hO:opE n m=0
 . obtain⟨net,g⟩:=BX hO;have h71:=Apply_c n m e hn net g;obtain⟨e1,e2⟩:=apS_eq (e:=e) hO;rw[e1,e2]at h69;rw[hO]at h70;generalize xH n m e=S at *;generalize gi n m e=A at *;have hdS:=xi S;delta E5.c12 oO oN oA oM oT oG oR oS oK oC oW oI oX oP oH oB oZ o5 o7 o8 o9;simp (maxSteps:=9^7) -implicitDefEqProofs only[E5.rv12,ent21,ent34,An,ed,kN,dY,hdn,hdm,hfew,hsm,not_true_eq_false,not_false_eq_true,WU,Ent.of0,Ent.of1,Ent.of2,Ent.of3,Ent.of4,V,W3,↓reduceIte,seval,reduceCtorEq];refine AU [ent37,AN,entX 69 _ _ h69 ⟨by simp[kN,dF,dF.keysIns],trivial,trivial⟩] 800 [1,3,5] ?_;simp (maxSteps:=9^7) -implicitDefEqProofs only[xQ,mFin2,AL,ml,pF,ops2,jo,reM2,oU,qO,qP,mE,finM,kE,ia,ip,gh,ft,fW,fW.fixBs,fV,ndE2,an,ag,av,aU,aF,kF,eQ,a6,bF,ent37,AN,entX,ed,kN,dY,hdn,hdm,hn,hbs,InR,WU,Ent.of0,Ent.of1,Ent.of2,Ent.of3,Ent.of4,V,W3,↓reduceIte,seval,reduceCtorEq];refine⟨rfl,dC [ent41,entX 70 _ _ h70 trivial,entX 71 _ _ h71 ⟨by simp[kN,dF,dF.keysIns],trivial,trivial⟩] 1500 ?_⟩;simp (maxSteps:=9^7) -implicitDefEqProofs only[E5.rv12,ent41,entX,ed,kN,dY,hdS,not_true_eq_false,not_false_eq_true,WU,Ent.of0,Ent.of1,Ent.of2,Ent.of3,Ent.of4,V,W3,↓reduceIte,seval,reduceCtorEq]
 . obtain⟨e1,e2⟩:=apS_ne (e:=e) hO;rw[e1,e2]at h69;generalize opE n m=A at *;have hd0:=xi ms0;delta E5.c12 oO oN oA oM oT oG oR oS oK oC oW oI oX oP oH oB oZ o5 o7 o8 o9;simp (maxSteps:=9^7) -implicitDefEqProofs only[E5.rv12,ent21,ent34,An,ed,kN,dY,hdn,hdm,hfew,hsm,not_true_eq_false,not_false_eq_true,WU,Ent.of0,Ent.of1,Ent.of2,Ent.of3,Ent.of4,V,W3,↓reduceIte,seval,reduceCtorEq];refine AU [ent37,AN,entX 69 _ _ h69 ⟨by simp[kN,dF,dF.keysIns],trivial,trivial⟩] 800 [1,3,5] ?_;simp (maxSteps:=9^7) -implicitDefEqProofs only[xQ,mFin2,AL,ml,pF,ops2,jo,reM2,oU,qO,qP,mE,finM,kE,ia,ip,gh,ft,fW,fW.fixBs,fV,ndE2,an,ag,av,aU,aF,kF,eQ,a6,bF,ent37,AN,entX,ed,kN,dY,hdn,hdm,hn,hbs,InR,WU,Ent.of0,Ent.of1,Ent.of2,Ent.of3,Ent.of4,V,W3,↓reduceIte,seval,reduceCtorEq];refine⟨rfl,dC [ent41,entX 70 _ _ h70 trivial] 1500 ?_⟩;simp (maxSteps:=9^7) -implicitDefEqProofs only[E5.rv12,ent41,entX,ed,kN,dY,hd0,hdn_ms0,hO,not_true_eq_false,not_false_eq_true,WU,Ent.of0,Ent.of1,Ent.of2,Ent.of3,Ent.of4,V,W3,↓reduceIte,seval,reduceCtorEq]
end Go.Proofs.YtcbabnbiinkafaaGreatDoor
end
section
open Go Go.Am
open Go.Am.Dat (cells)
namespace Go.Proofs.YtcbabnbiinkafaaGreatDoor
open Go.ChangeShapes Go.WideShapes Go.ChangeAt Go.RowKit
open Go.ChangeMaps (open_string shut_string)
set_option maxRecDepth 100000
theorem rEv : ReadsP Tryz.prog 83 T3 (fun _=>True):=by
 refine⟨by kernel_rfl,by decide,fun en w sp fuel cs x h=>?_⟩;obtain⟨l,a0,p0,e0,h0⟩:=lY rInt Tryz.underlying83 h 0 rfl rfl;obtain⟨_,a1,p1,e1,h1⟩:=lY rInt Tryz.underlying83 h 1 rfl rfl;obtain⟨_,a2,p2,e2,h2⟩:=lY rInt Tryz.underlying83 h 2 rfl rfl;refine⟨⟨a0,a1,a2⟩,trivial,rfl,l.trans (by kernel_rfl),fun j c hj=>?_⟩
 match j,hj with
 | 0,hj=>cases hj;exact h0 0 _ rfl
 | 1,hj=>cases hj;exact h1 0 _ rfl
 | 2,hj=>cases hj;exact h2 0 _ rfl
theorem rLls : ReadsP Tryz.prog 51 (List (List Int)) (fun l=>∀ a∈l,∀ b∈a,-9223372036854775808<=b/\b<=9223372036854775807):=ReadsP.list rInts Tryz.underlying51 (by kernel_rfl)
theorem rMs : ReadsP Tryz.prog 53 Ms (fun m=>∀ a∈m.buf,∀ b∈a,-9223372036854775808<=b/\b<=9223372036854775807):=by
 refine⟨by kernel_rfl,by decide,fun en w sp fuel cs x h=>?_⟩;obtain⟨l,a0,p0,e0,h0⟩:=lY rInt Tryz.underlying53 h 0 rfl rfl;obtain⟨_,a1,p1,e1,h1⟩:=lY rInt Tryz.underlying53 h 1 rfl rfl;obtain⟨_,a2,p2,e2,h2⟩:=lY rInt Tryz.underlying53 h 2 rfl rfl;obtain⟨_,a3,p3,e3,h3⟩:=lY rInt Tryz.underlying53 h 3 rfl rfl;obtain⟨_,a4,p4,e4,h4⟩:=lY rInt Tryz.underlying53 h 4 rfl rfl;obtain⟨_,a5,p5w,e5,h5⟩:=lY rInt Tryz.underlying53 h 5 rfl rfl;obtain⟨_,a6w,p6w,e6,h6⟩:=lY rInt Tryz.underlying53 h 6 rfl rfl;obtain⟨_,a7w,p7w,e7,h7⟩:=lY rInt Tryz.underlying53 h 7 rfl rfl;obtain⟨_,a8w,p8w,e8w,h8⟩:=lY rInt Tryz.underlying53 h 8 rfl rfl;obtain⟨_,a9,p9w,e9w,h9⟩:=lY rLls Tryz.underlying53 h 9 rfl rfl;refine⟨⟨a0,a1,a2,a3,a4,a5,a6w,a7w,a8w,a9⟩,p9w,rfl,l.trans (by kernel_rfl),fun j c hj=>?_⟩
 match j,hj with
 | 0,hj=>cases hj;exact h0 0 _ rfl
 | 1,hj=>cases hj;exact h1 0 _ rfl
 | 2,hj=>cases hj;exact h2 0 _ rfl
 | 3,hj=>cases hj;exact h3 0 _ rfl
 | 4,hj=>cases hj;exact h4 0 _ rfl
 | 5,hj=>cases hj;exact h5 0 _ rfl
 | 6,hj=>cases hj;exact h6 0 _ rfl
 | 7,hj=>cases hj;exact h7 0 _ rfl
 | 8,hj=>cases hj;exact h8 0 _ rfl
 | 9,hj=>cases hj;exact h9 0 _ rfl
theorem Cd (os:Os) (started:os.Started) (H:Type) (en:TypeId×Value->H) :
 ReturnsInHanded {} Tryz.checked os 12 .any (fun w args=>(Rows.moveAppliesSpec.pre en Tryz.prog Tryz.f12 Rows.moveAppliesRow.domain false w args/\laidMetH Tryz.prog Rows.moveAppliesRow.laid w)/\sizedMet en Tryz.prog Tryz.f12 (OpenSpec.ofChange Rows.moveAppliesSpec) false w args)
  (Rows.moveAppliesSpec.post en Tryz.prog Tryz.f12 false true false false):=by
 refine returnsInHanded_of_change_and (C:=Tryz.checked) (X:=fun w _=>laidMetH Tryz.prog Rows.moveAppliesRow.laid w) (fun _ _ _ hh h=>h.of_heap hh) ownOk started (by kernel_rfl) Tryz.func12
  (ChangeSpec.witness_shaped (enc:=en) (C:=Tryz.checked) (os:=os) (X:=fun w _=>laidMetH Tryz.prog Rows.moveAppliesRow.laid w) false (World.doorLaid Tryz.prog 89 os) #[.agg #[.slice none 0 0,.slice none 0 0,.int .i64 0],.agg #[.int .i64 0,.int .i64 0,.int .i64 0,.int .i64 0,.int .i64 0,.int .i64 0,.int .i64 0,.int .i64 0,.int .i64 0,.slice none 0 0],.agg #[.int .i64 0,.int .i64 0,.int .i64 0]] 8 rfl (doorShaped os _) (by kernel_rfl) (by kernel_rfl) (by kernel_rfl) (door_met os _)) ?_
 intro W base args ds gs before hval0 hW hcnd hsz hL _;have hval:∀ (j:Nat) t v,Tryz.f12.params[j]? = some t->args[j]? = some v->Value.okWide Tryz.prog W .any base t v:=hval0;have hW':=hW;obtain⟨p,q,hA0,hV,rfl,hfz,hnd⟩:=hW;have hA:DataW.TrodAll en Tryz.prog W 0 (fun _=>true) true Tryz.f12.params.toList args.toList ds p:=hA0;rw[Tryz.params12]at hA hval;obtain⟨v0,vs0,d0w,ds0,p0,q0,hargs,rfl,rfl,h0,r0w⟩:=trodAll_cons hA;obtain⟨v1,vs1,d1,ds1,p1,q1,rfl,rfl,rfl,h1,r1⟩:=trodAll_cons r0w;obtain⟨v2,vs2,d2,ds2,p2,q2,rfl,rfl,rfl,h2,r2⟩:=trodAll_cons r1;obtain⟨rfl,rfl,rfl⟩:=trodAll_nil r2;obtain rfl:args=#[v0,v1,v2]:=by cases args;simp_all
 obtain⟨rfl,rfl⟩:=trodVars_none hV;have lt0:∀ x∈p0,x.block < W.heap.size:=by obtain⟨m,hm⟩:=h0;exact DataW.trod_lt m _ _ _ hm
 have lt1:∀ x∈p1,x.block < W.heap.size:=by obtain⟨m,hm⟩:=h1;exact DataW.trod_lt m _ _ _ hm
 have lt2:∀ x∈p2,x.block < W.heap.size:=by obtain⟨m,hm⟩:=h2;exact DataW.trod_lt m _ _ _ hm
 obtain⟨x0,g0,hx0⟩:=rNw.argS rfl Tryz.underlying47 (hval 0 47 v0 rfl rfl) h0;obtain⟨x1,g1,hx1⟩:=rMs.argS rfl Tryz.underlying53 (hval 1 53 v1 rfl rfl) h1;obtain⟨x2,g2,hx2⟩:=rEv.argS rfl Tryz.underlying83 (hval 2 83 v2 rfl rfl) h2;clear hA0 hval0;refine (law_walkG (AJ awake_c x0 x1 g1 x2) (W:=W) (vs:=#[v0,v1,v2]) (glAll hL) rfl (fun j c hj E=>?_)).mono fun e W' ⟨he,bel⟩=>?_
 . match j,hj with
   | 0,hj=>cases hj;exact hx0 E
   | 1,hj=>cases hj;exact hx1 E
   | 2,hj=>cases hj;exact hx2 E
 . subst he;exact⟨_,rfl,_,_,_,[],_,[],hW',trodAll_mk1 (shut_bool Tryz.underlying4 _),(trodAll_cons_mk (Below.trod laidOut (by kernel_rfl) (of_decide_eq_true (by kernel_rfl)) h0 bel lt0) (trodAll_cons_mk (Below.trod laidOut (by kernel_rfl) (of_decide_eq_true (by kernel_rfl)) h1 bel lt1) (trodAll_cons_mk (Below.trod laidOut (by kernel_rfl) (of_decide_eq_true (by kernel_rfl)) h2 bel lt2) trodAll_mk0))),rfl,bel.frame _,fun h=>by cases h⟩
theorem Cb : (Rows.moveAppliesRow.inPlace == Tryz.prog.inPlace 12)=true:=by kernel_rfl
theorem jUnf12 : (Rows.moveAppliesRow.unfollowed == Tryz.prog.unfollowed 12)=true:=by kernel_rfl
theorem jRec12 : (Rows.moveAppliesRow.recurses == Tryz.prog.recurses 12)=true:=by kernel_rfl
theorem Ca : (Rows.moveAppliesRow.named == Tryz.prog.varsNamed 12)=true:=by kernel_rfl
theorem jKeys12 : (Rows.moveAppliesRow.plainKeys == Tryz.prog.plainKeys)=true:=jKeys
theorem jLift12 : (Rows.moveAppliesRow.lifted == Tryz.prog.liftsFinal)=true:=jLift
theorem jMake12 : (Tryz.prog.make == some Rows.moveAppliesRow.make)=true:=jMake
theorem jVeil12 : Rows.moveAppliesRow.veiledFits Tryz.prog Tryz.f12.params.toList (Tryz.f12.params.toList++Rows.moveAppliesSpec.plain.varTypes Tryz.prog++Tryz.f12.resultTypes.toList)=true:=by kernel_rfl
end Go.Proofs.YtcbabnbiinkafaaGreatDoor
end
