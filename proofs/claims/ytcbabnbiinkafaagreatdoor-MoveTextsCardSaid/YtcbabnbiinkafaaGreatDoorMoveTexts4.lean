/- Part 4 of the proof of: MoveTexts returns true for every input and never panics: the texts of an event and of a state, and the event and the state with any text, are as specified, or the errors, and right ones are read back; conditions: those of the given statement, that the package variables it lists hold what their initialisers lay. -/
import Derived.Test.YtcbabnbiinkafaaGreatDoorMoveTexts3
set_option linter.all false
section
open Go Go.Am
open Go.Am.Dat (cells)
namespace Go.Proofs.YtcbabnbiinkafaaGreatDoor
set_option maxHeartbeats 4000000
set_option maxRecDepth 100000
theorem BN (s:ByteArray) (hs:s.size<=50000):FC Tryz.prog 84 [enc s] [] (psC (psO s.data.toList)) []:=by
 have h124:UInt8.ofNat 124=124:=rfl;have hs6:s.size<=1000000:=by omega
 obtain⟨d1,d2⟩:=x8 124 s.data.toList;rw[xm]at d1 d2;have hcb:yT 124 s=(xg 124 s.data.toList).map mkB:=rfl;have hne:=xV 124 s.data.toList;unfold psO;obtain⟨h,r,hw⟩:∃ h r,xg 124 s.data.toList=h :: r:=by
  cases hq:xg 124 s.data.toList with
  | nil=>exact absurd hq hne
  | cons h r=>exact⟨h,r,rfl⟩
 rw[hw]at hcb d1 d2 ⊢;simp only[yc,List.tail_cons];have d3:r.length<=s.size:=by rw[zQ]at d1;omega
 have hsh:(mkB h).size<=100000:=by have:=d2 h (by simp);rw[xo];omega
 have hR:xl (mkB h).data.toList=xl h:=rfl;refine dD [] E9.is84 (by simp) (by simp[bk]) (by simp[an,ag]) (by simp[an,ag]) (by simp[aB]) (fun cx _ hl _=>dC [yO,yP] 1200 ?_);unfold psF;cases hp:xl h with
 | none=>
  rw[hp]at hR;delta E9.c84 oO oN oA oM oG oS oK oL oV oC oW oI oX oH oD o1 oZ o5 o8;simp (maxSteps:=9^7) -implicitDefEqProofs only[E9.rv84,yO,yP,xw,h124,hs6,hcb,hsh,hp,psC,ms0,kN,xi,zt,Option.getD_none,Option.isSome_none,not_true_eq_false,not_false_eq_true,WU,Ent.of1,V,W3,↓reduceIte,seval,reduceCtorEq];omega
 | some p=>
  rw[hp]at hR;by_cases h9:p.length=9
  rotate_left
  . have h9':¬ (p.length:Int)=9:=by omega
    simp only[h9,ne_eq,not_false_eq_true,true_or,if_true];delta E9.c84 oO oN oA oM oG oS oK oL oV oC oW oI oX oH oD o1 oZ o5 o8;simp (maxSteps:=9^7) -implicitDefEqProofs only[E9.rv84,yO,yP,xw,h124,hs6,hcb,hsh,hp,h9',psC,ms0,kN,xi,zt,Option.getD_none,Option.isSome_none,zN,Option.isSome_some,not_true_eq_false,not_false_eq_true,WU,Ent.of1,V,W3,↓reduceIte,seval,reduceCtorEq];omega
  have h9':(p.length:Int)=9:=by omega
  by_cases hr:r=[]
  . subst hr;simp only[or_true,if_true];delta E9.c84 oO oN oA oM oG oS oK oL oV oC oW oI oX oH oD o1 oZ o5 o8;simp (maxSteps:=9^7) -implicitDefEqProofs only[E9.rv84,yO,yP,xw,h124,hs6,hcb,hsh,hp,h9',psC,ms0,kN,xi,zt,zR,Option.getD_none,Option.isSome_none,zN,Option.isSome_some,not_true_eq_false,not_false_eq_true,WU,Ent.of1,V,W3,↓reduceIte,seval,reduceCtorEq]
  have hrl:0 < r.length:=List.length_pos_iff.2 hr;have hrl2:¬ ((r.length+1:Nat):Int) < 2:=by omega
  simp only[h9,ne_eq,not_true_eq_false,hr,or_self,if_false];obtain⟨v0,v1,v2,v3,v4,v5,v6w,v7w,v8w,hp9⟩:=p9w p h9;subst hp9;delta E9.c84 oO oN oA oM oG oS oK oL oV oC oW oI oX oH oD o1 oZ o5 o8;simp (maxSteps:=9^7) -implicitDefEqProofs only[E9.rv84,yO,yP,xw,h124,hs6,hcb,hsh,hp,h9',hrl2,xi,zt,zR,zQ,yh,zN,Option.isSome_some,not_true_eq_false,not_false_eq_true,WU,Ent.of1,V,W3,↓reduceIte,seval,reduceCtorEq];refine⟨by omega,?_⟩;refine Dm [] 800 [] ?_;simp (maxSteps:=9^7) -implicitDefEqProofs only[Ak,mFin2,addE3,ml,pG,ops2,jo,reM2,pc,qP,qQ,mE,finM,kE,ia,ip,gh,ft,fW,fW.fixBs,fV,ndE2,an,ag,av,aU,aF,kF,eQ,a6,bF,zt,zR,zQ,yh,InR,WU,V,W3,↓reduceIte,seval,reduceCtorEq];refine⟨rfl,dC [] 500 ?_⟩;simp (maxSteps:=9^7) -implicitDefEqProofs only[E9.rv84,zt,zR,zQ,yh,InR,WU,V,W3,↓reduceIte,seval,reduceCtorEq];have hB:∀ i,i < r.length->xl (r.getD i [])=none->yN r=none:=fun i=>As (ws:=r) (i:=i)
  have hS:=At (ws:=r);refine eN r.length (fun k=>[(8,.s (.int .i64 ((k:Int)+1)))]) (fun k=>[(7,.box [.s (.int .i64 v0),.s (.int .i64 v1),.s (.int .i64 v2),.s (.int .i64 v3),.s (.int .i64 v4),.s (.int .i64 v5),.s (.int .i64 v6w),.s (.int .i64 v7w),.s (.int .i64 v8w),if k=0 then .s (.slice none 0 0)else .isl 1 24 ((xx r k).map cells)])]) (fun k=>∀ j,j < k->(xl (r.getD j [])).isSome=true) (fun j hj=>by omega) ?_ (fun k hk hv=>?_)
  . simp (maxSteps:=9^7) -implicitDefEqProofs only[V,W3,↓reduceIte,seval,reduceCtorEq]
    all_goals simp
  . by_cases hlt:k < r.length
    . have hi2:(k:Int)+1 < ((r.length+1:Nat):Int):=by omega
      have hi0:(0:Int)<=(k:Int)+1:=by omega
      have hi3:((k:Int)+1).toNat=k+1:=by omega
      have hi4:k+1 < r.length+1:=by omega
      have hwl:=d2 (r.getD k []) (by rw[zb,ze hlt];exact zo _ (yy hlt));have hgd:List.getD ([C.s (.string (mkB h))] :: (r.map mkB).map cells) (k+1) [C.s (.string ⟨#[]⟩)]=[C.s (.string (mkB (r.getD k [])))]:=by
       rw[List.getD_cons_succ,zT,zb,zb,zh,ze hlt];rfl
      have hos:=Bo hlt;have hol:=Ah hk;have hbad:=hB k hlt;generalize hww:r.getD k []=w at *;have hws:(mkB w).size<=100000:=by rw[xo];omega
      have hnl:=fun p=>BH (l:=w) (p:=p)
      refine dC [yP] 800 ?_;cases hA:xl w with
      | none=>
       have hn:=hbad hA;rw[hn];delta E9.c84l1 oO oN oA oM oR oS oK oF oL oV oC oW oY oI oX oB o0 oZ o4 o8;simp (maxSteps:=9^7) -implicitDefEqProofs only[E9.rv84,yP,xw,hi2,hi0,hi3,hi4,hgd,hws,hA,psC,ms0,kN,xi,zy,zQ,Option.map_none,Option.isSome_none,Option.getD_none,InR,not_true_eq_false,not_false_eq_true,WU,Ent.of1,V,W3,↓reduceIte,seval,reduceCtorEq]
      | some q=>
       have hql:=hnl q hA;cases k with
       | zero=>
        have h1:[[C.sl 1 (q.map cells)]]=(xx r 1).map cells:=by rw[hos,hA];rfl
        delta E9.c84l1 oO oN oA oM oR oS oK oF oL oV oC oW oY oI oX oB o0 oZ o4 o8;simp (maxSteps:=9^7) -implicitDefEqProofs only[E9.rv84,yP,xw,hi2,hi0,hi3,hi4,hgd,hws,hA,h1,xi,zy,zQ,Option.isSome_some,zN,InR,not_true_eq_false,not_false_eq_true,WU,Ent.of1,V,W3,↓reduceIte,seval,reduceCtorEq];have hol1:=Ah (ws:=r) (i:=1) (by omega);rw[if_pos (by omega)];exact⟨by omega,⟨by omega,by omega⟩,hlt,fun j hj=>(by rcases Nat.lt_succ_iff_lt_or_eq.1 hj with h | rfl;exact hv j h;rw[hww,hA];rfl)⟩
       | succ k=>
        have h1:(xx r (k+1)).map cells++[[C.sl 1 (q.map cells)]]=(xx r (k+1+1)).map cells:=by rw[hos,hA,yg];rfl
        delta E9.c84l1 oO oN oA oM oR oS oK oF oL oV oC oW oY oI oX oB o0 oZ o4 o8;simp (maxSteps:=9^7) -implicitDefEqProofs only[E9.rv84,yP,xw,hi2,hi0,hi3,hi4,hgd,hws,hA,h1,hol,Nat.succ_ne_zero,xi,zy,zQ,Option.isSome_some,zN,InR,not_true_eq_false,not_false_eq_true,WU,Ent.of1,V,W3,↓reduceIte,seval,reduceCtorEq];exact⟨⟨by omega,by omega⟩,⟨by omega,by omega⟩,hlt,fun j hj=>(by rcases Nat.lt_succ_iff_lt_or_eq.1 hj with h | rfl;exact hv j h;rw[hww,hA];rfl),by omega⟩
    . have hke:k=r.length:=by omega
      subst hke;have hi2:¬ ((r.length:Nat):Int)+1 < ((r.length+1:Nat):Int):=by omega
      rw[if_neg (by omega:¬ r.length=0),hS hv];have ho:xx r r.length=r.map fun w=>(xl w).getD []:=by rw[xx,yo]
      rw[<- ho];refine S_fzb 7 rfl (dC [] 800 ?_);delta E9.c84l1 oO oN oA oM oR oS oK oF oL oV oC oW oY oI oX oB o0 oZ o4 o8;simp (maxSteps:=9^7) -implicitDefEqProofs only[E9.rv84,hi2,psC,stOf,kN,zU,zN,Option.isSome_some,zy,zQ,InR,not_true_eq_false,not_false_eq_true,WU,V,W3,↓reduceIte,seval,reduceCtorEq]
theorem Ci (o:Option Ms):dF [] (psC o):=by
 unfold psC;exact⟨by rw[kN];simp[dF,dF.keysIns],trivial,trivial⟩
def cBw (p:List Int) (i:Nat):List C:=(p.take i++List.replicate (9 - i) 0).map (fun v=>C.s (.int .i64 v))++[.s (.slice none 0 0)]
theorem Do (p:List Int) (h:p.length=9):∀ i,i < 9->(cBw p i).length=10/\(((cBw p i).drop i).take 1).all aE=true/\(cBw p i).take i++[C.s (.int .i64 (p.getD i 0))]++(cBw p i).drop (i+1)=cBw p (i+1):=by
 obtain⟨v0,v1,v2,v3,v4,v5,v6w,v7w,v8w,rfl⟩:=p9w p h;intro i hi
 match i,hi with
 | 0,_=>exact⟨rfl,rfl,rfl⟩
 | 1,_=>exact⟨rfl,rfl,rfl⟩
 | 2,_=>exact⟨rfl,rfl,rfl⟩
 | 3,_=>exact⟨rfl,rfl,rfl⟩
 | 4,_=>exact⟨rfl,rfl,rfl⟩
 | 5,_=>exact⟨rfl,rfl,rfl⟩
 | 6,_=>exact⟨rfl,rfl,rfl⟩
 | 7,_=>exact⟨rfl,rfl,rfl⟩
 | 8,_=>exact⟨rfl,rfl,rfl⟩
 | n+9,h=>exact absurd h (by omega)
theorem BV (s:ByteArray) (hs:s.size<=50000):FC Tryz.prog 82 [enc s] [] (psC (psO s.data.toList)) []:=by
 have hs6:s.size<=100000:=by omega
 obtain⟨d1,d2⟩:=x8 124 s.data.toList;rw[xm]at d1 d2;have hcb:yT 124 s=(xg 124 s.data.toList).map mkB:=rfl;have hne:=xV 124 s.data.toList;have hbr:(⟨#[124]⟩:ByteArray)=barB:=rfl;unfold psO;obtain⟨h,r,hw⟩:∃ h r,xg 124 s.data.toList=h :: r:=by
  cases hq:xg 124 s.data.toList with
  | nil=>exact absurd hq hne
  | cons h r=>exact⟨h,r,rfl⟩
 rw[hw]at hcb d1 d2 ⊢;simp only[yc,List.tail_cons];have d3:r.length<=s.size:=by rw[zQ]at d1;omega
 have hsh:(mkB h).size<=100000:=by have:=d2 h (by simp);rw[xo];omega
 refine dD [] is82 (by simp) (by simp[bk]) (by simp[an,ag]) (by simp[an,ag]) (by simp[aB]) (fun cx _ hl _=>dC [AH,xI] 1200 ?_);unfold psF;cases hp:xl h with
 | none=>
  delta c82 oO oN oA oM oG oS oK oF oL oV oC oW oI oX oH oD oZ o4 o5 o8;simp (maxSteps:=9^7) -implicitDefEqProofs only[Af,AH,xI,xw,hs6,hbr,hcb,hsh,hp,psC,ms0,kN,xi,zt,Option.getD_none,Option.isSome_none,not_true_eq_false,not_false_eq_true,WU,Ent.of1,Ent.of2,V,W3,↓reduceIte,seval,reduceCtorEq];omega
 | some p=>
  by_cases h9:p.length=9
  rotate_left
  . have h9':¬ (p.length:Int)=9:=by omega
    simp only[h9,ne_eq,not_false_eq_true,true_or,if_true];delta c82 oO oN oA oM oG oS oK oF oL oV oC oW oI oX oH oD oZ o4 o5 o8;simp (maxSteps:=9^7) -implicitDefEqProofs only[Af,AH,xI,xw,hs6,hbr,hcb,hsh,hp,h9',psC,ms0,kN,xi,zt,Option.getD_none,Option.isSome_none,zN,Option.isSome_some,not_true_eq_false,not_false_eq_true,WU,Ent.of1,Ent.of2,V,W3,↓reduceIte,seval,reduceCtorEq];omega
  have h9':(p.length:Int)=9:=by omega
  by_cases hr:r=[]
  . subst hr;simp only[or_true,if_true];delta c82 oO oN oA oM oG oS oK oF oL oV oC oW oI oX oH oD oZ o4 o5 o8;simp (maxSteps:=9^7) -implicitDefEqProofs only[Af,AH,xI,xw,hs6,hbr,hcb,hsh,hp,h9',psC,ms0,kN,xi,zt,zR,Option.getD_none,Option.isSome_none,zN,Option.isSome_some,not_true_eq_false,not_false_eq_true,WU,Ent.of1,Ent.of2,V,W3,↓reduceIte,seval,reduceCtorEq]
  have hrl:0 < r.length:=List.length_pos_iff.2 hr;have hrl2:¬ ((r.length+1:Nat):Int) < 2:=by omega
  simp only[h9,ne_eq,not_true_eq_false,hr,or_self,if_false];delta c82 oO oN oA oM oG oS oK oF oL oV oC oW oI oX oH oD oZ o4 o5 o8;simp (maxSteps:=9^7) -implicitDefEqProofs only[Af,AH,xI,xw,hs6,hbr,hcb,hsh,hp,h9',hrl2,xi,zt,zR,zQ,yh,zN,Option.isSome_some,not_true_eq_false,not_false_eq_true,WU,Ent.of1,Ent.of2,V,W3,↓reduceIte,seval,reduceCtorEq];refine⟨by omega,?_⟩;obtain⟨v0,v1,v2,v3,v4,v5,v6w,v7w,v8w,hp9⟩:=p9w p h9;have hlen:p.length=9:=h9;refine eN 9 (fun i=>[(48,.s (.int .i64 (i:Int)))]) (fun i=>[(5,.box (cBw p i))]) (fun _=>True) trivial ?_ (fun i hi _=>dC [] 800 ?_)
  . simp (maxSteps:=9^7) -implicitDefEqProofs only[V,W3,↓reduceIte,seval,reduceCtorEq]
    all_goals first | rfl | simp[cBw]
  . by_cases hlt:i < 9
    . have hi2:=eq_true (show (i:Int) < 9 by omega);delta c82l1 oO oN oA oM oR oS oK oL oW oX oB o1 o6;simp (maxSteps:=9^7) -implicitDefEqProofs only[Af,hi2,WU,V,W3,↓reduceIte,seval,reduceCtorEq];have hcs:[C.ptr 5 0,C.ptr 5 1,C.ptr 5 2,C.ptr 5 3,C.ptr 5 4,C.ptr 5 5,C.ptr 5 6,C.ptr 5 7,C.ptr 5 8][(i:Int).toNat]? = some (.ptr 5 i):=by
       rw[z5]
       match i,hlt with
       | 0,_=>rfl
       | 1,_=>rfl
       | 2,_=>rfl
       | 3,_=>rfl
       | 4,_=>rfl
       | 5,_=>rfl
       | 6,_=>rfl
       | 7,_=>rfl
       | 8,_=>rfl
       | n+9,h=>exact absurd h (by omega)
      refine py rfl (OpM.arrIx1 (e:=181) (n:=(i:Int)) (k:=.i64) (len:=9) (by kernel_rfl) (by kernel_rfl) (by kernel_rfl) rfl rfl ⟨by omega,by omega⟩ hcs) (fun ef he=>?_);subst he;refine nz [] 800 ?_;have hi0:(0:Int)<=i:=by omega
      have hi3:(i:Int) < (p.length:Int):=by omega
      have hi4:i < p.length:=by omega
      have hgd:=Cw p i hi4;obtain⟨f1,f2,f3⟩:=Do p hlen i hlt;simp (maxSteps:=9^7) -implicitDefEqProofs only[hi0,hi3,hi4,hgd,f1,f2,f3,hlen,zy,InR,WU,V,W3,↓reduceIte,seval,reduceCtorEq];exact⟨by omega,by omega,⟨by omega,by omega⟩,hlt,by omega⟩
    . have hie:i=9:=by omega
      subst hie;have htk:List.take r.length ((r.map mkB).map cells)=(r.map mkB).map cells:=List.take_of_length_le (by rw[zy,zy];exact zw _);have hc9:cBw p 9=[.s (.int .i64 v0),.s (.int .i64 v1),.s (.int .i64 v2),.s (.int .i64 v3),.s (.int .i64 v4),.s (.int .i64 v5),.s (.int .i64 v6w),.s (.int .i64 v7w),.s (.int .i64 v8w),.s (.slice none 0 0)]:=by subst hp9;rfl
      rw[hc9];delta c82l1 oO oN oA oM oR oS oK oL oW oX oB o1 o6;simp (maxSteps:=9^7) -implicitDefEqProofs only[Af,htk,zy,zQ,InR,WU,V,W3,↓reduceIte,seval,reduceCtorEq];refine⟨by omega,?_⟩;have hB:∀ i,i < r.length->xl (r.getD i [])=none->yN r=none:=fun i=>As (ws:=r) (i:=i)
      have hS:=At (ws:=r);refine eN r.length (fun k=>[(62,.s (.int .i64 (k:Int)))]) (fun k=>[(5,.box [.s (.int .i64 v0),.s (.int .i64 v1),.s (.int .i64 v2),.s (.int .i64 v3),.s (.int .i64 v4),.s (.int .i64 v5),.s (.int .i64 v6w),.s (.int .i64 v7w),.s (.int .i64 v8w),if k=0 then .s (.slice none 0 0)else .isl 1 24 ((xx r k).map cells)])]) (fun k=>∀ j,j < k->(xl (r.getD j [])).isSome=true) (fun j hj=>by omega) ?_ (fun k hk hv=>?_)
      . simp (maxSteps:=9^7) -implicitDefEqProofs only[V,W3,↓reduceIte,seval,reduceCtorEq]
        all_goals simp
      . by_cases hlt:k < r.length
        . have hi2:(k:Int) < (r.length:Int):=by omega
          have hi0:(0:Int)<=(k:Int):=by omega
          have hwl:=d2 (r.getD k []) (by rw[zb,ze hlt];exact zo _ (yy hlt));have hgd:List.getD ((r.map mkB).map cells) k [C.s (.string ⟨#[]⟩)]=[C.s (.string (mkB (r.getD k [])))]:=by
           rw[zT,zb,zb,zh,ze hlt];rfl
          have hos:=Bo hlt;have hol:=Ah hk;have hbad:=hB k hlt;generalize hww:r.getD k []=w at *;have hws:(mkB w).size<=100000:=by rw[xo];omega
          have hnl:=fun p=>BH (l:=w) (p:=p)
          refine dC [xI] 800 ?_;cases hA:xl w with
          | none=>
           have hn:=hbad hA;rw[hn];delta Bk oO oN oA oM oR oS oK oF oL oV oC oW oY oI oX oB o0 oZ o8;simp (maxSteps:=9^7) -implicitDefEqProofs only[Af,xI,xw,hi2,hi0,hlt,hgd,hws,hA,psC,ms0,kN,xi,zy,zQ,Option.map_none,Option.isSome_none,Option.getD_none,InR,not_true_eq_false,not_false_eq_true,WU,Ent.of1,V,W3,↓reduceIte,seval,reduceCtorEq]
          | some q=>
           have hql:=hnl q hA;cases k with
           | zero=>
            have h1:[[C.sl 1 (q.map cells)]]=(xx r 1).map cells:=by rw[hos,hA];rfl
            delta Bk oO oN oA oM oR oS oK oF oL oV oC oW oY oI oX oB o0 oZ o8;simp (maxSteps:=9^7) -implicitDefEqProofs only[Af,xI,xw,hi2,hi0,hlt,hgd,hws,hA,h1,xi,zy,zQ,Option.isSome_some,zN,InR,not_true_eq_false,not_false_eq_true,WU,Ent.of1,V,W3,↓reduceIte,seval,reduceCtorEq];have hol1:=Ah (ws:=r) (i:=1) (by omega);rw[if_pos (by omega)];exact⟨by omega,⟨by omega,by omega⟩,fun j hj=>(by rcases Nat.lt_succ_iff_lt_or_eq.1 hj with h | rfl;exact hv j h;rw[hww,hA];rfl)⟩
           | succ k=>
            have h1:(xx r (k+1)).map cells++[[C.sl 1 (q.map cells)]]=(xx r (k+1+1)).map cells:=by rw[hos,hA,yg];rfl
            delta Bk oO oN oA oM oR oS oK oF oL oV oC oW oY oI oX oB o0 oZ o8;simp (maxSteps:=9^7) -implicitDefEqProofs only[Af,xI,xw,hi2,hi0,hlt,hgd,hws,hA,h1,hol,Nat.succ_ne_zero,xi,zy,zQ,Option.isSome_some,zN,InR,not_true_eq_false,not_false_eq_true,WU,Ent.of1,V,W3,↓reduceIte,seval,reduceCtorEq];exact⟨⟨by omega,by omega⟩,⟨by omega,by omega⟩,fun j hj=>(by rcases Nat.lt_succ_iff_lt_or_eq.1 hj with h | rfl;exact hv j h;rw[hww,hA];rfl),by omega⟩
        . have hke:k=r.length:=by omega
          subst hke;have hi2:¬ ((r.length:Nat):Int) < (r.length:Int):=by omega
          rw[if_neg (by omega:¬ r.length=0),hS hv];have ho:xx r r.length=r.map fun w=>(xl w).getD []:=by rw[xx,yo]
          rw[<- ho];refine S_fzb 5 rfl (dC [] 800 ?_);have hst:stOf p (xx r r.length)=⟨v0,v1,v2,v3,v4,v5,v6w,v7w,v8w,xx r r.length⟩:=by subst hp9;rfl
          delta Bk oO oN oA oM oR oS oK oF oL oV oC oW oY oI oX oB o0 oZ o8;simp (maxSteps:=9^7) -implicitDefEqProofs only[Af,hi2,psC,hst,kN,zU,zN,Option.isSome_some,zy,zQ,InR,not_true_eq_false,not_false_eq_true,WU,V,W3,↓reduceIte,seval,reduceCtorEq]
def kUp (l:List UInt8):Nat->Int
 | 0=>-1
 | i+1=>if xn.getD i []=l then (i:Int)else kUp l i
theorem Ct : ∀ i j,i < 12->j < 12->xn.getD i []=xn.getD j []->i=j:=by
 have:∀ i j:Fin 12,xn.getD i.1 []=xn.getD j.1 []->i=j:=by decide
 intro i j hi hj h;exact congrArg Fin.val (this ⟨i,hi⟩ ⟨j,hj⟩ h)
theorem Bz {l:List UInt8} {i:Nat} (h:xn.getD i []=l):∀ n,i < n->n<=12->kUp l n=(i:Int)
 | n+1,h1,h2=>by
  rw[kUp];by_cases hn:xn.getD n []=l
  . rw[if_pos hn];have:=Ct i n (by omega) (by omega) (h.trans hn.symm);subst this;rfl
  . rw[if_neg hn];refine Bz h n ?_ (by omega);rcases Nat.lt_succ_iff_lt_or_eq.1 h1 with q | q
    . exact q
    . subst q;exact absurd h hn
theorem Cc {l:List UInt8}:∀ n,(∀ j,j < n->xn.getD j []≠l)->kUp l n=-1
 | 0,_=>rfl
 | n+1,h=>by rw[kUp,if_neg (h n (by omega)),Cc n (fun j hj=>h j (by omega))]
theorem BA (l:List UInt8):∀ n,-1<=kUp l n/\kUp l n < n
 | 0=>⟨Int.le_refl _,by show (-1:Int) < 0;decide⟩
 | n+1=>by
  have:=BA l n;rw[kUp];split <;> omega
theorem Db (k l:List UInt8):(mkB k=mkB l)=(k=l):=propext ⟨fun h=>by have:=congrArg (fun b=>b.data.toList) h;exact this,fun h=>by rw[h]⟩
theorem CI : ∀ i,i < 12->∃ b f,List.getD (xQ jt 3 12) i [C.s (.string ⟨#[]⟩),.s (.bool false),.s .nilFunc]=[.s (.string (mkB (xn.getD i []))),.s (.bool b),.s (.func (.func f) #[] #[])]
 | 0,_=>⟨_,_,rfl⟩
 | 1,_=>⟨_,_,rfl⟩
 | 2,_=>⟨_,_,rfl⟩
 | 3,_=>⟨_,_,rfl⟩
 | 4,_=>⟨_,_,rfl⟩
 | 5,_=>⟨_,_,rfl⟩
 | 6,_=>⟨_,_,rfl⟩
 | 7,_=>⟨_,_,rfl⟩
 | 8,_=>⟨_,_,rfl⟩
 | 9,_=>⟨_,_,rfl⟩
 | 10,_=>⟨_,_,rfl⟩
 | 11,_=>⟨_,_,rfl⟩
 | n+12,h=>absurd h (by omega)
def chW (l:List UInt8):Chs:=[(100000,.box [.s (.string (mkB l))])]
theorem clo126 (l k:List UInt8) (b:Bool) (f:FuncId):FC Tryz.prog 126 [.agg [.s (.string (mkB k)),.s (.bool b),.s (.func (.func f) #[] #[])],.ptr 100000 0] (chW l) (enc (decide (k=l))) (chW l):=by
 have hk:=Db k l;refine dD [100000] is126 (by simp) (by simp[chW,bk]) (by simp[chW,an,ag,av]) (by simp[chW,an,ag,av]) (by simp[chW,aB,lk]) (fun cx _ hl _=>dC [] 800 ?_);delta c126 oO oM oF oL oX oB o7 o9;simp (maxSteps:=9^7) -implicitDefEqProofs only[rv126,chW,hk,WU,V,W3,↓reduceIte,seval,reduceCtorEq]
def entW (f:FuncId) (l:List UInt8) (as0:List C) (r:C) (hr:dF [100000] r) (h:FC Tryz.prog f as0 (chW l) r (chW l)):Ent Tryz.prog:=.mk3 f (fun args chs=>some (args=as0/\chs=chW l,r,chW l,[])) (by
 intro args chs pp r' chs' nk hs hp;simp only[zn,zf]at hs;obtain⟨rfl,rfl,rfl,rfl⟩:=hs;obtain⟨rfl,rfl⟩:=hp;refine⟨h,⟨fun k c hm=>.inr ⟨c,hm⟩,fun k cs hm=>⟨cs,hm⟩,hr,fun k c hm=>?_⟩⟩;simp only[chW,zl,zA,or_false,zf]at hm;obtain⟨rfl,rfl⟩:=hm
 simp[gm,dF,dF.keysIns])
theorem Cq (l:List UInt8):FC Tryz.prog 125 [.sl 3 (xQ jt 3 12),.fn (.func 126) [] [.ptr 100000 0]] (chW l) (enc (kUp l 12)) (chW l):=by
 refine dD [100000] is125 (by simp) (by simp[chW,bk]) (by simp[chW,an,ag,av]) (by simp[chW,an,ag,av]) (by simp[chW,aB,lk]) (fun cx _ hl _=>dC [] 800 ?_);have hkl:(xQ jt 3 12).length=12:=rfl;have hkw:=CI;generalize xQ jt 3 12=K at *;delta c125 oM oS oK oV oX o4;simp (maxSteps:=9^7) -implicitDefEqProofs only[Bq,chW,hkl,WU,V,W3,↓reduceIte,seval,reduceCtorEq];refine eN 12 (fun i=>[(8,.s (.int .i64 (i:Int)))]) (fun _=>[]) (fun i=>∀ j,j < i->xn.getD j []≠l) (fun j hj=>by omega) ?_ (fun i hi hv=>?_)
 . simp (maxSteps:=9^7) -implicitDefEqProofs only[V,W3,↓reduceIte,seval,reduceCtorEq]
 . by_cases hlt:i < 12
   . have hi2:=eq_true (show (i:Int) < 12 by omega);have hi0:(0:Int)<=i:=by omega
     obtain⟨b,f,hw⟩:=hkw i hlt;have hclo:=clo126 l (xn.getD i []) b f;refine dC [entW 126 l _ _ (by exact trivial) hclo] 800 ?_;by_cases hq:xn.getD i []=l
     . have hk:=Bz hq 12 hlt (zw _);delta Be oO oN oA oM oR oS oK oI oX oB o5;simp (maxSteps:=9^7) -implicitDefEqProofs only[Bq,hi2,hi0,hlt,hw,hkl,entW,chW,hq,hk,InR,WU,V,W3,↓reduceIte,seval,reduceCtorEq]
     . delta Be oO oN oA oM oR oS oK oI oX oB o5;simp (maxSteps:=9^7) -implicitDefEqProofs only[Bq,hi2,hi0,hlt,hw,hkl,entW,chW,hq,InR,WU,V,W3,↓reduceIte,seval,reduceCtorEq];exact⟨⟨by omega,by omega⟩,fun j hj=>(by rcases Nat.lt_succ_iff_lt_or_eq.1 hj with h | rfl;exact hv j h;exact hq),by omega⟩
   . have hie:i=12:=by omega
     subst hie;have hk:=Cc 12 hv;refine dC [] 800 ?_;delta Be oO oN oA oM oR oS oK oI oX oB o5;simp (maxSteps:=9^7) -implicitDefEqProofs only[Bq,chW,hk,WU,V,W3,↓reduceIte,seval,reduceCtorEq]
def xG (k:Int) (r:List (List UInt8)):Option T3:=
 if iN k=true then (match r with
  |[a,b]=>(xh a).bind fun x=>(xh b).map fun y=>⟨k,x,y⟩
  |_=>none)
 else (match r with
  |[a]=>(xh a).map fun x=>⟨k,x,0⟩
  |_=>none)
def peO (l:List UInt8):Option T3:=if kUp ((xg 32 l).headD []) 12 < 0 then none else xG (kUp ((xg 32 l).headD []) 12) (xg 32 l).tail
def peC (o:Option T3):C:=.tup [enc (o.getD ⟨0,0,0⟩),enc (if o.isSome=true then (0:Int)else 7)]
def yU (k:Int) (o:Option (List Int)):Option T3:=match o with
 | none=>none
 | some p=>if iN k=true then (if p.length=2 then some ⟨k,p.getD 0 0,p.getD 1 0⟩else none)else (if p.length=1 then some ⟨k,p.getD 0 0,0⟩else none)
theorem B5 (l:List UInt8):xg 32 l=(xy l).1 :: (if x5 l=true then xg 32 (xy l).2 else []):=by
 rcases Aa l 32 with⟨h1,h2⟩ | ⟨j,h1,h2,h3,h4⟩
 . rw[xP h2];simp[xy,x5,h1]
 . have hm:=xU (l:=l) (c:=32) (f:=0) (n:=j) (fun k _ b=>h4 k (by omega));have e0:=xA (l:=l) (c:=32) (f:=0) (i:=j) (yF _) h2 h3;simp only[yB,Nat.sub_zero]at hm e0;have e:xg 32 l=l.take j :: xg 32 (l.drop (j+1)):=(congrArg _ e0).trans (xM hm);have hj:¬ (j:Int)=-1:=by omega
   rw[e];simp[xy,x5,h1,hj]
theorem args_eq (k:Int) (l:List UInt8):yU k (xl (xy l).2)=xG k (xg 32 l).tail:=by
 rw[B5 l,List.tail_cons];have hn0:xh []=none:=rfl;cases hb:x5 l
 . have h2:(xy l).2=[]:=by
    unfold x5 at hb;unfold xy;rw[if_pos (by simpa using hb)]
   rw[h2];simp[xl,yU,xG]
 . rw[if_pos rfl];generalize (xy l).2=q;by_cases hq:q=[]
   . subst hq;simp[xl,yU,xG,xg,hn0]
   . rw[xl,if_neg hq];have hne:=xV 32 q;generalize xg 32 q=ws at *
     match ws,hne with
     |[a],_=>
      cases ha:xh a <;> simp[xN,yU,xG,ha]
     |[a,b],_=>
      cases ha:xh a <;> cases hb:xh b <;> simp[xN,yU,xG,ha,hb]
     | a :: b :: c :: r,_=>
      have hE:xG k (a :: b :: c :: r)=none:=by unfold xG;split <;> rfl
      rw[hE];cases hA:xN (a :: b :: c :: r)with
      | none=>rfl
      | some p=>
       have hp:=AW _ _ hA;simp only[zQ]at hp;have h1:¬ p.length=1:=by omega
       have h2:¬ p.length=2:=by omega
       simp[yU,h1,h2]
theorem Dp (w:List UInt8):(xy w).1.length<=w.length/\(xy w).2.length<=w.length:=by
 unfold xy;split
 . exact⟨zw _,yF _⟩
 . exact⟨by simp[List.length_take];omega,by simp⟩
theorem pe_k (W:List UInt8) (k:Int) (p:List Int) (hx:0<=k/\k<=11) (cx:Cx):SG Tryz.prog cx (cB [RV.cell 2 true 3,RV.tmp 3] [] (peC (yU k (some p))) []) [It.c F1.c81k1.cut] ⟨[(2,.ptr 2 0),(7,.s (.int .i64 k)),(8,.sl 1 (p.map Dat.cells))],[(4,.box [.s (.string (mkB W))]),(2,.box [.s (.int .i64 0),.s (.int .i64 0),.s (.int .i64 0)])]⟩:=by
 have glq:=glk;unfold Glob.gl at glq;refine iw ?_;delta F1.c81k1 oO oN oA oM oT oG oR oS oK oF oL oV oW oX oP oD o1 o3 o5;refine dC [] 900 ?_;by_cases hc:iN k=true
 . have hk:k=3\/k=10:=by simpa[iN]using hc
   unfold yU;simp only[hc,if_true];by_cases h2:p.length=2
   . obtain⟨a,b,rfl⟩:∃ a b,p=[a,b]:=by
      match p,h2 with
      |[a,b],_=>exact⟨a,b,rfl⟩
     rcases hk with rfl | rfl
     all_goals
      simp (maxSteps:=9^7) -implicitDefEqProofs only[F1.rv81,glq,jt,peC,dY,zt,zR,zQ,yh,yw,yB,yc,zN,Option.isSome_some,InR,not_true_eq_false,not_false_eq_true,WU,V,W3,↓reduceIte,seval,reduceCtorEq];refine kI [] 800 ?_;simp (maxSteps:=9^7) -implicitDefEqProofs only[drM,mFin,kx,lz,ib,reM,iu,gV,gK,ndE,an,ag,av,aU,aF,zQ,yh,WU,V,W3,↓reduceIte,seval,reduceCtorEq];refine dC [] 400 ?_;simp (maxSteps:=9^7) -implicitDefEqProofs only[F1.rv81,peC,dY,zN,Option.isSome_some,WU,V,W3,↓reduceIte,seval,reduceCtorEq]
     all_goals (try trace_state)
   . have h2':¬ (p.length:Int)=2:=by omega
     simp only[h2,if_false];rcases hk with rfl | rfl
     all_goals
      simp (maxSteps:=9^7) -implicitDefEqProofs only[F1.rv81,h2',glq,jt,peC,dY,zy,yw,yB,yc,zN,Option.isSome_some,Option.getD_none,Option.isSome_none,InR,not_true_eq_false,not_false_eq_true,WU,V,W3,↓reduceIte,seval,reduceCtorEq]
     all_goals (try trace_state)
 . have hk:k≠3/\k≠10:=by simpa[iN]using hc
   unfold yU;simp only[hc,if_false];by_cases h1:p.length=1
   . obtain⟨a,rfl⟩:∃ a,p=[a]:=by
      match p,h1 with
      |[a],_=>exact⟨a,rfl⟩
     rcases oq hx with k | k | k | k | k | k | k | k | k | k | k | k <;> subst k <;> first | exact absurd rfl hk.1 | exact absurd rfl hk.2 | skip
     all_goals
      simp (maxSteps:=9^7) -implicitDefEqProofs only[F1.rv81,glq,jt,peC,dY,zt,zR,zQ,yh,yw,yB,yc,zN,Option.isSome_some,InR,not_true_eq_false,not_false_eq_true,WU,V,W3,↓reduceIte,seval,reduceCtorEq]
     all_goals (try trace_state)
   . have h1':¬ (p.length:Int)=1:=by omega
     simp only[h1,if_false];rcases oq hx with k | k | k | k | k | k | k | k | k | k | k | k <;> subst k <;> first | exact absurd rfl hk.1 | exact absurd rfl hk.2 | skip
     all_goals
      simp (maxSteps:=9^7) -implicitDefEqProofs only[F1.rv81,h1',glq,jt,peC,dY,zy,yw,yB,yc,zN,Option.isSome_some,Option.getD_none,Option.isSome_none,InR,not_true_eq_false,not_false_eq_true,WU,V,W3,↓reduceIte,seval,reduceCtorEq]
     all_goals (try trace_state)
theorem BU (s:ByteArray) (hs:s.size<=50000):FC Tryz.prog 81 [enc s] [] (peC (peO s.data.toList)) []:=by
 have hs6:s.size<=1000000:=by omega
 obtain⟨d1,d2⟩:=Dp s.data.toList;rw[xm]at d1 d2;have hae:=fun k=>args_eq k s.data.toList
 have hhd:(xg 32 s.data.toList).headD []=(xy s.data.toList).1:=by rw[B5];rfl
 unfold peO;rw[hhd,<- hae];have hsp:(⟨#[32]⟩:ByteArray)=xL:=rfl;have glq:=glk;unfold Glob.gl at glq;refine dD [] F1.is81 (by simp) (by simp[bk]) (by simp[an,ag]) (by simp[an,ag]) (by simp[aB]) (fun cx _ hl _=>dC [CP] 1500 ?_);delta F1.c81 oO oN oA oM oG oS oK oV oC oW oI oX oH oB oD o3 o8;simp (maxSteps:=9^7) -implicitDefEqProofs only[F1.rv81,CP,hsp,hs6,not_true_eq_false,not_false_eq_true,WU,Ent.of2,V,W3,↓reduceIte,seval,reduceCtorEq];generalize (xy s.data.toList).1=W at *;generalize (xy s.data.toList).2=R at *;generalize x5 s.data.toList=B at *;have hrs:(mkB R).size<=100000:=by rw[xo];omega
 have hI:=Cq W;have hkr:=BA W 12;refine py rfl (OpM.sliceRef (e:=169) (sz:=3) (len:=12) (cs:=jt) (by kernel_rfl) (by kernel_rfl) rfl rfl (by decide)) (fun ef he=>?_);subst he;refine nz [entW 125 W _ _ (by exact trivial) hI,xI] 1500 ?_;cases hp:xl R with
 | none=>
  have hE:(if kUp W 12 < 0 then none else yU (kUp W 12) none)=none:=by split <;> rfl
  rw[hE];simp (maxSteps:=9^7) -implicitDefEqProofs only[F1.rv81,entW,chW,xI,xw,hrs,hp,peC,dY,xi,Option.getD_none,Option.isSome_none,InR,not_true_eq_false,not_false_eq_true,WU,Ent.of1,V,W3,↓reduceIte,seval,reduceCtorEq];split <;> trivial
 | some p=>
  by_cases hk0:kUp W 12 < 0
  . rw[if_pos hk0];simp (maxSteps:=9^7) -implicitDefEqProofs only[F1.rv81,entW,chW,xI,xw,hrs,hp,hk0,peC,dY,xi,Option.getD_none,Option.isSome_none,zN,Option.isSome_some,InR,not_true_eq_false,not_false_eq_true,WU,Ent.of1,V,W3,↓reduceIte,seval,reduceCtorEq]
  rw[if_neg hk0];have hfin:=pe_k W (kUp W 12) p (by omega);simp (maxSteps:=9^7) -implicitDefEqProofs only[F1.rv81,entW,chW,xI,xw,hrs,hp,hk0,xi,zN,Option.isSome_some,InR,not_true_eq_false,not_false_eq_true,WU,Ent.of1,V,W3,↓reduceIte,seval,reduceCtorEq];exact hfin cx
theorem Cg (o:Option T3):dF [] (peC o):=by
 unfold peC;exact⟨by rw[dY];simp[dF,dF.keysIns],trivial,trivial⟩
theorem re_k (w0:List UInt8) (r:List (List UInt8)) (k:Int) (hk:-1<=k) (hr:∀ w∈r,w.length<=100000) (hl:r.length<=100000) (cx:Cx):SG Tryz.prog cx (cB [RV.cell 2 true 3,RV.tmp 3] [] (peC (if k < 0 then none else xG k r)) []) [It.c F2.c83k2.cut] ⟨[(2,.ptr 2 0),(4,.ptr 4 0),(5,.s (.int .i64 7)),(6,.sl 1 ([C.s (.string (mkB w0))] :: (r.map mkB).map Dat.cells)),(7,.s (.int .i64 k))],[(4,.box [.s (.int .i64 0),.s (.int .i64 0),.s (.int .i64 0)]),(2,.box [.s (.int .i64 0),.s (.int .i64 0),.s (.int .i64 0)])]⟩:=by
 refine iw ?_;delta F2.c83k2 oO oN oA oM oG oR oS oK oF oL oV oC oW oI oX oP oH oB oD o3 o5 o8;by_cases hk0:k < 0
 . rw[if_pos hk0];refine dC [] 900 ?_;simp (maxSteps:=9^7) -implicitDefEqProofs only[F2.rv83,hk0,peC,dY,Option.getD_none,Option.isSome_none,InR,not_true_eq_false,not_false_eq_true,WU,V,W3,↓reduceIte,seval,reduceCtorEq]
 rw[if_neg hk0];by_cases hc:iN k=true
 . by_cases h2:r.length=2
   . obtain⟨a,b,rfl⟩:∃ a b,r=[a,b]:=by
      match r,h2 with
      |[a,b],_=>exact⟨a,b,rfl⟩
     have ha:=hr a (by simp);have hb:=hr b (by simp);have ha6:(mkB a).size<=1000000:=by rw[xo];omega
     have hb6:(mkB b).size<=1000000:=by rw[xo];omega
     unfold xG;simp only[hc,if_true];refine dC [xB,xW] 900 ?_;cases hA:xh a with
     | none=>
      simp (maxSteps:=9^7) -implicitDefEqProofs only[F2.rv83,xB,xW,hk0,hc,ha6,hA,xi,peC,dY,zt,zR,zQ,yh,Option.getD_none,Option.isSome_none,Option.bind_none,InR,not_true_eq_false,not_false_eq_true,WU,Ent.of1,Ent.of2,V,W3,↓reduceIte,seval,reduceCtorEq]
      try trace_state
     | some x=>
      cases hB:xh b with
      | none=>
       simp (maxSteps:=9^7) -implicitDefEqProofs only[F2.rv83,xB,xW,hk0,hc,ha6,hb6,hA,hB,xi,peC,dY,zt,zR,zQ,yh,Option.getD_none,Option.isSome_none,zN,Option.isSome_some,Option.bind_some,Option.map_none,InR,not_true_eq_false,not_false_eq_true,WU,Ent.of1,Ent.of2,V,W3,↓reduceIte,seval,reduceCtorEq]
       try trace_state
      | some y=>
       simp (maxSteps:=9^7) -implicitDefEqProofs only[F2.rv83,xB,xW,hk0,hc,ha6,hb6,hA,hB,xi,peC,dY,zt,zR,zQ,yh,Option.getD_none,Option.isSome_none,zN,Option.isSome_some,Option.bind_some,zU,InR,not_true_eq_false,not_false_eq_true,WU,Ent.of1,Ent.of2,V,W3,↓reduceIte,seval,reduceCtorEq]
       try trace_state
   . have hE:xG k r=none:=by
      unfold xG;rw[if_pos hc];split
      . exact absurd rfl h2
      . rfl
     rw[hE];have h2':¬ ((r.length+1:Nat):Int)=3:=by omega
     refine dC [xB] 900 ?_;simp (maxSteps:=9^7) -implicitDefEqProofs only[F2.rv83,xB,hk0,hc,h2',peC,dY,zt,zy,zQ,Option.getD_none,Option.isSome_none,InR,not_true_eq_false,not_false_eq_true,WU,Ent.of1,V,W3,↓reduceIte,seval,reduceCtorEq]
     try trace_state
 . have hc':iN k=false:=by simpa using hc
   by_cases h1:r.length=1
   . obtain⟨a,rfl⟩:∃ a,r=[a]:=by
      match r,h1 with
      |[a],_=>exact⟨a,rfl⟩
     have ha:=hr a (by simp);have ha6:(mkB a).size<=1000000:=by rw[xo];omega
     unfold xG;simp only[hc,if_false];refine dC [xB,xW] 900 ?_;cases hA:xh a with
     | none=>
      simp (maxSteps:=9^7) -implicitDefEqProofs only[F2.rv83,xB,xW,hk0,hc',ha6,hA,xi,peC,dY,zt,zR,zQ,yh,Option.getD_none,Option.isSome_none,Option.map_none,InR,not_true_eq_false,not_false_eq_true,WU,Ent.of1,Ent.of2,V,W3,↓reduceIte,seval,reduceCtorEq]
      try trace_state
     | some x=>
      simp (maxSteps:=9^7) -implicitDefEqProofs only[F2.rv83,xB,xW,hk0,hc',ha6,hA,xi,peC,dY,zt,zR,zQ,yh,Option.getD_none,Option.isSome_none,zN,Option.isSome_some,zU,InR,not_true_eq_false,not_false_eq_true,WU,Ent.of1,Ent.of2,V,W3,↓reduceIte,seval,reduceCtorEq]
      try trace_state
   . have hE:xG k r=none:=by
      unfold xG;rw[if_neg hc];split
      . exact absurd rfl h1
      . rfl
     rw[hE];have h2':¬ ((r.length+1:Nat):Int)=2:=by omega
     refine dC [xB] 900 ?_;simp (maxSteps:=9^7) -implicitDefEqProofs only[F2.rv83,xB,hk0,hc',h2',peC,dY,zt,zy,zQ,Option.getD_none,Option.isSome_none,InR,not_true_eq_false,not_false_eq_true,WU,Ent.of1,V,W3,↓reduceIte,seval,reduceCtorEq]
     try trace_state
theorem BM (s:ByteArray) (hs:s.size<=50000):FC Tryz.prog 83 [enc s] [] (peC (peO s.data.toList)) []:=by
 have h32:UInt8.ofNat 32=32:=rfl;have hs6:s.size<=1000000:=by omega
 obtain⟨d1,d2⟩:=x8 32 s.data.toList;rw[xm]at d1 d2;have hcb:yT 32 s=(xg 32 s.data.toList).map mkB:=rfl;have hne:=xV 32 s.data.toList;unfold peO;obtain⟨w0,r,hw⟩:∃ h r,xg 32 s.data.toList=h :: r:=by
  cases hq:xg 32 s.data.toList with
  | nil=>exact absurd hq hne
  | cons h r=>exact⟨h,r,rfl⟩
 rw[hw]at hcb d1 d2 ⊢;simp only[yc,List.tail_cons];rw[zQ]at d1;have hfin:=re_k w0 r (kUp w0 12) (BA w0 12).1 (fun w h=>by have:=d2 w (by simp[h]);omega) (by omega);have hwn:Ar.length=12:=rfl;refine dD [] F2.is83 (by simp) (by simp[bk]) (by simp[an,ag]) (by simp[an,ag]) (by simp[aB]) (fun cx _ hl _=>dC [yO] 1500 ?_);delta F2.c83 oO oA oM oS oK oV oC oW oX o3;simp (maxSteps:=9^7) -implicitDefEqProofs only[F2.rv83,yO,h32,hs6,hcb,InR,not_true_eq_false,not_false_eq_true,WU,V,W3,↓reduceIte,seval,reduceCtorEq];refine eN 12 (fun i=>[(8,.s (.int .i64 (i:Int))),(7,.s (.int .i64 (kUp w0 i)))]) (fun _=>[]) (fun _=>True) trivial ?_ (fun i hi _=>?_)
 . simp (maxSteps:=9^7) -implicitDefEqProofs only[kUp,V,W3,↓reduceIte,seval,reduceCtorEq]
   all_goals simp
 . by_cases hlt:i < 12
   . have hi2:=eq_true (show (i:Int) < 12 by omega);have hi0:(0:Int)<=i:=by omega
     have hwa:=Cz hlt [C.s (.string ⟨#[]⟩)];have hmk:=Db (xn.getD i []) w0;refine dC [y9] 800 ?_;by_cases hq:xn.getD i []=w0
     . have hk:kUp w0 (i+1)=(i:Int):=by rw[kUp,if_pos hq]
       rw[hq]at hwa;delta F2.c83l1 oO oN oA oM oT oR oQ oS oK oL oC oI oX oB o4;simp (maxSteps:=9^7) -implicitDefEqProofs only[F2.rv83,y9,hi2,hi0,hlt,hwn,hwa,zt,zy,InR,WU,Ent.of0,V,W3,↓reduceIte,seval,reduceCtorEq];exact⟨by omega,⟨by omega,by omega⟩,hk.symm,by omega⟩
     . have hk:kUp w0 (i+1)=kUp w0 i:=by rw[kUp,if_neg hq]
       have hmk':(mkB (xn.getD i [])=mkB w0)=False:=by rw[hmk];exact eq_false hq
       delta F2.c83l1 oO oN oA oM oT oR oQ oS oK oL oC oI oX oB o4;simp (maxSteps:=9^7) -implicitDefEqProofs only[F2.rv83,y9,hi2,hi0,hlt,hwn,hwa,hmk',zt,zy,InR,WU,Ent.of0,V,W3,↓reduceIte,seval,reduceCtorEq];exact⟨by omega,⟨by omega,by omega⟩,hk.symm,by omega⟩
   . have hie:i=12:=by omega
     subst hie;refine dC [y9] 800 ?_;delta F2.c83l1 oO oN oA oM oT oR oQ oS oK oL oC oI oX oB o4;simp (maxSteps:=9^7) -implicitDefEqProofs only[F2.rv83,y9,hwn,zy,WU,Ent.of0,V,W3,↓reduceIte,seval,reduceCtorEq];exact hfin cx
theorem CO (v:Int):xj (Lib.itoa v)=Lib.decDigits v.natAbs:=by
 by_cases hv:v < 0
 . have hi:Lib.itoa v=45 :: Lib.decDigits v.natAbs:=by rw[Lib.itoa,if_pos hv]
   rw[xj,hi];rfl
 . have hi:Lib.itoa v=Lib.decDigits v.toNat:=by rw[Lib.itoa,if_neg hv]
   have hdg:=An _ _ (zw v.toNat);have h45:¬ (Lib.itoa v).head? = some 45:=by
    rw[hi];intro e;cases hq:Lib.decDigits v.toNat with
    | nil=>exact Ao _ hq
    | cons b r=>
     rw[hq]at e hdg;have e:b=45:=by simpa using e
     subst e;simp[xt]at hdg
   rw[xj,if_neg h45,hi,show v.toNat=v.natAbs by omega]
theorem AJ {v:Int} (h:-1<=v/\v<=1000000000):xh (Lib.itoa v)=some v:=by
 refine Cb ?_;rw[CO];exact Ac 9 _ (by omega)
theorem By {v:Int} {c:UInt8} (h1:xt c=false) (h2:c≠45):∀ b∈Lib.itoa v,b≠c:=by
 intro b hb e;subst e;have hd:∀ u,b∈Lib.decDigits u->False:=fun u hu=>by
  have:=zx.1 (An u u (zw _)) b hu;rw[h1]at this;cases this
 rw[Lib.itoa]at hb;split at hb
 . rcases zl.1 hb with e | hb
   . exact h2 e
   . exact hd _ hb
 . exact hd _ hb
theorem Au (c:UInt8):∀ (r:List (List UInt8)) (x:List UInt8),(∀ w∈x :: r,∀ b∈w,b≠c)->xg c (Lib.join (x :: r) [c])=x :: r
 |[],x,h=>by rw[Lib.join_one,xP (h x zq)]
 | y :: r,x,h=>by
  have e:Lib.join (x :: y :: r) [c]=x++c :: Lib.join (y :: r) [c]:=by
   rw[Lib.join_cons,Lib.join_cons];rfl
  rw[e,xM (h x zq),Au c r y (fun w hw=>h w (zo _ hw))]
def smI (l:List Int):Prop:=∀ x∈l,-1<=x/\x<=1000000000
theorem BF : ∀ (l:List Int),smI l->xN (l.map Lib.itoa)=some l
 |[],_=>rfl
 | g :: l,h=>by
  rw[zt,xN,AJ (h g zq),BF l (fun x hx=>h x (zo _ hx))];rfl
theorem Ay (l:List Int):(ki l).data.toList=Lib.join (l.map Lib.itoa) [32]:=by
 show Lib.join ((l.map jh).map (·.data.toList)) [32]=_
 rw[zT];rfl
theorem join_ne {x:List UInt8} {r:List (List UInt8)} {s:List UInt8} (h:x≠[]):Lib.join (x :: r) s≠[]:=by
 rw[Lib.join_cons];cases x with
 | nil=>exact absurd rfl h
 | cons b x=>simp
theorem itoa_ne (v:Int):Lib.itoa v≠[]:=by
 rw[Lib.itoa];split
 . simp
 . exact Ao _
theorem Bn (l:List Int) (h:smI l):xl (ki l).data.toList=some l:=by
 rw[Ay];cases l with
 | nil=>rfl
 | cons x l=>
  rw[zt,xl,if_neg (join_ne (itoa_ne x)),Au 32 _ _ (fun w hw=>by
   rw[<- zt]at hw;obtain⟨v,_,rfl⟩:=zu.1 hw
   exact By (by decide) (by decide))]
  exact BF (x :: l) h
theorem AL {b:UInt8} {s:List UInt8}:∀ {xs:List (List UInt8)},b∈Lib.joinTail s xs->b∈s\/∃ x∈xs,b∈x
 |[],h=>by simp[Lib.joinTail]at h
 | x :: xs,h=>by
  have e:Lib.joinTail s (x :: xs)=(s++x)++Lib.joinTail s xs:=by simp[Lib.joinTail]
  rw[e,zW,zW]at h;rcases h with (h | h) | h
  . exact .inl h
  . exact .inr ⟨x,zq,h⟩
  . rcases AL h with q | ⟨y,hy,q⟩
    . exact .inl q
    . exact .inr ⟨y,zo _ hy,q⟩
theorem Dt {b:UInt8} {s:List UInt8} {xs:List (List UInt8)} (h:b∈Lib.join xs s):b∈s\/∃ x∈xs,b∈x:=by
 cases xs with
 | nil=>simp[Lib.join]at h
 | cons x xs=>
  rw[Lib.join_cons,zW]at h;rcases h with h | h
  . exact .inr ⟨x,zq,h⟩
  . rcases AL h with q | ⟨y,hy,q⟩
    . exact .inl q
    . exact .inr ⟨y,zo _ hy,q⟩
theorem Ce (l:List Int):∀ b∈(ki l).data.toList,b≠124:=by
 intro b hb;rw[Ay]at hb;rcases Dt hb with h | ⟨x,hx,h⟩
 . simp at h;subst h;decide
 . obtain⟨v,_,rfl⟩:=zu.1 hx;exact By (by decide) (by decide) b h
theorem Bd : ∀ (bs:List (List Int)),(∀ l∈bs,smI l)->yN (bs.map fun l=>(ki l).data.toList)=some bs
 |[],_=>rfl
 | l :: bs,h=>by
  rw[zt,yN,Bn l (h l zq),Bd bs (fun x hx=>h x (zo _ hx))];rfl
theorem CK {n:Nw} {m:Ms} (net:NetOk n) (g:dP n m):psO (fmtS m).data.toList=some m:=by
 have e1:(fmtS m).data.toList=Lib.join ((ki (mC m)).data.toList :: m.buf.map fun l=>(ki l).data.toList) [124]:=by
  show Lib.join ((fk m).map (·.data.toList)) [124]=_
  rw[fk,zt,zT];rfl
 have hc:xg 124 (fmtS m).data.toList=(ki (mC m)).data.toList :: m.buf.map fun l=>(ki l).data.toList:=by
  rw[e1]
  exact Au 124 _ _ (fun w hw=>by
   rcases zl.1 hw with rfl | hw
   . exact Ce _
   . obtain⟨l,_,rfl⟩:=zu.1 hw
     exact Ce _)
 have h1:=net.len;have h2:m.buf.length=n.cells.length:=g.len;have hne:(m.buf.map fun l=>(ki l).data.toList)≠[]:=fun q=>by
  have:=congrArg List.length q;rw[zy,yh]at this;omega
 have hc2:∀ c,isC n c=true->0<=c/\c<=5:=fun c hc=>by
  simp only[isC,decide_eq_true_eq]at hc;omega
 have h9:smI (mC m):=by
  have a1:=g.at_;have a2:=g.since;have a3:=g.phase;have a4:=hc2 _ g.srv;have a5:-1<=m.target/\m.target<=5:=by
   by_cases q:m.target=-1
   . omega
   . have:=hc2 _ (g.tgt q);omega
  have a6w:-1<=m.source/\m.source<=5:=by
   by_cases q:m.source=-1
   . omega
   . have:=hc2 _ (g.src q);omega
  have a7w:=hc2 _ g.pth;have a8w:=g.fresh;have a9:=g.got;intro x hx;simp only[mC,zl,zA,or_false]at hx;rcases hx with rfl | rfl | rfl | rfl | rfl | rfl | rfl | rfl | rfl <;> omega
 have hb:∀ l∈m.buf,smI l:=fun l hl x hx=>by
  have:=g.rng x (List.mem_flatten.2 ⟨l,hl,hx⟩);have:=g.fresh;omega
 unfold psO;rw[hc,yc,List.tail_cons,psF,Bn _ h9];have hl9:(mC m).length=9:=rfl;simp only[hl9,ne_eq,not_true_eq_false,hne,or_self,if_false];rw[Bd _ hb];rfl
theorem word_no : ∀ k,k < 12->∀ b∈xn.getD k [],b≠32:=by
 have:∀ k:Fin 12,∀ b∈xn.getD k.1 [],b≠32:=by decide
 exact fun k hk=>this ⟨k,hk⟩
theorem CG {n:Nw} {e:T3} (net:NetOk n) (h:evE n e=0):peO (xJ e).data.toList=some e:=by
 obtain⟨x,y,z⟩:=e;obtain⟨hx,hy,hcz⟩:=ev_ok h;simp only at hx hy hcz;have hl:=net.len;obtain⟨k,rfl⟩:∃ k:Nat,x=(k:Int):=⟨x.toNat,by omega⟩;have hk:k < 12:=by omega
 have e1:(xJ ⟨(k:Int),y,z⟩).data.toList=Lib.join (xn.getD k [] :: (xC ⟨(k:Int),y,z⟩).map Lib.itoa) [32]:=by
  rw[xJ,if_pos hx,ByteArray.data_append,ByteArray.data_append,Array.toList_append,Array.toList_append,Ay,z5,xi];have:∃ v r,xC ⟨(k:Int),y,z⟩=v :: r:=by unfold xC;split <;> exact⟨_,_,rfl⟩
  obtain⟨v,r,hv⟩:=this;rw[hv,zt,Lib.join_cons,Lib.join_cons];simp[Lib.joinTail]
 have e2:xg 32 (xJ ⟨(k:Int),y,z⟩).data.toList=xn.getD k [] :: (xC ⟨(k:Int),y,z⟩).map Lib.itoa:=by
  rw[e1]
  exact Au 32 _ _ (fun w hw=>by
   rcases zl.1 hw with rfl | hw
   . exact word_no k hk
   . obtain⟨v,_,rfl⟩:=zu.1 hw
     exact By (by decide) (by decide))
 have hu:=Bz (l:=xn.getD k []) (i:=k) rfl 12 hk (zw _);have hy1:=AJ (v:=y) (by omega);unfold peO;rw[e2,yc,List.tail_cons,hu,if_neg (by omega)];unfold xG xC;cases hc:iN (k:Int)
 . have hz:z=0:=by
    rcases Classical.em (z=0)with q | q
    . exact q
    . have ht:eM y=true:=by simp only[eM,decide_eq_true_eq];omega
      rw[evE,if_neg (by simp[hx]),if_neg (by simp[ht]),if_neg (by simp[hc]),if_neg q]at h;cases h
   subst hz;simp only[zr,if_false,zt,zR,hy1,zU]
 . have hz:=hcz hc;simp only[isC,decide_eq_true_eq]at hz;have hz1:=AJ (v:=z) (by omega);simp only[if_true,zt,zR,hy1,hz1,Option.bind_some,zU]
end Go.Proofs.YtcbabnbiinkafaaGreatDoor
end
section
open Go Go.Am
open Go.Am.Dat (cells)
namespace Go.Proofs.YtcbabnbiinkafaaGreatDoor
set_option maxHeartbeats 8000000
set_option maxRecDepth 100000
structure Wd where
 e:T3
 t:ByteArray
instance : DatL Wd where
 sz:=4
 agg:=true
 cells w:=[.s (.int .i64 w.e.x),.s (.int .i64 w.e.y),.s (.int .i64 w.e.z),.s (.string w.t)]
 dec | [.s (.int .i64 x),.s (.int .i64 y),.s (.int .i64 z),.s (.string t)]=>some ⟨⟨x,y,z⟩,t⟩ | _=>none
 ok:=by intro l a h;split at h <;> cases h;rfl
 data:=fun a=>rfl
 one:=fun h=>by cases h
 dec_cells:=fun a=>rfl
theorem y6 (w:Wd):enc w=.agg [.s (.int .i64 w.e.x),.s (.int .i64 w.e.y),.s (.int .i64 w.e.z),.s (.string w.t)]:=rfl
def peV (s:ByteArray):T3:=(peO s.data.toList).getD ⟨0,0,0⟩
def peI (s:ByteArray):Int:=if (peO s.data.toList).isSome=true then 0 else 7
def psV (s:ByteArray):Ms:=(psO s.data.toList).getD ms0
def psI (s:ByteArray):Int:=if (psO s.data.toList).isSome=true then 0 else 7
def xX : Ent Tryz.prog:=.of1 81 (fun s=>s.size<=50000) (fun s:ByteArray=>.tup [enc (peV s),enc (peI s)]) (fun s=>Cg _) (fun s h=>BU s h)
def xZ : Ent Tryz.prog:=.of1 83 (fun s=>s.size<=50000) (fun s:ByteArray=>.tup [enc (peV s),enc (peI s)]) (fun s=>Cg _) (fun s h=>BM s h)
def xY : Ent Tryz.prog:=.of1 82 (fun s=>s.size<=50000) (fun s:ByteArray=>.tup [enc (psV s),enc (psI s)]) (fun s=>Ci _) (fun s h=>BV s h)
def x3 : Ent Tryz.prog:=.of1 84 (fun s=>s.size<=50000) (fun s:ByteArray=>.tup [enc (psV s),enc (psI s)]) (fun s=>Ci _) (fun s h=>BN s h)
theorem sm_prt {m:Ms} (h:smB m=true) (h9:∀ x∈mC m,InR .i64 x) (hI:∀ a∈m.buf,∀ b∈a,-9223372036854775808<=b/\b<=9223372036854775807):Prt m/\(fmtS m).size<=50000:=by
 simp only[smB,zm,decide_eq_true_eq,zx]at h;have hr:∀ l∈m.buf,l.length<=64/\∀ x∈l,InR .i64 x:=fun l hl=>⟨h.2 l hl,fun x hx=>by have:=hI l hl x hx;simp only[InR];omega⟩
 refine⟨⟨h9,by omega,fun l hl=>⟨by have:=(hr l hl).1;omega,(hr l hl).2⟩⟩,?_⟩
 have:=sT 1408 ((fk m).map (·.data.toList)) barB.data.toList (fun y hy=>by
  simp only[fk,zt,zT,zl,zu,Function.comp]at hy;rcases hy with rfl | ⟨l,hl,rfl⟩
  . have:(ki (mC m)).data.toList.length<=(mC m).length*22:=nj _ h9;have e:(mC m).length=9:=rfl;omega
  . have h2:=hr l hl;have:(ki l).data.toList.length<=l.length*22:=nj _ h2.2
    omega)
 have e:((fk m).map (·.data.toList)).length=m.buf.length+1:=by simp[fk]
 have e2:barB.data.toList.length=1:=rfl;rw[e,e2]at this;have hl:=h.1;have e3:(fmtS m).data.toList.length<=(m.buf.length+1)*1409:=this;rw[xm]at e3;omega
theorem CY {e:T3} (hy:InR .i64 e.y) (hz:InR .i64 e.z):(xJ e).size<=50000:=by
 rw[xJ];split
 . rename_i h;rw[xR,xR];have h1:=Cm e.x.toNat (by omega);have h2:(ki (xC e)).size<=44:=by
    unfold xC;split
    . exact xE [e.y,e.z] (fun v hv=>by simp only[zl,zA,or_false]at hv;rcases hv with rfl | rfl;exact hy;exact hz)
    . have:=xE [e.y] (fun v hv=>by simp only[zg]at hv;subst hv;exact hy);simp only[zQ,yh]at this;omega
   have h3:(⟨#[32]⟩:ByteArray).size=1:=rfl;omega
 . exact yF _
theorem Dy {n:Nw} {e:T3} (net:NetOk n) (h:evE n e=0):peV (xJ e)=e/\peI (xJ e)=0:=by
 unfold peV peI;rw[CG net h];exact⟨rfl,rfl⟩
theorem Cj {n:Nw} {m:Ms} (net:NetOk n) (g:dP n m):psV (fmtS m)=m/\psI (fmtS m)=0:=by
 unfold psV psI;rw[CK net g];exact⟨rfl,rfl⟩
theorem Cr (haw:Awake) (n:Nw) (m:Ms) (h9:∀ x∈mC m,InR .i64 x) (hI:∀ a∈m.buf,∀ b∈a,-9223372036854775808<=b/\b<=9223372036854775807) (w:Wd) (hy:InR .i64 w.e.y) (hz:InR .i64 w.e.z):FC Tryz.prog 17 [enc n,enc m,enc w] [] (enc true) []:=by
 have hdn:=gO n;have hdm:=Ae m;by_cases hfew:few n=true
 rotate_left
 . have hf:few n=false:=by simpa using hfew
   refine dD [] AI (by simp) (by simp[bk]) (by simp[an,ag]) (by simp[an,ag]) (by simp[aB]) (fun cx _ _ _=>dC [ent21 haw,ent34] 1500 ?_);delta c17 oO oN oA oM oT oG oQ oS oK oF oL oC oW oI oX oH oB oD oE oJ o3 oZ o5 o7 o8 o9;simp (maxSteps:=9^7) -implicitDefEqProofs only[AB,ent21,ent34,ed,kN,y6,hdn,hf,not_true_eq_false,WU,Ent.of0,Ent.of1,V,W3,↓reduceIte,seval,reduceCtorEq]
 by_cases hsm:smB m=true
 rotate_left
 . have hs:smB m=false:=by simpa using hsm
   refine dD [] AI (by simp) (by simp[bk]) (by simp[an,ag]) (by simp[an,ag]) (by simp[aB]) (fun cx _ _ _=>dC [ent21 haw,ent34,xO] 1500 ?_);delta c17 oO oN oA oM oT oG oQ oS oK oF oL oC oW oI oX oH oB oD oE oJ o3 oZ o5 o7 o8 o9;simp (maxSteps:=9^7) -implicitDefEqProofs only[AB,ent21,ent34,xO,ed,kN,y6,hdn,hdm,hfew,hs,not_true_eq_false,WU,Ent.of0,Ent.of1,V,W3,↓reduceIte,seval,reduceCtorEq]
 by_cases hts:(200:Int) < (w.t.size:Int)
 . refine dD [] AI (by simp) (by simp[bk]) (by simp[an,ag]) (by simp[an,ag]) (by simp[aB]) (fun cx _ _ _=>dC [ent21 haw,ent34,xO] 1500 ?_);delta c17 oO oN oA oM oT oG oQ oS oK oF oL oC oW oI oX oH oB oD oE oJ o3 oZ o5 o7 o8 o9;simp (maxSteps:=9^7) -implicitDefEqProofs only[AB,ent21,ent34,xO,ed,kN,y6,hdn,hdm,hfew,hsm,hts,not_true_eq_false,WU,Ent.of0,Ent.of1,V,W3,↓reduceIte,seval,reduceCtorEq]
 have hn:=few_nws hfew;have hm:=sm_msB hsm hI;have hbs:=hm.bs;obtain⟨hp,hfs⟩:=sm_prt hsm h9 hI;have hfe:=CY hy hz;have h68:=CB n w.e hn;have hde:fy (.agg [C.s (.int .i64 w.e.x),.s (.int .i64 w.e.y),.s (.int .i64 w.e.z)])=some w.e:=rfl;have hdz:=Ae (psV w.t);have hs5:w.t.size<=50000:=by omega
 by_cases h0:(eW n).2=0
 rotate_left
 . refine dD [] AI (by simp) (by simp[bk]) (by simp[an,ag]) (by simp[an,ag]) (by simp[aB]) (fun cx _ _ _=>dC [ent21 haw,ent34,xO,yW,yV,yX,xX,xY,xZ,x3,yY,yZ,ent41,ent46] 3000 ?_);delta c17 oO oN oA oM oT oG oQ oS oK oF oL oC oW oI oX oH oB oD oE oJ o3 oZ o5 o7 o8 o9;simp (maxSteps:=9^7) -implicitDefEqProofs only[AB,ent21,ent34,xO,yW,yV,yX,xX,xY,xZ,x3,yY,yZ,ent41,ent46,ed,kN,y6,dY,hdn,hdm,hde,hdz,hn,hbs,hp,hy,hz,hs5,hfew,hsm,hts,h0,not_true_eq_false,not_false_eq_true,WU,Ent.of0,Ent.of1,Ent.of2,V,W3,↓reduceIte,seval,reduceCtorEq]
 have net:=rT h0;have h67:=CE n m hn hm net;by_cases h1:evE n w.e=0
 . obtain⟨b1,b2⟩:=Dy net h1;rw[h1]at h68;by_cases h2:rstE n m=0
   . obtain⟨r1,r2⟩:=Cj net (Cl h2);rw[h2]at h67;refine dD [] AI (by simp) (by simp[bk]) (by simp[an,ag]) (by simp[an,ag]) (by simp[aB]) (fun cx _ _ _=>dC [ent21 haw,ent34,xO,yW,yV,yX,xX,xY,xZ,x3,yY,yZ,ent41,ent46,entX 68 _ _ h68 trivial,entX 67 _ _ h67 trivial] 3000 ?_);delta c17 oO oN oA oM oT oG oQ oS oK oF oL oC oW oI oX oH oB oD oE oJ o3 oZ o5 o7 o8 o9;simp (maxSteps:=9^7) -implicitDefEqProofs only[AB,ent21,ent34,xO,yW,yV,yX,xX,xY,xZ,x3,yY,yZ,ent41,ent46,entX,ed,kN,y6,dY,hdn,hdm,hde,hdz,hn,hbs,hp,hy,hz,hs5,hfew,hsm,hts,h0,b1,b2,r1,r2,hfe,hfs,not_true_eq_false,not_false_eq_true,WU,Ent.of0,Ent.of1,Ent.of2,V,W3,↓reduceIte,seval,reduceCtorEq]
   . refine dD [] AI (by simp) (by simp[bk]) (by simp[an,ag]) (by simp[an,ag]) (by simp[aB]) (fun cx _ _ _=>dC [ent21 haw,ent34,xO,yW,yV,yX,xX,xY,xZ,x3,yY,yZ,ent41,ent46,entX 68 _ _ h68 trivial,entX 67 _ _ h67 trivial] 3000 ?_);delta c17 oO oN oA oM oT oG oQ oS oK oF oL oC oW oI oX oH oB oD oE oJ o3 oZ o5 o7 o8 o9;simp (maxSteps:=9^7) -implicitDefEqProofs only[AB,ent21,ent34,xO,yW,yV,yX,xX,xY,xZ,x3,yY,yZ,ent41,ent46,entX,ed,kN,y6,dY,hdn,hdm,hde,hdz,hn,hbs,hp,hy,hz,hs5,hfew,hsm,hts,h0,b1,b2,h2,hfe,not_true_eq_false,not_false_eq_true,WU,Ent.of0,Ent.of1,Ent.of2,V,W3,↓reduceIte,seval,reduceCtorEq]
 . by_cases h2:rstE n m=0
   . obtain⟨r1,r2⟩:=Cj net (Cl h2);rw[h2]at h67;refine dD [] AI (by simp) (by simp[bk]) (by simp[an,ag]) (by simp[an,ag]) (by simp[aB]) (fun cx _ _ _=>dC [ent21 haw,ent34,xO,yW,yV,yX,xX,xY,xZ,x3,yY,yZ,ent41,ent46,entX 68 _ _ h68 trivial,entX 67 _ _ h67 trivial] 3000 ?_);delta c17 oO oN oA oM oT oG oQ oS oK oF oL oC oW oI oX oH oB oD oE oJ o3 oZ o5 o7 o8 o9;simp (maxSteps:=9^7) -implicitDefEqProofs only[AB,ent21,ent34,xO,yW,yV,yX,xX,xY,xZ,x3,yY,yZ,ent41,ent46,entX,ed,kN,y6,dY,hdn,hdm,hde,hdz,hn,hbs,hp,hy,hz,hs5,hfew,hsm,hts,h0,h1,r1,r2,hfs,not_true_eq_false,not_false_eq_true,WU,Ent.of0,Ent.of1,Ent.of2,V,W3,↓reduceIte,seval,reduceCtorEq]
   . refine dD [] AI (by simp) (by simp[bk]) (by simp[an,ag]) (by simp[an,ag]) (by simp[aB]) (fun cx _ _ _=>dC [ent21 haw,ent34,xO,yW,yV,yX,xX,xY,xZ,x3,yY,yZ,ent41,ent46,entX 68 _ _ h68 trivial,entX 67 _ _ h67 trivial] 3000 ?_);delta c17 oO oN oA oM oT oG oQ oS oK oF oL oC oW oI oX oH oB oD oE oJ o3 oZ o5 o7 o8 o9;simp (maxSteps:=9^7) -implicitDefEqProofs only[AB,ent21,ent34,xO,yW,yV,yX,xX,xY,xZ,x3,yY,yZ,ent41,ent46,entX,ed,kN,y6,dY,hdn,hdm,hde,hdz,hn,hbs,hp,hy,hz,hs5,hfew,hsm,hts,h0,h1,h2,not_true_eq_false,not_false_eq_true,WU,Ent.of0,Ent.of1,Ent.of2,V,W3,↓reduceIte,seval,reduceCtorEq]
end Go.Proofs.YtcbabnbiinkafaaGreatDoor
end
section
open Go Go.Am
open Go.Am.Dat (cells)
namespace Go.Proofs.YtcbabnbiinkafaaGreatDoor
open Go.ChangeShapes Go.WideShapes Go.ChangeAt Go.RowKit
open Go.ChangeMaps (open_string shut_string)
set_option maxRecDepth 100000
theorem yQ {n:Int} (h:-9223372036854775808<=n/\n<=9223372036854775807):InR .i64 n:=by simp only[InR];omega
theorem rEv : ReadsP Tryz.prog 83 T3 (fun e=>InR .i64 e.y/\InR .i64 e.z):=by
 refine⟨by kernel_rfl,by decide,fun en w sp fuel cs x h=>?_⟩;obtain⟨l,a0,p0,e0,h0⟩:=lY rInt Tryz.underlying83 h 0 rfl rfl;obtain⟨_,a1,p1,e1,h1⟩:=lY rInt Tryz.underlying83 h 1 rfl rfl;obtain⟨_,a2,p2,e2,h2⟩:=lY rInt Tryz.underlying83 h 2 rfl rfl;refine⟨⟨a0,a1,a2⟩,⟨yQ p1,yQ p2⟩,rfl,l.trans (by kernel_rfl),fun j c hj=>?_⟩
 match j,hj with
 | 0,hj=>cases hj;exact h0 0 _ rfl
 | 1,hj=>cases hj;exact h1 0 _ rfl
 | 2,hj=>cases hj;exact h2 0 _ rfl
theorem rWd : ReadsP Tryz.prog 124 Wd (fun w=>InR .i64 w.e.y/\InR .i64 w.e.z):=by
 refine⟨by kernel_rfl,by decide,fun en w sp fuel cs x h=>?_⟩;obtain⟨l,a0,p0,e0,h0⟩:=lY rEv Tryz.underlying124 h 0 rfl rfl;obtain⟨_,a1,p1,e1,h1⟩:=lY rStr Tryz.underlying124 h 1 rfl rfl;refine⟨⟨a0,a1⟩,p0,rfl,l.trans (by kernel_rfl),fun j c hj=>?_⟩
 match j,hj with
 | 0,hj=>cases hj;exact h0 0 _ rfl
 | 1,hj=>cases hj;exact h0 1 _ rfl
 | 2,hj=>cases hj;exact h0 2 _ rfl
 | 3,hj=>cases hj;exact h1 0 _ rfl
theorem rLls : ReadsP Tryz.prog 51 (List (List Int)) (fun l=>∀ a∈l,∀ b∈a,-9223372036854775808<=b/\b<=9223372036854775807):=ReadsP.list rInts Tryz.underlying51 (by kernel_rfl)
theorem rMs : ReadsP Tryz.prog 53 Ms (fun m=>(∀ x∈mC m,InR .i64 x)/\∀ a∈m.buf,∀ b∈a,-9223372036854775808<=b/\b<=9223372036854775807):=by
 refine⟨by kernel_rfl,by decide,fun en w sp fuel cs x h=>?_⟩;obtain⟨l,a0,p0,e0,h0⟩:=lY rInt Tryz.underlying53 h 0 rfl rfl;obtain⟨_,a1,p1,e1,h1⟩:=lY rInt Tryz.underlying53 h 1 rfl rfl;obtain⟨_,a2,p2,e2,h2⟩:=lY rInt Tryz.underlying53 h 2 rfl rfl;obtain⟨_,a3,p3,e3,h3⟩:=lY rInt Tryz.underlying53 h 3 rfl rfl;obtain⟨_,a4,p4,e4,h4⟩:=lY rInt Tryz.underlying53 h 4 rfl rfl;obtain⟨_,a5,p5w,e5,h5⟩:=lY rInt Tryz.underlying53 h 5 rfl rfl;obtain⟨_,a6w,p6w,e6,h6⟩:=lY rInt Tryz.underlying53 h 6 rfl rfl;obtain⟨_,a7w,p7w,e7,h7⟩:=lY rInt Tryz.underlying53 h 7 rfl rfl;obtain⟨_,a8w,p8w,e8w,h8⟩:=lY rInt Tryz.underlying53 h 8 rfl rfl;obtain⟨_,a9,p9w,e9w,h9⟩:=lY rLls Tryz.underlying53 h 9 rfl rfl;refine⟨⟨a0,a1,a2,a3,a4,a5,a6w,a7w,a8w,a9⟩,⟨fun x hx=>by simp only[mC,zl,zA,or_false]at hx;rcases hx with rfl | rfl | rfl | rfl | rfl | rfl | rfl | rfl | rfl <;> (first | exact yQ p0 | exact yQ p1 | exact yQ p2 | exact yQ p3 | exact yQ p4 | exact yQ p5w | exact yQ p6w | exact yQ p7w | exact yQ p8w),p9w⟩,rfl,l.trans (by kernel_rfl),fun j c hj=>?_⟩
 match j,hj with
 | 0,hj=>cases hj;exact h0 0 _ rfl
 | 1,hj=>cases hj;exact h1 0 _ rfl
 | 2,hj=>cases hj;exact h2 0 _ rfl
 | 3,hj=>cases hj;exact h3 0 _ rfl
 | 4,hj=>cases hj;exact h4 0 _ rfl
 | 5,hj=>cases hj;exact h5 0 _ rfl
 | 6,hj=>cases hj;exact h6 0 _ rfl
 | 7,hj=>cases hj;exact h7 0 _ rfl
 | 8,hj=>cases hj;exact h8 0 _ rfl
 | 9,hj=>cases hj;exact h9 0 _ rfl
theorem Dv (os:Os) (started:os.Started) (H:Type) (en:TypeId×Value->H) :
 ReturnsInHanded {} Tryz.checked os 17 .any (fun w args=>(Rows.moveTextsSpec.pre en Tryz.prog Tryz.f17 Rows.moveTextsRow.domain false w args/\laidMetH Tryz.prog Rows.moveTextsRow.laid w)/\sizedMet en Tryz.prog Tryz.f17 (OpenSpec.ofChange Rows.moveTextsSpec) false w args)
  (Rows.moveTextsSpec.post en Tryz.prog Tryz.f17 false true false false):=by
 refine returnsInHanded_of_change_and (C:=Tryz.checked) (X:=fun w _=>laidMetH Tryz.prog Rows.moveTextsRow.laid w) (fun _ _ _ hh h=>h.of_heap hh) ownOk started (by kernel_rfl) Tryz.func17
  (ChangeSpec.witness_shaped (enc:=en) (C:=Tryz.checked) (os:=os) (X:=fun w _=>laidMetH Tryz.prog Rows.moveTextsRow.laid w) false (doorW os) #[.agg #[.slice none 0 0,.slice none 0 0,.int .i64 0],.agg #[.int .i64 0,.int .i64 0,.int .i64 0,.int .i64 0,.int .i64 0,.int .i64 0,.int .i64 0,.int .i64 0,.int .i64 0,.slice none 0 0],.agg #[.int .i64 0,.int .i64 0,.int .i64 0,.string ⟨#[]⟩]] 8 rfl (doorShaped os _) (by kernel_rfl) (by kernel_rfl) (by kernel_rfl) (door_met os _)) ?_
 intro W base args ds gs before hval0 hW hcnd hsz hL _;have hval:∀ (j:Nat) t v,Tryz.f17.params[j]? = some t->args[j]? = some v->Value.okWide Tryz.prog W .any base t v:=hval0;have hW':=hW;obtain⟨p,q,hA0,hV,rfl,hfz,hnd⟩:=hW;have hA:DataW.TrodAll en Tryz.prog W 0 (fun _=>true) true Tryz.f17.params.toList args.toList ds p:=hA0;rw[Tryz.params17]at hA hval;obtain⟨v0,vs0,d0w,ds0,p0,q0,hargs,rfl,rfl,h0,r0w⟩:=trodAll_cons hA;obtain⟨v1,vs1,d1,ds1,p1,q1,rfl,rfl,rfl,h1,r1⟩:=trodAll_cons r0w;obtain⟨v2,vs2,d2,ds2,p2,q2,rfl,rfl,rfl,h2,r2⟩:=trodAll_cons r1;obtain⟨rfl,rfl,rfl⟩:=trodAll_nil r2;obtain rfl:args=#[v0,v1,v2]:=by cases args;simp_all
 obtain⟨rfl,rfl⟩:=trodVars_none hV;have lt0:∀ x∈p0,x.block < W.heap.size:=by obtain⟨m,hm⟩:=h0;exact DataW.trod_lt m _ _ _ hm
 have lt1:∀ x∈p1,x.block < W.heap.size:=by obtain⟨m,hm⟩:=h1;exact DataW.trod_lt m _ _ _ hm
 have lt2:∀ x∈p2,x.block < W.heap.size:=by obtain⟨m,hm⟩:=h2;exact DataW.trod_lt m _ _ _ hm
 obtain⟨x0,g0,hx0⟩:=rNw.argS rfl Tryz.underlying47 (hval 0 47 v0 rfl rfl) h0;obtain⟨x1,g1,hx1⟩:=rMs.argS rfl Tryz.underlying53 (hval 1 53 v1 rfl rfl) h1;obtain⟨x2,g2,hx2⟩:=rWd.argS rfl Tryz.underlying124 (hval 2 124 v2 rfl rfl) h2;clear hA0 hval0;refine (law_walkG (Cr awake_c x0 x1 g1.1 g1.2 x2 g2.1 g2.2) (W:=W) (vs:=#[v0,v1,v2]) (glAll hL) rfl (fun j c hj E=>?_)).mono fun e W' ⟨he,bel⟩=>?_
 . match j,hj with
   | 0,hj=>cases hj;exact hx0 E
   | 1,hj=>cases hj;exact hx1 E
   | 2,hj=>cases hj;exact hx2 E
 . subst he;exact⟨_,rfl,_,_,_,[],_,[],hW',trodAll_mk1 (shut_bool Tryz.underlying4 _),(trodAll_cons_mk (Below.trod laidOut (by kernel_rfl) (of_decide_eq_true (by kernel_rfl)) h0 bel lt0) (trodAll_cons_mk (Below.trod laidOut (by kernel_rfl) (of_decide_eq_true (by kernel_rfl)) h1 bel lt1) (trodAll_cons_mk (Below.trod laidOut (by kernel_rfl) (of_decide_eq_true (by kernel_rfl)) h2 bel lt2) trodAll_mk0))),rfl,bel.frame _,fun h=>by cases h⟩
theorem Dr : (Rows.moveTextsRow.inPlace == Tryz.prog.inPlace 17)=true:=by kernel_rfl
theorem jUnf17 : (Rows.moveTextsRow.unfollowed == Tryz.prog.unfollowed 17)=true:=by kernel_rfl
theorem jRec17 : (Rows.moveTextsRow.recurses == Tryz.prog.recurses 17)=true:=by kernel_rfl
theorem Dq : (Rows.moveTextsRow.named == Tryz.prog.varsNamed 17)=true:=by kernel_rfl
theorem jKeys17 : (Rows.moveTextsRow.plainKeys == Tryz.prog.plainKeys)=true:=jKeys
theorem jLift17 : (Rows.moveTextsRow.lifted == Tryz.prog.liftsFinal)=true:=jLift
theorem jMake17 : (Tryz.prog.make == some Rows.moveTextsRow.make)=true:=jMake
theorem jVeil17 : Rows.moveTextsRow.veiledFits Tryz.prog Tryz.f17.params.toList (Tryz.f17.params.toList++Rows.moveTextsSpec.plain.varTypes Tryz.prog++Tryz.f17.resultTypes.toList)=true:=by kernel_rfl
end Go.Proofs.YtcbabnbiinkafaaGreatDoor
end
