/- Part 14 of the proof of: the statements about chapter 8 -/
import Derived.Lib.ItoaLen
import Derived.Test.YtcbabnbiinkafaaGreatDoorRows
import Derived.LaidMore
import Derived.LaidHandle
import Derived.LaidOnce
import Derived.LaidSub
import Derived.Lib.LaidTab
import Derived.OpenShut
import Derived.ChangeMaps5
import Derived.ProofKit
import Derived.Stop.Joined
import Derived.Test.YtcbabnbiinkafaaGreatDoorTie
import Derived.Test.YtcbabnbiinkafaaGreatDoorCards
import Derived.SevenTiedAt
import Derived.Lay
import Derived.Test.YtcbabnbiinkafaaGreatDoorBq13
set_option linter.all false
section
open Go Go.Am
open Go.Am.Dat (cells)
namespace Go.Proofs.YtcbabnbiinkafaaGreatDoor
set_option maxHeartbeats 4000000
set_option maxRecDepth 100000
def jy (n:Nw) (p:Ph):List T3->Ph
 |[]=>p
 | e :: l=>jy n (kL n p e) l
def iW (n:Nw) (m:Ms):List T3->Int->Int×Int
 |[],_=>(0,0)
 | e :: l,i=>if gi n m e=0 then iW n (rg n m e) l (i+1)else (i,gi n m e)
def gk (n:Nw) (c:Int) (log:List T3):Int:=dM [(eW n).2,if isC n c then 0 else 6,if decide (log.length<=200)then 0 else 8]
theorem m6 (n:Nw):∀ (l:List T3) (p:Ph) (e:T3),jy n p (l++[e])=kL n (jy n p l) e
 |[],p,e=>rfl
 | x :: l,p,e=>m6 n l _ e
def uA (n:Nw) (c:Int) (p0:Ph) (h:NwS n) (hp:gz n c=p0):Ent Tryz.prog:=.mk3 107 (fun args chs=>some (args=[enc n,enc c]/\chs=[],.ptr 11 0,phY n p0 11 18,[11,18])) (by
 intro args chs pp r chs' nk hs hq;simp only[zn,zf]at hs;obtain⟨rfl,rfl,rfl,rfl⟩:=hs;obtain⟨rfl,rfl⟩:=hq;subst hp;refine⟨begin_c n c h,⟨fun k c hm=>.inl ?_,fun k cs hm=>(by simp at hm),?_,fun k c hm=>?_⟩⟩
 . simp only[phY,zl,zA,or_false,zf]at hm ⊢;rcases hm with⟨rfl,rfl⟩ | ⟨rfl,rfl⟩
   . exact .inl rfl
   . exact .inr rfl
 . simp[phY,dF]
 . simp only[phY,zl,zA,or_false,zf]at hm;rcases hm with⟨rfl,rfl⟩ | ⟨rfl,rfl⟩
   . simp[phY,gm,phC,dF,dF.keysIns]
   . simp[gm])
theorem p7 (n:Nw) (c:Int) (log:List T3):dM [(eW n).2,if 0<=c/\c<=(n.cells.length:Int) - 1 then 0 else 6,if (log.length:Int)<=200 then 0 else 8]=gk n c log:=by
 unfold gk isC;simp only[decide_eq_true_eq,show ((log.length:Int)<=200)=(log.length<=200) by apply propext;omega]
theorem wR (n:Nw) (c:Int) (log:List T3) (hn:NwS n) (h:gk n c log≠0):FC Tryz.prog 97 [enc n,enc c,enc log] [] (.tup [.s (.pointer none),enc (0:Int),enc (gk n c log)]) []:=by
 have hdn:=gO n;have hb:=hn.c;have hF:=p7 n c log;generalize gk n c log=F at *;refine dD [] is97 (by simp) (by simp[bk]) (by simp[an,ag]) (by simp[an,ag]) (by simp[aB]) (fun cx _ hl _=>dC [jq,eZ,dT,dS] 1500 ?_);delta c97 oO oN oA oM oT oQ oS oK oF oL oV oC oI oX oB o1 o3 o4 o5 o6 o7;simp (maxSteps:=9^7) -implicitDefEqProofs only[rv97,ed,hdn,hn,jq,eZ,dT,dS,InR,not_true_eq_false,WU,Ent.of0,Ent.of1,Ent.of2,Ent.of3,Ent.of4,V,W3,↓reduceIte,seval,reduceCtorEq];refine⟨by omega,?_⟩;rw[hF,if_pos h]
theorem wm (xs:List T3) (i:Nat) (h:i < xs.length):List.getD (xs.map Dat.cells) i [C.s (.int .i64 0),.s (.int .i64 0),.s (.int .i64 0)]=[C.s (.int .i64 (xs.getD i ⟨0,0,0⟩).x),.s (.int .i64 (xs.getD i ⟨0,0,0⟩).y),.s (.int .i64 (xs.getD i ⟨0,0,0⟩).z)]:=by
 rw[zb,zb,zh,ze h];rfl
theorem wj {n:Nw} {c:Int} {log:List T3} (h:dM [(eW n).2,if 0<=c/\c<=(n.cells.length:Int) - 1 then 0 else 6,if (log.length:Int)<=200 then 0 else 8]=0):isC n c=true/\log.length<=200:=by
 by_cases h0:(eW n).2=0
 . by_cases h1:0<=c/\c<=(n.cells.length:Int) - 1
   . by_cases h2:(log.length:Int)<=200
     . exact⟨by simp only[isC,decide_eq_true_eq];exact h1,by omega⟩
     . simp[dM,h0,h1,h2]at h
   . simp[dM,h0,h1]at h
 . simp[dM,h0]at h
theorem sx {n:Nw} {m:Ms} {e:T3} (h:gi n m e=0):evE n e=0:=by
 rcases Classical.em (evE n e=0)with q | q
 . exact q
 . rw[gi,if_pos q]at h;exact h
theorem rZ (n:Nw) (c:Int) (log:List T3) (hn:NwS n) (net:NetOk n) (h:gk n c log=0) (r:C) (ch:Chs)
 (hok:(iW n (eR n c) log 0).2=0->r=.tup [.ptr 34 0,enc (0:Int),enc (0:Int)]/\ch=phY n (finP (jy n (gz n c) log)) 34 1034)
 (her:(iW n (eR n c) log 0).2≠0->r=.tup [.s (.pointer none),enc (iW n (eR n c) log 0).1,enc (iW n (eR n c) log 0).2]/\ch=[])
 (hn1:an (ag ch)) (hkd:aB [] ch):FC Tryz.prog 97 [enc n,enc c,enc log] [] r ch:=by
 have hdn:=gO n;have hb:=hn.c;have hF:=p7 n c log;generalize gk n c log=F at *;subst h;obtain⟨hcc,hlog⟩:=wj hF;refine dD [1034] is97 (by simp) (by simp[bk]) (by simp[an,ag]) hn1 hkd (fun cx _ hl _=>dC [jq,eZ,dT,dS] 1500 ?_);delta c97 oO oN oA oM oT oQ oS oK oF oL oV oC oI oX oB o1 o3 o4 o5 o6 o7;simp (maxSteps:=9^7) -implicitDefEqProofs only[rv97,ed,hdn,hn,jq,eZ,dT,dS,InR,not_true_eq_false,WU,Ent.of0,Ent.of1,Ent.of2,Ent.of3,Ent.of4,V,W3,↓reduceIte,seval,reduceCtorEq];refine⟨by omega,?_⟩;rw[hF,if_neg (fun q=>q rfl)];have g0:=dP.begin net hcc;have b0:PhK 0 (gz n c):=⟨by simp[gz],by simp[gz],by simp[gz],by simp[gz]⟩;have hm0:(gz n c).m=eR n c:=rfl;rw[<- hm0]at g0 hok her;clear hm0;obtain⟨p0,hp0⟩:∃ p0,gz n c=p0:=⟨_,rfl⟩;rw[hp0]at g0 hok her b0;refine nz [uA n c p0 hn hp0] 1500 ?_;simp (maxSteps:=9^7) -implicitDefEqProofs only[rv97,uA,ed,phY,phC,WU,Ent.of0,Ent.of1,Ent.of2,Ent.of3,Ent.of4,V,W3,↓reduceIte,seval,reduceCtorEq];generalize hR:iW n p0.m log 0=R at *;have hS:jy n p0 (log.take 0)=p0:=rfl;obtain⟨pf,hpf⟩:∃ pf:Nat->Ph,∀ i,pf i=jy n p0 (log.take i):=⟨_,fun _=>rfl⟩;have hp00:pf 0=p0:=hpf 0;have hpe:pf log.length=jy n p0 log:=by rw[hpf,yo]
 rw[<- hpe]at hok;refine eN log.length (fun i=>[(37,.s (.int .i64 (i:Int)))]) (fun i=>[(34,.box (phC n (pf i) 1034)),(1034,.deep 1 3 24 none (fP (pf i).m.buf))]) (fun i=>dP n (pf i).m/\PhK i (pf i)/\iW n (pf i).m (log.drop i) (i:Int)=R) ⟨by rw[hp00];exact g0,by rw[hp00];exact b0,by rw[hp00];exact hR⟩ ?_ (fun i hi hv=>?_)
 . simp (maxSteps:=9^7) -implicitDefEqProofs only[phC,hp00,Ent.of0,Ent.of1,Ent.of2,Ent.of3,Ent.of4,V,W3,↓reduceIte,seval,reduceCtorEq]
   all_goals rfl
 . obtain⟨g,b,hv⟩:=hv;by_cases h:i < log.length
   . have hi2:(i:Int) < (log.length:Int):=by omega
     have hi0:(0:Int)<=i:=by omega
     have hgd:=wm log i h;have hd:=eg (d:=(⟨0,0,0⟩:T3)) h;have hnx:pf (i+1)=kL n (pf i) (log.getD i ⟨0,0,0⟩):=by
      rw[hpf,hpf,yI h,m6];rw[zb,ze h];rfl
     rw[hd]at hv;generalize log.getD i ⟨0,0,0⟩=e at *;obtain⟨q,hq,hq2⟩:=apply_c n (pf i) e i hn net g b (by omega);rw[iW]at hv;generalize hE:gi n (pf i).m e=E at *;refine dC [eq 118 n (pf i) q [.ptr 100000 0,enc e] (enc E) trivial hq] 1500 ?_;by_cases h0:E=0
     . subst h0;rw[if_pos rfl]at hv;have hqq:=hq2 rfl;rw[<- hnx]at hqq;subst hqq;have hg':dP n (pf (i+1)).m:=by rw[hnx,rf];exact g.apply net hE
       have hb':PhK (i+1) (pf (i+1)):=by
        rw[hnx];exact b.apply (ev_ok (sx hE)).2.1
       rw[<- rf,<- hnx]at hv;delta qI oO oN oA oM oR oS oK oC oW oI oX oB o3 o5;simp (maxSteps:=9^7) -implicitDefEqProofs only[rv97,eq,hJ,dY,phX,phC,hi0,hi2,h,hgd,InR,not_true_eq_false,WU,Ent.of0,Ent.of1,Ent.of2,Ent.of3,Ent.of4,V,W3,↓reduceIte,seval,reduceCtorEq];refine⟨by omega,⟨hg',hb',?_⟩,by omega⟩;rw[<- hv];congr 1
     . rw[if_neg h0]at hv;subst hv;obtain⟨rfl,rfl⟩:=her h0;delta qI oO oN oA oM oR oS oK oC oW oI oX oB o3 o5;simp (maxSteps:=9^7) -implicitDefEqProofs only[rv97,eq,hJ,dY,phX,phC,hi0,hi2,h,hgd,h0,InR,not_true_eq_false,not_false_eq_true,WU,Ent.of0,Ent.of1,Ent.of2,Ent.of3,Ent.of4,V,W3,↓reduceIte,seval,reduceCtorEq]
   . have hil:i=log.length:=by omega
     subst hil;have hi2:¬ ((log.length:Nat):Int) < (log.length:Int):=by omega
     have hvR:R=(0,0):=by rw[<- hv,List.drop_length];rfl
     subst hvR;obtain⟨rfl,rfl⟩:=hok rfl;generalize pf log.length=p at *;have hs0:=b.s0;have hs1:=b.s1;have ho1:=b.o1;have hat:=g.at_;have hl1:(0:Int)<=(p.stays.length:Int) - 1:=by omega
     have hl2:(p.stays.length:Int) - 1 < (p.stays.length:Int):=by omega
     have hl3:((p.stays.length:Int) - 1).toNat=p.stays.length - 1:=by omega
     have hl4:p.stays.length - 1 < p.stays.length:=by omega
     have hset:(p.stays.map Dat.cells).set (p.stays.length - 1) [C.s (.int .i64 (p.stays.getD (p.stays.length - 1) ⟨0,0,0⟩).x),.s (.int .i64 (p.stays.getD (p.stays.length - 1) ⟨0,0,0⟩).y),.s (.int .i64 p.m.at_)]=(jL p.stays p.m.at_).map Dat.cells:=by
      simp only[jL,List.map_set] <;> rfl
     have hgd:=rI p.stays _ hl4;have ht:p.out≠-1->InR .i64 (p.m.at_ - p.out):=fun _=>by simp only[InR];omega
     refine dC [kO n { p with stays:=jL p.stays p.m.at_ } p.m.at_ ht] 1500 ?_;delta qI oO oN oA oM oR oS oK oC oW oI oX oB o3 o5;simp (maxSteps:=9^7) -implicitDefEqProofs only[rv97,kO,eq,kX,finP,hi2,phX,phY,phC,hl1,hl2,hl3,hl4,hgd,hset,hJ,gW,fK,InR,yD,List.take_zero,yw,List.drop_nil,yq,yb,z4,List.length_set,zy,WU,Ent.of0,Ent.of1,Ent.of2,Ent.of3,Ent.of4,V,W3,↓reduceIte,seval,reduceCtorEq];omega
theorem pS : ∀ (a:List ByteArray) (i:Nat) (l:List ByteArray) (q:Nat×Int),fJ a i l=some q->q.2≠0
 | a,i,[],q,h=>by cases h
 | a,i,x :: l,q,h=>by
  rw[fJ]at h
  repeat' split at h
  all_goals first | (cases h;simp;done) | exact pS _ _ _ _ h
theorem vb : ∀ (n:Nw) (i:Nat) (l:List Gs) (q:Nat×Int),nbE n i l=some q->q.2≠0
 | n,i,[],q,h=>by cases h
 | n,i,x :: l,q,h=>by
  rw[nbE]at h
  repeat' split at h
  all_goals first | (cases h;simp;done) | exact vb _ _ _ _ h
theorem u9 : ∀ (n:Nw) (i:Nat) (l:List Gs),nbE n i l=none->∀ p∈l,p.re < p.im
 | n,i,[],h,p,hp=>by simp at hp
 | n,i,x :: l,h,p,hp=>by
  rw[nbE]at h;split at h
  . cases h
  . split at h
    . cases h
    . rename_i hx;split at h
      . cases h
      . rcases zl.1 hp with rfl | hp
        . exact Classical.not_not.1 hx
        . exact u9 n _ l h p hp
theorem rT {n:Nw} (h:(eW n).2=0):NetOk n:=by
 unfold eW at h;by_cases h0:n.cells.length=0
 . rw[if_pos h0]at h;cases h
 rw[if_neg h0]at h;by_cases h1:6 < n.cells.length
 . rw[if_pos h1]at h;cases h
 rw[if_neg h1]at h;cases h2:fJ n.cells 0 n.cells with
 | some q=>rw[h2]at h;exact absurd h (pS _ _ _ _ h2)
 | none=>
  rw[h2]at h;cases h3:nbE n 0 n.nb with
  | some q=>simp only[h3]at h;exact absurd h (vb _ _ _ _ h3)
  | none=>
   simp only[h3,limE]at h;refine⟨by omega,fun a b hab=>?_,?_⟩
   . simp only[nbr,List.any_eq_true,decide_eq_true_eq]at hab;obtain⟨p,hp,rfl⟩:=hab;have:=u9 n 0 n.nb h3 _ hp;simp only at this;omega
   . split at h
     . assumption
     . cases h
def gT (n:Nw) (c:Int) (log:List T3):Int×Int:=if gk n c log≠0 then (0,gk n c log)else iW n (eR n c) log 0
def lR (n:Nw) (c:Int) (log:List T3):Ph:=finP (jy n (gz n c) log)
theorem vz (n:Nw) (c:Int) (log:List T3) (hn:NwS n) (h:(gT n c log).2=0):FC Tryz.prog 97 [enc n,enc c,enc log] [] (.tup [.ptr 34 0,enc (0:Int),enc (0:Int)]) (phY n (lR n c log) 34 1034):=by
 unfold gT at h;by_cases h1:gk n c log=0
 . rw[if_neg (fun q=>q h1)]at h;have net:NetOk n:=by
    refine rT ?_;unfold gk dM at h1;by_cases h2:(eW n).2=0
    . exact h2
    . rw[if_pos h2]at h1;exact h1
   exact rZ n c log hn net h1 _ _ (fun _=>⟨rfl,rfl⟩) (fun q=>absurd h q) (by simp[phY,an,ag,av]) (by simp[phY,aB,lk])
 . rw[if_pos h1]at h;exact absurd h h1
theorem vy (n:Nw) (c:Int) (log:List T3) (hn:NwS n) (h:(gT n c log).2≠0):FC Tryz.prog 97 [enc n,enc c,enc log] [] (.tup [.s (.pointer none),enc (gT n c log).1,enc (gT n c log).2]) []:=by
 unfold gT at h ⊢;by_cases h1:gk n c log=0
 . rw[if_neg (fun q=>q h1)]at h ⊢;have net:NetOk n:=by
    refine rT ?_;unfold gk dM at h1;by_cases h2:(eW n).2=0
    . exact h2
    . rw[if_pos h2]at h1;exact h1
   exact rZ n c log hn net h1 _ _ (fun q=>absurd q h) (fun _=>⟨rfl,rfl⟩) (by simp[an,ag]) (by simp[aB])
 . rw[if_pos h1]at h ⊢;exact wR n c log hn h1
def of (n:Nw) (c:Int) (log:List T3) (p:Ph) (hn:NwS n) (h:(gT n c log).2=0) (hp:lR n c log=p):Ent Tryz.prog:=.mk3 97 (fun args chs=>some (args=[enc n,enc c,enc log]/\chs=[],.tup [.ptr 34 0,enc (0:Int),enc (0:Int)],phY n p 34 1034,[34,1034])) (by
 intro args chs pp r chs' nk hs hq;simp only[zn,zf]at hs;obtain⟨rfl,rfl,rfl,rfl⟩:=hs;obtain⟨rfl,rfl⟩:=hq;subst hp;refine⟨vz n c log hn h,⟨fun k c hm=>.inl ?_,fun k cs hm=>(by simp at hm),?_,fun k c hm=>?_⟩⟩
 . simp only[phY,zl,zA,or_false,zf]at hm ⊢;rcases hm with⟨rfl,rfl⟩ | ⟨rfl,rfl⟩
   . exact .inl rfl
   . exact .inr rfl
 . simp only[phY,zt,zR,dF,dF.keysIns];exact⟨by simp,trivial,trivial,trivial⟩
 . simp only[phY,zl,zA,or_false,zf]at hm;rcases hm with⟨rfl,rfl⟩ | ⟨rfl,rfl⟩
   . simp[phY,gm,phC,dF,dF.keysIns]
   . simp[gm])
def oc (n:Nw) (c:Int) (log:List T3) (i e:Int) (hn:NwS n) (h:e≠0) (hp:gT n c log=(i,e)):Ent Tryz.prog:=.mk3 97 (fun args chs=>some (args=[enc n,enc c,enc log]/\chs=[],.tup [.s (.pointer none),enc i,enc e],[],[])) (by
 intro args chs pp r chs' nk hs hq;simp only[zn,zf]at hs;obtain⟨rfl,rfl,rfl,rfl⟩:=hs;obtain⟨rfl,rfl⟩:=hq;have:=vy n c log hn (by rw[hp];exact h);rw[hp]at this
 exact⟨this,⟨fun k c hm=>(by simp at hm),fun k cs hm=>(by simp at hm),⟨trivial,trivial,trivial,trivial⟩,fun k c hm=>(by simp at hm)⟩⟩)
def pL (n:Nw) (c:Int) (log:List T3):C:=.tup (if (gT n c log).2=0 then [enc (lR n c log).m,enc (0:Int),enc (0:Int)]else [enc ms0,enc (gT n c log).1,enc (gT n c log).2])
theorem vM (n:Nw) (c:Int) (log:List T3) (hn:NwS n):FC Tryz.prog 36 [enc n,enc c,enc log] [] (pL n c log) []:=by
 have hdn:=gO n;unfold pL;obtain⟨p,hp⟩:∃ p,lR n c log=p:=⟨_,rfl⟩;obtain⟨⟨i,e⟩,hR⟩:∃ R,gT n c log=R:=⟨_,rfl⟩;rw[hR,hp];by_cases h:e=0
 . subst h;rw[if_pos rfl];refine dD [] is36 (by simp) (by simp[bk]) (by simp[an,ag]) (by simp[an,ag]) (by simp[aB]) (fun cx _ hl _=>dC [of n c log p hn (by rw[hR]) hp] 1500 ?_);delta c36 oO oN oA oM oS oK oF oV oC oW oI oX oB oZ o5 o6 o7 o8;simp (maxSteps:=9^7) -implicitDefEqProofs only[rv36,of,ed,kN,phY,phC,fP,not_true_eq_false,WU,Ent.of0,Ent.of1,Ent.of2,Ent.of3,Ent.of4,V,W3,↓reduceIte,seval,reduceCtorEq];rw[zT];rfl
 . rw[if_neg h];refine dD [] is36 (by simp) (by simp[bk]) (by simp[an,ag]) (by simp[an,ag]) (by simp[aB]) (fun cx _ hl _=>dC [oc n c log i e hn h hR] 1500 ?_);delta c36 oO oN oA oM oS oK oF oV oC oW oI oX oB oZ o5 o6 o7 o8;simp (maxSteps:=9^7) -implicitDefEqProofs only[rv36,oc,ed,kN,ms0,h,not_true_eq_false,not_false_eq_true,WU,Ent.of0,Ent.of1,Ent.of2,Ent.of3,Ent.of4,V,W3,↓reduceIte,seval,reduceCtorEq]
theorem tg (n:Nw) (c:Int) (log:List T3) (hn:NwS n):FC Tryz.prog 39 [enc n,enc c,enc log] [] (.tup (if (gT n c log).2=0 then [enc (lR n c log).recv,enc (0:Int)]else [enc ([]:List Int),enc (gT n c log).2])) []:=by
 have hdn:=gO n;obtain⟨p,hp⟩:∃ p,lR n c log=p:=⟨_,rfl⟩;obtain⟨⟨i,e⟩,hR⟩:∃ R,gT n c log=R:=⟨_,rfl⟩;rw[hR,hp];by_cases h:e=0
 . subst h;rw[if_pos rfl];refine dD [] D5.is39 (by simp) (by simp[bk]) (by simp[an,ag]) (by simp[an,ag]) (by simp[aB]) (fun cx _ hl _=>dC [of n c log p hn (by rw[hR]) hp] 1500 ?_);delta D5.c39 oO oN oA oM oS oK oF oL oV oC oI oX oB o5 o6 o7 o8;simp (maxSteps:=9^7) -implicitDefEqProofs only[D5.rv39,of,ed,phY,phC,fP,not_true_eq_false,WU,Ent.of0,Ent.of1,Ent.of2,Ent.of3,Ent.of4,V,W3,↓reduceIte,seval,reduceCtorEq];refine fE (dX.take (s:=6) (k:=15) (j:=13) (by decide) rfl rfl trivial rfl (by decide)) ?_;refine iw (dC [] 500 ?_);delta D5.c39k2;simp (maxSteps:=9^7) -implicitDefEqProofs only[D5.rv39,aT,bM,WU,Ent.of0,Ent.of1,Ent.of2,Ent.of3,Ent.of4,V,W3,↓reduceIte,seval,reduceCtorEq]
 . rw[if_neg h];refine dD [] D5.is39 (by simp) (by simp[bk]) (by simp[an,ag]) (by simp[an,ag]) (by simp[aB]) (fun cx _ hl _=>dC [oc n c log i e hn h hR] 1500 ?_);delta D5.c39 oO oN oA oM oS oK oF oL oV oC oI oX oB o5 o6 o7 o8;simp (maxSteps:=9^7) -implicitDefEqProofs only[D5.rv39,oc,ed,h,not_true_eq_false,not_false_eq_true,WU,Ent.of0,Ent.of1,Ent.of2,Ent.of3,Ent.of4,V,W3,↓reduceIte,seval,reduceCtorEq];refine iw (dC [] 500 ?_);delta D5.c39k1;simp (maxSteps:=9^7) -implicitDefEqProofs only[D5.rv39,WU,Ent.of0,Ent.of1,Ent.of2,Ent.of3,Ent.of4,V,W3,↓reduceIte,seval,reduceCtorEq]
theorem tj (w:World) (k:Nat) (os:Array Obj):RowKit.Below w.heap.size w (Go.Sort.grow (w.drewN k) os):=
 ⟨rfl,rfl,rfl,by simp[Go.Sort.grow],fun b hb=>by simp[Go.Sort.grow,yx,hb]⟩
theorem tab_ok {U:Nat->Prop} {w:World} (hg:eX Tryz.prog U w.heap) (nm:String) (hn:Tryz.prog.globalNamed nm=some 2):Lib.TabIs Tryz.prog w nm .u64 Lib.pow10Tab:=by
 obtain⟨⟨ty,fz,_,h⟩,_⟩:=hg.2;simp only[Lib.TabIs,World.var?,hn,Option.bind_some,h]
def jh (n:Int):ByteArray:=⟨(Lib.itoa n).toArray⟩
theorem Itoa_c (n:Int) (h:InR .i64 n):FC Tryz.prog 154 [enc n] [] (enc (jh n)) []:=by
 have h:-9223372036854775808<=n/\n<=9223372036854775807:=by simpa[InR]using h
 refine FC.scal (vs:=[.int .i64 n]) ⟨_,Tryz.func154,by kernel_rfl,by kernel_rfl⟩ (fun U w hg hU=>?_);refine (Any.strconv_Itoa Tryz.laysM171 n h.1 h.2 w (tab_ok hg _ (by kernel_rfl))).mono ?_
 rintro e w' ⟨rfl,k,os,rfl⟩
 exact⟨_,rfl,fun E U h=>.d (.s _),tj w k os⟩
def uG : Ent Tryz.prog:=.of1 154 (fun n=>InR .i64 n) (fun n:Int=>enc (jh n)) (fun _=>trivial) (fun n h=>Itoa_c n h)
def mA (xs:List ByteArray) (sep:ByteArray):ByteArray:=⟨(Lib.join (xs.map (·.data.toList)) sep.data.toList).toArray⟩
theorem Join_c (xs:List ByteArray) (sep:ByteArray) (h:xs.length<=1000000/\(Lib.join (xs.map (·.data.toList)) sep.data.toList).length<=140737488355328):FC Tryz.prog 123 [enc xs,enc sep] [] (enc (mA xs sep)) []:=by
 refine⟨⟨_,Tryz.func123,by kernel_rfl,by kernel_rfl⟩,fun E U aS w hg ha hi=>?_⟩;obtain⟨hs,hr⟩:=ha;have h0:=hr 0 _ rfl;have h1:=dK (hr 1 _ rfl);have fin:∀ (R:ByteArray),mA xs sep=R->∀ e w',(e=Ending.returned (.string R)/\RowKit.Below w.heap.size w w')->∃ v E' U',e=.returned v/\Rep E' U' w'.heap (enc (mA xs sep)) v/\CEv E U w [] E' U' w' []:=by
  rintro R hR e w' ⟨rfl,hb⟩
  exact⟨_,E,U,rfl,by rw[hR];exact .d (.s _),CEv.below hi hb⟩
 have hv:∀ a b,aS.getD 0 undef=a->aS.getD 1 undef=b->aS=#[a,b]:=fun a b ha hb=>by
  refine Array.ext (by simpa using hs) (fun i h1 h2=>?_);simp at h2
  match i,h2 with
  | 0,_=>rw[<- ha,zc,zj h1];rfl
  | 1,_=>rw[<- hb,zc,zj h1];rfl
 rcases xa h0 hi.lt with⟨rfl,a,c,e⟩ | ⟨b,off,cap,e,hcap,hb,hcell⟩
 . rw[hv _ _ e h1];refine (Any.strings_Join_none Tryz.lays156 Tryz.Builder_Extra_156 a c sep w).mono (fun e w' h=>fin _ rfl e w' ⟨h.1,h.2 ▸ RowKit.Below.refl _ _⟩)
 . rw[hv _ _ e h1];exact (Any.strings_Join Tryz.lays156 Tryz.Builder_Extra_156 b off cap xs sep w hcell hb (by omega) hcap h.2).mono (fin _ rfl)
def nY : Ent Tryz.prog:=.of2 123 (fun xs sep=>xs.length<=1000000/\(Lib.join (xs.map (·.data.toList)) sep.data.toList).length<=140737488355328) (fun (xs:List ByteArray) (sep:ByteArray)=>enc (mA xs sep)) (fun _ _=>trivial) (fun xs sep h=>Join_c xs sep h)
theorem mV (a:Nat):∀ (xs:List (List UInt8)) (sep:List UInt8),(∀ x∈xs,x.length<=a)->(Lib.joinTail sep xs).length<=xs.length*(a+sep.length)
 |[],sep,h=>by simp[Lib.joinTail]
 | x :: xs,sep,h=>by
  have h1:=h x zq;have h2:=mV a xs sep (fun y hy=>h y (zo _ hy));have e:Lib.joinTail sep (x :: xs)=(sep++x)++Lib.joinTail sep xs:=by simp[Lib.joinTail]
  rw[e,zK,zK,zQ,zP];omega
theorem sT (a:Nat) (xs:List (List UInt8)) (sep:List UInt8) (h:∀ x∈xs,x.length<=a):(Lib.join xs sep).length<=xs.length*(a+sep.length):=by
 cases xs with
 | nil=>simp[Lib.join]
 | cons x xs=>
  have h1:=h x zq;have h2:=mV a xs sep (fun y hy=>h y (zo _ hy));rw[Lib.join_cons,zK,zQ,zP];omega
def pq : ByteArray:=⟨#[32]⟩
def barB : ByteArray:=⟨#[124]⟩
def ki (l:List Int):ByteArray:=mA (l.map jh) pq
theorem nj (l:List Int) (h:∀ x∈l,InR .i64 x):(Lib.join ((l.map jh).map (·.data.toList)) pq.data.toList).length<=l.length*22:=by
 have:=sT 21 ((l.map jh).map (·.data.toList)) pq.data.toList (fun y hy=>by
  simp only[zT,zu,Function.comp]at hy;obtain⟨x,hx,rfl⟩:=hy;have hr:-9223372036854775808<=x/\x<=9223372036854775807:=by simpa[InR]using h x hx
  exact Lib.itoa_length_le x hr.1 hr.2)
 simpa[pq]using this
theorem wx (l:List Int) (h1:l.length<=1000) (h2:∀ x∈l,InR .i64 x):FC Tryz.prog 122 [enc l] [] (enc (ki l)) []:=by
 have hj:=nj l h2;refine dD [] D6.is122 (by simp) (by simp[bk]) (by simp[an,ag]) (by simp[an,ag]) (by simp[aB]) (fun cx _ hl _=>dC [] 800 ?_);delta D6.c122 oO oA oM oS oK oV oX o4;simp (maxSteps:=9^7) -implicitDefEqProofs only[D6.rv122,WU,Ent.of0,Ent.of1,Ent.of2,Ent.of3,Ent.of4,V,W3,↓reduceIte,seval,reduceCtorEq];refine eN l.length (fun i=>[(8,.s (.int .i64 (i:Int)))]) (fun i=>[(3,.row 1 9 (((l.take i).map jh).map Dat.cells))]) (fun _=>True) trivial ?_ (fun i hi _=>?_)
 . simp (maxSteps:=9^7) -implicitDefEqProofs only[Ent.of0,Ent.of1,Ent.of2,Ent.of3,Ent.of4,V,W3,↓reduceIte,seval,reduceCtorEq]
   all_goals rfl
 . by_cases h:i < l.length
   . have hi2:(i:Int) < (l.length:Int):=by omega
     have hi0:(0:Int)<=i:=by omega
     have hx:InR .i64 (l.getD i 0):=by
      rw[zb,ze h];exact h2 _ (yy h)
     have hnx:((l.take (i+1)).map jh).map Dat.cells=((l.take i).map jh).map Dat.cells++[[C.s (.string (jh (l.getD i 0)))]]:=by
      rw[yI h,yg,yg,zb,ze h];rfl
     refine dC [uG] 800 ?_;delta D6.c122l1 oO oN oA oM oR oS oK oL oC oX oB o1;simp (maxSteps:=9^7) -implicitDefEqProofs only[D6.rv122,uG,hi0,hi2,h,hx,hnx,WU,Ent.of0,Ent.of1,Ent.of2,Ent.of3,Ent.of4,V,W3,↓reduceIte,seval,reduceCtorEq];have:(l.take i).length<=l.length:=by rw[List.length_take];omega
     refine⟨by omega,?_,by omega⟩;simp only[InR];omega
   . have hil:i=l.length:=by omega
     subst hil;have hi2:¬ ((l.length:Nat):Int) < (l.length:Int):=by omega
     refine dC [nY] 800 ?_;delta D6.c122l1 oO oN oA oM oR oS oK oL oC oX oB o1;simp (maxSteps:=9^7) -implicitDefEqProofs only[D6.rv122,nY,hi2,yo,fq,WU,Ent.of0,Ent.of1,Ent.of2,Ent.of3,Ent.of4,V,W3,↓reduceIte,seval,reduceCtorEq];have hj2:(Lib.join ((l.map jh).map fun x=>x.data.toList) [32]).length<=l.length*22:=hj;exact⟨⟨by omega,by omega⟩,rfl⟩
def nX : Ent Tryz.prog:=.of1 122 (fun l=>l.length<=1000/\∀ x∈l,InR .i64 x) (fun l:List Int=>enc (ki l)) (fun _=>trivial) (fun l h=>wx l h.1 h.2)
def mC (m:Ms):List Int:=[m.at_,m.phase,m.since,m.serving,m.target,m.source,m.path,m.fresh,m.got]
def fk (m:Ms):List ByteArray:=ki (mC m) :: m.buf.map ki
def fmtS (m:Ms):ByteArray:=mA (fk m) barB
structure Prt (m:Ms):Prop where
 n:∀ x∈mC m,InR .i64 x
 b:m.buf.length<=1000
 r:∀ l∈m.buf,l.length<=1000/\∀ x∈l,InR .i64 x
theorem vE (m:Ms) (h:Prt m):(Lib.join ((fk m).map (·.data.toList)) barB.data.toList).length<=140737488355328:=by
 have:=sT 22000 ((fk m).map (·.data.toList)) barB.data.toList (fun y hy=>by
  simp only[fk,zt,zT,zl,zu,Function.comp]at hy;rcases hy with rfl | ⟨l,hl,rfl⟩
  . have:(ki (mC m)).data.toList.length<=(mC m).length*22:=nj _ h.n;have e:(mC m).length=9:=rfl;omega
  . have h2:=h.r l hl;have:(ki l).data.toList.length<=l.length*22:=nj _ h2.2
    omega)
 have e:((fk m).map (·.data.toList)).length=m.buf.length+1:=by simp[fk]
 have e2:barB.data.toList.length=1:=rfl;have hb:=h.b;rw[e,e2]at this;omega
theorem qy (m:Ms) (hm:Prt m):FC Tryz.prog 80 [enc m] [] (enc (fmtS m)) []:=by
 have hj:=vE m hm;have h9:=hm.n;have hb:=hm.b;have hr:=hm.r;refine dD [] D6.is80 (by simp) (by simp[bk]) (by simp[an,ag]) (by simp[an,ag]) (by simp[aB]) (fun cx _ hl _=>dC [nX] 1200 ?_);delta D6.c80 oO oA oM oS oK oF oL oV oC oX o1 o4 o7;simp (maxSteps:=9^7) -implicitDefEqProofs only[D6.rv80,kN,nX,WU,Ent.of0,Ent.of1,Ent.of2,Ent.of3,Ent.of4,V,W3,↓reduceIte,seval,reduceCtorEq];refine⟨h9,?_⟩;have hL0:((fk m).take 1).map Dat.cells=[[C.s (.string (ki [m.at_,m.phase,m.since,m.serving,m.target,m.source,m.path,m.fresh,m.got]))]]:=rfl;have hlen:(fk m).length=m.buf.length+1:=by simp[fk]
 refine eN m.buf.length (fun i=>[(30,.s (.int .i64 (i:Int)))]) (fun i=>[(26,.row 1 9 (((fk m).take (i+1)).map Dat.cells))]) (fun _=>True) trivial ?_ (fun i hi _=>?_)
 . simp (maxSteps:=9^7) -implicitDefEqProofs only[hL0,Ent.of0,Ent.of1,Ent.of2,Ent.of3,Ent.of4,V,W3,↓reduceIte,seval,reduceCtorEq]
   all_goals rfl
 . by_cases h:i < m.buf.length
   . have hi2:(i:Int) < (m.buf.length:Int):=by omega
     have hi0:(0:Int)<=i:=by omega
     have hgx:List.getD (m.buf.map Dat.cells) i [C.sl 0 []]=[C.sl 1 ((m.buf.getD i []).map Dat.cells)]:=by
      rw[zb,zb,zh,ze h];rfl
     have hx:=hr (m.buf.getD i []) (by rw[zb,ze h];exact yy h);have hnx:((fk m).take (i+1+1)).map Dat.cells=((fk m).take (i+1)).map Dat.cells++[[C.s (.string (ki (m.buf.getD i [])))]]:=by
      rw[yI (by omega),yg]
      congr 1
      simp[fk,zb,ze h];rfl
     generalize m.buf.getD i []=q at *;refine dC [nX] 800 ?_;delta D6.c80l1 oO oN oA oM oR oS oK oL oC oX oB o0;simp (maxSteps:=9^7) -implicitDefEqProofs only[D6.rv80,nX,hi0,hi2,h,hgx,hx,hnx,fq,WU,Ent.of0,Ent.of1,Ent.of2,Ent.of3,Ent.of4,V,W3,↓reduceIte,seval,reduceCtorEq];have:((fk m).take (i+1)).length<=(fk m).length:=by rw[List.length_take];omega
     refine⟨hx.2,by omega,?_,by omega⟩;simp only[InR];omega
   . have hil:i=m.buf.length:=by omega
     subst hil;have hi2:¬ ((m.buf.length:Nat):Int) < (m.buf.length:Int):=by omega
     have htk:(fk m).take (m.buf.length+1)=fk m:=by rw[<- hlen,yo]
     refine dC [nY] 800 ?_;delta D6.c80l1 oO oN oA oM oR oS oK oL oC oX oB o0;simp (maxSteps:=9^7) -implicitDefEqProofs only[D6.rv80,nY,hi2,htk,fq,WU,Ent.of0,Ent.of1,Ent.of2,Ent.of3,Ent.of4,V,W3,↓reduceIte,seval,reduceCtorEq];exact⟨⟨by omega,hj⟩,rfl⟩
theorem law_few : few fb=true:=by decide +kernel
theorem pH : NwS fb:=few_nws law_few
theorem uT : ftE ⟨30,10,2⟩ [-900,-900,-900,-900,-900] [-870,-855,-850,-855,-840]=0/\(iv ⟨30,10,2⟩ [-900,-900,-900,-900,-900] [-870,-855,-850,-855,-840]).getD 0 0=3:=by decide +kernel
theorem law_ref : gT fb 0 gC=(0,0):=by decide +kernel
theorem wB : (lR fb 0 gC).recv=[0,1]:=by decide +kernel
theorem wC : gT fb 0 (gC.take 3)=(0,0):=by decide +kernel
theorem law_m : (lR fb 0 (gC.take 3)).m=⟨3,0,0,0,-1,-1,0,2,1,[[0,1],[],[]]⟩:=by decide +kernel
theorem uU : ppE fb [⟨0,0,10⟩,⟨1,10,14⟩,⟨0,14,30⟩] 4=0/\ppR fb [⟨0,0,10⟩,⟨1,10,14⟩,⟨0,14,30⟩] 4=1:=by decide +kernel
theorem law_fmt : fmtS ⟨3,0,0,0,-1,-1,0,2,1,[[0,1],[],[]]⟩=⟨#[51,32,48,32,48,32,48,32,45,49,32,45,49,32,48,32,50,32,49,124,48,32,49,124,124]⟩:=by decide +kernel
def entX (f:FuncId) (as0:List C) (r:C) (h:FC Tryz.prog f as0 [] r []) (hr:dF [] r):Ent Tryz.prog:=.mk3 f (fun args chs=>some (args=as0/\chs=[],r,[],[])) (by
 intro args chs pp r' chs' nk hs hq;simp only[zn,zf]at hs;obtain⟨rfl,rfl,rfl,rfl⟩:=hs;obtain⟨rfl,rfl⟩:=hq
 exact⟨h,⟨fun k c hm=>(by simp at hm),fun k cs hm=>(by simp at hm),hr,fun k c hm=>(by simp at hm)⟩⟩)
theorem wz : FC Tryz.prog 25 [enc (⟨30,10,2⟩:Rul),enc ([-900,-900,-900,-900,-900]:List Int),enc ([-870,-855,-850,-855,-840]:List Int)] [] (.tup [enc (3:Int),enc (0:Int)]) []:=by
 have:=pz ⟨30,10,2⟩ [-900,-900,-900,-900,-900] [-870,-855,-850,-855,-840];rw[uT.1,if_pos rfl,uT.2]at this;exact this
theorem tL : FC Tryz.prog 39 [enc fb,enc (0:Int),enc gC] [] (.tup [enc ([0,1]:List Int),enc (0:Int)]) []:=by
 have:=tg fb 0 gC pH;rw[law_ref,if_pos rfl,wB]at this;exact this
theorem uV : FC Tryz.prog 36 [enc fb,enc (0:Int),enc (gC.take 3)] [] (.tup [enc (⟨3,0,0,0,-1,-1,0,2,1,[[0,1],[],[]]⟩:Ms),enc (0:Int),enc (0:Int)]) []:=by
 have:=vM fb 0 (gC.take 3) pH;rw[pL,wC,if_pos rfl,law_m]at this;exact this
theorem wA : FC Tryz.prog 44 [enc fb,enc ([⟨0,0,10⟩,⟨1,10,14⟩,⟨0,14,30⟩]:List T3),enc (4:Int)] [] (.tup [enc (1:Int),enc (0:Int)]) []:=by
 have:=so fb [⟨0,0,10⟩,⟨1,10,14⟩,⟨0,14,30⟩] 4 pH;rw[uU.1,uU.2]at this;exact this
theorem law_prt : Prt ⟨3,0,0,0,-1,-1,0,2,1,[[0,1],[],[]]⟩:=by
 refine⟨fun x hx=>?_,by simp,fun l hl=>?_⟩
 . simp only[mC,zl,zA,or_false]at hx;simp only[InR];omega
 . simp only[zl,zA,or_false]at hl;rcases hl with rfl | rfl | rfl
   . refine⟨by simp,fun x hx=>?_⟩;simp only[zl,zA,or_false]at hx;simp only[InR];omega
   . simp
   . simp
theorem uS : FC Tryz.prog 80 [enc (⟨3,0,0,0,-1,-1,0,2,1,[[0,1],[],[]]⟩:Ms)] [] (enc (⟨#[51,32,48,32,48,32,48,32,45,49,32,45,49,32,48,32,50,32,49,124,48,32,49,124,124]⟩:ByteArray)) []:=by
 have:=qy _ law_prt;rw[law_fmt]at this;exact this
theorem awake_c : Awake:=by
 unfold Awake;refine dD [] is21 (by simp) (by simp[bk]) (by simp[an,ag]) (by simp[an,ag]) (by simp[aB]) (fun cx _ hl _=>dC [ent88,ent89,ent90,mw,entX 25 _ _ wz ⟨trivial,trivial,trivial⟩,entX 39 _ _ tL ⟨trivial,trivial,trivial⟩,entX 36 _ _ uV ⟨by rw[kN];simp[dF,dF.keysIns],trivial,trivial,trivial⟩,entX 44 _ _ wA ⟨trivial,trivial,trivial⟩,entX 80 _ _ uS trivial] 2500 ?_);delta c21 oO oN oA oM oG oC oW oX oP oB oD o1 o3 oZ o8 o9;simp (maxSteps:=9^7) -implicitDefEqProofs only[rv21,ent88,ent89,ent90,mw,entX,kR,fb,gC,ed,iy,kN,hJ,fK,zt,zR,nc,yD,List.take_zero,yB,not_true_eq_false,WU,Ent.of0,Ent.of1,Ent.of2,Ent.of3,Ent.of4,V,W3,↓reduceIte,seval,reduceCtorEq]
end Go.Proofs.YtcbabnbiinkafaaGreatDoor
end
section
open Go Go.Am
open Go.Am.Dat (cells)
namespace Go.Proofs.YtcbabnbiinkafaaGreatDoor
open Go.ChangeShapes Go.WideShapes Go.ChangeAt Go.RowKit
set_option maxRecDepth 100000
theorem take3 {l:List Value} {k:Nat} {a b c:Value} (h:(l.drop k).take 3=[a,b,c]):l[k]? = some a/\l[k+1]? = some b/\l[k+2]? = some c:=by
 have h0:=congrArg (·[0]?) h;have h1:=congrArg (·[1]?) h;have h2:=congrArg (·[2]?) h;simp[ya,zO]at h0 h1 h2;exact⟨h0,h1,h2⟩
theorem uR {W:World} {m:Nat} {cs:List Value} {x:DataW (List UInt8)×List MemPlace} (h:DataW.trod (funcToken Tryz.prog) Tryz.prog W 0 (fun _=>true) true m 169 cs=some x) {w:List UInt8} {b:Bool} {c:UInt8} {r:List UInt8} {f0:FuncId}
 (hx:x.1=.agg [.lit (.string w),.lit (.bool b),.held (c :: r)]) (hone:((List.range Tryz.prog.funcs.size).filter fun f=>(Tryz.prog.funcs[f]?).any (·.name.toUTF8.data.toList == c :: r))=[f0]) :
 cs=[.string ⟨w.toArray⟩,.bool b,.func (.func f0) #[] #[]]:=by
 obtain⟨xs,n,_,rfl,hl,hlen,hf⟩:=DataW.trod_struct Tryz.underlying169 h;have hl3:cs.length=3:=hl.trans (by kernel_rfl)
 match cs,hl3 with
 |[a0,a1,a2],_=>
  match xs,hlen with
  |[y0,y1,y2],_=>
   have c9:Tryz.prog.cellsOf 9=1:=by kernel_rfl
   have c4:Tryz.prog.cellsOf 4=1:=by kernel_rfl
   have c167:Tryz.prog.cellsOf 167=1:=by kernel_rfl
   have h0:DataW.trod (funcToken Tryz.prog) Tryz.prog W 0 (fun _=>true) true n 9 [a0]=some y0:=by
    have q:DataW.trod (funcToken Tryz.prog) Tryz.prog W 0 (fun _=>true) true n 9 (([a0,a1,a2].drop 0).take (Tryz.prog.cellsOf 9))=some y0:=hf 0 _ rfl;rw[c9]at q;exact q
   have h1:DataW.trod (funcToken Tryz.prog) Tryz.prog W 0 (fun _=>true) true n 4 [a1]=some y1:=by
    have q:DataW.trod (funcToken Tryz.prog) Tryz.prog W 0 (fun _=>true) true n 4 (([a0,a1,a2].drop 1).take (Tryz.prog.cellsOf 4))=some y1:=hf 1 _ rfl;rw[c4]at q;exact q
   have h2:DataW.trod (funcToken Tryz.prog) Tryz.prog W 0 (fun _=>true) true n 167 [a2]=some y2:=by
    have q:DataW.trod (funcToken Tryz.prog) Tryz.prog W 0 (fun _=>true) true n 167 (([a0,a1,a2].drop 2).take (Tryz.prog.cellsOf 167))=some y2:=hf 2 _ rfl;rw[c167]at q;exact q
   simp only[zt,zR,DataW.agg.injEq,List.cons.injEq,and_true]at hx;obtain⟨x0,x1,x2⟩:=hx;obtain⟨s,e0,rfl,_⟩:=DataW.trod_string Tryz.underlying9 h0;obtain⟨b',e1,rfl⟩:=DataW.trod_bool Tryz.underlying4 h1;obtain⟨y21,y22⟩:=y2;simp only at x2;subst x2;have e2:=func_of_trod (f0:=f0) Tryz.underlying167 hone h2;simp only[DataW.lit.injEq,Lit.string.injEq,Lit.bool.injEq]at x0 x1;simp only[List.cons.injEq,and_true]at e0 e1;subst e0 e1 e2 x0 x1;rfl
def rN : List (DataW (List UInt8)):=[.agg [.lit (.string [100,97,116,97]),.lit (.bool false),.held [40,42,100,111,119,110,116,105,108,116,47,109,111,118,101,46,112,104,111,110,101,41,46,100,97,116,97]],.agg [.lit (.string [115,101,110,100]),.lit (.bool false),.held [40,42,100,111,119,110,116,105,108,116,47,109,111,118,101,46,112,104,111,110,101,41,46,115,101,110,100]],.agg [.lit (.string [97,99,107]),.lit (.bool false),.held [40,42,100,111,119,110,116,105,108,116,47,109,111,118,101,46,112,104,111,110,101,41,46,97,99,107]],.agg [.lit (.string [112,114,101,112,97,114,101]),.lit (.bool true),.held [40,42,100,111,119,110,116,105,108,116,47,109,111,118,101,46,112,104,111,110,101,41,46,112,114,101,112,97,114,101]],.agg [.lit (.string [99,97,110,99,101,108]),.lit (.bool false),.held [40,42,100,111,119,110,116,105,108,116,47,109,111,118,101,46,112,104,111,110,101,41,46,99,97,110,99,101,108]],.agg [.lit (.string [99,111,109,109,97,110,100]),.lit (.bool false),.held [40,42,100,111,119,110,116,105,108,116,47,109,111,118,101,46,112,104,111,110,101,41,46,99,111,109,109,97,110,100]],.agg [.lit (.string [99,111,109,112,108,101,116,101]),.lit (.bool false),.held [40,42,100,111,119,110,116,105,108,116,47,109,111,118,101,46,112,104,111,110,101,41,46,99,111,109,112,108,101,116,101]],.agg [.lit (.string [102,111,114,119,97,114,100]),.lit (.bool false),.held [40,42,100,111,119,110,116,105,108,116,47,109,111,118,101,46,112,104,111,110,101,41,46,102,111,114,119,97,114,100]],.agg [.lit (.string [115,119,105,116,99,104]),.lit (.bool false),.held [40,42,100,111,119,110,116,105,108,116,47,109,111,118,101,46,112,104,111,110,101,41,46,116,117,114,110]],.agg [.lit (.string [102,97,105,108]),.lit (.bool false),.held [40,42,100,111,119,110,116,105,108,116,47,109,111,118,101,46,112,104,111,110,101,41,46,102,97,105,108]],.agg [.lit (.string [114,101,99,111,118,101,114]),.lit (.bool true),.held [40,42,100,111,119,110,116,105,108,116,47,109,111,118,101,46,112,104,111,110,101,41,46,114,101,99,111,118,101,114]],.agg [.lit (.string [112,97,115,115]),.lit (.bool false),.held [100,111,119,110,116,105,108,116,47,109,111,118,101,46,107,105,110,100,115,36,49]]]
def rM : DataW Unit:=match (Rows.laid_downtilt_move_kinds:DataW Unit)with | .iface _ d=>d | _=>.nil
theorem wy {W:World} {l:List (String×DataW Unit)} (hL:laidMetH Tryz.prog l W) (hm:("downtilt/move.kinds",Rows.laid_downtilt_move_kinds)∈l) :
 ∃ arr ty fz,W.heap[0]? = some (.cells arr ty fz)/\∀ (j:Nat) (c:C),jt[j]? = some c->∃ v:Value,c=C.s v/\arr[j]? = some v/\v.oneCell'=true:=by
 obtain⟨g,t,cs,fuel,p,hg,ht,hv,hd⟩:=hL.funcs (n := "downtilt/move.kinds") (d:=rM) hm
 obtain rfl:=Option.some.inj ((show Tryz.prog.globalNamed "downtilt/move.kinds" = some 0 by kernel_rfl).symm.trans hg)
 obtain rfl:=Option.some.inj ((show (Tryz.prog.globals[0]?).map (·.type)=some 170 by kernel_rfl).symm.trans ht);obtain⟨xs,m,_,hx,hl,hlen,hel⟩:=DataW.trod_array Tryz.underlying170 hd;have hx1:rM.funcsOut=.agg (xs.map (·.1)):=congrArg Prod.fst hx;have hk:rM.funcsOut=.agg rN:=by kernel_rfl
 rw[hk]at hx1;have hx2:rN=xs.map (·.1):=DataW.agg.inj hx1;have c169:Tryz.prog.cellsOf 169=3:=by kernel_rfl
 obtain⟨ty,fz,hh⟩:=sf hv hg;have key:∀ (i:Nat) (w:List UInt8) (b:Bool) (c:UInt8) (r:List UInt8) (f0:FuncId),i < 12->rN[i]? = some (.agg [.lit (.string w),.lit (.bool b),.held (c :: r)])->((List.range Tryz.prog.funcs.size).filter fun f=>(Tryz.prog.funcs[f]?).any (·.name.toUTF8.data.toList == c :: r))=[f0] ->
  cs.toList[i*3]? = some (.string ⟨w.toArray⟩)/\cs.toList[i*3+1]? = some (.bool b)/\cs.toList[i*3+2]? = some (.func (.func f0) #[] #[]):=fun i w b c r f0 hi hX hone=>by
  have h1:=hel i hi;rw[c169]at h1;rw[hx2,zh]at hX;cases hxi:xs[i]? with
  | none=>rw[hxi]at hX;cases hX
  | some x=>
   rw[hxi]at hX h1;exact take3 (uR h1 (Option.some.inj hX) hone)
 have k0:=key 0 _ _ _ _ 268 (by decide) rfl (by kernel_rfl);have k1:=key 1 _ _ _ _ 269 (by decide) rfl (by kernel_rfl);have k2:=key 2 _ _ _ _ 270 (by decide) rfl (by kernel_rfl);have k3:=key 3 _ _ _ _ 271 (by decide) rfl (by kernel_rfl);have k4:=key 4 _ _ _ _ 272 (by decide) rfl (by kernel_rfl);have k5:=key 5 _ _ _ _ 273 (by decide) rfl (by kernel_rfl);have k6:=key 6 _ _ _ _ 274 (by decide) rfl (by kernel_rfl);have k7:=key 7 _ _ _ _ 275 (by decide) rfl (by kernel_rfl);have k8:=key 8 _ _ _ _ 276 (by decide) rfl (by kernel_rfl);have k9:=key 9 _ _ _ _ 277 (by decide) rfl (by kernel_rfl);have k10:=key 10 _ _ _ _ 278 (by decide) rfl (by kernel_rfl);have k11:=key 11 _ _ _ _ 279 (by decide) rfl (by kernel_rfl);simp only[zM]at k0 k1 k2 k3 k4 k5 k6 k7 k8 k9 k10 k11;refine⟨cs,ty,fz,hh,fun j c hj=>?_⟩
 match j,hj with
 | 0,hj=>cases hj;exact⟨_,rfl,k0.1,rfl⟩
 | 1,hj=>cases hj;exact⟨_,rfl,k0.2.1,rfl⟩
 | 2,hj=>cases hj;exact⟨_,rfl,k0.2.2,rfl⟩
 | 3,hj=>cases hj;exact⟨_,rfl,k1.1,rfl⟩
 | 4,hj=>cases hj;exact⟨_,rfl,k1.2.1,rfl⟩
 | 5,hj=>cases hj;exact⟨_,rfl,k1.2.2,rfl⟩
 | 6,hj=>cases hj;exact⟨_,rfl,k2.1,rfl⟩
 | 7,hj=>cases hj;exact⟨_,rfl,k2.2.1,rfl⟩
 | 8,hj=>cases hj;exact⟨_,rfl,k2.2.2,rfl⟩
 | 9,hj=>cases hj;exact⟨_,rfl,k3.1,rfl⟩
 | 10,hj=>cases hj;exact⟨_,rfl,k3.2.1,rfl⟩
 | 11,hj=>cases hj;exact⟨_,rfl,k3.2.2,rfl⟩
 | 12,hj=>cases hj;exact⟨_,rfl,k4.1,rfl⟩
 | 13,hj=>cases hj;exact⟨_,rfl,k4.2.1,rfl⟩
 | 14,hj=>cases hj;exact⟨_,rfl,k4.2.2,rfl⟩
 | 15,hj=>cases hj;exact⟨_,rfl,k5.1,rfl⟩
 | 16,hj=>cases hj;exact⟨_,rfl,k5.2.1,rfl⟩
 | 17,hj=>cases hj;exact⟨_,rfl,k5.2.2,rfl⟩
 | 18,hj=>cases hj;exact⟨_,rfl,k6.1,rfl⟩
 | 19,hj=>cases hj;exact⟨_,rfl,k6.2.1,rfl⟩
 | 20,hj=>cases hj;exact⟨_,rfl,k6.2.2,rfl⟩
 | 21,hj=>cases hj;exact⟨_,rfl,k7.1,rfl⟩
 | 22,hj=>cases hj;exact⟨_,rfl,k7.2.1,rfl⟩
 | 23,hj=>cases hj;exact⟨_,rfl,k7.2.2,rfl⟩
 | 24,hj=>cases hj;exact⟨_,rfl,k8.1,rfl⟩
 | 25,hj=>cases hj;exact⟨_,rfl,k8.2.1,rfl⟩
 | 26,hj=>cases hj;exact⟨_,rfl,k8.2.2,rfl⟩
 | 27,hj=>cases hj;exact⟨_,rfl,k9.1,rfl⟩
 | 28,hj=>cases hj;exact⟨_,rfl,k9.2.1,rfl⟩
 | 29,hj=>cases hj;exact⟨_,rfl,k9.2.2,rfl⟩
 | 30,hj=>cases hj;exact⟨_,rfl,k10.1,rfl⟩
 | 31,hj=>cases hj;exact⟨_,rfl,k10.2.1,rfl⟩
 | 32,hj=>cases hj;exact⟨_,rfl,k10.2.2,rfl⟩
 | 33,hj=>cases hj;exact⟨_,rfl,k11.1,rfl⟩
 | 34,hj=>cases hj;exact⟨_,rfl,k11.2.1,rfl⟩
 | 35,hj=>cases hj;exact⟨_,rfl,k11.2.2,rfl⟩
theorem gl_ok {W:World} {l:List (String×DataW Unit)} (hL:laidMetH Tryz.prog l W) (hm:("downtilt/move.kinds",Rows.laid_downtilt_move_kinds)∈l) (hp:Lib.TabIs Tryz.prog W "internal/strconv.uint64pow10" .u64 Lib.pow10Tab) (he5:∃ tp p ty fz,W.heap[5]? = some (.cells #[.iface tp p] ty fz)) (he6:∃ tp p ty fz,W.heap[6]? = some (.cells #[.iface tp p] ty fz)):eX Tryz.prog (fun b=>b < W.heap.size) W.heap:=by
 refine⟨fun g cs h E=>?_,⟨?_,?_,?_⟩⟩
 . have h2:0=g/\jt=cs:=by
    simp only[Glob.gl,lk]at h;split at h
    . rename_i e;cases h;exact⟨e,rfl⟩
    . cases h
   obtain⟨rfl,rfl⟩:=h2;obtain⟨arr,ty,fz,hh,hc⟩:=wy hL hm;have hv:∀ (j:Nat) (c:C),jt[j]? = some c->arr[0+j]? = some (arr.getD j undef)/\(arr.getD j undef).oneCell'=true/\c=.s (arr.getD j undef):=fun j c hj=>by
    obtain⟨v,rfl,h1,h2⟩:=hc j c hj;have e:arr.getD j undef=v:=by rw[zc,h1];rfl
    rw[e,zz];exact⟨h1,h2,rfl⟩
   exact .ref _ 0 0 arr ty fz (fun j=>arr.getD j undef) (lt_of_getElem? hh) hh (fun j c hj=>⟨(hv j c hj).1,(hv j c hj).2.1⟩) (fun j c hj=>by rw[(hv j c hj).2.2];exact .s _)
 . obtain⟨ty,fz,hh⟩:=sf hp (by kernel_rfl:_=some 2);exact⟨ty,fz,lt_of_getElem? hh,hh⟩
 . obtain⟨tp,p,ty,fz,hh⟩:=he5;exact⟨tp,p,ty,fz,lt_of_getElem? hh,hh⟩
 . obtain⟨tp,p,ty,fz,hh⟩:=he6;exact⟨tp,p,ty,fz,lt_of_getElem? hh,hh⟩
end Go.Proofs.YtcbabnbiinkafaaGreatDoor
end
section
open Go Go.Am
open Go.Am.Dat (cells)
namespace Go.Proofs.YtcbabnbiinkafaaGreatDoor
open Go.ChangeShapes Go.WideShapes Go.ChangeAt Go.RowKit
open Go.ChangeMaps (open_string shut_string)
set_option maxRecDepth 100000
theorem ownOk : ownKnob Tryz.prog.godebug=none:=by kernel_rfl
theorem laidOut : laidOutB Tryz.prog=true:=by kernel_rfl
theorem rInt : ReadsP Tryz.prog 3 Int (fun n=>-9223372036854775808<=n/\n<=9223372036854775807):=ReadsP.int Tryz.underlying3 (by kernel_rfl)
theorem rInts : ReadsP Tryz.prog 24 (List Int) (fun l=>∀ a∈l,-9223372036854775808<=a/\a<=9223372036854775807):=ReadsP.list rInt Tryz.underlying24 (by kernel_rfl)
theorem rStr : ReadsP Tryz.prog 9 ByteArray (fun _=>True):=by
 refine⟨by kernel_rfl,by decide,fun en w sp fuel cs x h=>?_⟩;obtain⟨s,rfl,_,_⟩:=DataW.trod_string Tryz.underlying9 h;refine⟨s,trivial,rfl,rfl,fun j c hj=>?_⟩
 match j,hj with
 | 0,hj=>cases hj;exact⟨.s _,rfl⟩
theorem rStrs : ReadsP Tryz.prog 44 (List ByteArray) (fun l=>∀ a∈l,True):=ReadsP.list rStr Tryz.underlying44 (by kernel_rfl)
theorem rPair : ReadsP Tryz.prog 40 Gs (fun _=>True):=by
 refine⟨by kernel_rfl,by decide,fun en w sp fuel cs x h=>?_⟩;obtain⟨xs,m,_,rfl,hl,hlen,hel⟩:=DataW.trod_array Tryz.underlying40 h;have c3:Tryz.prog.cellsOf 3=1:=by kernel_rfl
 have hl2:cs.length=2:=hl.trans (by kernel_rfl)
 match cs,hl2 with
 |[b0,b1],_=>
  match xs,hlen with
  |[y0,y1],_=>
   have h0:DataW.trod en Tryz.prog w 0 sp true m 3 (([b0,b1].drop (0*Tryz.prog.cellsOf 3)).take (Tryz.prog.cellsOf 3))=some y0:=hel 0 (by decide);have h1:DataW.trod en Tryz.prog w 0 sp true m 3 (([b0,b1].drop (1*Tryz.prog.cellsOf 3)).take (Tryz.prog.cellsOf 3))=some y1:=hel 1 (by decide);rw[c3]at h0 h1;obtain⟨n0,e0,_,_⟩:=DataW.trod_int Tryz.underlying3 h0;obtain⟨n1,e1,_,_⟩:=DataW.trod_int Tryz.underlying3 h1;have e0':b0=.int .i64 n0:=by simpa using e0
   have e1':b1=.int .i64 n1:=by simpa using e1
   subst e0' e1';refine⟨⟨n0,n1⟩,trivial,rfl,rfl,fun j c hj=>?_⟩
   match j,hj with
   | 0,hj=>cases hj;exact⟨.s _,rfl⟩
   | 1,hj=>cases hj;exact⟨.s _,rfl⟩
theorem rPairs : ReadsP Tryz.prog 45 (List Gs) (fun l=>∀ a∈l,True):=ReadsP.list rPair Tryz.underlying45 (by kernel_rfl)
theorem rNw : ReadsP Tryz.prog 47 Nw (fun _=>True):=by
 refine⟨by kernel_rfl,by decide,fun en w sp fuel cs x h=>?_⟩;obtain⟨l,a0,p0,e0,h0⟩:=lY rStrs Tryz.underlying47 h 0 rfl rfl;obtain⟨_,a1,p1,e1,h1⟩:=lY rPairs Tryz.underlying47 h 1 rfl rfl;obtain⟨_,a2,p2,e2,h2⟩:=lY rInt Tryz.underlying47 h 2 rfl rfl;refine⟨⟨a0,a1,a2⟩,trivial,rfl,l.trans (by kernel_rfl),fun j c hj=>?_⟩
 match j,hj with
 | 0,hj=>cases hj;exact h0 0 _ rfl
 | 1,hj=>cases hj;exact h1 0 _ rfl
 | 2,hj=>cases hj;exact h2 0 _ rfl
theorem laidP {W:World} (hL:laidMetH Tryz.prog Rows.moveTextsRow.laid W):laidMet Tryz.prog [("math/bits.deBruijn32tab",Rows.laid_math_bits_deBruijn32tab),("math/bits.deBruijn64tab",Rows.laid_math_bits_deBruijn64tab),("internal/strconv.uint64pow10",Rows.laid_internal_strconv_uint64pow10),("unicode/utf8.acceptRanges",Rows.laid_unicode_utf8_acceptRanges),("strconv.ErrRange",Rows.laid_strconv_ErrRange),("strconv.ErrSyntax",Rows.laid_strconv_ErrSyntax),("unicode/utf8.first",Rows.laid_unicode_utf8_first)] W:=(show laidMet Tryz.prog _ W/\handlesMet Tryz.prog _ W from hL).1
theorem pow_ok {W:World} (hL:laidMetH Tryz.prog Rows.moveTextsRow.laid W):Lib.TabIs Tryz.prog W "internal/strconv.uint64pow10" .u64 Lib.pow10Tab:=by
 have e2:laidMet Tryz.prog ((_,Lib.tabData .u64 Lib.pow10Tab) :: _) W:=(laidP hL).tail.tail;exact Lib.tabIs_of_head (g:=2) (t:=256) (by kernel_rfl) (by kernel_rfl) Tryz.underlying256 Tryz.underlying238 (by kernel_rfl) (by kernel_rfl) e2
theorem glAll {W:World} (hL:laidMetH Tryz.prog Rows.moveTextsRow.laid W):eX Tryz.prog (fun b=>b < W.heap.size) W.heap:=gl_ok hL (show ("downtilt/move.kinds",Rows.laid_downtilt_move_kinds)∈Rows.moveTextsRow.laid from .tail _ (.tail _ (.tail _ (.tail _ (.tail _ (.tail _ (.head _))))))) (pow_ok hL) (ot (g:=5) (ti:=203) (laidP hL).tail.tail.tail.tail.tail (by kernel_rfl) (by kernel_rfl) Tryz.underlying203) (ot (g:=6) (ti:=203) (laidP hL).tail.tail.tail.tail (by kernel_rfl) (by kernel_rfl) Tryz.underlying203)
noncomputable def doorW (os:Os):World:=(World.doorLaid Tryz.prog 89 os).layVars Tryz.prog [("unicode/utf8.first",Rows.laid_unicode_utf8_first)]
theorem door_met (os:Os) (args:Array Value):laidMetH Tryz.prog Rows.moveTextsRow.laid ((doorW os).forCall (fun _ _=>0) ⟨#[],args,[]⟩).memory:=
 laidMetH_of_parts3 (fuel:=8) (laidMet_layVars (w0:=World.doorLaid Tryz.prog 89 os) ["unicode/utf8.first"] (List.filter (fun b=>b != 3) (List.range 16)) (by simp[World.memory,World.forCall,Input.heap];rfl) (by kernel_rfl) (by kernel_rfl) (LaidIn.of_run _ 8 (by kernel_rfl) (by kernel_rfl) (by kernel_rfl) (by kernel_rfl))) (by kernel_rfl) (by kernel_rfl)
theorem doorShaped (os:Os) (args:Array Value):((doorW os).forCall (fun _ _=>0) ⟨#[],args,[]⟩).Shaped Tryz.prog:=World.shaped_of_RefB (by kernel_rfl) (by kernel_rfl)
end Go.Proofs.YtcbabnbiinkafaaGreatDoor
end
