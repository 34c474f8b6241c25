/- Part 13 of the proof of: the statements about chapter 8 -/
import Derived.Lib.ItoaLen
import Derived.Test.YtcbabnbiinkafaaGreatDoorRows
import Derived.LaidMore
import Derived.LaidHandle
import Derived.LaidOnce
import Derived.LaidSub
import Derived.Lib.LaidTab
import Derived.OpenShut
import Derived.ChangeMaps5
import Derived.ProofKit
import Derived.Stop.Joined
import Derived.Test.YtcbabnbiinkafaaGreatDoorTie
import Derived.Test.YtcbabnbiinkafaaGreatDoorCards
import Derived.SevenTiedAt
import Derived.Lay
import Derived.Test.YtcbabnbiinkafaaGreatDoorBu12
set_option linter.all false
set_option maxHeartbeats 8000000
set_option maxRecDepth 100000
section
open Go Go.Am
open Go.Am.Dat (cells)
namespace Go.Proofs.YtcbabnbiinkafaaGreatDoor
def jj (n:Nw) (p:Ph):List T3->Ph
 |[]=>p
 | e :: l=>jj n (km n p e) l
def iG (n:Nw) (m:Ms):List T3->Int->Int×Int
 |[],_=>(0,0)
 | e :: l,i=>if fY n m e=0 then iG n (qE n m e) l (i+1)else (i,fY n m e)
def fZ (n:Nw) (c:Int) (log:List T3):Int:=dS [(gO n).2,if isC n c then 0 else 6,if decide (log.length<=200)then 0 else 8]
theorem mw (n:Nw):∀ (l:List T3) (p:Ph) (e:T3),jj n p (l++[e])=km n (jj n p l) e
 |[],p,e=>rfl
 | x :: l,p,e=>mw n l _ e
def tJ (n:Nw) (c:Int) (p0:Ph) (h:NwS n) (hp:gk n c=p0):Ent Tryz.prog:=.mk3 107 (fun args chs=>some (args=[enc n,enc c]/\chs=[],.ptr 11 0,phY n p0 11 18,[11,18])) (by
 intro args chs pp r chs' nk hs hq;simp only[zn,zf]at hs;obtain⟨rfl,rfl,rfl,rfl⟩:=hs;obtain⟨rfl,rfl⟩:=hq;subst hp;refine⟨begin_c n c h,⟨fun k c hm=>.inl ?_,fun k cs hm=>(by simp at hm),?_,fun k c hm=>?_⟩⟩
 . simp only[phY,zl,zA,qk,zf]at hm ⊢;rcases hm with⟨rfl,rfl⟩ | ⟨rfl,rfl⟩
   . exact .inl rfl
   . exact .inr rfl
 . simp[phY,dG]
 . simp only[phY,zl,zA,qk,zf]at hm;rcases hm with⟨rfl,rfl⟩ | ⟨rfl,rfl⟩
   . simp[phY,gd,phC,dG,dG.keysIns]
   . simp[gd])
theorem pt (n:Nw) (c:Int) (log:List T3):dS [(gO n).2,if 0<=c/\c<=(n.cells.length:Int) - 1 then 0 else 6,if (log.length:Int)<=200 then 0 else 8]=fZ n c log:=by
 unfold fZ isC;simp only[qf,show ((log.length:Int)<=200)=(log.length<=200) by apply propext;omega]
theorem vV (n:Nw) (c:Int) (log:List T3) (hn:NwS n) (h:fZ n c log≠0):FC Tryz.prog 97 [enc n,enc c,enc log] [] (.tup [.s (.pointer none),enc (0:Int),enc (fZ n c log)]) []:=by
 have hdn:=jd n;have hb:=hn.c;have hF:=pt n c log;generalize fZ n c log=F at *;refine dD [] is97 (by simp) (by simp[bn]) (by simp[ap,ag]) (by simp[ap,ag]) (by simp[aC]) (fun cx _ hl _=>dC [nj,gi,eg,ee] 1500 ?_);delta c97 oO oN oA oM oT oQ oS oK oF oL oV oC oI oX oB o1 o3 o4 o5 o6 o7;simp only[rv97,eO,hdn,hn,nj,gi,eg,ee,InR,qc,WU,Ent.of1,Ent.of2,Ent.of3,V,W3,seval];refine⟨by omega,?_⟩;rw[hF,qb h]
theorem vp (xs:List T3) (i:Nat) (h:i < xs.length):List.getD (xs.map Dat.cells) i [C.s (.int .i64 0),.s (.int .i64 0),.s (.int .i64 0)]=[C.s (.int .i64 (xs.getD i ⟨0,0,0⟩).x),.s (.int .i64 (xs.getD i ⟨0,0,0⟩).y),.s (.int .i64 (xs.getD i ⟨0,0,0⟩).z)]:=by
 rw[zb,zb,zh,ze h];rfl
theorem vm {n:Nw} {c:Int} {log:List T3} (h:dS [(gO n).2,if 0<=c/\c<=(n.cells.length:Int) - 1 then 0 else 6,if (log.length:Int)<=200 then 0 else 8]=0):isC n c=true/\log.length<=200:=by
 by_cases h0:(gO n).2=0
 . by_cases h1:0<=c/\c<=(n.cells.length:Int) - 1
   . by_cases h2:(log.length:Int)<=200
     . exact⟨by simp only[isC,qf];exact h1,by omega⟩
     . simp[dS,h0,h1,h2]at h
   . simp[dS,h0,h1]at h
 . simp[dS,h0]at h
theorem rO {n:Nw} {m:Ms} {e:T3} (h:fY n m e=0):evE n e=0:=by
 rcases qh (evE n e=0)with q | q
 . exact q
 . rw[fY,qb q]at h;exact h
theorem rt (n:Nw) (c:Int) (log:List T3) (hn:NwS n) (net:NetOk n) (h:fZ n c log=0) (r:C) (ch:Chs)
 (hok:(iG n (eM n c) log 0).2=0->r=.tup [.ptr 34 0,enc (0:Int),enc (0:Int)]/\ch=phY n (finP (jj n (gk n c) log)) 34 1034)
 (her:(iG n (eM n c) log 0).2≠0->r=.tup [.s (.pointer none),enc (iG n (eM n c) log 0).1,enc (iG n (eM n c) log 0).2]/\ch=[])
 (hn1:ap (ag ch)) (hkd:aC [] ch):FC Tryz.prog 97 [enc n,enc c,enc log] [] r ch:=by
 have hdn:=jd n;have hb:=hn.c;have hF:=pt n c log;generalize fZ n c log=F at *;subst h;obtain⟨hcc,hlog⟩:=vm hF;refine dD [1034] is97 (by simp) (by simp[bn]) (by simp[ap,ag]) hn1 hkd (fun cx _ hl _=>dC [nj,gi,eg,ee] 1500 ?_);delta c97 oO oN oA oM oT oQ oS oK oF oL oV oC oI oX oB o1 o3 o4 o5 o6 o7;simp only[rv97,eO,hdn,hn,nj,gi,eg,ee,InR,qc,WU,Ent.of1,Ent.of2,Ent.of3,V,W3,seval];refine⟨by omega,?_⟩;rw[hF,qa (fun q=>q rfl)];have g0:=dN.begin net hcc;have b0:PhK 0 (gk n c):=⟨by simp[gk],by simp[gk],by simp[gk],by simp[gk]⟩;have hm0:(gk n c).m=eM n c:=rfl;rw[<- hm0]at g0 hok her;clear hm0;obtain⟨p0,hp0⟩:∃ p0,gk n c=p0:=⟨_,rfl⟩;rw[hp0]at g0 hok her b0;refine pW [tJ n c p0 hn hp0] 1500 ?_;simp only[rv97,tJ,eO,phY,phC,WU,V,W3,seval];generalize hR:iG n p0.m log 0=R at *;have hS:jj n p0 (log.take 0)=p0:=rfl;obtain⟨pf,hpf⟩:∃ pf:Nat->Ph,∀ i,pf i=jj n p0 (log.take i):=⟨_,fun _=>rfl⟩;have hp00:pf 0=p0:=hpf 0;have hpe:pf log.length=jj n p0 log:=by rw[hpf,yo]
 rw[<- hpe]at hok;refine fH log.length (fun i=>[(37,.s (.int .i64 (i:Int)))]) (fun i=>[(34,.box (phC n (pf i) 1034)),(1034,.deep 1 3 24 none (fB (pf i).m.buf))]) (fun i=>dN n (pf i).m/\PhK i (pf i)/\iG n (pf i).m (log.drop i) (i:Int)=R) ⟨by rw[hp00];exact g0,by rw[hp00];exact b0,by rw[hp00];exact hR⟩ ?_ (fun i hi hv=>?_)
 . simp only[phC,hp00,V,W3,seval]
   all_goals rfl
 . obtain⟨g,b,hv⟩:=hv;by_cases h:i < log.length
   . have hi2:(i:Int) < (log.length:Int):=by omega
     have hi0:(0:Int)<=i:=by omega
     have hgd:=vp log i h;have hd:=fI (d:=(⟨0,0,0⟩:T3)) h;have hnx:pf (i+1)=km n (pf i) (log.getD i ⟨0,0,0⟩):=by
      rw[hpf,hpf,yI h,mw];rw[zb,ze h];rfl
     rw[hd]at hv;generalize log.getD i ⟨0,0,0⟩=e at *;obtain⟨q,hq,hq2⟩:=apply_c n (pf i) e i hn net g b (by omega);rw[iG]at hv;generalize hE:fY n (pf i).m e=E at *;refine dC [ei 118 n (pf i) q [.ptr 100000 0,enc e] (enc E) trivial hq] 1500 ?_;by_cases h0:E=0
     . subst h0;rw[qb rfl]at hv;have hqq:=hq2 rfl;rw[<- hnx]at hqq;subst hqq;have hg':dN n (pf (i+1)).m:=by rw[hnx,qD];exact g.apply net hE
       have hb':PhK (i+1) (pf (i+1)):=by
        rw[hnx];exact b.apply (ev_ok (rO hE)).2.1
       rw[<- qD,<- hnx]at hv;delta pY oO oN oA oM oR oS oK oC oW oI oX oB o3 o5;simp only[rv97,ei,qx,dV,phX,phC,hi0,hi2,h,hgd,InR,qc,WU,V,W3,seval];refine⟨by omega,⟨hg',hb',?_⟩,by omega⟩;rw[<- hv];congr 1
     . rw[qa h0]at hv;subst hv;obtain⟨rfl,rfl⟩:=her h0;delta pY oO oN oA oM oR oS oK oC oW oI oX oB o3 o5;simp only[rv97,ei,qx,dV,phX,phC,hi0,hi2,h,hgd,h0,InR,qc,qd,WU,V,W3,seval]
   . have hil:i=log.length:=by omega
     subst hil;have hi2:¬ ((log.length:Nat):Int) < (log.length:Int):=by omega
     have hvR:R=(0,0):=by rw[<- hv,List.drop_length];rfl
     subst hvR;obtain⟨rfl,rfl⟩:=hok rfl;generalize pf log.length=p at *;have hs0:=b.s0;have hs1:=b.s1;have ho1:=b.o1;have hat:=g.at_;have hl1:(0:Int)<=(p.stays.length:Int) - 1:=by omega
     have hl2:(p.stays.length:Int) - 1 < (p.stays.length:Int):=by omega
     have hl3:((p.stays.length:Int) - 1).toNat=p.stays.length - 1:=by omega
     have hl4:p.stays.length - 1 < p.stays.length:=by omega
     have hset:(p.stays.map Dat.cells).set (p.stays.length - 1) [C.s (.int .i64 (p.stays.getD (p.stays.length - 1) ⟨0,0,0⟩).x),.s (.int .i64 (p.stays.getD (p.stays.length - 1) ⟨0,0,0⟩).y),.s (.int .i64 p.m.at_)]=(jv p.stays p.m.at_).map Dat.cells:=by
      simp only[jv,List.map_set] <;> rfl
     have hgd:=qX p.stays _ hl4;have ht:p.out≠-1->InR .i64 (p.m.at_ - p.out):=fun _=>by simp only[InR];omega
     refine dC [ko n { p with stays:=jv p.stays p.m.at_ } p.m.at_ ht] 1500 ?_;delta pY oO oN oA oM oR oS oK oC oW oI oX oB o3 o5;simp only[rv97,ko,ei,kA,finP,hi2,phX,phY,phC,hl1,hl2,hl3,hl4,hgd,hset,qx,sb,qJ,InR,yD,List.take_zero,yw,List.drop_nil,yq,yb,z4,List.length_set,zy,WU,V,W3,seval];omega
theorem pg : ∀ (a:List ByteArray) (i:Nat) (l:List ByteArray) (q:Nat×Int),gR a i l=some q->q.2≠0
 | a,i,[],q,h=>by cases h
 | a,i,x :: l,q,h=>by
  rw[gR]at h
  repeat' split at h
  all_goals first | (cases h;simp;done) | exact pg _ _ _ _ h
theorem ue : ∀ (n:Nw) (i:Nat) (l:List Gs) (q:Nat×Int),nbE n i l=some q->q.2≠0
 | n,i,[],q,h=>by cases h
 | n,i,x :: l,q,h=>by
  rw[nbE]at h
  repeat' split at h
  all_goals first | (cases h;simp;done) | exact ue _ _ _ _ h
theorem ud : ∀ (n:Nw) (i:Nat) (l:List Gs),nbE n i l=none->∀ p∈l,p.re < p.im
 | n,i,[],h,p,hp=>by simp at hp
 | n,i,x :: l,h,p,hp=>by
  rw[nbE]at h;split at h
  . cases h
  . split at h
    . cases h
    . rename_i hx;split at h
      . cases h
      . rcases zl.1 hp with rfl | hp
        . exact Classical.not_not.1 hx
        . exact ud n _ l h p hp
theorem rm {n:Nw} (h:(gO n).2=0):NetOk n:=by
 unfold gO at h;by_cases h0:n.cells.length=0
 . rw[qb h0]at h;cases h
 rw[qa h0]at h;by_cases h1:6 < n.cells.length
 . rw[qb h1]at h;cases h
 rw[qa h1]at h;cases h2:gR n.cells 0 n.cells with
 | some q=>rw[h2]at h;exact absurd h (pg _ _ _ _ h2)
 | none=>
  rw[h2]at h;cases h3:nbE n 0 n.nb with
  | some q=>simp only[h3]at h;exact absurd h (ue _ _ _ _ h3)
  | none=>
   simp only[h3,limE]at h;refine⟨by omega,fun a b hab=>?_,?_⟩
   . simp only[nbr,List.any_eq_true,qf]at hab;obtain⟨p,hp,rfl⟩:=hab;have:=ud n 0 n.nb h3 _ hp;simp only at this;omega
   . split at h
     . assumption
     . cases h
def gH (n:Nw) (c:Int) (log:List T3):Int×Int:=if fZ n c log≠0 then (0,fZ n c log)else iG n (eM n c) log 0
def lu (n:Nw) (c:Int) (log:List T3):Ph:=finP (jj n (gk n c) log)
theorem uA (n:Nw) (c:Int) (log:List T3) (hn:NwS n) (h:(gH n c log).2=0):FC Tryz.prog 97 [enc n,enc c,enc log] [] (.tup [.ptr 34 0,enc (0:Int),enc (0:Int)]) (phY n (lu n c log) 34 1034):=by
 unfold gH at h;by_cases h1:fZ n c log=0
 . rw[qa (fun q=>q h1)]at h;have net:NetOk n:=by
    refine rm ?_;unfold fZ dS at h1;by_cases h2:(gO n).2=0
    . exact h2
    . rw[qb h2]at h1;exact h1
   exact rt n c log hn net h1 _ _ (fun _=>⟨rfl,rfl⟩) (fun q=>absurd h q) (by simp[phY,ap,ag,av]) (by simp[phY,aC,lk])
 . rw[qb h1]at h;exact absurd h h1
theorem uz (n:Nw) (c:Int) (log:List T3) (hn:NwS n) (h:(gH n c log).2≠0):FC Tryz.prog 97 [enc n,enc c,enc log] [] (.tup [.s (.pointer none),enc (gH n c log).1,enc (gH n c log).2]) []:=by
 unfold gH at h ⊢;by_cases h1:fZ n c log=0
 . rw[qa (fun q=>q h1)]at h ⊢;have net:NetOk n:=by
    refine rm ?_;unfold fZ dS at h1;by_cases h2:(gO n).2=0
    . exact h2
    . rw[qb h2]at h1;exact h1
   exact rt n c log hn net h1 _ _ (fun q=>absurd q h) (fun _=>⟨rfl,rfl⟩) (by simp[ap,ag]) (by simp[aC])
 . rw[qb h1]at h ⊢;exact vV n c log hn h1
def nA (n:Nw) (c:Int) (log:List T3) (p:Ph) (hn:NwS n) (h:(gH n c log).2=0) (hp:lu n c log=p):Ent Tryz.prog:=.mk3 97 (fun args chs=>some (args=[enc n,enc c,enc log]/\chs=[],.tup [.ptr 34 0,enc (0:Int),enc (0:Int)],phY n p 34 1034,[34,1034])) (by
 intro args chs pp r chs' nk hs hq;simp only[zn,zf]at hs;obtain⟨rfl,rfl,rfl,rfl⟩:=hs;obtain⟨rfl,rfl⟩:=hq;subst hp;refine⟨uA n c log hn h,⟨fun k c hm=>.inl ?_,fun k cs hm=>(by simp at hm),?_,fun k c hm=>?_⟩⟩
 . simp only[phY,zl,zA,qk,zf]at hm ⊢;rcases hm with⟨rfl,rfl⟩ | ⟨rfl,rfl⟩
   . exact .inl rfl
   . exact .inr rfl
 . simp only[phY,zt,zR,dG,dG.keysIns];exact⟨by simp,trivial,trivial,trivial⟩
 . simp only[phY,zl,zA,qk,zf]at hm;rcases hm with⟨rfl,rfl⟩ | ⟨rfl,rfl⟩
   . simp[phY,gd,phC,dG,dG.keysIns]
   . simp[gd])
def nz (n:Nw) (c:Int) (log:List T3) (i e:Int) (hn:NwS n) (h:e≠0) (hp:gH n c log=(i,e)):Ent Tryz.prog:=.mk3 97 (fun args chs=>some (args=[enc n,enc c,enc log]/\chs=[],.tup [.s (.pointer none),enc i,enc e],[],[])) (by
 intro args chs pp r chs' nk hs hq;simp only[zn,zf]at hs;obtain⟨rfl,rfl,rfl,rfl⟩:=hs;obtain⟨rfl,rfl⟩:=hq;have:=uz n c log hn (by rw[hp];exact h);rw[hp]at this
 exact⟨this,⟨fun k c hm=>(by simp at hm),fun k cs hm=>(by simp at hm),⟨trivial,trivial,trivial,trivial⟩,fun k c hm=>(by simp at hm)⟩⟩)
def ox (n:Nw) (c:Int) (log:List T3):C:=.tup (if (gH n c log).2=0 then [enc (lu n c log).m,enc (0:Int),enc (0:Int)]else [enc ms0,enc (gH n c log).1,enc (gH n c log).2])
theorem uO (n:Nw) (c:Int) (log:List T3) (hn:NwS n):FC Tryz.prog 36 [enc n,enc c,enc log] [] (ox n c log) []:=by
 have hdn:=jd n;unfold ox;obtain⟨p,hp⟩:∃ p,lu n c log=p:=⟨_,rfl⟩;obtain⟨⟨i,e⟩,hR⟩:∃ R,gH n c log=R:=⟨_,rfl⟩;rw[hR,hp];by_cases h:e=0
 . subst h;rw[qb rfl];refine dD [] is36 (by simp) (by simp[bn]) (by simp[ap,ag]) (by simp[ap,ag]) (by simp[aC]) (fun cx _ hl _=>dC [nA n c log p hn (by rw[hR]) hp] 1500 ?_);delta c36 oO oN oA oM oS oK oF oV oC oW oI oX oB oZ o5 o6 o7 o8;simp only[rv36,nA,eO,qT,phY,phC,fB,qc,WU,V,W3,seval];rw[zT];rfl
 . rw[qa h];refine dD [] is36 (by simp) (by simp[bn]) (by simp[ap,ag]) (by simp[ap,ag]) (by simp[aC]) (fun cx _ hl _=>dC [nz n c log i e hn h hR] 1500 ?_);delta c36 oO oN oA oM oS oK oF oV oC oW oI oX oB oZ o5 o6 o7 o8;simp only[rv36,nz,eO,qT,ms0,h,qc,qd,WU,V,W3,seval]
theorem sx (n:Nw) (c:Int) (log:List T3) (hn:NwS n):FC Tryz.prog 39 [enc n,enc c,enc log] [] (.tup (if (gH n c log).2=0 then [enc (lu n c log).recv,enc (0:Int)]else [enc ([]:List Int),enc (gH n c log).2])) []:=by
 have hdn:=jd n;obtain⟨p,hp⟩:∃ p,lu n c log=p:=⟨_,rfl⟩;obtain⟨⟨i,e⟩,hR⟩:∃ R,gH n c log=R:=⟨_,rfl⟩;rw[hR,hp];by_cases h:e=0
 . subst h;rw[qb rfl];refine dD [] D5.is39 (by simp) (by simp[bn]) (by simp[ap,ag]) (by simp[ap,ag]) (by simp[aC]) (fun cx _ hl _=>dC [nA n c log p hn (by rw[hR]) hp] 1500 ?_);delta D5.c39 oO oN oA oM oS oK oF oL oV oC oI oX oB o5 o6 o7 o8;simp only[D5.rv39,nA,eO,phY,phC,fB,qc,WU,V,W3,seval];refine fE (dW.take (s:=6) (k:=15) (j:=13) (by decide) rfl rfl trivial rfl (by decide)) ?_;refine iI (dC [] 500 ?_);delta D5.c39k2;simp only[D5.rv39,aT,bM,WU,V,W3,seval]
 . rw[qa h];refine dD [] D5.is39 (by simp) (by simp[bn]) (by simp[ap,ag]) (by simp[ap,ag]) (by simp[aC]) (fun cx _ hl _=>dC [nz n c log i e hn h hR] 1500 ?_);delta D5.c39 oO oN oA oM oS oK oF oL oV oC oI oX oB o5 o6 o7 o8;simp only[D5.rv39,nz,eO,h,qc,qd,WU,V,W3,seval];refine iI (dC [] 500 ?_);delta D5.c39k1;simp only[D5.rv39,WU,V,W3,seval]
theorem sy (w:World) (k:Nat) (os:Array Obj):RowKit.Below w.heap.size w (Go.Sort.grow (w.drewN k) os):=
 ⟨rfl,rfl,rfl,by simp[Go.Sort.grow],fun b hb=>by simp[Go.Sort.grow,yx,hb]⟩
theorem tab_ok {U:Nat->Prop} {w:World} (hg:eT Tryz.prog U w.heap) (nm:String) (hn:Tryz.prog.globalNamed nm=some 2):Lib.TabIs Tryz.prog w nm .u64 Lib.pow10Tab:=by
 obtain⟨⟨ty,fz,_,h⟩,_⟩:=hg.2;simp only[Lib.TabIs,World.var?,hn,Option.bind_some,h]
def iV (n:Int):ByteArray:=⟨(Lib.itoa n).toArray⟩
theorem Itoa_c (n:Int) (h:InR .i64 n):FC Tryz.prog 154 [enc n] [] (enc (iV n)) []:=by
 have h:-9223372036854775808<=n/\n<=9223372036854775807:=by simpa[InR]using h
 refine FC.scal (vs:=[.int .i64 n]) ⟨_,Tryz.func154,by kernel_rfl,by kernel_rfl⟩ (fun U w hg hU=>?_);refine (Any.strconv_Itoa Tryz.laysM171 n h.1 h.2 w (tab_ok hg _ (by kernel_rfl))).mono ?_
 rintro e w' ⟨rfl,k,os,rfl⟩
 exact⟨_,rfl,fun E U h=>.d (.s _),sy w k os⟩
def tN : Ent Tryz.prog:=.of1 154 (fun n=>InR .i64 n) (fun n:Int=>enc (iV n)) (fun _=>trivial) (fun n h=>Itoa_c n h)
def lY (xs:List ByteArray) (sep:ByteArray):ByteArray:=⟨(Lib.join (xs.map (·.data.toList)) sep.data.toList).toArray⟩
theorem Join_c (xs:List ByteArray) (sep:ByteArray) (h:xs.length<=1000000/\(Lib.join (xs.map (·.data.toList)) sep.data.toList).length<=140737488355328):FC Tryz.prog 123 [enc xs,enc sep] [] (enc (lY xs sep)) []:=by
 refine⟨⟨_,Tryz.func123,by kernel_rfl,by kernel_rfl⟩,fun E U aS w hg ha hi=>?_⟩;obtain⟨hs,hr⟩:=ha;have h0:=hr 0 _ rfl;have h1:=dK (hr 1 _ rfl);have fin:∀ (R:ByteArray),lY xs sep=R->∀ e w',(e=Ending.returned (.string R)/\RowKit.Below w.heap.size w w')->∃ v E' U',e=.returned v/\Rep E' U' w'.heap (enc (lY xs sep)) v/\CEv E U w [] E' U' w' []:=by
  rintro R hR e w' ⟨rfl,hb⟩
  exact⟨_,E,U,rfl,by rw[hR];exact .d (.s _),CEv.below hi hb⟩
 have hv:∀ a b,aS.getD 0 undef=a->aS.getD 1 undef=b->aS=#[a,b]:=fun a b ha hb=>by
  refine Array.ext (by simpa using hs) (fun i h1 h2=>?_);simp at h2
  match i,h2 with
  | 0,_=>rw[<- ha,zc,zj h1];rfl
  | 1,_=>rw[<- hb,zc,zj h1];rfl
 rcases wb h0 hi.lt with⟨rfl,a,c,e⟩ | ⟨b,off,cap,e,hcap,hb,hcell⟩
 . rw[hv _ _ e h1];refine (Any.strings_Join_none Tryz.lays156 Tryz.Builder_Extra_156 a c sep w).mono (fun e w' h=>fin _ rfl e w' ⟨h.1,h.2 ▸ RowKit.Below.refl _ _⟩)
 . rw[hv _ _ e h1];exact (Any.strings_Join Tryz.lays156 Tryz.Builder_Extra_156 b off cap xs sep w hcell hb (by omega) hcap h.2).mono (fin _ rfl)
def nr : Ent Tryz.prog:=.of2 123 (fun xs sep=>xs.length<=1000000/\(Lib.join (xs.map (·.data.toList)) sep.data.toList).length<=140737488355328) (fun (xs:List ByteArray) (sep:ByteArray)=>enc (lY xs sep)) (fun _ _=>trivial) (fun xs sep h=>Join_c xs sep h)
theorem mm (a:Nat):∀ (xs:List (List UInt8)) (sep:List UInt8),(∀ x∈xs,x.length<=a)->(Lib.joinTail sep xs).length<=xs.length*(a+sep.length)
 |[],sep,h=>by simp[Lib.joinTail]
 | x :: xs,sep,h=>by
  have h1:=h x zq;have h2:=mm a xs sep (fun y hy=>h y (zo _ hy));have e:Lib.joinTail sep (x :: xs)=(sep++x)++Lib.joinTail sep xs:=by simp[Lib.joinTail]
  rw[e,zK,zK,zQ,zP];omega
theorem sd (a:Nat) (xs:List (List UInt8)) (sep:List UInt8) (h:∀ x∈xs,x.length<=a):(Lib.join xs sep).length<=xs.length*(a+sep.length):=by
 cases xs with
 | nil=>simp[Lib.join]
 | cons x xs=>
  have h1:=h x zq;have h2:=mm a xs sep (fun y hy=>h y (zo _ hy));rw[Lib.join_cons,zK,zQ,zP];omega
def n7 : ByteArray:=⟨#[32]⟩
def barB : ByteArray:=⟨#[124]⟩
def jY (l:List Int):ByteArray:=lY (l.map iV) n7
theorem mG (l:List Int) (h:∀ x∈l,InR .i64 x):(Lib.join ((l.map iV).map (·.data.toList)) n7.data.toList).length<=l.length*22:=by
 have:=sd 21 ((l.map iV).map (·.data.toList)) n7.data.toList (fun y hy=>by
  simp only[zT,zu,Function.comp]at hy;obtain⟨x,hx,rfl⟩:=hy;have hr:-9223372036854775808<=x/\x<=9223372036854775807:=by simpa[InR]using h x hx
  exact Lib.itoa_length_le x hr.1 hr.2)
 simpa[n7]using this
theorem vz (l:List Int) (h1:l.length<=1000) (h2:∀ x∈l,InR .i64 x):FC Tryz.prog 122 [enc l] [] (enc (jY l)) []:=by
 have hj:=mG l h2;refine dD [] D6.is122 (by simp) (by simp[bn]) (by simp[ap,ag]) (by simp[ap,ag]) (by simp[aC]) (fun cx _ hl _=>dC [] 800 ?_);delta D6.c122 oO oA oM oS oK oV oX o4;simp only[D6.rv122,WU,V,W3,seval];refine fH l.length (fun i=>[(8,.s (.int .i64 (i:Int)))]) (fun i=>[(3,.row 1 9 (((l.take i).map iV).map Dat.cells))]) (fun _=>True) trivial ?_ (fun i hi _=>?_)
 . simp only[V,W3,seval]
   all_goals rfl
 . by_cases h:i < l.length
   . have hi2:(i:Int) < (l.length:Int):=by omega
     have hi0:(0:Int)<=i:=by omega
     have hx:InR .i64 (l.getD i 0):=by
      rw[zb,ze h];exact h2 _ (yy h)
     have hnx:((l.take (i+1)).map iV).map Dat.cells=((l.take i).map iV).map Dat.cells++[[C.s (.string (iV (l.getD i 0)))]]:=by
      rw[yI h,yg,yg,zb,ze h];rfl
     refine dC [tN] 800 ?_;delta D6.c122l1 oO oN oA oM oR oS oK oL oC oX oB o1;simp only[D6.rv122,tN,hi0,hi2,h,hx,hnx,WU,Ent.of1,V,W3,seval];have:(l.take i).length<=l.length:=by rw[qp];omega
     refine⟨by omega,?_,by omega⟩;simp only[InR];omega
   . have hil:i=l.length:=by omega
     subst hil;have hi2:¬ ((l.length:Nat):Int) < (l.length:Int):=by omega
     refine dC [nr] 800 ?_;delta D6.c122l1 oO oN oA oM oR oS oK oL oC oX oB o1;simp only[D6.rv122,nr,hi2,yo,fM,WU,Ent.of2,V,W3,seval];have hj2:(Lib.join ((l.map iV).map fun x=>x.data.toList) [32]).length<=l.length*22:=hj;exact⟨⟨by omega,by omega⟩,rfl⟩
def nq : Ent Tryz.prog:=.of1 122 (fun l=>l.length<=1000/\∀ x∈l,InR .i64 x) (fun l:List Int=>enc (jY l)) (fun _=>trivial) (fun l h=>vz l h.1 h.2)
def l4 (m:Ms):List Int:=[m.at_,m.vP,m.since,m.vG,m.target,m.vS,m.path,m.fresh,m.got]
def fd (m:Ms):List ByteArray:=jY (l4 m) :: m.buf.map jY
def fmtS (m:Ms):ByteArray:=lY (fd m) barB
structure Prt (m:Ms):Prop where
 n:∀ x∈l4 m,InR .i64 x
 b:m.buf.length<=1000
 r:∀ l∈m.buf,l.length<=1000/\∀ x∈l,InR .i64 x
theorem uG (m:Ms) (h:Prt m):(Lib.join ((fd m).map (·.data.toList)) barB.data.toList).length<=140737488355328:=by
 have:=sd 22000 ((fd m).map (·.data.toList)) barB.data.toList (fun y hy=>by
  simp only[fd,zt,zT,zl,zu,Function.comp]at hy;rcases hy with rfl | ⟨l,hl,rfl⟩
  . have:(jY (l4 m)).data.toList.length<=(l4 m).length*22:=mG _ h.n;have e:(l4 m).length=9:=rfl;omega
  . have h2:=h.r l hl;have:(jY l).data.toList.length<=l.length*22:=mG _ h2.2
    omega)
 have e:((fd m).map (·.data.toList)).length=m.buf.length+1:=by simp[fd]
 have e2:barB.data.toList.length=1:=rfl;have hb:=h.b;rw[e,e2]at this;omega
theorem pP (m:Ms) (hm:Prt m):FC Tryz.prog 80 [enc m] [] (enc (fmtS m)) []:=by
 have hj:=uG m hm;have h9:=hm.n;have hb:=hm.b;have hr:=hm.r;refine dD [] D6.is80 (by simp) (by simp[bn]) (by simp[ap,ag]) (by simp[ap,ag]) (by simp[aC]) (fun cx _ hl _=>dC [nq] 1200 ?_);delta D6.c80 oO oA oM oS oK oF oL oV oC oX o1 o4 o7;simp only[D6.rv80,qT,nq,WU,Ent.of1,V,W3,seval];refine⟨h9,?_⟩;have hL0:((fd m).take 1).map Dat.cells=[[C.s (.string (jY [m.at_,m.vP,m.since,m.vG,m.target,m.vS,m.path,m.fresh,m.got]))]]:=rfl;have hlen:(fd m).length=m.buf.length+1:=by simp[fd]
 refine fH m.buf.length (fun i=>[(30,.s (.int .i64 (i:Int)))]) (fun i=>[(26,.row 1 9 (((fd m).take (i+1)).map Dat.cells))]) (fun _=>True) trivial ?_ (fun i hi _=>?_)
 . simp only[hL0,V,W3,seval]
   all_goals rfl
 . by_cases h:i < m.buf.length
   . have hi2:(i:Int) < (m.buf.length:Int):=by omega
     have hi0:(0:Int)<=i:=by omega
     have hgx:List.getD (m.buf.map Dat.cells) i [C.sl 0 []]=[C.sl 1 ((m.buf.getD i []).map Dat.cells)]:=by
      rw[zb,zb,zh,ze h];rfl
     have hx:=hr (m.buf.getD i []) (by rw[zb,ze h];exact yy h);have hnx:((fd m).take (i+1+1)).map Dat.cells=((fd m).take (i+1)).map Dat.cells++[[C.s (.string (jY (m.buf.getD i [])))]]:=by
      rw[yI (by omega),yg]
      congr 1
      simp[fd,zb,ze h];rfl
     generalize m.buf.getD i []=q at *;refine dC [nq] 800 ?_;delta D6.c80l1 oO oN oA oM oR oS oK oL oC oX oB o0;simp only[D6.rv80,nq,hi0,hi2,h,hgx,hx,hnx,fM,WU,Ent.of1,V,W3,seval];have:((fd m).take (i+1)).length<=(fd m).length:=by rw[qp];omega
     refine⟨hx.2,by omega,?_,by omega⟩;simp only[InR];omega
   . have hil:i=m.buf.length:=by omega
     subst hil;have hi2:¬ ((m.buf.length:Nat):Int) < (m.buf.length:Int):=by omega
     have htk:(fd m).take (m.buf.length+1)=fd m:=by rw[<- hlen,yo]
     refine dC [nr] 800 ?_;delta D6.c80l1 oO oN oA oM oR oS oK oL oC oX oB o0;simp only[D6.rv80,nr,hi2,htk,fM,WU,Ent.of2,V,W3,seval];exact⟨⟨by omega,hj⟩,rfl⟩
theorem law_few : few gV=true:=by decide +kernel
theorem sf : NwS gV:=few_nws law_few
theorem law_ref : gH gV 0 jg=(0,0):=by decide +kernel
theorem vB : (lu gV 0 jg).recv=[0,1]:=by decide +kernel
theorem vC : gH gV 0 (jg.take 3)=(0,0):=by decide +kernel
theorem law_m : (lu gV 0 (jg.take 3)).m=⟨3,0,0,0,-1,-1,0,2,1,[[0,1],[],[]]⟩:=by decide +kernel
theorem law_fmt : fmtS ⟨3,0,0,0,-1,-1,0,2,1,[[0,1],[],[]]⟩=⟨#[51,32,48,32,48,32,48,32,45,49,32,45,49,32,48,32,50,32,49,124,48,32,49,124,124]⟩:=by decide +kernel
theorem law_recv_c : FC Tryz.prog 39 [enc gV,enc (0:Int),enc jg] [] (.tup [enc ([0,1]:List Int),enc (0:Int)]) []:=by
 have:=sx gV 0 jg sf;rw[law_ref,qb rfl,vB]at this;exact this
theorem law_rep_c : FC Tryz.prog 36 [enc gV,enc (0:Int),enc (jg.take 3)] [] (.tup [enc (⟨3,0,0,0,-1,-1,0,2,1,[[0,1],[],[]]⟩:Ms),enc (0:Int),enc (0:Int)]) []:=by
 have:=uO gV 0 (jg.take 3) sf;rw[ox,vC,qb rfl,law_m]at this;exact this
theorem law_prt : Prt ⟨3,0,0,0,-1,-1,0,2,1,[[0,1],[],[]]⟩:=by
 refine⟨fun x hx=>?_,by simp,fun l hl=>?_⟩
 . simp only[l4,zl,zA,qk]at hx;simp only[InR];omega
 . simp only[zl,zA,qk]at hl;rcases hl with rfl | rfl | rfl
   . refine⟨by simp,fun x hx=>?_⟩;simp only[zl,zA,qk]at hx;simp only[InR];omega
   . simp
   . simp
theorem law_fmt_c : FC Tryz.prog 80 [enc (⟨3,0,0,0,-1,-1,0,2,1,[[0,1],[],[]]⟩:Ms)] [] (enc (⟨#[51,32,48,32,48,32,48,32,45,49,32,45,49,32,48,32,50,32,49,124,48,32,49,124,124]⟩:ByteArray)) []:=by
 have:=pP _ law_prt;rw[law_fmt]at this;exact this
end Go.Proofs.YtcbabnbiinkafaaGreatDoor
end
section
open Go Go.Am
open Go.Am.Dat (cells)
namespace Go.Proofs.YtcbabnbiinkafaaGreatDoor
open Go.ChangeShapes Go.WideShapes Go.ChangeAt Go.RowKit
theorem take3 {l:List Value} {k:Nat} {a b c:Value} (h:(l.drop k).take 3=[a,b,c]):l[k]? = some a/\l[k+1]? = some b/\l[k+2]? = some c:=by
 have h0:=congrArg (·[0]?) h;have h1:=congrArg (·[1]?) h;have h2:=congrArg (·[2]?) h;simp[ya,zO]at h0 h1 h2;exact⟨h0,h1,h2⟩
theorem tY {W:World} {m:Nat} {cs:List Value} {x:DataW (List UInt8)×List MemPlace} (h:DataW.trod (funcToken Tryz.prog) Tryz.prog W 0 (fun _=>true) true m 169 cs=some x) {w:List UInt8} {b:Bool} {c:UInt8} {r:List UInt8} {f0:FuncId}
 (hx:x.1=.agg [.lit (.string w),.lit (.bool b),.held (c :: r)]) (hone:((List.range Tryz.prog.funcs.size).filter fun f=>(Tryz.prog.funcs[f]?).any (·.name.toUTF8.data.toList == c :: r))=[f0]) :
 cs=[.string ⟨w.toArray⟩,.bool b,.func (.func f0) #[] #[]]:=by
 obtain⟨xs,n,_,rfl,hl,hlen,hf⟩:=DataW.trod_struct Tryz.underlying169 h;have hl3:cs.length=3:=hl.trans (by kernel_rfl)
 match cs,hl3 with
 |[a0,a1,a2],_=>
  match xs,hlen with
  |[y0,y1,y2],_=>
   have c9:Tryz.prog.cellsOf 9=1:=by kernel_rfl
   have c4:Tryz.prog.cellsOf 4=1:=by kernel_rfl
   have c167:Tryz.prog.cellsOf 167=1:=by kernel_rfl
   have h0:DataW.trod (funcToken Tryz.prog) Tryz.prog W 0 (fun _=>true) true n 9 [a0]=some y0:=by
    have q:DataW.trod (funcToken Tryz.prog) Tryz.prog W 0 (fun _=>true) true n 9 (([a0,a1,a2].drop 0).take (Tryz.prog.cellsOf 9))=some y0:=hf 0 _ rfl;rw[c9]at q;exact q
   have h1:DataW.trod (funcToken Tryz.prog) Tryz.prog W 0 (fun _=>true) true n 4 [a1]=some y1:=by
    have q:DataW.trod (funcToken Tryz.prog) Tryz.prog W 0 (fun _=>true) true n 4 (([a0,a1,a2].drop 1).take (Tryz.prog.cellsOf 4))=some y1:=hf 1 _ rfl;rw[c4]at q;exact q
   have h2:DataW.trod (funcToken Tryz.prog) Tryz.prog W 0 (fun _=>true) true n 167 [a2]=some y2:=by
    have q:DataW.trod (funcToken Tryz.prog) Tryz.prog W 0 (fun _=>true) true n 167 (([a0,a1,a2].drop 2).take (Tryz.prog.cellsOf 167))=some y2:=hf 2 _ rfl;rw[c167]at q;exact q
   simp only[zt,zR,DataW.agg.injEq,List.cons.injEq,and_true]at hx;obtain⟨x0,x1,x2⟩:=hx;obtain⟨s,e0,rfl,_⟩:=DataW.trod_string Tryz.underlying9 h0;obtain⟨b',e1,rfl⟩:=DataW.trod_bool Tryz.underlying4 h1;obtain⟨y21,y22⟩:=y2;simp only at x2;subst x2;have e2:=func_of_trod (f0:=f0) Tryz.underlying167 hone h2;simp only[DataW.lit.injEq,Lit.string.injEq,Lit.bool.injEq]at x0 x1;simp only[List.cons.injEq,and_true]at e0 e1;subst e0 e1 e2 x0 x1;rfl
def rg : List (DataW (List UInt8)):=[.agg [.lit (.string [100,97,116,97]),.lit (.bool false),.held [40,42,100,111,119,110,116,105,108,116,47,109,111,118,101,46,112,104,111,110,101,41,46,100,97,116,97]],.agg [.lit (.string [115,101,110,100]),.lit (.bool false),.held [40,42,100,111,119,110,116,105,108,116,47,109,111,118,101,46,112,104,111,110,101,41,46,115,101,110,100]],.agg [.lit (.string [97,99,107]),.lit (.bool false),.held [40,42,100,111,119,110,116,105,108,116,47,109,111,118,101,46,112,104,111,110,101,41,46,97,99,107]],.agg [.lit (.string [112,114,101,112,97,114,101]),.lit (.bool true),.held [40,42,100,111,119,110,116,105,108,116,47,109,111,118,101,46,112,104,111,110,101,41,46,112,114,101,112,97,114,101]],.agg [.lit (.string [99,97,110,99,101,108]),.lit (.bool false),.held [40,42,100,111,119,110,116,105,108,116,47,109,111,118,101,46,112,104,111,110,101,41,46,99,97,110,99,101,108]],.agg [.lit (.string [99,111,109,109,97,110,100]),.lit (.bool false),.held [40,42,100,111,119,110,116,105,108,116,47,109,111,118,101,46,112,104,111,110,101,41,46,99,111,109,109,97,110,100]],.agg [.lit (.string [99,111,109,112,108,101,116,101]),.lit (.bool false),.held [40,42,100,111,119,110,116,105,108,116,47,109,111,118,101,46,112,104,111,110,101,41,46,99,111,109,112,108,101,116,101]],.agg [.lit (.string [102,111,114,119,97,114,100]),.lit (.bool false),.held [40,42,100,111,119,110,116,105,108,116,47,109,111,118,101,46,112,104,111,110,101,41,46,102,111,114,119,97,114,100]],.agg [.lit (.string [115,119,105,116,99,104]),.lit (.bool false),.held [40,42,100,111,119,110,116,105,108,116,47,109,111,118,101,46,112,104,111,110,101,41,46,116,117,114,110]],.agg [.lit (.string [102,97,105,108]),.lit (.bool false),.held [40,42,100,111,119,110,116,105,108,116,47,109,111,118,101,46,112,104,111,110,101,41,46,102,97,105,108]],.agg [.lit (.string [114,101,99,111,118,101,114]),.lit (.bool true),.held [40,42,100,111,119,110,116,105,108,116,47,109,111,118,101,46,112,104,111,110,101,41,46,114,101,99,111,118,101,114]],.agg [.lit (.string [112,97,115,115]),.lit (.bool false),.held [100,111,119,110,116,105,108,116,47,109,111,118,101,46,107,105,110,100,115,36,49]]]
def rf : DataW Unit:=match (Rows.laid_downtilt_move_kinds:DataW Unit)with | .iface _ d=>d | _=>.nil
theorem vA {W:World} {l:List (String×DataW Unit)} (hL:laidMetH Tryz.prog l W) (hm:("downtilt/move.kinds",Rows.laid_downtilt_move_kinds)∈l) :
 ∃ arr ty fz,W.heap[0]? = some (.cells arr ty fz)/\∀ (j:Nat) (c:C),jf[j]? = some c->∃ v:Value,c=C.s v/\arr[j]? = some v/\v.oneCell'=true:=by
 obtain⟨g,t,cs,fuel,p,hg,ht,hv,hd⟩:=hL.funcs (n := "downtilt/move.kinds") (d:=rf) hm
 obtain rfl:=Option.some.inj ((show Tryz.prog.globalNamed "downtilt/move.kinds" = some 0 by kernel_rfl).symm.trans hg)
 obtain rfl:=Option.some.inj ((show (Tryz.prog.globals[0]?).map (·.type)=some 170 by kernel_rfl).symm.trans ht);obtain⟨xs,m,_,hx,hl,hlen,hel⟩:=DataW.trod_array Tryz.underlying170 hd;have hx1:rf.funcsOut=.agg (xs.map (·.1)):=congrArg Prod.fst hx;have hk:rf.funcsOut=.agg rg:=by kernel_rfl
 rw[hk]at hx1;have hx2:rg=xs.map (·.1):=DataW.agg.inj hx1;have c169:Tryz.prog.cellsOf 169=3:=by kernel_rfl
 obtain⟨ty,fz,hh⟩:=rC hv hg;have key:∀ (i:Nat) (w:List UInt8) (b:Bool) (c:UInt8) (r:List UInt8) (f0:FuncId),i < 12->rg[i]? = some (.agg [.lit (.string w),.lit (.bool b),.held (c :: r)])->((List.range Tryz.prog.funcs.size).filter fun f=>(Tryz.prog.funcs[f]?).any (·.name.toUTF8.data.toList == c :: r))=[f0] ->
  cs.toList[i*3]? = some (.string ⟨w.toArray⟩)/\cs.toList[i*3+1]? = some (.bool b)/\cs.toList[i*3+2]? = some (.func (.func f0) #[] #[]):=fun i w b c r f0 hi hX hone=>by
  have h1:=hel i hi;rw[c169]at h1;rw[hx2,zh]at hX;cases hxi:xs[i]? with
  | none=>rw[hxi]at hX;cases hX
  | some x=>
   rw[hxi]at hX h1;exact take3 (tY h1 (Option.some.inj hX) hone)
 have k0:=key 0 _ _ _ _ 268 (by decide) rfl (by kernel_rfl);have k1:=key 1 _ _ _ _ 269 (by decide) rfl (by kernel_rfl);have k2:=key 2 _ _ _ _ 270 (by decide) rfl (by kernel_rfl);have k3:=key 3 _ _ _ _ 271 (by decide) rfl (by kernel_rfl);have k4:=key 4 _ _ _ _ 272 (by decide) rfl (by kernel_rfl);have k5:=key 5 _ _ _ _ 273 (by decide) rfl (by kernel_rfl);have k6:=key 6 _ _ _ _ 274 (by decide) rfl (by kernel_rfl);have k7:=key 7 _ _ _ _ 275 (by decide) rfl (by kernel_rfl);have k8:=key 8 _ _ _ _ 276 (by decide) rfl (by kernel_rfl);have k9:=key 9 _ _ _ _ 277 (by decide) rfl (by kernel_rfl);have k10:=key 10 _ _ _ _ 278 (by decide) rfl (by kernel_rfl);have k11:=key 11 _ _ _ _ 279 (by decide) rfl (by kernel_rfl);simp only[zM]at k0 k1 k2 k3 k4 k5 k6 k7 k8 k9 k10 k11;refine⟨cs,ty,fz,hh,fun j c hj=>?_⟩
 match j,hj with
 | 0,hj=>cases hj;exact⟨_,rfl,k0.1,rfl⟩
 | 1,hj=>cases hj;exact⟨_,rfl,k0.2.1,rfl⟩
 | 2,hj=>cases hj;exact⟨_,rfl,k0.2.2,rfl⟩
 | 3,hj=>cases hj;exact⟨_,rfl,k1.1,rfl⟩
 | 4,hj=>cases hj;exact⟨_,rfl,k1.2.1,rfl⟩
 | 5,hj=>cases hj;exact⟨_,rfl,k1.2.2,rfl⟩
 | 6,hj=>cases hj;exact⟨_,rfl,k2.1,rfl⟩
 | 7,hj=>cases hj;exact⟨_,rfl,k2.2.1,rfl⟩
 | 8,hj=>cases hj;exact⟨_,rfl,k2.2.2,rfl⟩
 | 9,hj=>cases hj;exact⟨_,rfl,k3.1,rfl⟩
 | 10,hj=>cases hj;exact⟨_,rfl,k3.2.1,rfl⟩
 | 11,hj=>cases hj;exact⟨_,rfl,k3.2.2,rfl⟩
 | 12,hj=>cases hj;exact⟨_,rfl,k4.1,rfl⟩
 | 13,hj=>cases hj;exact⟨_,rfl,k4.2.1,rfl⟩
 | 14,hj=>cases hj;exact⟨_,rfl,k4.2.2,rfl⟩
 | 15,hj=>cases hj;exact⟨_,rfl,k5.1,rfl⟩
 | 16,hj=>cases hj;exact⟨_,rfl,k5.2.1,rfl⟩
 | 17,hj=>cases hj;exact⟨_,rfl,k5.2.2,rfl⟩
 | 18,hj=>cases hj;exact⟨_,rfl,k6.1,rfl⟩
 | 19,hj=>cases hj;exact⟨_,rfl,k6.2.1,rfl⟩
 | 20,hj=>cases hj;exact⟨_,rfl,k6.2.2,rfl⟩
 | 21,hj=>cases hj;exact⟨_,rfl,k7.1,rfl⟩
 | 22,hj=>cases hj;exact⟨_,rfl,k7.2.1,rfl⟩
 | 23,hj=>cases hj;exact⟨_,rfl,k7.2.2,rfl⟩
 | 24,hj=>cases hj;exact⟨_,rfl,k8.1,rfl⟩
 | 25,hj=>cases hj;exact⟨_,rfl,k8.2.1,rfl⟩
 | 26,hj=>cases hj;exact⟨_,rfl,k8.2.2,rfl⟩
 | 27,hj=>cases hj;exact⟨_,rfl,k9.1,rfl⟩
 | 28,hj=>cases hj;exact⟨_,rfl,k9.2.1,rfl⟩
 | 29,hj=>cases hj;exact⟨_,rfl,k9.2.2,rfl⟩
 | 30,hj=>cases hj;exact⟨_,rfl,k10.1,rfl⟩
 | 31,hj=>cases hj;exact⟨_,rfl,k10.2.1,rfl⟩
 | 32,hj=>cases hj;exact⟨_,rfl,k10.2.2,rfl⟩
 | 33,hj=>cases hj;exact⟨_,rfl,k11.1,rfl⟩
 | 34,hj=>cases hj;exact⟨_,rfl,k11.2.1,rfl⟩
 | 35,hj=>cases hj;exact⟨_,rfl,k11.2.2,rfl⟩
theorem gl_ok {W:World} {l:List (String×DataW Unit)} (hL:laidMetH Tryz.prog l W) (hm:("downtilt/move.kinds",Rows.laid_downtilt_move_kinds)∈l) (hp:Lib.TabIs Tryz.prog W "internal/strconv.uint64pow10" .u64 Lib.pow10Tab) (he5:∃ tp p ty fz,W.heap[5]? = some (.cells #[.iface tp p] ty fz)) (he6:∃ tp p ty fz,W.heap[6]? = some (.cells #[.iface tp p] ty fz)):eT Tryz.prog (fun b=>b < W.heap.size) W.heap:=by
 refine⟨fun g cs h E=>?_,⟨?_,?_,?_⟩⟩
 . have h2:0=g/\jf=cs:=by
    simp only[Glob.gl,lk]at h;split at h
    . rename_i e;cases h;exact⟨e,rfl⟩
    . cases h
   obtain⟨rfl,rfl⟩:=h2;obtain⟨arr,ty,fz,hh,hc⟩:=vA hL hm;have hv:∀ (j:Nat) (c:C),jf[j]? = some c->arr[0+j]? = some (arr.getD j undef)/\(arr.getD j undef).oneCell'=true/\c=.s (arr.getD j undef):=fun j c hj=>by
    obtain⟨v,rfl,h1,h2⟩:=hc j c hj;have e:arr.getD j undef=v:=by rw[zc,h1];rfl
    rw[e,zz];exact⟨h1,h2,rfl⟩
   exact .ref _ 0 0 arr ty fz (fun j=>arr.getD j undef) (lt_of_getElem? hh) hh (fun j c hj=>⟨(hv j c hj).1,(hv j c hj).2.1⟩) (fun j c hj=>by rw[(hv j c hj).2.2];exact .s _)
 . obtain⟨ty,fz,hh⟩:=rC hp (by kernel_rfl:_=some 2);exact⟨ty,fz,lt_of_getElem? hh,hh⟩
 . obtain⟨tp,p,ty,fz,hh⟩:=he5;exact⟨tp,p,ty,fz,lt_of_getElem? hh,hh⟩
 . obtain⟨tp,p,ty,fz,hh⟩:=he6;exact⟨tp,p,ty,fz,lt_of_getElem? hh,hh⟩
end Go.Proofs.YtcbabnbiinkafaaGreatDoor
end
section
open Go Go.Am
open Go.Am.Dat (cells)
namespace Go.Proofs.YtcbabnbiinkafaaGreatDoor
open Go.ChangeShapes Go.WideShapes Go.ChangeAt Go.RowKit
open Go.ChangeMaps (open_string shut_string)
theorem ownOk : ownKnob Tryz.prog.godebug=none:=by kernel_rfl
theorem laidOut : laidOutB Tryz.prog=true:=by kernel_rfl
theorem rInt : ReadsP Tryz.prog 3 Int (fun n=>-9223372036854775808<=n/\n<=9223372036854775807):=ReadsP.int Tryz.underlying3 (by kernel_rfl)
theorem rInts : ReadsP Tryz.prog 24 (List Int) (fun l=>∀ a∈l,-9223372036854775808<=a/\a<=9223372036854775807):=ReadsP.list rInt Tryz.underlying24 (by kernel_rfl)
theorem rStr : ReadsP Tryz.prog 9 ByteArray (fun _=>True):=by
 refine⟨by kernel_rfl,by decide,fun en w sp fuel cs x h=>?_⟩;obtain⟨s,rfl,_,_⟩:=DataW.trod_string Tryz.underlying9 h;refine⟨s,trivial,rfl,rfl,fun j c hj=>?_⟩
 match j,hj with
 | 0,hj=>cases hj;exact⟨.s _,rfl⟩
theorem rStrs : ReadsP Tryz.prog 44 (List ByteArray) (fun l=>∀ a∈l,True):=ReadsP.list rStr Tryz.underlying44 (by kernel_rfl)
theorem rPair : ReadsP Tryz.prog 40 Gs (fun _=>True):=by
 refine⟨by kernel_rfl,by decide,fun en w sp fuel cs x h=>?_⟩;obtain⟨xs,m,_,rfl,hl,hlen,hel⟩:=DataW.trod_array Tryz.underlying40 h;have c3:Tryz.prog.cellsOf 3=1:=by kernel_rfl
 have hl2:cs.length=2:=hl.trans (by kernel_rfl)
 match cs,hl2 with
 |[b0,b1],_=>
  match xs,hlen with
  |[y0,y1],_=>
   have h0:DataW.trod en Tryz.prog w 0 sp true m 3 (([b0,b1].drop (0*Tryz.prog.cellsOf 3)).take (Tryz.prog.cellsOf 3))=some y0:=hel 0 (by decide);have h1:DataW.trod en Tryz.prog w 0 sp true m 3 (([b0,b1].drop (1*Tryz.prog.cellsOf 3)).take (Tryz.prog.cellsOf 3))=some y1:=hel 1 (by decide);rw[c3]at h0 h1;obtain⟨n0,e0,_,_⟩:=DataW.trod_int Tryz.underlying3 h0;obtain⟨n1,e1,_,_⟩:=DataW.trod_int Tryz.underlying3 h1;have e0':b0=.int .i64 n0:=by simpa using e0
   have e1':b1=.int .i64 n1:=by simpa using e1
   subst e0' e1';refine⟨⟨n0,n1⟩,trivial,rfl,rfl,fun j c hj=>?_⟩
   match j,hj with
   | 0,hj=>cases hj;exact⟨.s _,rfl⟩
   | 1,hj=>cases hj;exact⟨.s _,rfl⟩
theorem rPairs : ReadsP Tryz.prog 45 (List Gs) (fun l=>∀ a∈l,True):=ReadsP.list rPair Tryz.underlying45 (by kernel_rfl)
theorem rNw : ReadsP Tryz.prog 47 Nw (fun _=>True):=by
 refine⟨by kernel_rfl,by decide,fun en w sp fuel cs x h=>?_⟩;obtain⟨l,a0,p0,e0,h0⟩:=lB rStrs Tryz.underlying47 h 0 rfl rfl;obtain⟨_,a1,p1,e1,h1⟩:=lB rPairs Tryz.underlying47 h 1 rfl rfl;obtain⟨_,a2,p2,e2,h2⟩:=lB rInt Tryz.underlying47 h 2 rfl rfl;refine⟨⟨a0,a1,a2⟩,trivial,rfl,l.trans (by kernel_rfl),fun j c hj=>?_⟩
 match j,hj with
 | 0,hj=>cases hj;exact h0 0 _ rfl
 | 1,hj=>cases hj;exact h1 0 _ rfl
 | 2,hj=>cases hj;exact h2 0 _ rfl
theorem laidP {W:World} (hL:laidMetH Tryz.prog Rows.moveTextsRow.laid W):laidMet Tryz.prog [("math/bits.deBruijn32tab",Rows.laid_math_bits_deBruijn32tab),("math/bits.deBruijn64tab",Rows.laid_math_bits_deBruijn64tab),("internal/strconv.uint64pow10",Rows.laid_internal_strconv_uint64pow10),("unicode/utf8.acceptRanges",Rows.laid_unicode_utf8_acceptRanges),("strconv.ErrRange",Rows.laid_strconv_ErrRange),("strconv.ErrSyntax",Rows.laid_strconv_ErrSyntax),("unicode/utf8.first",Rows.laid_unicode_utf8_first)] W:=(show laidMet Tryz.prog _ W/\handlesMet Tryz.prog _ W from hL).1
theorem pow_ok {W:World} (hL:laidMetH Tryz.prog Rows.moveTextsRow.laid W):Lib.TabIs Tryz.prog W "internal/strconv.uint64pow10" .u64 Lib.pow10Tab:=by
 have e2:laidMet Tryz.prog ((_,Lib.tabData .u64 Lib.pow10Tab) :: _) W:=(laidP hL).tail.tail;exact Lib.tabIs_of_head (g:=2) (t:=256) (by kernel_rfl) (by kernel_rfl) Tryz.underlying256 Tryz.underlying238 (by kernel_rfl) (by kernel_rfl) e2
theorem glAll {W:World} (hL:laidMetH Tryz.prog Rows.moveTextsRow.laid W):eT Tryz.prog (fun b=>b < W.heap.size) W.heap:=gl_ok hL (show ("downtilt/move.kinds",Rows.laid_downtilt_move_kinds)∈Rows.moveTextsRow.laid from .tail _ (.tail _ (.tail _ (.tail _ (.tail _ (.tail _ (.head _))))))) (pow_ok hL) (nJ (g:=5) (ti:=203) (laidP hL).tail.tail.tail.tail.tail (by kernel_rfl) (by kernel_rfl) Tryz.underlying203) (nJ (g:=6) (ti:=203) (laidP hL).tail.tail.tail.tail (by kernel_rfl) (by kernel_rfl) Tryz.underlying203)
noncomputable def doorW (os:Os):World:=(World.doorLaid Tryz.prog 89 os).layVars Tryz.prog [("unicode/utf8.first",Rows.laid_unicode_utf8_first)]
theorem door_met (os:Os) (args:Array Value):laidMetH Tryz.prog Rows.moveTextsRow.laid ((doorW os).forCall (fun _ _=>0) ⟨#[],args,[]⟩).memory:=
 laidMetH_of_parts3 (fuel:=8) (laidMet_layVars (w0:=World.doorLaid Tryz.prog 89 os) ["unicode/utf8.first"] (List.filter (fun b=>b != 3) (List.range 16)) (by simp[World.memory,World.forCall,Input.heap];rfl) (by kernel_rfl) (by kernel_rfl) (LaidIn.of_run _ 8 (by kernel_rfl) (by kernel_rfl) (by kernel_rfl) (by kernel_rfl))) (by kernel_rfl) (by kernel_rfl)
theorem doorShaped (os:Os) (args:Array Value):((doorW os).forCall (fun _ _=>0) ⟨#[],args,[]⟩).Shaped Tryz.prog:=World.shaped_of_RefB (by kernel_rfl) (by kernel_rfl)
end Go.Proofs.YtcbabnbiinkafaaGreatDoor
end
