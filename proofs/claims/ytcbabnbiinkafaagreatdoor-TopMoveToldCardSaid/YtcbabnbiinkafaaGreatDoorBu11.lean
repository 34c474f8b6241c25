/- Part 11 of the proof of: the statements about chapter 8 -/
import Derived.Test.YtcbabnbiinkafaaGreatDoorBu10
set_option linter.all false
set_option maxHeartbeats 8000000
set_option maxRecDepth 100000
section
open Go Go.Am
open Go.Am.Dat (cells)
namespace Go.Proofs.YtcbabnbiinkafaaGreatDoor
def phC (n:Nw) (p:Ph) (kB:Nat):List C:=[.s (.int .i64 p.m.at_),.s (.int .i64 p.m.vP),.s (.int .i64 p.m.since),.s (.int .i64 p.m.vG),.s (.int .i64 p.m.target),.s (.int .i64 p.m.vS),.s (.int .i64 p.m.path),.s (.int .i64 p.m.fresh),.s (.int .i64 p.m.got),.own kB,
 .sl 1 (n.cells.map Dat.cells),.sl 2 (n.nb.map Dat.cells),.s (.int .i64 n.limit),.isl 1 3 (p.recv.map Dat.cells),.isl 3 138 (p.stays.map Dat.cells),.s (.int .i64 p.out),.s (.int .i64 p.vL)]
def phX (n:Nw) (p:Ph):Chs:=[(100000,.box (phC n p 100001)),(100001,.deep 1 3 24 none (fB p.m.buf))]
theorem eo (b:List (List Int)):(fB b).length=b.length:=by simp[fB]
theorem fu (b:List (List Int)) (i:Nat):(fB b).getD i []=(b.getD i []).map Dat.cells:=by
 rw[zb,zb,fB,zh];cases b[i]? <;> rfl
theorem jD (b:List (List Int)) (i:Nat) (l:List Int):(fB b).set i (l.map Dat.cells)=fB (b.set i l):=by
 simp[fB,List.map_set]
theorem dE (n:Nw) (p:Ph):ap (ag (phX n p)):=by simp[phX,ap,ag,av]
theorem dP (n:Nw) (p:Ph):bn (phX n p):=by simp[phX,bn]
theorem dI (n:Nw) (p q:Ph):aC (phX n p) (phX n q):=by simp[phX,aC,lk]
def ei (f:FuncId) (n:Nw) (p q:Ph) (as0:List C) (r:C) (hr:dG [100000,100001] r) (h:FC Tryz.prog f as0 (phX n p) r (phX n q)):Ent Tryz.prog:=.mk3 f (fun args chs=>some (args=as0/\chs=phX n p,r,phX n q,[])) (by
 intro args chs pp r' chs' nk hs hp;simp only[zn,zf]at hs;obtain⟨rfl,rfl,rfl,rfl⟩:=hs;obtain⟨rfl,rfl⟩:=hp;refine⟨h,⟨fun k c hm=>.inr ?_,fun k cs hm=>?_,hr,fun k c hm=>?_⟩⟩
 . simp only[phX,zl,zA,qk,zf]at hm ⊢;rcases hm with⟨rfl,rfl⟩ | ⟨rfl,rfl⟩
   . exact⟨_,.inl ⟨rfl,rfl⟩⟩
   . exact⟨_,.inr ⟨rfl,rfl⟩⟩
 . simp only[phX,zl,zA,qk,zf]at hm ⊢;rcases hm with⟨rfl,h2⟩ | ⟨rfl,h2⟩
   . exact⟨_,.inl ⟨rfl,rfl⟩⟩
   . cases h2
 . simp only[phX,zl,zA,qk,zf]at hm;rcases hm with⟨rfl,rfl⟩ | ⟨rfl,rfl⟩
   . simp[gd,phC,phX,dG,dG.keysIns]
   . trivial)
theorem away_c (n:Nw) (p:Ph):FC Tryz.prog 120 [.ptr 100000 0] (phX n p) (enc (ed p.m)) (phX n p):=by
 refine dD [100001] is120 (by simp) (dP n p) (dE n p) (dE n p) (dI n p p) (fun cx _ hl _=>dC [] 800 ?_);cases h1:decide (p.m.vP=2) <;> cases h2:decide (p.m.vP=3)
 all_goals
  have h1':=h1;have h2':=h2;simp only[qf,ql]at h1' h2';delta c120 oO oN oM oG oF oL oX oH oB oD oE oJ o6 o9;simp only[rv120,phX,phC,ed,h1,h2,h1',h2',Bool.or_true,Bool.or_false,yz,zF,WU,V,W3,seval]
def eX (n:Nw) (p:Ph):Ent Tryz.prog:=ei 120 n p p [.ptr 100000 0] (enc (ed p.m)) trivial (away_c n p)
theorem due_c (n:Nw) (p:Ph) (h:InR .i64 (p.m.since+n.limit)):FC Tryz.prog 121 [.ptr 100000 0] (phX n p) (enc (p.m.since+n.limit)) (phX n p):=by
 refine dD [100001] is121 (by simp) (dP n p) (dE n p) (dE n p) (dI n p p) (fun cx _ hl _=>dC [] 800 ?_);simp only[InR]at h;delta c121 oO oM oT oQ oS oK oF oL oV oX o6;simp only[rv121,phX,phC,InR,h,WU,V,W3,seval]
def np (n:Nw) (p:Ph) (h:InR .i64 (p.m.since+n.limit)):Ent Tryz.prog:=ei 121 n p p [.ptr 100000 0] (enc (p.m.since+n.limit)) trivial (due_c n p h)
theorem gone_c (n:Nw) (p:Ph) (t:Int):FC Tryz.prog 281 [.ptr 100000 0,enc t] (phX n p) (.tup []) (phX n (iC p t)):=by
 refine dD [100001] is281 (by simp) (dP n p) (dE n p) (dE n _) (dI n p _) (fun cx _ hl _=>dC [] 800 ?_);by_cases h:p.out=-1
 . delta c281 oN oM oR oF oL oW oI oX oB o6;simp only[rv281,phX,phC,iC,h,WU,V,W3,seval]
 . delta c281 oN oM oR oF oL oW oI oX oB o6;simp only[rv281,phX,phC,iC,h,WU,V,W3,seval]
def lz (n:Nw) (p:Ph) (t:Int):Ent Tryz.prog:=ei 281 n p (iC p t) [.ptr 100000 0,enc t] (.tup []) trivial (gone_c n p t)
theorem back_c (n:Nw) (p:Ph) (t:Int) (h:p.out≠-1->InR .i64 (t - p.out)):FC Tryz.prog 139 [.ptr 100000 0,enc t] (phX n p) (.tup []) (phX n (kA p t)):=by
 refine dD [100001] is139 (by simp) (dP n p) (dE n p) (dE n _) (dI n p _) (fun cx _ hl _=>dC [] 800 ?_);by_cases h0:p.out=-1
 . delta c139 oO oN oA oM oT oR oQ oS oK oF oL oY oI oX oB o6;simp only[rv139,phX,phC,kA,kz,h0,WU,V,W3,seval]
 . have h1:=h h0;simp only[InR]at h1;have hm:(if t - p.out > p.vL then t - p.out else p.vL)=max p.vL (t - p.out):=by omega
   delta c139 oO oN oA oM oT oR oQ oS oK oF oL oY oI oX oB o6;simp only[rv139,phX,phC,kA,kz,h0,h1,hm,InR,WU,V,W3,seval]
def ko (n:Nw) (p:Ph) (t:Int) (h:p.out≠-1->InR .i64 (t - p.out)):Ent Tryz.prog:=ei 139 n p (kA p t) [.ptr 100000 0,enc t] (.tup []) trivial (back_c n p t h)
theorem qX (xs:List T3) (i:Nat) (h:i < xs.length):List.getD (xs.map Dat.cells) i []=[C.s (.int .i64 (xs.getD i ⟨0,0,0⟩).x),.s (.int .i64 (xs.getD i ⟨0,0,0⟩).y),.s (.int .i64 (xs.getD i ⟨0,0,0⟩).z)]:=by
 rw[zb,zb,zh,ze h];rfl
theorem serve_c (n:Nw) (p:Ph) (c t:Int) (h:0 < p.stays.length/\p.stays.length<=1000000):FC Tryz.prog 184 [.ptr 100000 0,enc c,enc t] (phX n p) (.tup []) (phX n (j1 p c t)):=by
 refine dD [100001] is184 (by simp) (dP n p) (dE n p) (dE n _) (dI n p _) (fun cx _ hl _=>dC [] 800 ?_);by_cases h0:c=p.m.vG
 . have h0':p.m.vG=c:=h0.symm;delta c184 oO oN oA oM oT oR oQ oS oK oF oL oW oY oI oX oB o3 o4 o6;simp only[rv184,phX,phC,j1,chg,h0,WU,V,W3,seval]
 . have h0':¬ p.m.vG=c:=fun e=>h0 e.symm
   have hl1:(0:Int)<=(p.stays.length:Int) - 1:=by omega
   have hl2:(p.stays.length:Int) - 1 < (p.stays.length:Int):=by omega
   have hl3:((p.stays.length:Int) - 1).toNat=p.stays.length - 1:=by omega
   have hl4:p.stays.length - 1 < p.stays.length:=by omega
   have hset:(p.stays.map Dat.cells).set (p.stays.length - 1) [C.s (.int .i64 (p.stays.getD (p.stays.length - 1) ⟨0,0,0⟩).x),.s (.int .i64 (p.stays.getD (p.stays.length - 1) ⟨0,0,0⟩).y),.s (.int .i64 t)]++[[C.s (.int .i64 c),.s (.int .i64 t),.s (.int .i64 0)]]=((jv p.stays t)++[(⟨c,t,0⟩:T3)]).map Dat.cells:=by
    simp only[jv,yg,List.map_set] <;> rfl
   have hgd:=qX p.stays _ hl4;delta c184 oO oN oA oM oT oR oQ oS oK oF oL oW oY oI oX oB o3 o4 o6;simp only[rv184,phX,phC,j1,chg,h0,h0',hl1,hl2,hl3,hl4,hgd,hset,qx,sb,qJ,InR,aH,yD,List.take_zero,yw,List.drop_nil,yq,yb,z4,List.length_set,zy,WU,V,W3,seval];omega
def nu (n:Nw) (p:Ph) (c t:Int) (h:0 < p.stays.length/\p.stays.length<=1000000):Ent Tryz.prog:=ei 184 n p (j1 p c t) [.ptr 100000 0,enc c,enc t] (.tup []) trivial (serve_c n p c t h)
theorem waits_c (n:Nw) (p:Ph) (h1:p.m.buf.length<=1000000) (h2:fc p.m.buf<=1000000000):FC Tryz.prog 165 [.ptr 100000 0] (phX n p) (enc (fc p.m.buf)) (phX n p):=by
 refine dD [100001] is165 (by simp) (dP n p) (dE n p) (dE n p) (dI n p p) (fun cx _ hl _=>dC [] 800 ?_);generalize hT:fc p.m.buf=T at *;delta c165 oM oS oK oF oL oV oX o4 o6;simp only[qt,phX,phC,eo,WU,V,W3,seval];refine fH p.m.buf.length (fun i=>[(3,.s (.int .i64 (T - fc (p.m.buf.drop i)))),(12,.s (.int .i64 (i:Int)))]) (fun _=>[]) (fun i=>0<=T - fc (p.m.buf.drop i)) (by simp[hT]) ?_ (fun i hi hv=>dC [] 800 ?_)
 . simp only[V,W3,seval]
   all_goals simp[hT]
 . by_cases h:i < p.m.buf.length
   . have hi2:(i:Int) < (p.m.buf.length:Int):=by omega
     have hi0:(0:Int)<=i:=by omega
     have hd:=fI (d:=[]) h;have hnn:=sq (p.m.buf.drop (i+1));rw[hd,fc]at hv;have hg:=fu p.m.buf i;generalize p.m.buf.getD i []=q at *;delta qH oO oN oA oM oR oS oK oL oX oB o0 o4;simp only[qt,hi0,hi2,h,hg,hd,fc,eo,zy,InR,WU,V,W3,seval];omega
   . have hi2:¬ (i:Int) < (p.m.buf.length:Int):=by omega
     have hd:p.m.buf.drop i=[]:=zv (by omega);delta qH oO oN oA oM oR oS oK oL oX oB o0 o4;simp only[qt,hi2,hd,fc,WU,V,W3,seval]
     try omega
def ly (n:Nw) (p:Ph) (h1:p.m.buf.length<=1000000) (h2:fc p.m.buf<=1000000000):Ent Tryz.prog:=ei 165 n p p [.ptr 100000 0] (enc (fc p.m.buf)) trivial (waits_c n p h1 h2)
theorem done_c (n:Nw) (p:Ph) (h:p.m.vS≠-1->0<=p.m.vS/\p.m.vS.toNat < p.m.buf.length):FC Tryz.prog 149 [.ptr 100000 0] (phX n p) (enc (fK p.m)) (phX n p):=by
 refine dD [100001] is149 (by simp) (dP n p) (dE n p) (dE n p) (dI n p p) (fun cx _ hl _=>dC [] 1200 ?_);cases h1:decide (p.m.vS≠-1) <;> cases h2:decide (p.m.path=p.m.vG)
 all_goals
  have h1':=h1;have h2':=h2;simp only[qf,ql,ne_eq,Decidable.not_not]at h1' h2'
 . delta c149 oO oN oT oG oQ oS oK oX oD oE oJ o0 o9;simp only[nZ,phX,phC,fK,h1,h2,h1',h2',zZ,yd,zY,z7,WU,V,W3,seval]
 . delta c149 oO oN oT oG oQ oS oK oX oD oE oJ o0 o9;simp only[nZ,phX,phC,fK,h1,h2,h1',h2',zZ,yd,zY,z7,WU,V,W3,seval]
   all_goals simp
 . delta c149 oO oN oT oG oQ oS oK oX oD oE oJ o0 o9;simp only[nZ,phX,phC,fK,h1,h2,h1',h2',zZ,yd,zY,z7,WU,V,W3,seval]
 . obtain⟨g1,g2⟩:=h h1';have g3:p.m.vS < (p.m.buf.length:Int):=by omega
   delta c149 oO oN oT oG oQ oS oK oX oD oE oJ o0 o9;simp only[nZ,phX,phC,fK,h1,h2,h1',h2',g1,g2,g3,eo,fu,dO,zZ,yd,zY,z7,InR,WU,V,W3,seval];generalize p.m.buf.getD p.m.vS.toNat []=q;cases q with
   | nil=>rfl
   | cons a l=>simp;omega
def tM (n:Nw) (p:Ph) (h:p.m.vS≠-1->0<=p.m.vS/\p.m.vS.toNat < p.m.buf.length):Ent Tryz.prog:=ei 149 n p p [.ptr 100000 0] (enc (fK p.m)) trivial (done_c n p h)
theorem uB (n:Nw) (p:Ph) (h:p.m.vS≠-1->0<=p.m.vS/\p.m.vS.toNat < p.m.buf.length):FC Tryz.prog 262 [.ptr 100000 0] (phX n p) (.tup []) (phX n { p with m:=settle p.m }):=by
 refine dD [100001] is262 (by simp) (dP n p) (dE n p) (dE n _) (dI n p _) (fun cx _ hl _=>dC [tM n p h] 1200 ?_);cases h1:fK p.m
 all_goals
  delta c262 oO oN oM oR oF oC oY oI oX o6;simp only[rv262,phX,phC,tM,ei,settle,h1,WU,V,W3,seval]
def tS (n:Nw) (p:Ph) (h:p.m.vS≠-1->0<=p.m.vS/\p.m.vS.toNat < p.m.buf.length):Ent Tryz.prog:=ei 262 n p { p with m:=settle p.m } [.ptr 100000 0] (.tup []) trivial (uB n p h)
theorem near_c (n:Nw) (p:Ph) (c:Int):FC Tryz.prog 148 [.ptr 100000 0,enc c] (phX n p) (enc (nbr n c p.m.vG)) (phX n p):=by
 refine dD [100001] is148 (by simp) (dP n p) (dE n p) (dE n p) (dI n p p) (fun cx _ hl _=>dC [lw] 1200 ?_);have h1:(if p.m.vG > c then p.m.vG else c)=max c p.m.vG:=by omega
 have h2:(if p.m.vG < c then p.m.vG else c)=min c p.m.vG:=by omega
 delta c148 oO oA oM oT oQ oS oK oF oL oX o2 o6 o9;simp only[rv148,phX,phC,lw,nbr,h1,h2,WU,Ent.of2,V,W3,seval]
 congr 1
 funext x
 exact decide_eq_decide.2 eq_comm
def ns (n:Nw) (p:Ph) (c:Int):Ent Tryz.prog:=ei 148 n p p [.ptr 100000 0,enc c] (enc (nbr n c p.m.vG)) trivial (near_c n p c)
end Go.Proofs.YtcbabnbiinkafaaGreatDoor
end
section
open Go Go.Am Go.RowKit Go.Lib Go.Proofs
open Go.Am.Dat (cells)
namespace Go.Proofs.YtcbabnbiinkafaaGreatDoor
theorem uJ {g:Nat} (hg:pU g) (xs:List Int) (h:xs.length<=1000000) {E:Env} {U:Nat->Prop} {w:World} {ch:Chs} {k kc kp:Nat} {cs:List C} {got:Int} {d:Nat} (hi:Inv E U w.heap ch) (hk0:lk ch k=some (.row 1 3 (xs.map Dat.cells))) (h1:lk ch kc=some (.box [.ptr kp 0])) (h2:lk ch kp=some (.box cs)) (h3:cs[8]? = some (.s (.int .i64 got))) :
 Calls Tryz.prog 182 #[slV (E k).toKE0,.func (.func g) #[] #[.pointer (some ⟨(E kc).blk,0,none⟩)]] w fun e w'=>∃ v E' U',e=.returned v/\Rep E' U' w'.heap (.own k) v/\Ev E U w ch [(k,.c .any)] d E' U' w' (am (ae [(k,.c .any)] ch) k (.row 1 3 ((frm xs got).map Dat.cells))):=by
 have m0:=dH hk0;have m1:=dH h1;have m2:=dH h2;obtain⟨hrow,hfp⟩:=hi.ok k _ m0;obtain⟨⟨n1,arr1,ty1,b1,b2,b3⟩,f1,_⟩:=hi.ok kc _ m1;obtain⟨⟨n2,arr2,ty2,d1,d2,d3⟩,f2,_⟩:=hi.ok kp _ m2;have v1:arr1[0]? = some (.pointer (some ⟨(E kp).blk,0,none⟩)):=by
  have:=b3 0 _ rfl;rcases this with⟨q,_⟩ | ⟨⟨_,_,_,q⟩,_⟩
  . have hq:=ft q;have hlt:0 < arr1.size:=by rw[b2];simp
    rw[zc,zj hlt]at hq;rw[zj hlt];simpa using hq
  . cases q
 have v2:arr2[8]? = some (.int .i64 got):=by
  have:=d3 8 _ h3;rcases this with⟨q,_⟩ | ⟨⟨_,_,_,q⟩,_⟩
  . have hq:=dK q;have hlt:8 < arr2.size:=by rw[d2];exact (zi.1 h3).1
    rw[zc,zj hlt]at hq;rw[zj hlt];simpa using hq
  . cases q
 have o1:(E kc).fp (E kc).blk:=(f1.fp _).2 (.inl ⟨n1,rfl⟩);have o2:(E kp).fp (E kp).blk:=(f2.fp _).2 (.inl ⟨n2,rfl⟩);have hkc:kc≠k:=fun e=>by rw[e,hk0]at h1;cases h1
 have hkp:kp≠k:=fun e=>by rw[e,hk0]at h2;cases h2
 have hl:=hrow.1;simp only[zy]at hl;cases hn:(E k).nil with
 | true=>
  have hx:xs=[]:=by
   rcases hrow.2.2.2 with⟨_,g⟩ | ⟨g,_⟩
   . simpa using g
   . rw[hn]at g;cases g
  subst hx;have hsv:slV (E k).toKE0=.slice none 0 0:=by simp[slV,hn]
  rw[hsv];refine (del_nil _ w).mono ?_
  rintro e w' ⟨rfl,rfl⟩
  have he:=Ev.rekey (w1:=w') (c1:=.row 1 3 ((frm [] got).map Dat.cells)) (x:=E k) (d:=d) hi hk0 rfl rfl rfl (zw _) (fun b _ _=>rfl) (fun b hb=>.inr hb) (fun cs h=>by cases h) (fun hkeep=>by
   simp only[dM,updE_same]
   exact⟨hrow,hfp⟩)
  refine⟨_,_,U,rfl,?_,he⟩;have:=Rep.own (E:=dQ E k (E k)) (U:=U) (h:=w'.heap) k;rw[updE_same,hsv]at this;exact this
 | false=>
  obtain⟨c1,c2,arr,hab,_,_⟩:=io hrow hn;have o0:(E k).fp (E k).blk:=(hfp.fp _).2 (.inl ⟨hn,rfl⟩);have ne1:(E kc).blk≠(E k).blk:=fun e=>hi.sep kc _ k _ m1 m0 hkc _ o1 (e ▸ o0)
  have ne2:(E kp).blk≠(E k).blk:=fun e=>hi.sep kp _ k _ m2 m0 hkp _ o2 (e ▸ o0)
  have hmx:maxLen<=9223372036854775807:=by decide
  have hsv:∀ n,slV { (E k).toKE0 with len:=n }=.slice (some ⟨(E k).blk,(E k).off,none⟩) n (E k).cap:=fun n=>by simp[slV,hn]
  have hsv0:slV (E k).toKE0=.slice (some ⟨(E k).blk,(E k).off,none⟩) xs.length (E k).cap:=by simp[slV,hn,hl]
  rw[hsv0];have hp:PredAt Tryz.prog g #[.pointer (some ⟨(E kc).blk,0,none⟩)] (Value.int .i64) (fun x=>decide (x < got)) w:=fun W x hb=>by
   show Calls _ _ (#[Value.int .i64 x]++_) _ _
   refine (hg.2 W x got (E kc).blk (E kp).blk ?_ ?_).mono ?_
   . have:=hb.block _ (lt_of_getElem? b1);simp only[World.cell?,this,b1];simpa using v1
   . have:=hb.block _ (lt_of_getElem? d1);simp only[World.cell?,this,d1];simpa using v2
   . rintro e w' ⟨rfl,rfl⟩;exact⟨rfl,0,rfl⟩
  have hpo:PredOver Tryz.prog g #[.pointer (some ⟨(E kc).blk,0,none⟩)] (Value.int .i64) (fun x=>decide (x < got)) (E k).blk (E k).off xs.toArray.size w:=fun n os dk x hdk=>by
   have hold:∀ b,b < w.heap.size->b≠(E k).blk->(sortWorld (Value.int .i64) w (E k).blk (E k).off n dk os).heap[b]? = w.heap[b]?:=fun b hb hbn=>by
    show ((Sort.putRow (Value.int .i64) (Sort.ahead w n) (E k).blk (E k).off dk).heap++os)[b]? = _
    rw[zX (by simpa[Sort.ahead]using hb),fP,qa (fun e=>hbn e.symm)];rfl
   show Calls _ _ (#[Value.int .i64 x]++_) _ _
   refine (hg.2 _ x got (E kc).blk (E kp).blk ?_ ?_).mono ?_
   . have:=hold _ (lt_of_getElem? b1) ne1;simp only[World.cell?,this,b1];simpa using v1
   . have:=hold _ (lt_of_getElem? d1) ne2;simp only[World.cell?,this,d1];simpa using v2
   . rintro e w' ⟨rfl,rfl⟩;exact⟨rfl,0,rfl⟩
  have hz:∀ w,(zeroValue 3).run Tryz.prog w=.ok (.int .i64 0) w:=fun w=>by
   have hmap:(Tryz.prog.info? 3).map (fun i=>i.zero)=some (some (.int .i64 0)):=by kernel_rfl
   obtain⟨i0,hi0,hq⟩:=za.1 hmap;exact gp hi0 hq
  refine (AnyE.slices_DeleteFunc Tryz.laysSlH10_f182 (Value.int .i64) oneI (fun x=>decide (x < got)) g _ hg.1 0 hz (E k).blk (E k).off (E k).cap xs.toArray w hp hpo (pI hrow hn) (by simp;omega) (by simpa using c1)).mono ?_
  rintro e w' ⟨rfl,q,rfl⟩
  have hF:(xs.toArray.toList.filter fun x=>!(decide (x < got)))=frm xs got:=sM xs got;rw[hF];have hfl:(frm xs got).length<=xs.length:=List.length_filter_le _ _;have hblk:(E k).blk < w.heap.size:=lt_of_getElem? hab
  have he:=Ev.rekey (w1:=Sort.putRow (Value.int .i64) (Sort.ahead w q) (E k).blk (E k).off ((frm xs got)++List.replicate (xs.toArray.size - (frm xs got).length) 0).toArray) (c1:=.row 1 3 ((frm xs got).map Dat.cells)) (x:={ E k with len:=(frm xs got).length }) (d:=d) hi hk0 rfl rfl rfl (by simp[Sort.ahead]) (fun b hb hnb=>by
   have hne:¬ (E k).blk=b:=fun e=>hnb (e ▸ o0)
   rw[fP,qa hne];rfl) (fun b hb=>.inr hb) (fun cs h=>by cases h) (fun hkeep=>by
   simp only[dM,updE_same];refine⟨?_,⟨hfp.fp,hfp.ne,hfp.sep⟩⟩
   exact ss hrow hn hab (by
    rw[fP,qb rfl];show (w.heap[(E k).blk]?).map _=_
    rw[hab];rfl) (frm xs got) (by simp) (by simp;omega) (fun j x hj=>by
    have hjl:=(zi.1 hj).1
    rw[List.getElem?_toArray,yj hjl];exact hj))
  refine⟨_,_,U,rfl,?_,he⟩;have:=Rep.own (E:=dQ E k { E k with len:=(frm xs got).length }) (U:=U) (h:=(Sort.putRow (Value.int .i64) (Sort.ahead w q) (E k).blk (E k).off ((frm xs got)++List.replicate (xs.toArray.size - (frm xs got).length) 0).toArray).heap) k;rw[updE_same]at this;show Rep _ _ _ _ (.slice (some ⟨(E k).blk,(E k).off,none⟩) (frm xs got).length (E k).cap)
  rw[<- hsv];exact this
theorem OpM.delF {ro:Option Nat} {ρ:Operand->C} {ch:Chs} {d:Nat} {g k kc kp:Nat} {x y:Operand} (hg:pU g) (xs:List Int) (h:xs.length<=1000000) {cs:List C} {got:Int} (hx:ρ x=.own k) (hy:ρ y=.fn (.func g) [] [.ptr kc 0]) (hfo:ρ (.func 182)=.fn (.func 182) [] []) (hk0:lk ch k=some (.row 1 3 (xs.map Dat.cells))) (h1:lk ch kc=some (.box [.ptr kp 0])) (h2:lk ch kp=some (.box cs)) (h3:cs[8]? = some (.s (.int .i64 got))) :
 OpM Tryz.prog ro ρ ch d (.call (.func 182) [x,y]) (fun ef=>ef=⟨True,.own k,am (ae [(k,.c .any)] ch) k (.row 1 3 ((frm xs got).map Dat.cells)),[(k,.c .any)]⟩):=
 OpM.calls ⟨_,Tryz.func182,by kernel_rfl,by kernel_rfl⟩ hfo (fun E U w vs hi hgl ha=>by
  obtain⟨hs,hr⟩:=ha;have a0:vs.getD 0 undef=slV (E k).toKE0:=eS (hr 0 (.own k) (by simp[hx]));have a1:vs.getD 1 undef=.func (.func g) #[] #[.pointer (some ⟨(E kc).blk,0,none⟩)]:=by
   have:=hr 1 (.fn (.func g) [] [.ptr kc 0]) (by simp[hy]);generalize vs.getD 1 undef=v at this;cases this with
   | d hd=>cases hd
   | fn _ _ _ vs ws hl1 hr1 hl2 hr2=>
    have e1:vs=#[]:=yL.1 (by simpa using hl1);have e2:=args1 (aS:=ws) (by simpa using hl2) (ft (hr2 0 _ rfl));rw[e1,e2]
  rw[args2 (by simpa using hs) a0 a1]
  exact uJ hg xs h hi hk0 h1 h2 h3)
end Go.Proofs.YtcbabnbiinkafaaGreatDoor
end
section
open Go Go.Am
open Go.Am.Dat (cells)
namespace Go.Proofs.YtcbabnbiinkafaaGreatDoor
theorem srt_mrg (b:List (List Int)):fD b.flatten=mrg b:=by
 have h1:(fD b.flatten).Perm (mrg b):=(List.mergeSort_perm _ _).trans (kS b).symm;have h2:(fD b.flatten).Pairwise (·<=·):=by
  have:=List.pairwise_mergeSort (le:=fun x y:Int=>decide (x<=y)) (fun a b c h1 h2=>by simp at *;omega) (fun a b=>by simp;omega) b.flatten;exact this.imp (fun h=>by simpa using h)
 exact h1.eq_of_pairwise (fun a b _ _ h1 h2=>by omega) h2 (nN b)
def tO (l:List Int) (h:l.length<=1000000):Ent Tryz.prog:=.mk3 179 (fun args chs=>some (args=[vaF l]/\chs=[],.own 4,[(4,.row 1 3 ((fD l).map Dat.cells))],[4])) (by
 intro args chs p r chs' nk hs hp;simp only[zn,zf]at hs;obtain⟨rfl,rfl,rfl,rfl⟩:=hs;obtain⟨rfl,rfl⟩:=hp
 exact⟨uS l h,wfr1 (fun cs h=>by cases h)⟩)
theorem tv (n:Nw) (p:Ph) (c t:Int) (hn:NwS n) (hc:0<=c/\c.toNat < n.cells.length) (hlen:p.m.buf.length=n.cells.length) (h1:p.m.buf.length<=1000) (h2:p.m.buf.flatten.length<=1000000) (hs:0 < p.stays.length/\p.stays.length<=1000000) (ho:p.out≠-1->InR .i64 (t - p.out)) :
 FC Tryz.prog 166 [.ptr 100000 0,enc c,enc t] (phX n p) (.tup []) (phX n (kH p c t)):=by
 refine dD [100001] D3.is166 (by simp) (dP n p) (dE n p) (dE n _) (dI n p _) (fun cx _ hl _=>dC [tQ,tP,tO p.m.buf.flatten h2] 1200 ?_);have hbm:(fB p.m.buf).map (fun es=>[C.sl 1 es])=p.m.buf.map Dat.cells:=by
  simp only[fB,zT] <;> rfl
 delta D3.c166 oO oN oA oM oT oS oK oF oL oC oW oY oX o0 o4 o6 o7;simp (maxSteps:=9^7) only[D3.rv166,phX,phC,tQ,tP,tO,hbm,h1,h2,vaF,WU,Ent.of1,V,W3,seval];refine oh rfl (OpM.delF uZ (fD p.m.buf.flatten) (by rw[fD,List.length_mergeSort];exact h2) rfl rfl rfl rfl rfl rfl rfl) (fun ef he=>?_);subst he;rw[srt_mrg];refine pW [] 800 ?_;simp (maxSteps:=9^7) only[D3.rv166,WU,V,W3,seval];refine mT [] 400 ?_;simp (maxSteps:=9^7) only[drS,kX,robC,reC,fixS,eL,AOp.reads,true_or,or_true,false_or,InR,WU,V,W3,seval];have hcl:=hn.c;refine⟨by omega,?_⟩;refine fE (dW.deepen (kk:=25) (isz:=1) (ity:=3) (ty:=24) (es:=List.replicate n.cells.length [C.s (.slice none 0 0)]) rfl (fun e he=>List.eq_of_mem_replicate he)) ?_;have hdl:(List.replicate n.cells.length ([]:List (List C))).length=n.cells.length:=List.length_replicate;have hd:(List.replicate n.cells.length ([]:List (List C))).set c.toNat ((frm (mrg p.m.buf) p.m.got).map Dat.cells)=fB ((p.m.buf.map fun _=>([]:List Int)).set c.toNat (frm (mrg p.m.buf) p.m.got)):=by
  rw[<- jD]
  congr 1
  simp only[fB,zT];rw[<- hlen];clear hdl
  induction p.m.buf with
  | nil=>rfl
  | cons b bs ih=>
   rw[zQ,List.replicate_succ,ih];rfl
 have hc1:c < (n.cells.length:Int):=by omega
 obtain⟨hc0,hc2⟩:=hc;generalize hB:(p.m.buf.map fun _=>([]:List Int)).set c.toNat (frm (mrg p.m.buf) p.m.got)=B at *;have hs1:0 < ({ p with m:={ p.m with buf:=B } }:Ph).stays.length/\({ p with m:={ p.m with buf:=B } }:Ph).stays.length<=1000000:=hs;refine dC [nu n { p with m:={ p.m with buf:=B } } c t hs1,ko n (j1 { p with m:={ p.m with buf:=B } } c t) t ho] 1500 ?_;simp (maxSteps:=9^7) only[cB,nu,ko,ei,phX,phC,List.map_replicate,hdl,hd,hc0,hc1,hc2,j1,kA,InR,WU,V,W3,seval];refine⟨.inl trivial,?_⟩;refine kh [] 800 ?_;simp (maxSteps:=9^7) only[drM,mFin,j6,kU,gQ,reM,ic,gJ,gA,ndE,ap,ag,av,aU,aE,WU,V,W3,seval];refine fE (dW.ren [(25,100001)] rfl (by simp[ap,ag,av,rn,lk]) (by simp[i7,rn,lk])) ?_;refine dC [] 100 ?_;simp (maxSteps:=9^7) only[renS,bu,D3.rv166,kH,iA,hB,WU,V,W3,seval]
structure ConOk (n:Nw) (p:Ph) (c t:Int):Prop where
 hn:NwS n
 hc:0<=c/\c.toNat < n.cells.length
 hlen:p.m.buf.length=n.cells.length
 h1:p.m.buf.length<=1000
 h2:p.m.buf.flatten.length<=1000000
 hs:0 < p.stays.length/\p.stays.length<=1000000
 ho:p.out≠-1->InR .i64 (t - p.out)
def nt (n:Nw) (p:Ph) (c t:Int) (h:ConOk n p c t):Ent Tryz.prog:=ei 166 n p (kH p c t) [.ptr 100000 0,enc c,enc t] (.tup []) trivial (tv n p c t h.hn h.hc h.hlen h.h1 h.h2 h.hs h.ho)
theorem pass_c (n:Nw) (p:Ph) (t:Int) (hd:InR .i64 (p.m.since+n.limit)) (h:jt n p.m t=true->ConOk n p 0 (p.m.since+n.limit)):FC Tryz.prog 151 [.ptr 100000 0,enc t] (phX n p) (.tup []) (phX n (eJ n p t)):=by
 have hP:jt n p.m t=(ed p.m && decide (p.m.since+n.limit<=t)):=rfl;cases hb:jt n p.m t
 . have hq:eJ n p t=p:=by rw[eJ,qa (by simp[hb])]
   rw[hq];refine dD [100001] is151 (by simp) (dP n p) (dE n p) (dE n _) (dI n p _) (fun cx _ hl _=>dC [eX n p,np n p hd] 1200 ?_);rw[hb]at hP;cases h1:ed p.m <;> cases h2:decide (p.m.since+n.limit<=t)
   all_goals
    first
     | (rw[h1,h2]at hP;cases hP;done)
     | (have h2':=h2
        simp only[qf,ql]at h2';delta c151 oO oN oM oG oR oC oI oX oP oD
        simp only[rv151,phX,phC,eX,np,ei,h1,h2,h2',WU,V,W3,seval])
 . have hq:eJ n p t=kH p 0 (p.m.since+n.limit):=by rw[eJ,qb hb]
   rw[hq];have hc:=h hb;rw[hb]at hP;refine dD [100001] is151 (by simp) (dP n p) (dE n p) (dE n _) (dI n p _) (fun cx _ hl _=>dC [eX n p,np n p hd,nt n p 0 (p.m.since+n.limit) hc] 1200 ?_);cases h1:ed p.m <;> cases h2:decide (p.m.since+n.limit<=t)
   all_goals
    first
     | (rw[h1,h2]at hP;cases hP;done)
     | (have h2':=h2
        simp only[qf,ql]at h2';delta c151 oO oN oM oG oR oC oI oX oP oD
        simp only[rv151,phX,phC,eX,np,nt,ei,h1,h2,h2',WU,V,W3,seval])
theorem us (n:Nw) (p:Ph) (e:T3):FC Tryz.prog 279 [.ptr 100000 0,enc e] (phX n p) (enc (0:Int)) (phX n p):=by
 refine dD [100001] is279 (by simp) (dP n p) (dE n p) (dE n _) (dI n p _) (fun cx _ hl _=>dC [] 1500 ?_);delta c279 oV oX o7;simp only[rv279,phX,phC,dV,WU,V,W3,seval]
theorem uV (n:Nw) (p:Ph) (e:T3) (h:¬ p.m.vP=1):FC Tryz.prog 272 [.ptr 100000 0,enc e] (phX n p) (enc (22:Int)) (phX n (p)):=by
 refine dD [100001] D3.is272 (by simp) (dP n p) (dE n p) (dE n _) (dI n p _) (fun cx _ hl _=>dC [] 1500 ?_);delta D3.c272 oO oN oM oT oS oK oF oL oV oY oI oX oB o6 o7;simp only[D3.rv272,phX,phC,dV,h,WU,V,W3,seval]
theorem tl (n:Nw) (p:Ph) (e:T3) (h:p.m.vP=1):FC Tryz.prog 272 [.ptr 100000 0,enc e] (phX n p) (enc (0:Int)) (phX n ({ p with m:={ p.m with vP:=0,since:=e.y,target:=-1 } })):=by
 refine dD [100001] D3.is272 (by simp) (dP n p) (dE n p) (dE n _) (dI n p _) (fun cx _ hl _=>dC [] 1500 ?_);delta D3.c272 oO oN oM oT oS oK oF oL oV oY oI oX oB o6 o7;simp only[D3.rv272,phX,phC,dV,h,WU,V,W3,seval];refine kh [] 800 ?_;simp only[drM,mFin,j6,kU,gQ,reM,ic,gJ,gA,ndE,ap,ag,av,aU,aE,WU,V,W3,seval];refine dC [] 400 ?_;simp only[D3.rv272,phX,phC,WU,V,W3,seval]
theorem tu (n:Nw) (p:Ph) (e:T3) (h:¬ p.m.vP=1):FC Tryz.prog 273 [.ptr 100000 0,enc e] (phX n p) (enc (22:Int)) (phX n (p)):=by
 refine dD [100001] D3.is273 (by simp) (dP n p) (dE n p) (dE n _) (dI n p _) (fun cx _ hl _=>dC [] 1500 ?_);delta D3.c273 oO oN oM oT oS oK oF oL oV oC oY oI oX oB o6 o7;simp only[D3.rv273,phX,phC,dV,h,WU,V,W3,seval]
theorem sE (n:Nw) (p:Ph) (e:T3) (h:p.m.vP=1):FC Tryz.prog 273 [.ptr 100000 0,enc e] (phX n p) (enc (0:Int)) (phX n (iC { p with m:={ p.m with vP:=2,since:=e.y } } e.y)):=by
 refine dD [100001] D3.is273 (by simp) (dP n p) (dE n p) (dE n _) (dI n p _) (fun cx _ hl _=>dC [] 1500 ?_);delta D3.c273 oO oN oM oT oS oK oF oL oV oC oY oI oX oB o6 o7;simp only[D3.rv273,phX,phC,dV,h,WU,V,W3,seval];refine kh [] 800 ?_;simp only[drM,mFin,j6,kU,gQ,reM,ic,gJ,gA,ndE,ap,ag,av,aU,aE,WU,V,W3,seval];refine dC [lz n { p with m:={ p.m with vP:=2,since:=e.y } } e.y] 600 ?_;simp only[D3.rv273,phX,phC,lz,ei,iC,WU,V,W3,seval]
theorem ng (n:Nw) (p:Ph) (e:T3) (h:¬ p.m.vP=2):FC Tryz.prog 274 [.ptr 100000 0,enc e] (phX n p) (enc (22:Int)) (phX n (p)):=by
 refine dD [100001] D3.is274 (by simp) (dP n p) (dE n p) (dE n _) (dI n p _) (fun cx _ hl _=>dC [] 1500 ?_);delta D3.c274 oO oN oM oT oQ oS oK oF oL oV oC oW oY oI oX oB o6 o7;simp only[D3.rv274,phX,phC,dV,h,WU,V,W3,seval]
theorem rK (n:Nw) (p:Ph) (e:T3) (h:p.m.vP=2) (hs:0 < p.stays.length/\p.stays.length<=1000000) (ho:p.out≠-1->InR .i64 (e.y - p.out)):FC Tryz.prog 274 [.ptr 100000 0,enc e] (phX n p) (enc (0:Int)) (phX n ({ m:={ p.m with vP:=0,since:=e.y,vS:=p.m.vG,vG:=p.m.target,target:=-1 },recv:=p.recv,stays:=chg p.stays p.m.vG p.m.target e.y,out:=-1,vL:=kz p.out p.vL e.y })):=by
 refine dD [100001] D3.is274 (by simp) (dP n p) (dE n p) (dE n _) (dI n p _) (fun cx _ hl _=>dC [nu n { p with m:={ p.m with vS:=p.m.vG } } p.m.target e.y hs,ko n (j1 { p with m:={ p.m with vS:=p.m.vG } } p.m.target e.y) e.y ho] 1500 ?_);delta D3.c274 oO oN oM oT oQ oS oK oF oL oV oC oW oY oI oX oB o6 o7;simp only[D3.rv274,phX,phC,dV,h,nu,ko,ei,j1,kA,WU,V,W3,seval];refine kh [] 800 ?_;simp only[drM,mFin,j6,kU,gQ,reM,ic,gJ,gA,ndE,ap,ag,av,aU,aE,WU,V,W3,seval];refine dC [] 400 ?_;simp only[D3.rv274,phX,phC,WU,V,W3,seval]
theorem fail_e (n:Nw) (p:Ph) (e:T3) (h:p.m.vP=3):FC Tryz.prog 277 [.ptr 100000 0,enc e] (phX n p) (enc (22:Int)) (phX n (p)):=by
 refine dD [100001] is277 (by simp) (dP n p) (dE n p) (dE n _) (dI n p _) (fun cx _ hl _=>dC [] 1500 ?_);delta c277 oO oN oM oR oS oK oF oL oV oC oW oY oX oB o6 o7;simp only[qv,phX,phC,dV,h,WU,V,W3,seval]
theorem fail_ok (n:Nw) (p:Ph) (e:T3) (h:¬ p.m.vP=3):FC Tryz.prog 277 [.ptr 100000 0,enc e] (phX n p) (enc (0:Int)) (phX n (iC { p with m:={ p.m with since:=if p.m.vP=2 then p.m.since else e.y,vP:=3 } } e.y)):=by
 refine dD [100001] is277 (by simp) (dP n p) (dE n p) (dE n _) (dI n p _) (fun cx _ hl _=>dC [lz n { p with m:={ p.m with since:=if p.m.vP=2 then p.m.since else e.y,vP:=3 } } e.y] 1500 ?_);by_cases h2:p.m.vP=2
 . delta c277 oO oN oM oR oS oK oF oL oV oC oW oY oX oB o6 o7;simp only[qv,phX,phC,dV,h,h2,lz,ei,iC,WU,V,W3,seval]
 . delta c277 oO oN oM oR oS oK oF oL oV oC oW oY oX oB o6 o7;simp only[qv,phX,phC,dV,h,h2,lz,ei,iC,WU,V,W3,seval]
theorem turn_e1 (n:Nw) (p:Ph) (e:T3) (h:p.m.vS=-1):FC Tryz.prog 276 [.ptr 100000 0,enc e] (phX n p) (enc (12:Int)) (phX n (p)):=by
 refine dD [100001] p5 (by simp) (dP n p) (dE n p) (dE n _) (dI n p _) (fun cx _ hl _=>dC [eg,ee] 1500 ?_);rcases qg (p.m.vP=3)with h2 | h2 <;> rcases qg (p.m.path=p.m.vG)with h3 | h3
 all_goals
  delta c276 oO oN oM oT oR oQ oS oK oF oL oV oC oW oI oX oB o1 o6 o7;simp only[n5,phX,phC,dV,h,h2,h3,eg,ee,dS,qc,qd,WU,Ent.of1,Ent.of2,V,W3,seval]
theorem turn_e2 (n:Nw) (p:Ph) (e:T3) (h:¬ p.m.vS=-1) (h2:p.m.vP=3):FC Tryz.prog 276 [.ptr 100000 0,enc e] (phX n p) (enc (22:Int)) (phX n (p)):=by
 refine dD [100001] p5 (by simp) (dP n p) (dE n p) (dE n _) (dI n p _) (fun cx _ hl _=>dC [eg,ee] 1500 ?_);rcases qg (p.m.path=p.m.vG)with h3 | h3
 all_goals
  delta c276 oO oN oM oT oR oQ oS oK oF oL oV oC oW oI oX oB o1 o6 o7;simp only[n5,phX,phC,dV,h,h2,h3,eg,ee,dS,qc,qd,WU,Ent.of1,Ent.of2,V,W3,seval]
theorem turn_e3 (n:Nw) (p:Ph) (e:T3) (h:¬ p.m.vS=-1) (h2:¬ p.m.vP=3) (h3:p.m.path=p.m.vG):FC Tryz.prog 276 [.ptr 100000 0,enc e] (phX n p) (enc (26:Int)) (phX n (p)):=by
 refine dD [100001] p5 (by simp) (dP n p) (dE n p) (dE n _) (dI n p _) (fun cx _ hl _=>dC [eg,ee] 1500 ?_);delta c276 oO oN oM oT oR oQ oS oK oF oL oV oC oW oI oX oB o1 o6 o7;simp only[n5,phX,phC,dV,h,h2,h3,eg,ee,dS,qc,qd,WU,Ent.of1,Ent.of2,V,W3,seval]
theorem turn_ok (n:Nw) (p:Ph) (e:T3) (h:¬ p.m.vS=-1) (h2:¬ p.m.vP=3) (h3:¬ p.m.path=p.m.vG) (hb:p.m.vS≠-1->0<=p.m.vS/\p.m.vS.toNat < p.m.buf.length):FC Tryz.prog 276 [.ptr 100000 0,enc e] (phX n p) (enc (0:Int)) (phX n ({ p with m:=settle { p.m with path:=p.m.vG } })):=by
 refine dD [100001] p5 (by simp) (dP n p) (dE n p) (dE n _) (dI n p _) (fun cx _ hl _=>dC [eg,ee,tS n { p with m:={ p.m with path:=p.m.vG } } hb] 1500 ?_);delta c276 oO oN oM oT oR oQ oS oK oF oL oV oC oW oI oX oB o1 o6 o7;simp only[n5,phX,phC,dV,h,h2,h3,eg,ee,dS,tS,ei,qc,qd,WU,Ent.of1,Ent.of2,V,W3,seval]
theorem ut (n:Nw) (p:Ph) (e:T3) (hr:dS [if p.m.vP=0 then 0 else 22,if p.m.vS=-1 then 0 else 17,if nbr n e.z p.m.vG=true then 0 else 6]≠0):FC Tryz.prog 271 [.ptr 100000 0,enc e] (phX n p) (enc (dS [if p.m.vP=0 then 0 else 22,if p.m.vS=-1 then 0 else 17,if nbr n e.z p.m.vG=true then 0 else 6]:Int)) (phX n (p)):=by
 refine dD [100001] D3.is271 (by simp) (dP n p) (dE n p) (dE n _) (dI n p _) (fun cx _ hl _=>dC [eg,ee,ns n p e.z] 1500 ?_);generalize hR:dS [if p.m.vP=0 then 0 else 22,if p.m.vS=-1 then 0 else 17,if nbr n e.z p.m.vG=true then 0 else 6]=R at *;rcases qg (p.m.vP=0)with h1 | h1 <;> rcases qg (p.m.vS=-1)with h2 | h2 <;> cases h3:nbr n e.z p.m.vG
 all_goals
  simp[h1,h2,h3,dS]at hR
  first
   | exact absurd hR.symm hr
   | (subst hR
      delta D3.c271 oO oN oM oT oQ oS oK oF oL oV oC oW oY oI oX oB o1 o6 o7
      simp only[D3.rv271,phX,phC,dV,h1,h2,h3,eg,ee,ns,ei,dS,qc,qd,WU,Ent.of1,Ent.of2,V,W3,seval])
theorem sV (n:Nw) (p:Ph) (e:T3) (h1:p.m.vP=0) (h2:p.m.vS=-1) (h3:nbr n e.z p.m.vG=true):FC Tryz.prog 271 [.ptr 100000 0,enc e] (phX n p) (enc (0:Int)) (phX n ({ p with m:={ p.m with vP:=1,since:=e.y,target:=e.z } })):=by
 refine dD [100001] D3.is271 (by simp) (dP n p) (dE n p) (dE n _) (dI n p _) (fun cx _ hl _=>dC [eg,ee,ns n p e.z] 1500 ?_);delta D3.c271 oO oN oM oT oQ oS oK oF oL oV oC oW oY oI oX oB o1 o6 o7;simp only[D3.rv271,phX,phC,dV,h1,h2,h3,eg,ee,ns,ei,dS,qc,qd,WU,Ent.of1,Ent.of2,V,W3,seval];refine kh [] 800 ?_;simp only[drM,mFin,j6,kU,gQ,reM,ic,gJ,gA,ndE,ap,ag,av,aU,aE,WU,V,W3,seval];refine dC [] 400 ?_;simp only[D3.rv271,phX,phC,WU,V,W3,seval]
theorem send_e1 (n:Nw) (p:Ph) (e:T3) (h:ed p.m=true):FC Tryz.prog 269 [.ptr 100000 0,enc e] (phX n p) (enc (22:Int)) (phX n (p)):=by
 refine dD [100001] nF (by simp) (dP n p) (dE n p) (dE n _) (dI n p _) (fun cx _ hl _=>dC [eX n p] 1500 ?_);delta c269 oO oN oA oM oT oR oQ oS oK oF oL oV oC oW oY oI oX oB o0 o1 o4 o6 o7;simp only[l8,phX,phC,dV,h,eX,ei,WU,V,W3,seval]
theorem send_e2 (n:Nw) (p:Ph) (e:T3) (h:ed p.m=false) (hi:0<=p.m.vG/\p.m.vG.toNat < p.m.buf.length) (hb:dO p.m p.m.vG=[]):FC Tryz.prog 269 [.ptr 100000 0,enc e] (phX n p) (enc (12:Int)) (phX n (p)):=by
 have hi3:p.m.vG < (p.m.buf.length:Int):=by omega
 obtain⟨hi0,hi2⟩:=hi;have hbg:=fu p.m.buf p.m.vG.toNat;refine dD [100001] nF (by simp) (dP n p) (dE n p) (dE n _) (dI n p _) (fun cx _ hl _=>dC [eX n p] 1500 ?_);rw[show p.m.buf.getD p.m.vG.toNat []=[]from hb]at hbg;delta c269 oO oN oA oM oT oR oQ oS oK oF oL oV oC oW oY oI oX oB o0 o1 o4 o6 o7;simp only[l8,phX,phC,dV,h,eX,ei,hi0,hi2,hi3,eo,hbg,zR,InR,WU,V,W3,seval]
theorem send_e3 (n:Nw) (p:Ph) (e:T3) (h:ed p.m=false) (hi:0<=p.m.vG/\p.m.vG.toNat < p.m.buf.length) (x:Int) (l:List Int) (hb:dO p.m p.m.vG=x :: l) (hx:p.m.got < x):FC Tryz.prog 269 [.ptr 100000 0,enc e] (phX n p) (enc (14:Int)) (phX n (p)):=by
 have hi3:p.m.vG < (p.m.buf.length:Int):=by omega
 obtain⟨hi0,hi2⟩:=hi;have hbg:=fu p.m.buf p.m.vG.toNat;refine dD [100001] nF (by simp) (dP n p) (dE n p) (dE n _) (dI n p _) (fun cx _ hl _=>dC [eX n p] 1500 ?_);rw[show p.m.buf.getD p.m.vG.toNat []=x :: l from hb]at hbg;have hl0:¬ ((l.length:Int)+1=0):=by omega
 delta c269 oO oN oA oM oT oR oQ oS oK oF oL oV oC oW oY oI oX oB o0 o1 o4 o6 o7;simp only[l8,phX,phC,dV,h,eX,ei,hi0,hi2,hi3,hx,hl0,eo,hbg,zt,zQ,Int.natCast_succ,yM,InR,WU,V,W3,seval]
 try omega
theorem v7 (n:Nw) (p:Ph) (e:T3) (h:ed p.m=false) (hi:0<=p.m.vG/\p.m.vG.toNat < p.m.buf.length) (x:Int) (l:List Int) (hb:dO p.m p.m.vG=x :: l) (hx:x=p.m.got) (hr:p.recv.length<=1000000) (hg:InR .i64 (p.m.got+1)):FC Tryz.prog 269 [.ptr 100000 0,enc e] (phX n p) (enc (0:Int)) (phX n ({ p with m:={ p.m with got:=p.m.got+1 },recv:=p.recv++[p.m.got] })):=by
 have hi3:p.m.vG < (p.m.buf.length:Int):=by omega
 obtain⟨hi0,hi2⟩:=hi;have hbg:=fu p.m.buf p.m.vG.toNat;refine dD [100001] nF (by simp) (dP n p) (dE n p) (dE n _) (dI n p _) (fun cx _ hl _=>dC [eX n p] 1500 ?_);rw[show p.m.buf.getD p.m.vG.toNat []=x :: l from hb]at hbg;have hl0:¬ ((l.length:Int)+1=0):=by omega
 subst hx;simp only[InR]at hg;have hap:p.recv.map Dat.cells++[[C.s (.int .i64 p.m.got)]]=(p.recv++[p.m.got]).map Dat.cells:=by rw[yg];rfl
 delta c269 oO oN oA oM oT oR oQ oS oK oF oL oV oC oW oY oI oX oB o0 o1 o4 o6 o7;simp only[l8,phX,phC,dV,h,eX,ei,hi0,hi2,hi3,hl0,hg,hap,eo,hbg,zt,zQ,Int.natCast_succ,yM,zy,InR,WU,V,W3,seval]
 try omega
theorem v8 (n:Nw) (p:Ph) (e:T3) (h:ed p.m=false) (hi:0<=p.m.vG/\p.m.vG.toNat < p.m.buf.length) (x:Int) (l:List Int) (hb:dO p.m p.m.vG=x :: l) (hx:x < p.m.got):FC Tryz.prog 269 [.ptr 100000 0,enc e] (phX n p) (enc (0:Int)) (phX n (p)):=by
 have hi3:p.m.vG < (p.m.buf.length:Int):=by omega
 obtain⟨hi0,hi2⟩:=hi;have hbg:=fu p.m.buf p.m.vG.toNat;refine dD [100001] nF (by simp) (dP n p) (dE n p) (dE n _) (dI n p _) (fun cx _ hl _=>dC [eX n p] 1500 ?_);rw[show p.m.buf.getD p.m.vG.toNat []=x :: l from hb]at hbg;have hl0:¬ ((l.length:Int)+1=0):=by omega
 have hx1:¬ p.m.got < x:=by omega
 have hx2:¬ x=p.m.got:=by omega
 delta c269 oO oN oA oM oT oR oQ oS oK oF oL oV oC oW oY oI oX oB o0 o1 o4 o6 o7;simp only[l8,phX,phC,dV,h,eX,ei,hi0,hi2,hi3,hx1,hx2,hl0,eo,hbg,zt,zQ,Int.natCast_succ,yM,InR,WU,V,W3,seval]
 try omega
theorem ack_e (n:Nw) (p:Ph) (e:T3) (h:ed p.m=true):FC Tryz.prog 270 [.ptr 100000 0,enc e] (phX n p) (enc (22:Int)) (phX n (p)):=by
 refine dD [100001] is270 (by simp) (dP n p) (dE n p) (dE n _) (dI n p _) (fun cx _ hl _=>dC [eX n p] 1500 ?_);delta c270 oO oA oM oT oQ oS oK oF oL oV oC oW oI oX o0 o6 o7;simp only[qu,phX,phC,dV,h,eX,ei,WU,V,W3,seval]
theorem ack_ok (n:Nw) (p:Ph) (e:T3) (h:ed p.m=false) (hi:0<=p.m.vG/\p.m.vG.toNat < p.m.buf.length) (hb1:(dO p.m p.m.vG).length<=1000000):FC Tryz.prog 270 [.ptr 100000 0,enc e] (phX n p) (enc (0:Int)) (phX n ({ p with m:={ p.m with buf:=p.m.buf.set p.m.vG.toNat (frm (dO p.m p.m.vG) p.m.got) } })):=by
 have hi3:p.m.vG < (p.m.buf.length:Int):=by omega
 obtain⟨hi0,hi2⟩:=hi;have hbg:=fu p.m.buf p.m.vG.toNat;refine dD [100001] is270 (by simp) (dP n p) (dE n p) (dE n _) (dI n p _) (fun cx _ hl _=>dC [eX n p] 1500 ?_);rw[show p.m.buf.getD p.m.vG.toNat []=dO p.m p.m.vG from rfl]at hbg;have hst:=jD p.m.buf p.m.vG.toNat (frm (dO p.m p.m.vG) p.m.got);delta c270 oO oA oM oT oQ oS oK oF oL oV oC oW oI oX o0 o6 o7;simp only[qu,phX,phC,dV,h,eX,ei,hi0,hi2,hi3,hbg,eo,InR,WU,V,W3,seval];refine og rfl (dW.take (s:=22) (k:=100001) (j:=p.m.vG.toNat) (by decide) rfl rfl ⟨by rw[eo];exact hi2,by simp⟩ rfl (by decide)) ?_;refine oh rfl (OpM.delF u0 (dO p.m p.m.vG) hb1 rfl rfl rfl (by show some (Ch.row 1 3 ((fB p.m.buf).getD p.m.vG.toNat []))=_;rw[hbg]) rfl rfl rfl) (fun ef he=>?_);subst he;refine pW [] 800 ?_;simp only[aT,bM,qu,hbg,hst,hi2,eo,WU,V,W3,seval];exact .inr trivial
theorem data_e (n:Nw) (p:Ph) (e:T3) (h:60<=fc p.m.buf\/1000000<=p.m.fresh) (h1:p.m.buf.length<=1000000) (h2:fc p.m.buf<=1000000000):FC Tryz.prog 268 [.ptr 100000 0,enc e] (phX n p) (enc (16:Int)) (phX n (p)):=by
 refine dD [100001] D3.is268 (by simp) (dP n p) (dE n p) (dE n _) (dI n p _) (fun cx _ hl _=>dC [ly n p h1 h2] 1500 ?_);by_cases h3:60<=fc p.m.buf
 . delta D3.c268 oO oN oA oM oT oG oS oK oF oL oV oC oW oI oX oH oB oD oE oJ o0 o1 o6 o7;simp only[D3.rv268,phX,phC,dV,h3,ly,ei,WU,V,W3,seval]
 . have h4:=h.resolve_left h3;delta D3.c268 oO oN oA oM oT oG oS oK oF oL oV oC oW oI oX oH oB oD oE oJ o0 o1 o6 o7;simp only[D3.rv268,phX,phC,dV,h3,h4,ly,ei,WU,V,W3,seval]
theorem data_ok (n:Nw) (p:Ph) (e:T3) (h3:¬ 60<=fc p.m.buf) (h4:¬ 1000000<=p.m.fresh) (h1:p.m.buf.length<=1000000) (h2:fc p.m.buf<=1000000000) (hi:0<=p.m.path/\p.m.path.toNat < p.m.buf.length) (hg:InR .i64 (p.m.fresh+1)) (hb1:(dO p.m p.m.path).length<=1000000):FC Tryz.prog 268 [.ptr 100000 0,enc e] (phX n p) (enc (0:Int)) (phX n ({ p with m:={ p.m with buf:=p.m.buf.set p.m.path.toNat (dO p.m p.m.path++[p.m.fresh]),fresh:=p.m.fresh+1 } })):=by
 refine dD [100001] D3.is268 (by simp) (dP n p) (dE n p) (dE n _) (dI n p _) (fun cx _ hl _=>dC [ly n p h1 h2] 1500 ?_);delta D3.c268 oO oN oA oM oT oG oS oK oF oL oV oC oW oI oX oH oB oD oE oJ o0 o1 o6 o7;simp only[D3.rv268,phX,phC,dV,h3,h4,ly,ei,WU,V,W3,seval];have hi3:p.m.path < (p.m.buf.length:Int):=by omega
 obtain⟨hi0,hi2⟩:=hi;have hbg:=fu p.m.buf p.m.path.toNat;rw[show p.m.buf.getD p.m.path.toNat []=dO p.m p.m.path from rfl]at hbg;have hst:=jD p.m.buf p.m.path.toNat (dO p.m p.m.path++[p.m.fresh]);have hap:(dO p.m p.m.path).map Dat.cells++[[C.s (.int .i64 p.m.fresh)]]=(dO p.m p.m.path++[p.m.fresh]).map Dat.cells:=by rw[yg];rfl
 simp only[InR]at hg;refine mT [] 800 ?_;simp only[drS,kX,robC,reC,fixS,eL,AOp.reads,true_or,or_true,false_or,hi0,hi2,hi3,eo,hbg,hap,zy,InR,WU,V,W3,seval];refine⟨by omega,dC [] 600 ?_⟩;simp only[D3.rv268,hg,hst,InR,WU,V,W3,seval]
theorem uL (l:List Int) (v:Int) (h:l.length<=1000000):FC Tryz.prog 288 [enc l,enc v] [] (enc (iM (fun x=>decide (v=x)) l)) []:=by
 refine eP is288 (by simp) (fun cx hl=>dC [] 800 ?_);generalize hB:iM (fun x=>decide (v=x)) l=B;delta c288 oM oS oK oV oX o4;simp only[n6,V,W3,seval];refine fH l.length (fun i=>[(8,.s (.int .i64 (i:Int)))]) (fun _=>[]) (fun i=>∀ j,j < i->decide (v=l.getD j 0)=false) (fun j hj=>by omega) ?_ (fun i hi hv=>dC [] 800 ?_)
 . simp only[V,W3,seval]
   try simp
 . by_cases h:i < l.length
   . have hi2:(i:Int) < (l.length:Int):=by omega
     have hi0:(0:Int)<=i:=by omega
     by_cases hx:v=l.getD i 0
     . have hB2:=mF (p:=fun x=>decide (v=x)) 0 h (by simpa using hx) hv;rw[hB]at hB2;subst hB2;delta m8 oO oN oA oM oR oS oK oL oI oX oB o1;simp only[n6,hi2,hi0,h,InR,WU,V,W3,seval];simp only[<- hx,qj]
     . delta m8 oO oN oA oM oR oS oK oL oI oX oB o1;simp only[n6,hi2,hi0,h,hx,InR,WU,V,W3,seval];refine⟨by omega,fun j hj=>?_,by omega⟩;by_cases hji:j=i
       . subst hji;simpa using hx
       . have:=hv j (by omega);simpa using this
   . have hi2:¬ (i:Int) < (l.length:Int):=by omega
     have hB2:=lG (p:=fun x=>decide (v=x)) (l:=l) 0 (fun j hj=>hv j (by omega));rw[hB]at hB2;subst hB2;delta m8 oO oN oA oM oR oS oK oL oI oX oB o1;simp only[n6,hi2,WU,V,W3,seval]
def tT : Ent Tryz.prog:=.of2 288 (fun l _=>l.length<=1000000) (fun (l:List Int) (v:Int)=>enc (iM (fun x=>decide (v=x)) l)) (fun _ _=>trivial) (fun l v h=>uL l v h)
theorem rE (l:List Int) (v:Int) (h:l.length<=1000000):FC Tryz.prog 284 [enc l,enc v] [] (enc (l.any fun x=>decide (v=x))) []:=by
 refine eP is284 (by simp) (fun cx hl=>dC [tT] 800 ?_);have hi:=mE (fun x=>decide (v=x)) l;delta c284 oO oN oM oC oX oB o9;simp only[rv284,tT,h,hi,Ent.of2,V,W3,seval]
def ny : Ent Tryz.prog:=.of2 284 (fun l _=>l.length<=1000000) (fun (l:List Int) (v:Int)=>enc (l.any fun x=>decide (v=x))) (fun _ _=>trivial) (fun l v h=>rE l v h)
def recE (p:Ph) (e:T3):Int:=dS [if p.m.vP=3 then 0 else 22,if ([p.m.vG,p.m.target,p.m.vS].any fun x=>decide (e.z=x))=true then 0 else 6]
theorem ux (n:Nw) (p:Ph) (e:T3) (hr:recE p e≠0):FC Tryz.prog 278 [.ptr 100000 0,enc e] (phX n p) (enc (recE p e)) (phX n p):=by
 refine dD [100001] is278 (by simp) (dP n p) (dE n p) (dE n _) (dI n p _) (fun cx _ hl _=>dC [eg,ee,ny] 1500 ?_);have h3:(3:Nat)<=1000000:=by decide
 have hcl:[[C.s (.int .i64 p.m.vG)],[C.s (.int .i64 p.m.target)],[C.s (.int .i64 p.m.vS)]]=[p.m.vG,p.m.target,p.m.vS].map Dat.cells:=rfl;have hLl:[p.m.vG,p.m.target,p.m.vS].length<=1000000:=by simp
 unfold recE at *;generalize [p.m.vG,p.m.target,p.m.vS]=L at *;generalize hR:dS [if p.m.vP=3 then 0 else 22,if (L.any fun x=>decide (e.z=x))=true then 0 else 6]=R at *;rcases qg (p.m.vP=3)with h1 | h1 <;> cases h2:(L.any fun x=>decide (e.z=x))
 all_goals
  rw[h2]at hR;simp[h1,dS]at hR
  first
   | exact absurd hR.symm hr
   | (subst hR
      delta c278 oO oN oA oM oT oR oQ oS oK oF oL oV oC oI oX oB o1 o6 o7
      simp only[rv278,phX,phC,dV,h1,h2,eg,ee,ny,hcl,hLl,dS,qc,qd,WU,Ent.of1,Ent.of2,V,W3,seval])
theorem sW (n:Nw) (p:Ph) (e:T3) (h1:p.m.vP=3) (h2:([p.m.vG,p.m.target,p.m.vS].any fun x=>decide (e.z=x))=true) (hc:ConOk n p e.z e.y):FC Tryz.prog 278 [.ptr 100000 0,enc e] (phX n p) (enc (0:Int)) (phX n (kH p e.z e.y)):=by
 refine dD [100001] is278 (by simp) (dP n p) (dE n p) (dE n _) (dI n p _) (fun cx _ hl _=>dC [eg,ee,ny,nt n p e.z e.y hc] 1500 ?_);have hcl:[[C.s (.int .i64 p.m.vG)],[C.s (.int .i64 p.m.target)],[C.s (.int .i64 p.m.vS)]]=[p.m.vG,p.m.target,p.m.vS].map Dat.cells:=rfl;have hLl:[p.m.vG,p.m.target,p.m.vS].length<=1000000:=by simp
 generalize [p.m.vG,p.m.target,p.m.vS]=L at *;delta c278 oO oN oA oM oT oR oQ oS oK oF oL oV oC oI oX oB o1 o6 o7;simp only[rv278,phX,phC,dV,h1,h2,eg,ee,ny,nt,ei,hcl,hLl,dS,qc,qd,WU,Ent.of1,Ent.of2,V,W3,seval]
def nw : Ent Tryz.prog:=.of2 282 (fun xs _=>xs.Pairwise (·<=·)/\xs.length<=1000000) (fun (xs:List Int) (x:Int)=>.tup [.s (.int .i64 (kG xs x:Nat)),enc (xs.contains x)]) (fun _ _=>⟨trivial,trivial,trivial⟩) (fun xs x h=>oc xs x h.1 h.2)
def nx (xs:List Int) (i:Nat) (x:Int) (hil:i<=xs.length) (h:xs.length<=1000000):Ent Tryz.prog where
 id:=283
 tk:=[0,2]
 sp:=fun args chs=>some (args=[.own 100000,.s (.int .i64 (i:Int)),.own 100001]/\chs=[(100000,.row 1 3 (xs.map Dat.cells)),(100001,.row 1 3 [[.s (.int .i64 x)]])],.own 100000,[(100000,.row 1 3 ((jn xs i x).map Dat.cells)),(100001,.row 1 3 [[.s (.int .i64 x)]])],[])
 ok:=by
  intro args chs pp r' chs' nk hs hp;simp only[zn,zf]at hs;obtain⟨rfl,rfl,rfl,rfl⟩:=hs;obtain⟨rfl,rfl⟩:=hp;refine⟨uN xs i x hil h,⟨fun k c hm=>.inr ?_,fun k cs hm=>?_,by simp[dG],fun k c hm=>?_⟩⟩
  . simp only[zl,zA,qk,zf]at hm ⊢;rcases hm with⟨rfl,_⟩ | ⟨rfl,_⟩
    . exact⟨_,.inl ⟨rfl,rfl⟩⟩
    . exact⟨_,.inr ⟨rfl,rfl⟩⟩
  . simp at hm
  . simp only[zl,zA,qk,zf]at hm;rcases hm with⟨_,rfl⟩ | ⟨_,rfl⟩ <;> trivial
theorem put_ins (l:List Int) (x:Int) (h:l.Pairwise (·<=·)):fR l x=jn l (kG l x) x:=pE l x h
theorem sN (n:Nw) (p:Ph) (e:T3) (h2:¬ p.m.vP=2) (h:¬ p.m.vP=0\/p.m.vS=-1):FC Tryz.prog 275 [.ptr 100000 0,enc e] (phX n p) (enc (22:Int)) (phX n p):=by
 refine dD [100001] D3.is275 (by simp) (dP n p) (dE n p) (dE n _) (dI n p _) (fun cx _ hl _=>dC [] 1500 ?_);by_cases h0:p.m.vP=0
 . have hs:=h.resolve_left (fun q=>q h0);delta D3.c275 oO oN oA oM oT oG oQ oS oK oF oL oV oC oI oX oH oB oD oE oJ o0 o1 o4 o6 o7 o8;simp only[D3.rv275,phX,phC,dV,h2,h0,hs,WU,V,W3,seval]
 . delta D3.c275 oO oN oA oM oT oG oQ oS oK oF oL oV oC oI oX oH oB oD oE oJ o0 o1 o4 o6 o7 o8;simp only[D3.rv275,phX,phC,dV,h2,h0,WU,V,W3,seval]
theorem sO (n:Nw) (p:Ph) (e:T3) (h:p.m.vP=2\/(p.m.vP=0/\¬ p.m.vS=-1)) (hi:0<=dU p.m/\(dU p.m).toNat < p.m.buf.length) (hb:dO p.m (dU p.m)=[]):FC Tryz.prog 275 [.ptr 100000 0,enc e] (phX n p) (enc (12:Int)) (phX n p):=by
 have hi3:dU p.m < (p.m.buf.length:Int):=by omega
 obtain⟨hi0,hi2⟩:=hi;have hbg:=fu p.m.buf (dU p.m).toNat;rw[show p.m.buf.getD (dU p.m).toNat []=[]from hb]at hbg;refine dD [100001] D3.is275 (by simp) (dP n p) (dE n p) (dE n _) (dI n p _) (fun cx _ hl _=>dC [] 1500 ?_);generalize hF:dU p.m=F at *;rcases h with h1 | ⟨h1,h3⟩
 . obtain rfl:F=p.m.vG:=by rw[<- hF,dU,qb h1]
   delta D3.c275 oO oN oA oM oT oG oQ oS oK oF oL oV oC oI oX oH oB oD oE oJ o0 o1 o4 o6 o7 o8;simp only[D3.rv275,phX,phC,dV,h1,hi0,hi2,hi3,hbg,eo,zR,InR,WU,V,W3,seval]
 . have h2:¬ p.m.vP=2:=by omega
   obtain rfl:F=p.m.vS:=by rw[<- hF,dU,qa h2]
   delta D3.c275 oO oN oA oM oT oG oQ oS oK oF oL oV oC oI oX oH oB oD oE oJ o0 o1 o4 o6 o7 o8;simp only[D3.rv275,phX,phC,dV,h1,h2,h3,hi0,hi2,hi3,hbg,eo,zR,InR,WU,V,W3,seval]
theorem sP (n:Nw) (p:Ph) (e:T3) (h:p.m.vP=2\/(p.m.vP=0/\¬ p.m.vS=-1)) (hi:0<=dU p.m/\(dU p.m).toNat < p.m.buf.length) (hj:0<=toC p.m/\(toC p.m).toNat < p.m.buf.length) (hne:dU p.m≠toC p.m) (x:Int) (B:List Int) (hb:dO p.m (dU p.m)=x :: B)
 (hs:(dO p.m (toC p.m)).Pairwise (·<=·)) (hl1:(dO p.m (toC p.m)).length<=1000000) (hl2:B.length<=1000000) (hr:p.m.vS≠-1->0<=p.m.vS/\p.m.vS.toNat < p.m.buf.length) :
 FC Tryz.prog 275 [.ptr 100000 0,enc e] (phX n p) (enc (0:Int)) (phX n { p with m:=settle { p.m with buf:=(p.m.buf.set (toC p.m).toNat (fR (dO p.m (toC p.m)) x)).set (dU p.m).toNat B } }):=by
 have hi3:dU p.m < (p.m.buf.length:Int):=by omega
 have hj3:toC p.m < (p.m.buf.length:Int):=by omega
 have hnn:(toC p.m).toNat≠(dU p.m).toNat:=by omega
 obtain⟨hi0,hi2⟩:=hi;obtain⟨hj0,hj2⟩:=hj;have hbg:=fu p.m.buf (dU p.m).toNat;rw[show p.m.buf.getD (dU p.m).toNat []=x :: B from hb]at hbg;have hst1:=jD p.m.buf (dU p.m).toNat B;have hgt:(fB (p.m.buf.set (dU p.m).toNat B)).getD (toC p.m).toNat []=(dO p.m (toC p.m)).map Dat.cells:=by
  rw[fu,fi,qa (fun q=>hnn q.1.symm)];rfl
 have hlen1:(p.m.buf.set (dU p.m).toNat B).length=p.m.buf.length:=by simp
 have hst2:(fB (p.m.buf.set (dU p.m).toNat B)).set (toC p.m).toNat ((fR (dO p.m (toC p.m)) x).map Dat.cells)=fB ((p.m.buf.set (toC p.m).toNat (fR (dO p.m (toC p.m)) x)).set (dU p.m).toNat B):=by
  rw[jD,List.set_comm _ _ (fun q=>hnn q.symm)]
 have hcnt:=cntL_le (dO p.m (toC p.m)) x;rw[put_ins _ _ hs]at hst2 ⊢;have hl0:¬ ((B.length:Int)+1=0):=by omega
 have hl00:(0:Int) < (B.length:Int)+1:=by omega
 have hl01:(0:Int)<=(B.length:Int)+1:=by omega
 generalize hBB:(p.m.buf.set (toC p.m).toNat (jn (dO p.m (toC p.m)) (kG (dO p.m (toC p.m)) x) x)).set (dU p.m).toNat B=BB at *;have hBl:BB.length=p.m.buf.length:=by rw[<- hBB];simp
 have hrest:=uB n { p with m:={ p.m with buf:=BB } } (fun q=>by
  have:=hr q;show _/\_ < BB.length
  rw[hBl];exact this)
 generalize settle { p.m with buf:=BB }=S at hrest ⊢;refine dD [100001] D3.is275 (by simp) (dP n p) (dE n p) (dE n _) (dI n p _) (fun cx _ hl _=>dC [] 1500 ?_);generalize hF:dU p.m=F at *;generalize hG:toC p.m=G at *;generalize hBT:dO p.m G=BT at *;generalize hB1:p.m.buf.set F.toNat B=B1 at *;have hdt:List.drop 1 (List.take ((B.length:Int)+1).toNat ([C.s (.int .i64 x)] :: B.map Dat.cells))=B.map Dat.cells:=by
  have e1:((B.length:Int)+1).toNat=B.length+1:=by omega
  rw[e1,yD,yw,yB,qo (by simp)]
 rcases h with h1 | ⟨h1,h3⟩
 . obtain rfl:F=p.m.vG:=by rw[<- hF,dU,qb h1]
   obtain rfl:G=p.m.target:=by rw[<- hG,toC,qb h1]
   delta D3.c275 oO oN oA oM oT oG oQ oS oK oF oL oV oC oI oX oH oB oD oE oJ o0 o1 o4 o6 o7 o8;simp only[D3.rv275,phX,phC,dV,h1,hi0,hi2,hi3,hl0,hbg,eo,zt,zQ,yM,InR,WU,V,W3,seval];refine⟨by omega,by omega,?_⟩;refine mT [] 800 ?_;simp only[drS,kX,robC,reC,fixS,eL,AOp.reads,ke,true_or,or_true,false_or,hi0,hi2,hi3,hl0,hbg,eo,hdt,hst1,zy,zt,zQ,yM,InR,WU,V,W3,seval];refine⟨by omega,?_⟩;refine dC [nw] 800 ?_;simp only[hj0,hj2,hj3,hlen1,hgt,nw,hs,hl1,eo,InR,WU,Ent.of2,V,W3,seval];refine qC [nx BT (kG BT x) x hcnt hl1] 800 ?_;simp only[gB,mFin2,lP,ot,ops2,ja,reM2,nR,p9,qr,l6,finM,kd,gP,g9,fX,ff,fN,fN.fixBs,fL,ndE2,ap,ag,av,aU,aE,ke,eL,a6,bF,nx,hj0,hj2,hj3,hlen1,hgt,eo,InR,WU,V,W3,seval];refine⟨rfl,.inr trivial,?_⟩;refine dC [ei 262 n { p with m:={ p.m with buf:=BB } } { p with m:=S } [.ptr 100000 0] (.tup []) trivial hrest] 800 ?_;simp only[D3.rv275,phX,phC,ei,hst2,h1,WU,V,W3,seval]
 . have h2:¬ p.m.vP=2:=by omega
   obtain rfl:F=p.m.vS:=by rw[<- hF,dU,qa h2]
   obtain rfl:G=p.m.vG:=by rw[<- hG,toC,qa h2]
   delta D3.c275 oO oN oA oM oT oG oQ oS oK oF oL oV oC oI oX oH oB oD oE oJ o0 o1 o4 o6 o7 o8;simp only[D3.rv275,phX,phC,dV,h1,h2,h3,hi0,hi2,hi3,hl0,hbg,eo,zt,zQ,yM,InR,WU,V,W3,seval];refine⟨by omega,by omega,?_⟩;refine mT [] 800 ?_;simp only[drS,kX,robC,reC,fixS,eL,AOp.reads,ke,true_or,or_true,false_or,hi0,hi2,hi3,hl0,hbg,eo,hdt,hst1,zy,zt,zQ,yM,InR,WU,V,W3,seval];refine⟨by omega,?_⟩;refine dC [nw] 800 ?_;simp only[hj0,hj2,hj3,hlen1,hgt,nw,hs,hl1,eo,InR,WU,Ent.of2,V,W3,seval];refine qC [nx BT (kG BT x) x hcnt hl1] 800 ?_;simp only[gB,mFin2,lP,ot,ops2,ja,reM2,nR,p9,qr,l6,finM,kd,gP,g9,fX,ff,fN,fN.fixBs,fL,ndE2,ap,ag,av,aU,aE,ke,eL,a6,bF,nx,hj0,hj2,hj3,hlen1,hgt,eo,InR,WU,V,W3,seval];refine⟨rfl,.inr trivial,?_⟩;refine dC [ei 262 n { p with m:={ p.m with buf:=BB } } { p with m:=S } [.ptr 100000 0] (.tup []) trivial hrest] 800 ?_;simp only[D3.rv275,phX,phC,ei,hst2,h1,h2,h3,WU,V,W3,seval]
theorem nI {x:Int} (h:0<=x/\x<=11):x=0\/x=1\/x=2\/x=3\/x=4\/x=5\/x=6\/x=7\/x=8\/x=9\/x=10\/x=11:=by omega
theorem glk : lk (Glob.gl Tryz.prog) 0=some jf:=rfl
theorem sL (n:Nw) (e:T3) (hn:NwS n):FC Tryz.prog 114 [enc n,enc e] [] (enc (evE n e)) []:=by
 have hb:=hn.c;obtain⟨x,y,z⟩:=e;refine dD [] is114 (by simp) trivial trivial trivial trivial (fun cx _ hl _=>dC [gi,eg,ee,lv] 1500 ?_);by_cases hx:0<=x/\x<=11
 rotate_left
 . have he:evE n ⟨x,y,z⟩=15:=by rw[evE,qb (by simpa using hx)]
   generalize evE n ⟨x,y,z⟩=E at *;subst he;cases ht:gc y
   all_goals
    delta c114 oO oN oA oM oT oQ oS oK oF oL oV oC oI oX oB o1 o4 o7;simp only[nW,eO,dV,gi,eg,ee,lv,hx,ht,dS,qc,qd,WU,Ent.of1,Ent.of2,Ent.of3,V,W3,seval]
 cases ht:gc y
 . have he:evE n ⟨x,y,z⟩=2:=by rw[evE,qa (by simpa using hx),qb ht]
   generalize evE n ⟨x,y,z⟩=E at *;subst he;delta c114 oO oN oA oM oT oQ oS oK oF oL oV oC oI oX oB o1 o4 o7;simp only[nW,eO,dV,gi,eg,ee,lv,hx,ht,dS,qc,qd,WU,Ent.of1,Ent.of2,Ent.of3,V,W3,seval]
 have he:evE n ⟨x,y,z⟩=if iy x=true then (if isC n z=true then 0 else 6)else if z=0 then 0 else 3:=by
  rw[evE,qa (by simpa using hx),qa (by simp[ht])]
 generalize evE n ⟨x,y,z⟩=E at *;subst he;have hic:isC n z=decide (0<=z/\z<=(n.cells.length:Int) - 1):=rfl;have glq:=glk;unfold Glob.gl at glq;have hr:-9223372036854775808<=(n.cells.length:Int) - 1/\(n.cells.length:Int) - 1<=9223372036854775807:=by omega
 by_cases hcell:iy x=true
 . have hk:x=3\/x=10:=by simpa[iy]using hcell
   rw[qb hcell];rcases hk with k | k <;> subst k <;> rcases qg (0<=z/\z<=(n.cells.length:Int) - 1)with hz | hz
   all_goals
    simp only[hz,decide_true,decide_false]at hic;delta c114 oO oN oA oM oT oQ oS oK oF oL oV oC oI oX oB o1 o4 o7;simp only[nW,eO,dV,gi,eg,ee,lv,ht,hz,hic,hr,glq,jf,decide_true,decide_false,yw,yB,yc,dS,InR,qc,qd,WU,Ent.of1,Ent.of2,Ent.of3,V,W3,seval]
 . rw[qa hcell];have hk:x≠3/\x≠10:=by simpa[iy]using hcell
   rcases nI hx with k | k | k | k | k | k | k | k | k | k | k | k <;> subst k <;> first | exact absurd rfl hk.1 | exact absurd rfl hk.2 | skip
   all_goals
    by_cases hz0:z=0
   all_goals
    delta c114 oO oN oA oM oT oQ oS oK oF oL oV oC oI oX oB o1 o4 o7;simp only[nW,eO,dV,gi,eg,ee,lv,ht,hz0,hr,glq,jf,decide_true,decide_false,yw,yB,yc,dS,InR,qc,qd,WU,Ent.of1,Ent.of2,Ent.of3,V,W3,seval]
def lx (n:Nw) (hn:NwS n):Ent Tryz.prog:=.of2 114 (fun m _=>m=n) (fun (m:Nw) (e:T3)=>enc (evE m e)) (fun _ _=>trivial) (fun m e h=>h ▸ sL n e hn)
def gT (n:Nw) (m:Ms) (e:T3):Int:=if evE n e≠0 then evE n e else if e.y < m.at_ then 9 else 0
theorem apply_e (n:Nw) (p:Ph) (e:T3) (hn:NwS n) (h:gT n p.m e≠0):FC Tryz.prog 118 [.ptr 100000 0,enc e] (phX n p) (enc (gT n p.m e)) (phX n p):=by
 have hdn:=jd n;have hE:gT n p.m e=if evE n e≠0 then evE n e else if e.y < p.m.at_ then 9 else 0:=rfl
 refine dD [100001] is118 (by simp) (dP n p) (dE n p) (dE n _) (dI n p _) (fun cx _ hl _=>dC [lx n hn,eg,ee] 1500 ?_);generalize gT n p.m e=E at *;generalize hv:evE n e=v at *;by_cases h1:v=0
 . subst h1;rw[qa (by simp)]at hE;by_cases h2:e.y < p.m.at_
   . rw[qb h2]at hE;subst hE;have h3:¬ p.m.at_<=e.y:=by omega
     delta c118 oO oN oA oM oT oQ oS oK oF oL oV oC oW oI oX oB o1 o5 o6 o7;simp only[rv118,phX,phC,dV,lV,hdn,lx,eg,ee,hv,h3,dS,qc,qd,WU,Ent.of1,Ent.of2,V,W3,seval]
   . rw[qa h2]at hE;exact absurd hE h
 . rw[qb h1]at hE;subst hE;rcases qg (p.m.at_<=e.y)with h3 | h3
   all_goals
    delta c118 oO oN oA oM oT oQ oS oK oF oL oV oC oW oI oX oB o1 o5 o6 o7;simp only[rv118,phX,phC,dV,lV,hdn,lx,eg,ee,hv,h1,h3,dS,qc,qd,WU,Ent.of1,Ent.of2,V,W3,seval]
theorem apply_k (n:Nw) (p:Ph) (e:T3) (hn:NwS n) (he:evE n e=0) (hy:p.m.at_<=e.y) (hd:InR .i64 (p.m.since+n.limit)) (hp:jt n p.m e.y=true->ConOk n p 0 (p.m.since+n.limit)) (q:Ph) (r:Int) (hx:0<=e.x/\e.x<=11)
 (hM:FC Tryz.prog (268+e.x.toNat) [.ptr 100000 0,enc e] (phX n (eJ n p e.y)) (enc r) (phX n q)) :
 FC Tryz.prog 118 [.ptr 100000 0,enc e] (phX n p) (enc r) (phX n (if r=0 then atP q e.y else q)):=by
 have hdn:=jd n;have hpass:=pass_c n p e.y hd hp;generalize eJ n p e.y=p1 at *;have glq:=glk;unfold Glob.gl at glq;refine dD [100001] D4.is118 (by simp) (dP n p) (dE n p) (dE n _) (dI n p _) (fun cx _ hl _=>dC [lx n hn,eg,ee,ei 151 n p p1 [.ptr 100000 0,enc e.y] (.tup []) trivial hpass] 1500 ?_);delta D4.c118 oO oN oM oT oQ oS oK oF oL oV oC oI oX oB o1 o5 o6 o7;simp only[D4.rv118,phX,phC,dV,lV,hdn,lx,eg,ee,ei,he,hy,dS,qc,qd,WU,Ent.of1,Ent.of2,V,W3,seval];obtain⟨x,y,z⟩:=e;simp only at hx hy hpass;rcases nI hx with k | k | k | k | k | k | k | k | k | k | k | k <;> subst k
 all_goals
  refine iI (dC [ei _ n p1 q [.ptr 100000 0,enc _] (enc r) trivial hM] 1000 ?_)
 all_goals
  rcases qg (r=0)with h0 | h0
 all_goals
  delta D4.c118k1 oO oN oA oM oT oQ oS oK oF oL oV oW oI oX oB o5 o6;simp only[D4.rv118,phX,phC,dV,lV,ei,h0,glq,jf,atP,yw,yB,yc,qc,qd,WU,V,W3,seval]
  try exact (of_eq_true h0).symm
structure PhB (p:Ph):Prop where
 s0:0 < p.stays.length
 s1:p.stays.length<=900000
 r1:p.recv.length<=900000
 o1:-1<=p.out/\p.out<=1000000000
theorem qO {n:Nw} {p:Ph} {c t:Int} (hn:NwS n) (net:NetOk n) (hl:p.m.buf.length=n.cells.length) (hf:p.m.buf.flatten.length<=60) (b:PhB p) (hc:isC n c=true) (ht:0<=t/\t<=2000000000):ConOk n p c t:=by
 have h1:=fG hc;have h2:=net.len;have h3:=b.o1;have h4:=b.s1;exact⟨hn,⟨h1.1,h1.2.1⟩,hl,by omega,by omega,⟨b.s0,by omega⟩,fun _=>by simp only[InR];omega⟩
theorem pv {l:List Int} (h:l≠[]):∃ x t,l=x :: t:=by
 cases l with
 | nil=>exact absurd rfl h
 | cons x t=>exact⟨x,t,rfl⟩
theorem ap_len {n:Nw} {m:Ms} (g:G0 n m) (c:Int):(dO m c).length<=60:=by
 rcases yu c.toNat m.buf.length with h | h
 . have:=(fJ m.buf c.toNat h).length_eq;have h2:=g.large;rw[zK]at this;show (m.buf.getD c.toNat []).length<=60
   omega
 . show (m.buf.getD c.toNat []).length<=60
   rw[zb,List.getElem?_eq_none h];simp
def DoC (n:Nw) (p:Ph) (e:T3):Prop:=∃ q,FC Tryz.prog (268+e.x.toNat) [.ptr 100000 0,enc e] (phX n p) (enc (et n p.m e)) (phX n q)/\(et n p.m e=0->q=doP p e)
theorem do_data (n:Nw) (p:Ph) (y z:Int) (hf:p.m.buf.flatten.length<=60) (hl:p.m.buf.length<=1000) (hp:0<=p.m.path/\p.m.path.toNat < p.m.buf.length) (hfr:0<=p.m.fresh/\p.m.fresh<=1000000) (hb:(dO p.m p.m.path).length<=60) (hst:settle (eG p.m ⟨0,y,z⟩)=eG p.m ⟨0,y,z⟩):DoC n p ⟨0,y,z⟩:=by
 have hk:=mK p.m.buf;have hD:et n p.m ⟨0,y,z⟩=if 60<=fc p.m.buf\/1000000<=p.m.fresh then 16 else 0:=rfl
 unfold DoC;generalize et n p.m ⟨0,y,z⟩=D at *;by_cases h:60<=fc p.m.buf\/1000000<=p.m.fresh
 . rw[qb h]at hD;subst hD;exact⟨p,data_e n p ⟨0,y,z⟩ h (by omega) (by omega),fun q=>by cases q⟩
 . rw[qa h]at hD;subst hD;refine⟨_,data_ok n p ⟨0,y,z⟩ (by omega) (by omega) (by omega) (by omega) hp (by simp only[InR];omega) (by omega),fun _=>?_⟩;simp only[doP,Int.reduceEq,qi,hst,false_and,or_self];rfl
theorem do_send (n:Nw) (p:Ph) (y z:Int) (hs:0<=p.m.vG/\p.m.vG.toNat < p.m.buf.length) (hg:0<=p.m.got/\p.m.got<=1000000) (hr:p.recv.length<=900000) (hst:settle (eG p.m ⟨1,y,z⟩)=eG p.m ⟨1,y,z⟩):DoC n p ⟨1,y,z⟩:=by
 have hD:et n p.m ⟨1,y,z⟩=if ed p.m=true then 22 else if dO p.m p.m.vG=[]then 12 else if p.m.got < (dO p.m p.m.vG).headD 0 then 14 else 0:=rfl
 unfold DoC;generalize et n p.m ⟨1,y,z⟩=D at *;by_cases h:ed p.m=true
 . rw[qb h]at hD;subst hD;exact⟨p,send_e1 n p ⟨1,y,z⟩ h,fun q=>by cases q⟩
 rw[qa h]at hD;have h':ed p.m=false:=by simpa using h
 by_cases hb:dO p.m p.m.vG=[]
 . rw[qb hb]at hD;subst hD;exact⟨p,send_e2 n p ⟨1,y,z⟩ h' hs hb,fun q=>by cases q⟩
 rw[qa hb]at hD;obtain⟨x,l,hx⟩:=pv hb;rw[hx,yc]at hD;by_cases hxg:p.m.got < x
 . rw[qb hxg]at hD;subst hD;exact⟨p,send_e3 n p ⟨1,y,z⟩ h' hs x l hx hxg,fun q=>by cases q⟩
 rw[qa hxg]at hD;subst hD;by_cases hxe:x=p.m.got
 . refine⟨_,v7 n p ⟨1,y,z⟩ h' hs x l hx hxe (by omega) (by simp only[InR];omega),fun _=>?_⟩;have ha:eG p.m ⟨1,y,z⟩={ p.m with got:=p.m.got+1 }:=by
    simp only[eG,Int.reduceEq,qj,qi,hx,yc,hxe]
   rw[ha]at hst;simp only[doP,Int.reduceEq,qi,ha,hst,hx,yc,hxe,true_and,qj,or_self]
 . refine⟨_,v8 n p ⟨1,y,z⟩ h' hs x l hx (by omega),fun _=>?_⟩;have ha:eG p.m ⟨1,y,z⟩=p.m:=by
    simp only[eG,Int.reduceEq,qj,qi,hx,yc,hxe]
   rw[ha]at hst;simp only[doP,Int.reduceEq,qi,ha,hst,hx,yc,hxe,and_false,or_self]
theorem do_ack (n:Nw) (p:Ph) (y z:Int) (hs:0<=p.m.vG/\p.m.vG.toNat < p.m.buf.length) (hb:(dO p.m p.m.vG).length<=60) (hst:settle (eG p.m ⟨2,y,z⟩)=eG p.m ⟨2,y,z⟩):DoC n p ⟨2,y,z⟩:=by
 have hD:et n p.m ⟨2,y,z⟩=if ed p.m=true then 22 else 0:=rfl
 unfold DoC;generalize et n p.m ⟨2,y,z⟩=D at *;by_cases h:ed p.m=true
 . rw[qb h]at hD;subst hD;exact⟨p,ack_e n p ⟨2,y,z⟩ h,fun q=>by cases q⟩
 rw[qa h]at hD;subst hD;refine⟨_,ack_ok n p ⟨2,y,z⟩ (by simpa using h) hs (by omega),fun _=>?_⟩;simp only[doP,Int.reduceEq,qi,hst,false_and,or_self];rfl
theorem sH (n:Nw) (p:Ph) (y z:Int) (hst:settle (eG p.m ⟨3,y,z⟩)=eG p.m ⟨3,y,z⟩):DoC n p ⟨3,y,z⟩:=by
 have hD:et n p.m ⟨3,y,z⟩=dS [if p.m.vP=0 then 0 else 22,if p.m.vS=-1 then 0 else 17,if nbr n z p.m.vG=true then 0 else 6]:=by
  have:et n p.m ⟨3,y,z⟩=if p.m.vP≠0 then 22 else if p.m.vS≠-1 then 17 else if nbr n z p.m.vG=true then 0 else 6:=rfl
  rw[this];by_cases h1:p.m.vP=0 <;> by_cases h2:p.m.vS=-1 <;> cases h3:nbr n z p.m.vG <;> simp[h1,h2,dS]
 unfold DoC;by_cases h:et n p.m ⟨3,y,z⟩=0
 . rw[h];have h1:p.m.vP=0/\p.m.vS=-1/\nbr n z p.m.vG=true:=by
    rw[h]at hD;by_cases h1:p.m.vP=0 <;> by_cases h2:p.m.vS=-1 <;> cases h3:nbr n z p.m.vG <;> simp[h1,h2,h3,dS]at hD ⊢
   refine⟨_,sV n p ⟨3,y,z⟩ h1.1 h1.2.1 h1.2.2,fun _=>?_⟩;simp only[doP,Int.reduceEq,qi,hst,false_and,or_self];rfl
 . have hne:=h;rw[hD]at hne ⊢;exact⟨p,ut n p ⟨3,y,z⟩ hne,fun q=>absurd q hne⟩
theorem tA (n:Nw) (p:Ph) (y z:Int) (hst:settle (eG p.m ⟨4,y,z⟩)=eG p.m ⟨4,y,z⟩):DoC n p ⟨4,y,z⟩:=by
 have hD:et n p.m ⟨4,y,z⟩=if p.m.vP≠1 then 22 else 0:=rfl
 unfold DoC;generalize et n p.m ⟨4,y,z⟩=D at *;by_cases h:p.m.vP=1
 . rw[qa (fun q=>q h)]at hD;subst hD;refine⟨_,tl n p ⟨4,y,z⟩ h,fun _=>?_⟩;simp only[doP,Int.reduceEq,qi,hst,false_and,or_self];rfl
 . rw[qb h]at hD;subst hD;exact⟨p,uV n p ⟨4,y,z⟩ h,fun q=>by cases q⟩
theorem sF (n:Nw) (p:Ph) (y z:Int) (hst:settle (eG p.m ⟨5,y,z⟩)=eG p.m ⟨5,y,z⟩):DoC n p ⟨5,y,z⟩:=by
 have hD:et n p.m ⟨5,y,z⟩=if p.m.vP≠1 then 22 else 0:=rfl
 unfold DoC;generalize et n p.m ⟨5,y,z⟩=D at *;by_cases h:p.m.vP=1
 . rw[qa (fun q=>q h)]at hD;subst hD;refine⟨_,sE n p ⟨5,y,z⟩ h,fun _=>?_⟩;simp only[doP,iC,Int.reduceEq,qi,qj,hst,false_and,true_or,or_self];rfl
 . rw[qb h]at hD;subst hD;exact⟨p,tu n p ⟨5,y,z⟩ h,fun q=>by cases q⟩
theorem rL (n:Nw) (p:Ph) (y z:Int) (b:PhB p) (hy:0<=y/\y<=1000000000) (hst:settle (eG p.m ⟨6,y,z⟩)=eG p.m ⟨6,y,z⟩):DoC n p ⟨6,y,z⟩:=by
 have hD:et n p.m ⟨6,y,z⟩=if p.m.vP≠2 then 22 else 0:=rfl
 have h3:=b.o1;have h4:=b.s1;unfold DoC;generalize et n p.m ⟨6,y,z⟩=D at *;by_cases h:p.m.vP=2
 . rw[qa (fun q=>q h)]at hD;subst hD;refine⟨_,rK n p ⟨6,y,z⟩ h ⟨b.s0,by omega⟩ (fun _=>by simp only[InR];omega),fun _=>?_⟩;simp only[doP,Int.reduceEq,qi,qj,hst,false_and,or_self];rfl
 . rw[qb h]at hD;subst hD;exact⟨p,ng n p ⟨6,y,z⟩ h,fun q=>by cases q⟩
theorem do_fail (n:Nw) (p:Ph) (y z:Int) (hst:settle (eG p.m ⟨9,y,z⟩)=eG p.m ⟨9,y,z⟩):DoC n p ⟨9,y,z⟩:=by
 have hD:et n p.m ⟨9,y,z⟩=if p.m.vP=3 then 22 else 0:=rfl
 unfold DoC;generalize et n p.m ⟨9,y,z⟩=D at *;by_cases h:p.m.vP=3
 . rw[qb h]at hD;subst hD;exact⟨p,fail_e n p ⟨9,y,z⟩ h,fun q=>by cases q⟩
 . rw[qa h]at hD;subst hD;refine⟨_,fail_ok n p ⟨9,y,z⟩ h,fun _=>?_⟩;simp only[doP,iC,Int.reduceEq,qi,qj,hst,false_and,or_true,or_self];rfl
theorem do_pass (n:Nw) (p:Ph) (y z:Int) (hst:settle (eG p.m ⟨11,y,z⟩)=eG p.m ⟨11,y,z⟩):DoC n p ⟨11,y,z⟩:=by
 refine⟨_,us n p ⟨11,y,z⟩,fun _=>?_⟩;simp only[doP,Int.reduceEq,qi,hst,false_and,or_self];rfl
theorem do_turn (n:Nw) (p:Ph) (y z:Int) (hr:p.m.vS≠-1->0<=p.m.vS/\p.m.vS.toNat < p.m.buf.length):DoC n p ⟨8,y,z⟩:=by
 have hD:et n p.m ⟨8,y,z⟩=if p.m.vS=-1 then 12 else if p.m.vP=3 then 22 else if p.m.path=p.m.vG then 26 else 0:=rfl
 unfold DoC;generalize et n p.m ⟨8,y,z⟩=D at *;by_cases h1:p.m.vS=-1
 . rw[qb h1]at hD;subst hD;exact⟨p,turn_e1 n p ⟨8,y,z⟩ h1,fun q=>by cases q⟩
 rw[qa h1]at hD;by_cases h2:p.m.vP=3
 . rw[qb h2]at hD;subst hD;exact⟨p,turn_e2 n p ⟨8,y,z⟩ h1 h2,fun q=>by cases q⟩
 rw[qa h2]at hD;by_cases h3:p.m.path=p.m.vG
 . rw[qb h3]at hD;subst hD;exact⟨p,turn_e3 n p ⟨8,y,z⟩ h1 h2 h3,fun q=>by cases q⟩
 rw[qa h3]at hD;subst hD;refine⟨_,turn_ok n p ⟨8,y,z⟩ h1 h2 h3 hr,fun _=>?_⟩;simp only[doP,Int.reduceEq,qi,false_and,or_self];rfl
theorem sG (n:Nw) (p:Ph) (y z:Int) (hf:p.m.vP=2\/(p.m.vP=0/\¬ p.m.vS=-1)->(0<=dU p.m/\(dU p.m).toNat < p.m.buf.length)/\(0<=toC p.m/\(toC p.m).toNat < p.m.buf.length)/\dU p.m≠toC p.m)
 (hs:(dO p.m (toC p.m)).Pairwise (·<=·)) (hl:∀ c,(dO p.m c).length<=60) (hr:p.m.vS≠-1->0<=p.m.vS/\p.m.vS.toNat < p.m.buf.length):DoC n p ⟨7,y,z⟩:=by
 have hD:et n p.m ⟨7,y,z⟩=if p.m.vP≠2/\(p.m.vP≠0\/p.m.vS=-1)then 22 else if dO p.m (dU p.m)=[]then 12 else 0:=rfl
 unfold DoC;generalize et n p.m ⟨7,y,z⟩=D at *;by_cases h:p.m.vP≠2/\(p.m.vP≠0\/p.m.vS=-1)
 . rw[qb h]at hD;subst hD;exact⟨p,sN n p ⟨7,y,z⟩ h.1 h.2,fun q=>by cases q⟩
 rw[qa h]at hD;have h':p.m.vP=2\/(p.m.vP=0/\¬ p.m.vS=-1):=by omega
 obtain⟨f1,f2,f3⟩:=hf h';by_cases hb:dO p.m (dU p.m)=[]
 . rw[qb hb]at hD;subst hD;exact⟨p,sO n p ⟨7,y,z⟩ h' f1 hb,fun q=>by cases q⟩
 rw[qa hb]at hD;subst hD;obtain⟨x,B,hx⟩:=pv hb;have hlB:=hl (dU p.m);have hlT:=hl (toC p.m);rw[hx]at hlB;simp only[zQ]at hlB;refine⟨_,sP n p ⟨7,y,z⟩ h' f1 f2 f3 x B hx hs (by omega) (by omega) hr,fun _=>?_⟩;have ha:eG p.m ⟨7,y,z⟩={ p.m with buf:=(p.m.buf.set (toC p.m).toNat (fR (dO p.m (toC p.m)) x)).set (dU p.m).toNat B }:=by
  simp only[eG,Int.reduceEq,qj,qi,hx,yc,List.tail_cons]
 simp only[doP,Int.reduceEq,qi,ha,false_and,or_self]
theorem sI (n:Nw) (p:Ph) (y z:Int) (hc:isC n z=true) (hk:ConOk n p z y):DoC n p ⟨10,y,z⟩:=by
 have hz:=fG hc;have hD:et n p.m ⟨10,y,z⟩=recE p ⟨10,y,z⟩:=by
  have:et n p.m ⟨10,y,z⟩=if p.m.vP≠3 then 22 else if z≠p.m.vG/\(p.m.target=-1\/z≠p.m.target)/\(p.m.vS=-1\/z≠p.m.vS)then 6 else 0:=rfl
  rw[this,recE];simp only[List.any_cons,List.any_nil,Bool.or_false,zV,qf];by_cases h1:p.m.vP=3
  . rw[qa (fun q=>q h1),qb h1];simp only[dS,ne_eq,qc,qi];by_cases h2:z=p.m.vG\/z=p.m.target\/z=p.m.vS
    . rw[qa (by omega),qb h2];simp
    . rw[qb (by omega),qa h2];simp
  . rw[qb h1,qa h1];simp[dS]
 unfold DoC;by_cases h:recE p ⟨10,y,z⟩=0
 . rw[hD,h];have h1:p.m.vP=3/\([p.m.vG,p.m.target,p.m.vS].any fun x=>decide (z=x))=true:=by
    unfold recE at h;by_cases h1:p.m.vP=3 <;> cases h2:([p.m.vG,p.m.target,p.m.vS].any fun x=>decide (z=x))
    all_goals
     simp only[h1,qj,qi,dS]at h;simp only[h2]at h;simp at h
    exact⟨h1,rfl⟩
   refine⟨_,sW n p ⟨10,y,z⟩ h1.1 h1.2 hk,fun _=>?_⟩;simp only[doP,qj]
 . rw[hD];exact⟨p,ux n p ⟨10,y,z⟩ h,fun q=>absurd q h⟩
structure PhK (k:Nat) (p:Ph):Prop where
 s0:0 < p.stays.length
 s1:p.stays.length<=2*k+1
 r1:p.recv.length<=k
 o1:-1<=p.out/\p.out<=1000000000
theorem uF (l:List T3) (t:Int):(jv l t).length=l.length:=by simp[jv]
theorem oj (l:List T3) (a b t:Int):l.length<=(chg l a b t).length/\(chg l a b t).length<=l.length+1:=by
 unfold chg;split
 . omega
 . simp[uF]
theorem pC (n:Nw) (p:Ph) (t:Int):(p.stays.length<=(eJ n p t).stays.length/\(eJ n p t).stays.length<=p.stays.length+1)/\(eJ n p t).recv=p.recv/\((eJ n p t).out=p.out\/(eJ n p t).out=-1):=by
 unfold eJ;split
 . exact⟨oj _ _ _ _,rfl,.inr rfl⟩
 . exact⟨by omega,rfl,.inl rfl⟩
theorem do_lens (p:Ph) (e:T3) (hy:0<=e.y/\e.y<=1000000000):(p.stays.length<=(doP p e).stays.length/\(doP p e).stays.length<=p.stays.length+1)/\(doP p e).recv.length<=p.recv.length+1/\(-1<=p.out/\p.out<=1000000000->-1<=(doP p e).out/\(doP p e).out<=1000000000):=by
 unfold doP;by_cases h:e.x=10
 . rw[qb h];exact⟨oj _ _ _ _,by show p.recv.length<=_;omega,fun _=>by show (-1:Int)<=-1/\(-1:Int)<=_;omega⟩
 . rw[qa h];refine⟨?_,?_,fun ho=>?_⟩
   . by_cases h6:e.x=6
     . simp only[h6,qj];exact oj _ _ _ _
     . simp only[h6,qi];omega
   . by_cases h6:e.x=1/\(dO p.m p.m.vG).headD 0=p.m.got
     . simp only[h6,and_self,qj,zK,zQ,yh];omega
     . simp only[h6,qi];omega
   . show -1<=(if _ then _ else _:Int)/\(if _ then _ else _:Int)<=_
     split
     . split <;> omega
     . split <;> omega
theorem PhK.apply {n:Nw} {k:Nat} {p:Ph} {e:T3} (h:PhK k p) (hy:0<=e.y/\e.y<=1000000000):PhK (k+1) (km n p e):=by
 have h1:=pC n p e.y;have h2:=do_lens (eJ n p e.y) e hy;have h3:=h.s0;have h4:=h.s1;have h5:=h.r1;have h6:=h.o1;rw[h1.2.1]at h2;refine⟨?_,?_,?_,h2.2.2 ?_⟩
 . show 0 < (doP (eJ n p e.y) e).stays.length;omega
 . show (doP (eJ n p e.y) e).stays.length<=_;omega
 . show (doP (eJ n p e.y) e).recv.length<=_;omega
 . rcases h1.2.2 with q | q <;> rw[q] <;> omega
theorem ev_ok {n:Nw} {e:T3} (h:evE n e=0):(0<=e.x/\e.x<=11)/\(0<=e.y/\e.y<=1000000000)/\(iy e.x=true->isC n e.z=true):=by
 unfold evE at h;by_cases h1:0<=e.x/\e.x<=11
 . rw[qa (by simp[h1])]at h;by_cases h2:gc e.y=true
   . rw[qa (by simp[h2])]at h;simp only[gc,qf]at h2;refine⟨h1,h2,fun q=>?_⟩;rw[qb q]at h;rcases qh (isC n e.z=true)with q2 | q2
     . exact q2
     . rw[qa q2]at h;cases h
   . rw[qb (by simpa using h2)]at h;cases h
 . rw[qb (by simpa using h1)]at h;cases h
theorem apply_c (n:Nw) (p:Ph) (e:T3) (k:Nat) (hn:NwS n) (net:NetOk n) (g:dN n p.m) (b:PhK k p) (hk:k<=400000) :
 ∃ q,FC Tryz.prog 118 [.ptr 100000 0,enc e] (phX n p) (enc (fY n p.m e)) (phX n q)/\(fY n p.m e=0->q=km n p e):=by
 by_cases hfr:gT n p.m e=0
 . have hev:evE n e=0:=by
    rcases qh (evE n e=0)with q | q
    . exact q
    . rw[gT,qb q]at hfr;exact absurd hfr q
   have hat:p.m.at_<=e.y:=by
    rw[gT,qa (by simp[hev])]at hfr;rcases qh (e.y < p.m.at_)with q | q
    . rw[qb q]at hfr;cases hfr
    . omega
   obtain⟨hx,hy,hcz⟩:=ev_ok hev;have hE:fY n p.m e=et n (kW n p.m e.y) e:=by
    rw[fY,qa (by simp[hev]),qw,qa (by omega)]
   have hE2:et n (kW n p.m e.y) e=et n (eJ n p e.y).m e:=by
    rw[ou];rfl
   have G:=dN.pass net g hat hy.2;have b1:PhB (eJ n p e.y):=by
    have h1:=pC n p e.y;have h3:=b.s0;have h4:=b.s1;have h5:=b.r1;have h6:=b.o1;refine⟨by omega,by omega,by rw[h1.2.1];omega,?_⟩;rcases h1.2.2 with q | q <;> rw[q] <;> omega
   have hm:({ (eJ n p e.y).m with at_:=e.y }:Ms)=kW n p.m e.y:=by rw[ou];rfl
   have hsi:=g.since;have hai:=g.at_;have hli:=net.lim;have b0:PhB p:=by
    have h3:=b.s0;have h4:=b.s1;have h5:=b.r1;exact⟨h3,by omega,by omega,b.o1⟩
   have hdo:DoC n (eJ n p e.y) e:=by
    rw[<- hm]at G;generalize eJ n p e.y=p1 at *;have hle:=net.len;have hlen:p1.m.buf.length=n.cells.length:=G.len;have hpth:isC n p1.m.path=true:=G.pth;have hsrv:isC n p1.m.vG=true:=G.srv;have hsrc:p1.m.vS≠-1->isC n p1.m.vS=true:=G.src;have htgt:p1.m.target≠-1->isC n p1.m.target=true:=G.tgt;have hc1:p1.m.target≠-1->nbr n p1.m.target p1.m.vG=true:=G.c1;have hc2:p1.m.vS≠-1->nbr n p1.m.vS p1.m.vG=true:=G.c2;have hf2:p1.m.target=-1->p1.m.vP≠1/\p1.m.vP≠2:=G.f2;have hf3:p1.m.vS≠-1->p1.m.vP≠1/\p1.m.vP≠2/\p1.m.target=-1:=G.f3;have hf4:p1.m.path≠p1.m.vG->p1.m.vS≠-1/\p1.m.path=p1.m.vS:=G.f4;have hbusy:p1.m.vS≠-1->p1.m.path=p1.m.vG->dO p1.m p1.m.vS≠[]:=G.busy;have hlarge:p1.m.buf.flatten.length<=60:=G.large;have hfresh:0<=p1.m.fresh/\p1.m.fresh<=1000000:=G.fresh;have hgot:0<=p1.m.got/\p1.m.got<=p1.m.fresh:=G.got;have hbl:∀ c,(dO p1.m c).length<=60:=fun c=>ap_len G.toG0 c
    have hasc:∀ c,(dO p1.m c).Pairwise (·<=·):=fun c=>pK (G.toG0.asc_at c.toNat)
    have ix:∀ {c:Int},isC n c=true->0<=c/\c.toNat < p1.m.buf.length:=fun h=>by
     have:=fG h;omega
    clear hE hE2 hm;have hst:(e.x=6->p1.m.vP=2)->e.x≠7->e.x≠8->settle (eG p1.m e)=eG p1.m e:=fun h6 h7 h8=>by
     refine s5 net hlen hpth hsrv hsrc htgt hc1 hc2 hbusy (fun q=>?_) hx h7 h8;have h2:=h6 q;have ht:p1.m.target≠-1:=fun q2=>(hf2 q2).2 h2
     refine⟨ht,?_⟩;rcases qh (p1.m.path=p1.m.vG)with q2 | q2
     . exact q2
     . exact absurd h2 (hf3 (hf4 q2).1).2.1
    obtain⟨x,y,z⟩:=e;simp only at hx hy hcz hst;have hxs:x=0\/x=1\/x=2\/x=3\/x=4\/x=5\/x=6\/x=7\/x=8\/x=9\/x=10\/x=11:=by omega
    rcases hxs with q | q | q | q | q | q | q | q | q | q | q | q <;> subst q
    . exact do_data n p1 y z hlarge (by omega) (ix hpth) hfresh (hbl _) (hst (by omega) (by omega) (by omega))
    . exact do_send n p1 y z (ix hsrv) (by omega) b1.r1 (hst (by omega) (by omega) (by omega))
    . exact do_ack n p1 y z (ix hsrv) (hbl _) (hst (by omega) (by omega) (by omega))
    . exact sH n p1 y z (hst (by omega) (by omega) (by omega))
    . exact tA n p1 y z (hst (by omega) (by omega) (by omega))
    . exact sF n p1 y z (hst (by omega) (by omega) (by omega))
    . by_cases h2:p1.m.vP=2
      . exact rL n p1 y z b1 hy (hst (fun _=>h2) (by omega) (by omega))
      . have hD:et n p1.m ⟨6,y,z⟩=22:=by
         show (if p1.m.vP≠2 then (22:Int)else 0)=22
         rw[qb h2]
        unfold DoC;rw[hD];exact⟨p1,ng n p1 ⟨6,y,z⟩ h2,fun q=>by cases q⟩
    . refine sG n p1 y z (fun h=>?_) (hasc _) hbl (fun q=>ix (hsrc q));by_cases h2:p1.m.vP=2
      . have ht:p1.m.target≠-1:=fun q2=>(hf2 q2).2 h2
        rw[dU,toC,qb h2,qb h2];exact⟨ix hsrv,ix (htgt ht),fun h=>net.ne _ _ (hc1 ht) h.symm⟩
      . have hs:p1.m.vS≠-1:=by
         rcases h with h | h
         . exact absurd h h2
         . exact h.2
        rw[dU,toC,qa h2,qa h2];exact⟨ix (hsrc hs),ix hsrv,net.ne _ _ (hc2 hs)⟩
    . exact do_turn n p1 y z (fun q=>ix (hsrc q))
    . exact do_fail n p1 y z (hst (by omega) (by omega) (by omega))
    . have hc:=hcz (by simp[iy]);exact sI n p1 y z hc (qO hn net hlen hlarge b1 hc (by omega))
    . exact do_pass n p1 y z (hst (by omega) (by omega) (by omega))
   obtain⟨q,hq,hq2⟩:=hdo;refine⟨if et n (eJ n p e.y).m e=0 then atP q e.y else q,?_,fun h=>?_⟩
   . rw[hE,hE2];exact apply_k n p e hn hev hat (by simp only[InR];omega) (fun _=>qO hn net g.len g.large b0 (by simp only[isC,qf];have:=net.len;omega) (by omega)) q _ hx hq
   . rw[hE,hE2]at h;rw[qb h,hq2 h];rfl
 . have hE:fY n p.m e=gT n p.m e:=by
    unfold fY gT qw;by_cases h:evE n e≠0
    . rw[qb h,qb h]
    . rw[qa h,qa h];by_cases h2:e.y < p.m.at_
      . rw[qb h2,qb h2]
      . exfalso
        rw[gT,qa h,qa h2]at hfr;exact hfr rfl
   rw[hE];exact⟨p,apply_e n p e hn hfr,fun h=>absurd h hfr⟩
def phY (n:Nw) (p:Ph) (a b:Nat):Chs:=[(a,.box (phC n p b)),(b,.deep 1 3 24 none (fB p.m.buf))]
end Go.Proofs.YtcbabnbiinkafaaGreatDoor
end
