/- Part 12 of the proof of: the statements about chapter 8 -/
import Derived.Test.YtcbabnbiinkafaaGreatDoorBq11
set_option linter.all false
section
open Go Go.Am
open Go.Am.Dat (cells)
namespace Go.Proofs.YtcbabnbiinkafaaGreatDoor
set_option maxHeartbeats 4000000
set_option maxRecDepth 100000
theorem serve_c (n:Nw) (p:Ph) (c t:Int) (h:0 < p.stays.length/\p.stays.length<=1000000):FC Tryz.prog 184 [.ptr 100000 0,enc c,enc t] (phX n p) (.tup []) (phX n (ko p c t)):=by
 refine dD [100001] is184 (by simp) (dR n p) (dE n p) (dE n _) (dI n p _) (fun cx _ hl _=>dC [] 800 ?_);by_cases h0:c=p.m.serving
 . have h0':p.m.serving=c:=h0.symm;delta c184 oO oN oA oM oT oR oQ oS oK oF oL oW oY oI oX oB o3 o4 o6;simp (maxSteps:=9^7) -implicitDefEqProofs only[rv184,phX,phC,ko,chg,h0,WU,Ent.of0,Ent.of1,Ent.of2,Ent.of3,Ent.of4,V,W3,↓reduceIte,seval,reduceCtorEq]
 . have h0':¬ p.m.serving=c:=fun e=>h0 e.symm
   have hl1:(0:Int)<=(p.stays.length:Int) - 1:=by omega
   have hl2:(p.stays.length:Int) - 1 < (p.stays.length:Int):=by omega
   have hl3:((p.stays.length:Int) - 1).toNat=p.stays.length - 1:=by omega
   have hl4:p.stays.length - 1 < p.stays.length:=by omega
   have hset:(p.stays.map Dat.cells).set (p.stays.length - 1) [C.s (.int .i64 (p.stays.getD (p.stays.length - 1) ⟨0,0,0⟩).x),.s (.int .i64 (p.stays.getD (p.stays.length - 1) ⟨0,0,0⟩).y),.s (.int .i64 t)]++[[C.s (.int .i64 c),.s (.int .i64 t),.s (.int .i64 0)]]=((jL p.stays t)++[(⟨c,t,0⟩:T3)]).map Dat.cells:=by
    simp only[jL,yg,List.map_set] <;> rfl
   have hgd:=rI p.stays _ hl4;delta c184 oO oN oA oM oT oR oQ oS oK oF oL oW oY oI oX oB o3 o4 o6;simp (maxSteps:=9^7) -implicitDefEqProofs only[rv184,phX,phC,ko,chg,h0,h0',hl1,hl2,hl3,hl4,hgd,hset,hJ,gW,fK,InR,aJ,yD,List.take_zero,yw,List.drop_nil,yq,yb,z4,List.length_set,zy,WU,Ent.of0,Ent.of1,Ent.of2,Ent.of3,Ent.of4,V,W3,↓reduceIte,seval,reduceCtorEq];omega
def n6 (n:Nw) (p:Ph) (c t:Int) (h:0 < p.stays.length/\p.stays.length<=1000000):Ent Tryz.prog:=eq 184 n p (ko p c t) [.ptr 100000 0,enc c,enc t] (.tup []) trivial (serve_c n p c t h)
theorem waits_c (n:Nw) (p:Ph) (h1:p.m.buf.length<=1000000) (h2:fj p.m.buf<=1000000000):FC Tryz.prog 165 [.ptr 100000 0] (phX n p) (enc (fj p.m.buf)) (phX n p):=by
 refine dD [100001] is165 (by simp) (dR n p) (dE n p) (dE n p) (dI n p p) (fun cx _ hl _=>dC [] 800 ?_);generalize hT:fj p.m.buf=T at *;delta c165 oM oS oK oF oL oV oX o4 o6;simp (maxSteps:=9^7) -implicitDefEqProofs only[qS,phX,phC,eu,WU,Ent.of0,Ent.of1,Ent.of2,Ent.of3,Ent.of4,V,W3,↓reduceIte,seval,reduceCtorEq];refine eN p.m.buf.length (fun i=>[(3,.s (.int .i64 (T - fj (p.m.buf.drop i)))),(12,.s (.int .i64 (i:Int)))]) (fun _=>[]) (fun i=>0<=T - fj (p.m.buf.drop i)) (by simp[hT]) ?_ (fun i hi hv=>dC [] 800 ?_)
 . simp (maxSteps:=9^7) -implicitDefEqProofs only[Ent.of0,Ent.of1,Ent.of2,Ent.of3,Ent.of4,V,W3,↓reduceIte,seval,reduceCtorEq]
   all_goals simp[hT]
 . by_cases h:i < p.m.buf.length
   . have hi2:(i:Int) < (p.m.buf.length:Int):=by omega
     have hi0:(0:Int)<=i:=by omega
     have hd:=eg (d:=[]) h;have hnn:=s6 (p.m.buf.drop (i+1));rw[hd,fj]at hv;have hg:=fI p.m.buf i;generalize p.m.buf.getD i []=q at *;delta rp oO oN oA oM oR oS oK oL oX oB o0 o4;simp (maxSteps:=9^7) -implicitDefEqProofs only[qS,hi0,hi2,h,hg,hd,fj,eu,zy,InR,WU,Ent.of0,Ent.of1,Ent.of2,Ent.of3,Ent.of4,V,W3,↓reduceIte,seval,reduceCtorEq];omega
   . have hi2:¬ (i:Int) < (p.m.buf.length:Int):=by omega
     have hd:p.m.buf.drop i=[]:=zv (by omega);delta rp oO oN oA oM oR oS oK oL oX oB o0 o4;simp (maxSteps:=9^7) -implicitDefEqProofs only[qS,hi2,hd,fj,WU,Ent.of0,Ent.of1,Ent.of2,Ent.of3,Ent.of4,V,W3,↓reduceIte,seval,reduceCtorEq]
     try omega
def lU (n:Nw) (p:Ph) (h1:p.m.buf.length<=1000000) (h2:fj p.m.buf<=1000000000):Ent Tryz.prog:=eq 165 n p p [.ptr 100000 0] (enc (fj p.m.buf)) trivial (waits_c n p h1 h2)
theorem done_c (n:Nw) (p:Ph) (h:p.m.source≠-1->0<=p.m.source/\p.m.source.toNat < p.m.buf.length):FC Tryz.prog 149 [.ptr 100000 0] (phX n p) (enc (fU p.m)) (phX n p):=by
 refine dD [100001] is149 (by simp) (dR n p) (dE n p) (dE n p) (dI n p p) (fun cx _ hl _=>dC [] 1200 ?_);cases h1:decide (p.m.source≠-1) <;> cases h2:decide (p.m.path=p.m.serving)
 all_goals
  have h1':=h1;have h2':=h2;simp only[decide_eq_true_eq,decide_eq_false_iff_not,ne_eq,Decidable.not_not]at h1' h2'
 . delta c149 oO oN oT oG oQ oS oK oX oD oE oJ o0 o9;simp (maxSteps:=9^7) -implicitDefEqProofs only[pm,phX,phC,fU,h1,h2,h1',h2',zZ,yd,zY,z7,WU,Ent.of0,Ent.of1,Ent.of2,Ent.of3,Ent.of4,V,W3,↓reduceIte,seval,reduceCtorEq]
 . delta c149 oO oN oT oG oQ oS oK oX oD oE oJ o0 o9;simp (maxSteps:=9^7) -implicitDefEqProofs only[pm,phX,phC,fU,h1,h2,h1',h2',zZ,yd,zY,z7,WU,Ent.of0,Ent.of1,Ent.of2,Ent.of3,Ent.of4,V,W3,↓reduceIte,seval,reduceCtorEq]
   all_goals simp
 . delta c149 oO oN oT oG oQ oS oK oX oD oE oJ o0 o9;simp (maxSteps:=9^7) -implicitDefEqProofs only[pm,phX,phC,fU,h1,h2,h1',h2',zZ,yd,zY,z7,WU,Ent.of0,Ent.of1,Ent.of2,Ent.of3,Ent.of4,V,W3,↓reduceIte,seval,reduceCtorEq]
 . obtain⟨g1,g2⟩:=h h1';have g3:p.m.source < (p.m.buf.length:Int):=by omega
   delta c149 oO oN oT oG oQ oS oK oX oD oE oJ o0 o9;simp (maxSteps:=9^7) -implicitDefEqProofs only[pm,phX,phC,fU,h1,h2,h1',h2',g1,g2,g3,eu,fI,dQ,zZ,yd,zY,z7,InR,WU,Ent.of0,Ent.of1,Ent.of2,Ent.of3,Ent.of4,V,W3,↓reduceIte,seval,reduceCtorEq];generalize p.m.buf.getD p.m.source.toNat []=q;cases q with
   | nil=>rfl
   | cons a l=>simp;omega
def uF (n:Nw) (p:Ph) (h:p.m.source≠-1->0<=p.m.source/\p.m.source.toNat < p.m.buf.length):Ent Tryz.prog:=eq 149 n p p [.ptr 100000 0] (enc (fU p.m)) trivial (done_c n p h)
theorem vA (n:Nw) (p:Ph) (h:p.m.source≠-1->0<=p.m.source/\p.m.source.toNat < p.m.buf.length):FC Tryz.prog 262 [.ptr 100000 0] (phX n p) (.tup []) (phX n { p with m:=settle p.m }):=by
 refine dD [100001] is262 (by simp) (dR n p) (dE n p) (dE n _) (dI n p _) (fun cx _ hl _=>dC [uF n p h] 1200 ?_);cases h1:fU p.m
 all_goals
  delta c262 oO oN oM oR oF oC oY oI oX o6;simp (maxSteps:=9^7) -implicitDefEqProofs only[rv262,phX,phC,uF,eq,settle,h1,WU,Ent.of0,Ent.of1,Ent.of2,Ent.of3,Ent.of4,V,W3,↓reduceIte,seval,reduceCtorEq]
def uL (n:Nw) (p:Ph) (h:p.m.source≠-1->0<=p.m.source/\p.m.source.toNat < p.m.buf.length):Ent Tryz.prog:=eq 262 n p { p with m:=settle p.m } [.ptr 100000 0] (.tup []) trivial (vA n p h)
theorem near_c (n:Nw) (p:Ph) (c:Int):FC Tryz.prog 148 [.ptr 100000 0,enc c] (phX n p) (enc (nbr n c p.m.serving)) (phX n p):=by
 refine dD [100001] is148 (by simp) (dR n p) (dE n p) (dE n p) (dI n p p) (fun cx _ hl _=>dC [lS] 1200 ?_);have h1:(if p.m.serving > c then p.m.serving else c)=max c p.m.serving:=by omega
 have h2:(if p.m.serving < c then p.m.serving else c)=min c p.m.serving:=by omega
 delta c148 oO oA oM oT oQ oS oK oF oL oX o2 o6 o9;simp (maxSteps:=9^7) -implicitDefEqProofs only[rv148,phX,phC,lS,nbr,h1,h2,WU,Ent.of0,Ent.of1,Ent.of2,Ent.of3,Ent.of4,V,W3,↓reduceIte,seval,reduceCtorEq]
 congr 1
 funext x
 exact decide_eq_decide.2 eq_comm
def nZ (n:Nw) (p:Ph) (c:Int):Ent Tryz.prog:=eq 148 n p p [.ptr 100000 0,enc c] (enc (nbr n c p.m.serving)) trivial (near_c n p c)
end Go.Proofs.YtcbabnbiinkafaaGreatDoor
end
section
open Go Go.Am Go.RowKit Go.Lib Go.Proofs
open Go.Am.Dat (cells)
namespace Go.Proofs.YtcbabnbiinkafaaGreatDoor
set_option maxHeartbeats 4000000
set_option maxRecDepth 100000
theorem vG {g:Nat} (hg:qD g) (xs:List Int) (h:xs.length<=1000000) {E:Env} {U:Nat->Prop} {w:World} {ch:Chs} {k kc kp:Nat} {cs:List C} {got:Int} {d:Nat} (hi:Inv E U w.heap ch) (hk0:lk ch k=some (.row 1 3 (xs.map Dat.cells))) (h1:lk ch kc=some (.box [.ptr kp 0])) (h2:lk ch kp=some (.box cs)) (h3:cs[8]? = some (.s (.int .i64 got))) :
 Calls Tryz.prog 182 #[slV (E k).toKE0,.func (.func g) #[] #[.pointer (some ⟨(E kc).blk,0,none⟩)]] w fun e w'=>∃ v E' U',e=.returned v/\Rep E' U' w'.heap (.own k) v/\Ev E U w ch [(k,.c .any)] d E' U' w' (am (ae [(k,.c .any)] ch) k (.row 1 3 ((frm xs got).map Dat.cells))):=by
 have m0:=dH hk0;have m1:=dH h1;have m2:=dH h2;obtain⟨hrow,hfp⟩:=hi.ok k _ m0;obtain⟨⟨n1,arr1,ty1,b1,b2,b3⟩,f1,_⟩:=hi.ok kc _ m1;obtain⟨⟨n2,arr2,ty2,d1,d2,d3⟩,f2,_⟩:=hi.ok kp _ m2;have v1:arr1[0]? = some (.pointer (some ⟨(E kp).blk,0,none⟩)):=by
  have:=b3 0 _ rfl;rcases this with⟨q,_⟩ | ⟨⟨_,_,_,q⟩,_⟩
  . have hq:=fH q;have hlt:0 < arr1.size:=by rw[b2];simp
    rw[zc,zj hlt]at hq;rw[zj hlt];simpa using hq
  . cases q
 have v2:arr2[8]? = some (.int .i64 got):=by
  have:=d3 8 _ h3;rcases this with⟨q,_⟩ | ⟨⟨_,_,_,q⟩,_⟩
  . have hq:=dK q;have hlt:8 < arr2.size:=by rw[d2];exact (zi.1 h3).1
    rw[zc,zj hlt]at hq;rw[zj hlt];simpa using hq
  . cases q
 have o1:(E kc).fp (E kc).blk:=(f1.fp _).2 (.inl ⟨n1,rfl⟩);have o2:(E kp).fp (E kp).blk:=(f2.fp _).2 (.inl ⟨n2,rfl⟩);have hkc:kc≠k:=fun e=>by rw[e,hk0]at h1;cases h1
 have hkp:kp≠k:=fun e=>by rw[e,hk0]at h2;cases h2
 have hl:=hrow.1;simp only[zy]at hl;cases hn:(E k).nil with
 | true=>
  have hx:xs=[]:=by
   rcases hrow.2.2.2 with⟨_,g⟩ | ⟨g,_⟩
   . simpa using g
   . rw[hn]at g;cases g
  subst hx;have hsv:slV (E k).toKE0=.slice none 0 0:=by simp[slV,hn]
  rw[hsv];refine (del_nil _ w).mono ?_
  rintro e w' ⟨rfl,rfl⟩
  have he:=Ev.rekey (w1:=w') (c1:=.row 1 3 ((frm [] got).map Dat.cells)) (x:=E k) (d:=d) hi hk0 rfl rfl rfl (zw _) (fun b _ _=>rfl) (fun b hb=>.inr hb) (fun cs h=>by cases h) (fun hkeep=>by
   simp only[dN,updE_same]
   exact⟨hrow,hfp⟩)
  refine⟨_,_,U,rfl,?_,he⟩;have:=Rep.own (E:=dO E k (E k)) (U:=U) (h:=w'.heap) k;rw[updE_same,hsv]at this;exact this
 | false=>
  obtain⟨c1,c2,arr,hab,_,_⟩:=iF hrow hn;have o0:(E k).fp (E k).blk:=(hfp.fp _).2 (.inl ⟨hn,rfl⟩);have ne1:(E kc).blk≠(E k).blk:=fun e=>hi.sep kc _ k _ m1 m0 hkc _ o1 (e ▸ o0)
  have ne2:(E kp).blk≠(E k).blk:=fun e=>hi.sep kp _ k _ m2 m0 hkp _ o2 (e ▸ o0)
  have hmx:maxLen<=9223372036854775807:=by decide
  have hsv:∀ n,slV { (E k).toKE0 with len:=n }=.slice (some ⟨(E k).blk,(E k).off,none⟩) n (E k).cap:=fun n=>by simp[slV,hn]
  have hsv0:slV (E k).toKE0=.slice (some ⟨(E k).blk,(E k).off,none⟩) xs.length (E k).cap:=by simp[slV,hn,hl]
  rw[hsv0];have hp:PredAt Tryz.prog g #[.pointer (some ⟨(E kc).blk,0,none⟩)] (Value.int .i64) (fun x=>decide (x < got)) w:=fun W x hb=>by
   show Calls _ _ (#[Value.int .i64 x]++_) _ _
   refine (hg.2 W x got (E kc).blk (E kp).blk ?_ ?_).mono ?_
   . have:=hb.block _ (lt_of_getElem? b1);simp only[World.cell?,this,b1];simpa using v1
   . have:=hb.block _ (lt_of_getElem? d1);simp only[World.cell?,this,d1];simpa using v2
   . rintro e w' ⟨rfl,rfl⟩;exact⟨rfl,0,rfl⟩
  have hpo:PredOver Tryz.prog g #[.pointer (some ⟨(E kc).blk,0,none⟩)] (Value.int .i64) (fun x=>decide (x < got)) (E k).blk (E k).off xs.toArray.size w:=fun n os dk x hdk=>by
   have hold:∀ b,b < w.heap.size->b≠(E k).blk->(sortWorld (Value.int .i64) w (E k).blk (E k).off n dk os).heap[b]? = w.heap[b]?:=fun b hb hbn=>by
    show ((Sort.putRow (Value.int .i64) (Sort.ahead w n) (E k).blk (E k).off dk).heap++os)[b]? = _
    rw[zX (by simpa[Sort.ahead]using hb),fY,if_neg (fun e=>hbn e.symm)];rfl
   show Calls _ _ (#[Value.int .i64 x]++_) _ _
   refine (hg.2 _ x got (E kc).blk (E kp).blk ?_ ?_).mono ?_
   . have:=hold _ (lt_of_getElem? b1) ne1;simp only[World.cell?,this,b1];simpa using v1
   . have:=hold _ (lt_of_getElem? d1) ne2;simp only[World.cell?,this,d1];simpa using v2
   . rintro e w' ⟨rfl,rfl⟩;exact⟨rfl,0,rfl⟩
  have hz:∀ w,(zeroValue 3).run Tryz.prog w=.ok (.int .i64 0) w:=fun w=>by
   have hmap:(Tryz.prog.info? 3).map (fun i=>i.zero)=some (some (.int .i64 0)):=by kernel_rfl
   obtain⟨i0,hi0,hq⟩:=za.1 hmap;exact gD hi0 hq
  refine (AnyE.slices_DeleteFunc Tryz.laysSlH10_f182 (Value.int .i64) oneI (fun x=>decide (x < got)) g _ hg.1 0 hz (E k).blk (E k).off (E k).cap xs.toArray w hp hpo (qn hrow hn) (by simp;omega) (by simpa using c1)).mono ?_
  rintro e w' ⟨rfl,q,rfl⟩
  have hF:(xs.toArray.toList.filter fun x=>!(decide (x < got)))=frm xs got:=tG xs got;rw[hF];have hfl:(frm xs got).length<=xs.length:=List.length_filter_le _ _;have hblk:(E k).blk < w.heap.size:=lt_of_getElem? hab
  have he:=Ev.rekey (w1:=Sort.putRow (Value.int .i64) (Sort.ahead w q) (E k).blk (E k).off ((frm xs got)++List.replicate (xs.toArray.size - (frm xs got).length) 0).toArray) (c1:=.row 1 3 ((frm xs got).map Dat.cells)) (x:={ E k with len:=(frm xs got).length }) (d:=d) hi hk0 rfl rfl rfl (by simp[Sort.ahead]) (fun b hb hnb=>by
   have hne:¬ (E k).blk=b:=fun e=>hnb (e ▸ o0)
   rw[fY,if_neg hne];rfl) (fun b hb=>.inr hb) (fun cs h=>by cases h) (fun hkeep=>by
   simp only[dN,updE_same];refine⟨?_,⟨hfp.fp,hfp.ne,hfp.sep⟩⟩
   exact s8 hrow hn hab (by
    rw[fY,if_pos rfl];show (w.heap[(E k).blk]?).map _=_
    rw[hab];rfl) (frm xs got) (by simp) (by simp;omega) (fun j x hj=>by
    have hjl:=(zi.1 hj).1
    rw[List.getElem?_toArray,yj hjl];exact hj))
  refine⟨_,_,U,rfl,?_,he⟩;have:=Rep.own (E:=dO E k { E k with len:=(frm xs got).length }) (U:=U) (h:=(Sort.putRow (Value.int .i64) (Sort.ahead w q) (E k).blk (E k).off ((frm xs got)++List.replicate (xs.toArray.size - (frm xs got).length) 0).toArray).heap) k;rw[updE_same]at this;show Rep _ _ _ _ (.slice (some ⟨(E k).blk,(E k).off,none⟩) (frm xs got).length (E k).cap)
  rw[<- hsv];exact this
theorem OpM.delF {ro:Option Nat} {ρ:Operand->C} {ch:Chs} {d:Nat} {g k kc kp:Nat} {x y:Operand} (hg:qD g) (xs:List Int) (h:xs.length<=1000000) {cs:List C} {got:Int} (hx:ρ x=.own k) (hy:ρ y=.fn (.func g) [] [.ptr kc 0]) (hfo:ρ (.func 182)=.fn (.func 182) [] []) (hk0:lk ch k=some (.row 1 3 (xs.map Dat.cells))) (h1:lk ch kc=some (.box [.ptr kp 0])) (h2:lk ch kp=some (.box cs)) (h3:cs[8]? = some (.s (.int .i64 got))) :
 OpM Tryz.prog ro ρ ch d (.call (.func 182) [x,y]) (fun ef=>ef=⟨True,.own k,am (ae [(k,.c .any)] ch) k (.row 1 3 ((frm xs got).map Dat.cells)),[(k,.c .any)]⟩):=
 OpM.calls ⟨_,Tryz.func182,by kernel_rfl,by kernel_rfl⟩ hfo (fun E U w vs hi hgl ha=>by
  obtain⟨hs,hr⟩:=ha;have a0:vs.getD 0 undef=slV (E k).toKE0:=eV (hr 0 (.own k) (by simp[hx]));have a1:vs.getD 1 undef=.func (.func g) #[] #[.pointer (some ⟨(E kc).blk,0,none⟩)]:=by
   have:=hr 1 (.fn (.func g) [] [.ptr kc 0]) (by simp[hy]);generalize vs.getD 1 undef=v at this;cases this with
   | d hd=>cases hd
   | fn _ _ _ vs ws hl1 hr1 hl2 hr2=>
    have e1:vs=#[]:=yL.1 (by simpa using hl1);have e2:=args1 (aS:=ws) (by simpa using hl2) (fH (hr2 0 _ rfl));rw[e1,e2]
  rw[args2 (by simpa using hs) a0 a1]
  exact vG hg xs h hi hk0 h1 h2 h3)
end Go.Proofs.YtcbabnbiinkafaaGreatDoor
end
section
open Go Go.Am
open Go.Am.Dat (cells)
namespace Go.Proofs.YtcbabnbiinkafaaGreatDoor
set_option maxHeartbeats 4000000
set_option maxRecDepth 100000
theorem srt_mrg (b:List (List Int)):fQ b.flatten=mrg b:=by
 have h1:(fQ b.flatten).Perm (mrg b):=(List.mergeSort_perm _ _).trans (lx b).symm;have h2:(fQ b.flatten).Pairwise (·<=·):=by
  have:=List.pairwise_mergeSort (le:=fun x y:Int=>decide (x<=y)) (fun a b c h1 h2=>by simp at *;omega) (fun a b=>by simp;omega) b.flatten;exact this.imp (fun h=>by simpa using h)
 exact h1.eq_of_pairwise (fun a b _ _ h1 h2=>by omega) h2 (ox b)
def uH (l:List Int) (h:l.length<=1000000):Ent Tryz.prog:=.mk3 179 (fun args chs=>some (args=[vaF l]/\chs=[],.own 4,[(4,.row 1 3 ((fQ l).map Dat.cells))],[4])) (by
 intro args chs p r chs' nk hs hp;simp only[zn,zf]at hs;obtain⟨rfl,rfl,rfl,rfl⟩:=hs;obtain⟨rfl,rfl⟩:=hp
 exact⟨vQ l h,wfr1 (fun cs h=>by cases h)⟩)
theorem um (n:Nw) (p:Ph) (c t:Int) (hn:NwS n) (hc:0<=c/\c.toNat < n.cells.length) (hlen:p.m.buf.length=n.cells.length) (h1:p.m.buf.length<=1000) (h2:p.m.buf.flatten.length<=1000000) (hs:0 < p.stays.length/\p.stays.length<=1000000) (ho:p.out≠-1->InR .i64 (t - p.out)) :
 FC Tryz.prog 166 [.ptr 100000 0,enc c,enc t] (phX n p) (.tup []) (phX n (lg p c t)):=by
 refine dD [100001] D3.is166 (by simp) (dR n p) (dE n p) (dE n _) (dI n p _) (fun cx _ hl _=>dC [uJ,uI,uH p.m.buf.flatten h2] 1200 ?_);have hbm:(fP p.m.buf).map (fun es=>[C.sl 1 es])=p.m.buf.map Dat.cells:=by
  simp only[fP,zT] <;> rfl
 delta D3.c166 oO oN oA oM oT oS oK oF oL oC oW oY oX o0 o4 o6 o7;simp (maxSteps:=9^7) -implicitDefEqProofs only[D3.rv166,phX,phC,uJ,uI,uH,hbm,h1,h2,vaF,WU,Ent.of0,Ent.of1,Ent.of2,Ent.of3,Ent.of4,V,W3,↓reduceIte,seval,reduceCtorEq];refine py rfl (OpM.delF vX (fQ p.m.buf.flatten) (by rw[fQ,List.length_mergeSort];exact h2) rfl rfl rfl rfl rfl rfl rfl) (fun ef he=>?_);subst he;rw[srt_mrg];refine nz [] 800 ?_;simp (maxSteps:=9^7) -implicitDefEqProofs only[D3.rv166,WU,Ent.of0,Ent.of1,Ent.of2,Ent.of3,Ent.of4,V,W3,↓reduceIte,seval,reduceCtorEq];refine nC [] 400 ?_;simp (maxSteps:=9^7) -implicitDefEqProofs only[drS,lC,robC,reC,fixS,eQ,AOp.reads,true_or,or_true,false_or,InR,WU,Ent.of0,Ent.of1,Ent.of2,Ent.of3,Ent.of4,V,W3,↓reduceIte,seval,reduceCtorEq];have hcl:=hn.c;refine⟨by omega,?_⟩;refine fE (dX.deepen (kk:=25) (isz:=1) (ity:=3) (ty:=24) (es:=List.replicate n.cells.length [C.s (.slice none 0 0)]) rfl (fun e he=>List.eq_of_mem_replicate he)) ?_;have hdl:(List.replicate n.cells.length ([]:List (List C))).length=n.cells.length:=List.length_replicate;have hd:(List.replicate n.cells.length ([]:List (List C))).set c.toNat ((frm (mrg p.m.buf) p.m.got).map Dat.cells)=fP ((p.m.buf.map fun _=>([]:List Int)).set c.toNat (frm (mrg p.m.buf) p.m.got)):=by
  rw[<- jS]
  congr 1
  simp only[fP,zT];rw[<- hlen];clear hdl
  induction p.m.buf with
  | nil=>rfl
  | cons b bs ih=>
   rw[zQ,List.replicate_succ,ih];rfl
 have hc1:c < (n.cells.length:Int):=by omega
 obtain⟨hc0,hc2⟩:=hc;generalize hB:(p.m.buf.map fun _=>([]:List Int)).set c.toNat (frm (mrg p.m.buf) p.m.got)=B at *;have hs1:0 < ({ p with m:={ p.m with buf:=B } }:Ph).stays.length/\({ p with m:={ p.m with buf:=B } }:Ph).stays.length<=1000000:=hs;refine dC [n6 n { p with m:={ p.m with buf:=B } } c t hs1,kO n (ko { p with m:={ p.m with buf:=B } } c t) t ho] 1500 ?_;simp (maxSteps:=9^7) -implicitDefEqProofs only[cC,n6,kO,eq,phX,phC,List.map_replicate,hdl,hd,hc0,hc1,hc2,ko,kX,InR,WU,Ent.of0,Ent.of1,Ent.of2,Ent.of3,Ent.of4,V,W3,↓reduceIte,seval,reduceCtorEq];refine⟨.inl trivial,?_⟩;refine kI [] 800 ?_;simp (maxSteps:=9^7) -implicitDefEqProofs only[drM,mFin,kx,lz,ib,reM,iu,gV,gK,ndE,an,ag,av,aU,aF,WU,Ent.of0,Ent.of1,Ent.of2,Ent.of3,Ent.of4,V,W3,↓reduceIte,seval,reduceCtorEq];refine fE (dX.ren [(25,100001)] rfl (by simp[an,ag,av,rn,lk]) (by simp[jn,rn,lk])) ?_;refine dC [] 100 ?_;simp (maxSteps:=9^7) -implicitDefEqProofs only[renS,bu,D3.rv166,lg,iP,hB,WU,Ent.of0,Ent.of1,Ent.of2,Ent.of3,Ent.of4,V,W3,↓reduceIte,seval,reduceCtorEq]
structure ConOk (n:Nw) (p:Ph) (c t:Int):Prop where
 hn:NwS n
 hc:0<=c/\c.toNat < n.cells.length
 hlen:p.m.buf.length=n.cells.length
 h1:p.m.buf.length<=1000
 h2:p.m.buf.flatten.length<=1000000
 hs:0 < p.stays.length/\p.stays.length<=1000000
 ho:p.out≠-1->InR .i64 (t - p.out)
def n5 (n:Nw) (p:Ph) (c t:Int) (h:ConOk n p c t):Ent Tryz.prog:=eq 166 n p (lg p c t) [.ptr 100000 0,enc c,enc t] (.tup []) trivial (um n p c t h.hn h.hc h.hlen h.h1 h.h2 h.hs h.ho)
theorem pass_c (n:Nw) (p:Ph) (t:Int) (hd:InR .i64 (p.m.since+n.limit)) (h:jJ n p.m t=true->ConOk n p 0 (p.m.since+n.limit)):FC Tryz.prog 151 [.ptr 100000 0,enc t] (phX n p) (.tup []) (phX n (eP n p t)):=by
 have hP:jJ n p.m t=(ej p.m && decide (p.m.since+n.limit<=t)):=rfl;cases hb:jJ n p.m t
 . have hq:eP n p t=p:=by rw[eP,if_neg (by simp[hb])]
   rw[hq];refine dD [100001] is151 (by simp) (dR n p) (dE n p) (dE n _) (dI n p _) (fun cx _ hl _=>dC [fa n p,nW n p hd] 1200 ?_);rw[hb]at hP;cases h1:ej p.m <;> cases h2:decide (p.m.since+n.limit<=t)
   all_goals
    first
     | (rw[h1,h2]at hP;cases hP;done)
     | (have h2':=h2
        simp only[decide_eq_true_eq,decide_eq_false_iff_not]at h2';delta c151 oO oN oM oG oR oC oI oX oP oD
        simp (maxSteps:=9^7) -implicitDefEqProofs only[rv151,phX,phC,fa,nW,eq,h1,h2,h2',WU,Ent.of0,Ent.of1,Ent.of2,Ent.of3,Ent.of4,V,W3,↓reduceIte,seval,reduceCtorEq])
 . have hq:eP n p t=lg p 0 (p.m.since+n.limit):=by rw[eP,if_pos hb]
   rw[hq];have hc:=h hb;rw[hb]at hP;refine dD [100001] is151 (by simp) (dR n p) (dE n p) (dE n _) (dI n p _) (fun cx _ hl _=>dC [fa n p,nW n p hd,n5 n p 0 (p.m.since+n.limit) hc] 1200 ?_);cases h1:ej p.m <;> cases h2:decide (p.m.since+n.limit<=t)
   all_goals
    first
     | (rw[h1,h2]at hP;cases hP;done)
     | (have h2':=h2
        simp only[decide_eq_true_eq,decide_eq_false_iff_not]at h2';delta c151 oO oN oM oG oR oC oI oX oP oD
        simp (maxSteps:=9^7) -implicitDefEqProofs only[rv151,phX,phC,fa,nW,n5,eq,h1,h2,h2',WU,Ent.of0,Ent.of1,Ent.of2,Ent.of3,Ent.of4,V,W3,↓reduceIte,seval,reduceCtorEq])
theorem vp (n:Nw) (p:Ph) (e:T3):FC Tryz.prog 279 [.ptr 100000 0,enc e] (phX n p) (enc (0:Int)) (phX n p):=by
 refine dD [100001] is279 (by simp) (dR n p) (dE n p) (dE n _) (dI n p _) (fun cx _ hl _=>dC [] 1500 ?_);delta c279 oV oX o7;simp (maxSteps:=9^7) -implicitDefEqProofs only[rv279,phX,phC,dY,WU,Ent.of0,Ent.of1,Ent.of2,Ent.of3,Ent.of4,V,W3,↓reduceIte,seval,reduceCtorEq]
theorem vU (n:Nw) (p:Ph) (e:T3) (h:¬ p.m.phase=1):FC Tryz.prog 272 [.ptr 100000 0,enc e] (phX n p) (enc (22:Int)) (phX n (p)):=by
 refine dD [100001] D3.is272 (by simp) (dR n p) (dE n p) (dE n _) (dI n p _) (fun cx _ hl _=>dC [] 1500 ?_);delta D3.c272 oO oN oM oT oS oK oF oL oV oY oI oX oB o6 o7;simp (maxSteps:=9^7) -implicitDefEqProofs only[D3.rv272,phX,phC,dY,h,WU,Ent.of0,Ent.of1,Ent.of2,Ent.of3,Ent.of4,V,W3,↓reduceIte,seval,reduceCtorEq]
theorem ui (n:Nw) (p:Ph) (e:T3) (h:p.m.phase=1):FC Tryz.prog 272 [.ptr 100000 0,enc e] (phX n p) (enc (0:Int)) (phX n ({ p with m:={ p.m with phase:=0,since:=e.y,target:=-1 } })):=by
 refine dD [100001] D3.is272 (by simp) (dR n p) (dE n p) (dE n _) (dI n p _) (fun cx _ hl _=>dC [] 1500 ?_);delta D3.c272 oO oN oM oT oS oK oF oL oV oY oI oX oB o6 o7;simp (maxSteps:=9^7) -implicitDefEqProofs only[D3.rv272,phX,phC,dY,h,WU,Ent.of0,Ent.of1,Ent.of2,Ent.of3,Ent.of4,V,W3,↓reduceIte,seval,reduceCtorEq];refine kI [] 800 ?_;simp (maxSteps:=9^7) -implicitDefEqProofs only[drM,mFin,kx,lz,ib,reM,iu,gV,gK,ndE,an,ag,av,aU,aF,WU,Ent.of0,Ent.of1,Ent.of2,Ent.of3,Ent.of4,V,W3,↓reduceIte,seval,reduceCtorEq];refine dC [] 400 ?_;simp (maxSteps:=9^7) -implicitDefEqProofs only[D3.rv272,phX,phC,WU,Ent.of0,Ent.of1,Ent.of2,Ent.of3,Ent.of4,V,W3,↓reduceIte,seval,reduceCtorEq]
theorem ul (n:Nw) (p:Ph) (e:T3) (h:¬ p.m.phase=1):FC Tryz.prog 273 [.ptr 100000 0,enc e] (phX n p) (enc (22:Int)) (phX n (p)):=by
 refine dD [100001] D3.is273 (by simp) (dR n p) (dE n p) (dE n _) (dI n p _) (fun cx _ hl _=>dC [] 1500 ?_);delta D3.c273 oO oN oM oT oS oK oF oL oV oC oY oI oX oB o6 o7;simp (maxSteps:=9^7) -implicitDefEqProofs only[D3.rv273,phX,phC,dY,h,WU,Ent.of0,Ent.of1,Ent.of2,Ent.of3,Ent.of4,V,W3,↓reduceIte,seval,reduceCtorEq]
theorem tv (n:Nw) (p:Ph) (e:T3) (h:p.m.phase=1):FC Tryz.prog 273 [.ptr 100000 0,enc e] (phX n p) (enc (0:Int)) (phX n (iS { p with m:={ p.m with phase:=2,since:=e.y } } e.y)):=by
 refine dD [100001] D3.is273 (by simp) (dR n p) (dE n p) (dE n _) (dI n p _) (fun cx _ hl _=>dC [] 1500 ?_);delta D3.c273 oO oN oM oT oS oK oF oL oV oC oY oI oX oB o6 o7;simp (maxSteps:=9^7) -implicitDefEqProofs only[D3.rv273,phX,phC,dY,h,WU,Ent.of0,Ent.of1,Ent.of2,Ent.of3,Ent.of4,V,W3,↓reduceIte,seval,reduceCtorEq];refine kI [] 800 ?_;simp (maxSteps:=9^7) -implicitDefEqProofs only[drM,mFin,kx,lz,ib,reM,iu,gV,gK,ndE,an,ag,av,aU,aF,WU,Ent.of0,Ent.of1,Ent.of2,Ent.of3,Ent.of4,V,W3,↓reduceIte,seval,reduceCtorEq];refine dC [lV n { p with m:={ p.m with phase:=2,since:=e.y } } e.y] 600 ?_;simp (maxSteps:=9^7) -implicitDefEqProofs only[D3.rv273,phX,phC,lV,eq,iS,WU,Ent.of0,Ent.of1,Ent.of2,Ent.of3,Ent.of4,V,W3,↓reduceIte,seval,reduceCtorEq]
theorem nS (n:Nw) (p:Ph) (e:T3) (h:¬ p.m.phase=2):FC Tryz.prog 274 [.ptr 100000 0,enc e] (phX n p) (enc (22:Int)) (phX n (p)):=by
 refine dD [100001] D3.is274 (by simp) (dR n p) (dE n p) (dE n _) (dI n p _) (fun cx _ hl _=>dC [] 1500 ?_);delta D3.c274 oO oN oM oT oQ oS oK oF oL oV oC oW oY oI oX oB o6 o7;simp (maxSteps:=9^7) -implicitDefEqProofs only[D3.rv274,phX,phC,dY,h,WU,Ent.of0,Ent.of1,Ent.of2,Ent.of3,Ent.of4,V,W3,↓reduceIte,seval,reduceCtorEq]
theorem ss (n:Nw) (p:Ph) (e:T3) (h:p.m.phase=2) (hs:0 < p.stays.length/\p.stays.length<=1000000) (ho:p.out≠-1->InR .i64 (e.y - p.out)):FC Tryz.prog 274 [.ptr 100000 0,enc e] (phX n p) (enc (0:Int)) (phX n ({ m:={ p.m with phase:=0,since:=e.y,source:=p.m.serving,serving:=p.m.target,target:=-1 },recv:=p.recv,stays:=chg p.stays p.m.serving p.m.target e.y,out:=-1,longest:=kW p.out p.longest e.y })):=by
 refine dD [100001] D3.is274 (by simp) (dR n p) (dE n p) (dE n _) (dI n p _) (fun cx _ hl _=>dC [n6 n { p with m:={ p.m with source:=p.m.serving } } p.m.target e.y hs,kO n (ko { p with m:={ p.m with source:=p.m.serving } } p.m.target e.y) e.y ho] 1500 ?_);delta D3.c274 oO oN oM oT oQ oS oK oF oL oV oC oW oY oI oX oB o6 o7;simp (maxSteps:=9^7) -implicitDefEqProofs only[D3.rv274,phX,phC,dY,h,n6,kO,eq,ko,kX,WU,Ent.of0,Ent.of1,Ent.of2,Ent.of3,Ent.of4,V,W3,↓reduceIte,seval,reduceCtorEq];refine kI [] 800 ?_;simp (maxSteps:=9^7) -implicitDefEqProofs only[drM,mFin,kx,lz,ib,reM,iu,gV,gK,ndE,an,ag,av,aU,aF,WU,Ent.of0,Ent.of1,Ent.of2,Ent.of3,Ent.of4,V,W3,↓reduceIte,seval,reduceCtorEq];refine dC [] 400 ?_;simp (maxSteps:=9^7) -implicitDefEqProofs only[D3.rv274,phX,phC,WU,Ent.of0,Ent.of1,Ent.of2,Ent.of3,Ent.of4,V,W3,↓reduceIte,seval,reduceCtorEq]
theorem fail_e (n:Nw) (p:Ph) (e:T3) (h:p.m.phase=3):FC Tryz.prog 277 [.ptr 100000 0,enc e] (phX n p) (enc (22:Int)) (phX n (p)):=by
 refine dD [100001] is277 (by simp) (dR n p) (dE n p) (dE n _) (dI n p _) (fun cx _ hl _=>dC [] 1500 ?_);delta c277 oO oN oM oR oS oK oF oL oV oC oW oY oX oB o6 o7;simp (maxSteps:=9^7) -implicitDefEqProofs only[qU,phX,phC,dY,h,WU,Ent.of0,Ent.of1,Ent.of2,Ent.of3,Ent.of4,V,W3,↓reduceIte,seval,reduceCtorEq]
theorem fail_ok (n:Nw) (p:Ph) (e:T3) (h:¬ p.m.phase=3):FC Tryz.prog 277 [.ptr 100000 0,enc e] (phX n p) (enc (0:Int)) (phX n (iS { p with m:={ p.m with since:=if p.m.phase=2 then p.m.since else e.y,phase:=3 } } e.y)):=by
 refine dD [100001] is277 (by simp) (dR n p) (dE n p) (dE n _) (dI n p _) (fun cx _ hl _=>dC [lV n { p with m:={ p.m with since:=if p.m.phase=2 then p.m.since else e.y,phase:=3 } } e.y] 1500 ?_);by_cases h2:p.m.phase=2
 . delta c277 oO oN oM oR oS oK oF oL oV oC oW oY oX oB o6 o7;simp (maxSteps:=9^7) -implicitDefEqProofs only[qU,phX,phC,dY,h,h2,lV,eq,iS,WU,Ent.of0,Ent.of1,Ent.of2,Ent.of3,Ent.of4,V,W3,↓reduceIte,seval,reduceCtorEq]
 . delta c277 oO oN oM oR oS oK oF oL oV oC oW oY oX oB o6 o7;simp (maxSteps:=9^7) -implicitDefEqProofs only[qU,phX,phC,dY,h,h2,lV,eq,iS,WU,Ent.of0,Ent.of1,Ent.of2,Ent.of3,Ent.of4,V,W3,↓reduceIte,seval,reduceCtorEq]
theorem turn_e1 (n:Nw) (p:Ph) (e:T3) (h:p.m.source=-1):FC Tryz.prog 276 [.ptr 100000 0,enc e] (phX n p) (enc (12:Int)) (phX n (p)):=by
 refine dD [100001] qL (by simp) (dR n p) (dE n p) (dE n _) (dI n p _) (fun cx _ hl _=>dC [dT,dS] 1500 ?_);rcases Classical.propComplete (p.m.phase=3)with h2 | h2 <;> rcases Classical.propComplete (p.m.path=p.m.serving)with h3 | h3
 all_goals
  delta c276 oO oN oM oT oR oQ oS oK oF oL oV oC oW oI oX oB o1 o6 o7;simp (maxSteps:=9^7) -implicitDefEqProofs only[pn,phX,phC,dY,h,h2,h3,dT,dS,dM,not_true_eq_false,not_false_eq_true,WU,Ent.of0,Ent.of1,Ent.of2,Ent.of3,Ent.of4,V,W3,↓reduceIte,seval,reduceCtorEq]
theorem turn_e2 (n:Nw) (p:Ph) (e:T3) (h:¬ p.m.source=-1) (h2:p.m.phase=3):FC Tryz.prog 276 [.ptr 100000 0,enc e] (phX n p) (enc (22:Int)) (phX n (p)):=by
 refine dD [100001] qL (by simp) (dR n p) (dE n p) (dE n _) (dI n p _) (fun cx _ hl _=>dC [dT,dS] 1500 ?_);rcases Classical.propComplete (p.m.path=p.m.serving)with h3 | h3
 all_goals
  delta c276 oO oN oM oT oR oQ oS oK oF oL oV oC oW oI oX oB o1 o6 o7;simp (maxSteps:=9^7) -implicitDefEqProofs only[pn,phX,phC,dY,h,h2,h3,dT,dS,dM,not_true_eq_false,not_false_eq_true,WU,Ent.of0,Ent.of1,Ent.of2,Ent.of3,Ent.of4,V,W3,↓reduceIte,seval,reduceCtorEq]
theorem turn_e3 (n:Nw) (p:Ph) (e:T3) (h:¬ p.m.source=-1) (h2:¬ p.m.phase=3) (h3:p.m.path=p.m.serving):FC Tryz.prog 276 [.ptr 100000 0,enc e] (phX n p) (enc (26:Int)) (phX n (p)):=by
 refine dD [100001] qL (by simp) (dR n p) (dE n p) (dE n _) (dI n p _) (fun cx _ hl _=>dC [dT,dS] 1500 ?_);delta c276 oO oN oM oT oR oQ oS oK oF oL oV oC oW oI oX oB o1 o6 o7;simp (maxSteps:=9^7) -implicitDefEqProofs only[pn,phX,phC,dY,h,h2,h3,dT,dS,dM,not_true_eq_false,not_false_eq_true,WU,Ent.of0,Ent.of1,Ent.of2,Ent.of3,Ent.of4,V,W3,↓reduceIte,seval,reduceCtorEq]
theorem turn_ok (n:Nw) (p:Ph) (e:T3) (h:¬ p.m.source=-1) (h2:¬ p.m.phase=3) (h3:¬ p.m.path=p.m.serving) (hb:p.m.source≠-1->0<=p.m.source/\p.m.source.toNat < p.m.buf.length):FC Tryz.prog 276 [.ptr 100000 0,enc e] (phX n p) (enc (0:Int)) (phX n ({ p with m:=settle { p.m with path:=p.m.serving } })):=by
 refine dD [100001] qL (by simp) (dR n p) (dE n p) (dE n _) (dI n p _) (fun cx _ hl _=>dC [dT,dS,uL n { p with m:={ p.m with path:=p.m.serving } } hb] 1500 ?_);delta c276 oO oN oM oT oR oQ oS oK oF oL oV oC oW oI oX oB o1 o6 o7;simp (maxSteps:=9^7) -implicitDefEqProofs only[pn,phX,phC,dY,h,h2,h3,dT,dS,dM,uL,eq,not_true_eq_false,not_false_eq_true,WU,Ent.of0,Ent.of1,Ent.of2,Ent.of3,Ent.of4,V,W3,↓reduceIte,seval,reduceCtorEq]
theorem vq (n:Nw) (p:Ph) (e:T3) (hr:dM [if p.m.phase=0 then 0 else 22,if p.m.source=-1 then 0 else 17,if nbr n e.z p.m.serving=true then 0 else 6]≠0):FC Tryz.prog 271 [.ptr 100000 0,enc e] (phX n p) (enc (dM [if p.m.phase=0 then 0 else 22,if p.m.source=-1 then 0 else 17,if nbr n e.z p.m.serving=true then 0 else 6]:Int)) (phX n (p)):=by
 refine dD [100001] D3.is271 (by simp) (dR n p) (dE n p) (dE n _) (dI n p _) (fun cx _ hl _=>dC [dT,dS,nZ n p e.z] 1500 ?_);generalize hR:dM [if p.m.phase=0 then 0 else 22,if p.m.source=-1 then 0 else 17,if nbr n e.z p.m.serving=true then 0 else 6]=R at *;rcases Classical.propComplete (p.m.phase=0)with h1 | h1 <;> rcases Classical.propComplete (p.m.source=-1)with h2 | h2 <;> cases h3:nbr n e.z p.m.serving
 all_goals
  simp[h1,h2,h3,dM]at hR
  first
   | exact absurd hR.symm hr
   | (subst hR
      delta D3.c271 oO oN oM oT oQ oS oK oF oL oV oC oW oY oI oX oB o1 o6 o7
      simp (maxSteps:=9^7) -implicitDefEqProofs only[D3.rv271,phX,phC,dY,h1,h2,h3,dT,dS,nZ,eq,dM,not_true_eq_false,not_false_eq_true,WU,Ent.of0,Ent.of1,Ent.of2,Ent.of3,Ent.of4,V,W3,↓reduceIte,seval,reduceCtorEq])
theorem tQ (n:Nw) (p:Ph) (e:T3) (h1:p.m.phase=0) (h2:p.m.source=-1) (h3:nbr n e.z p.m.serving=true):FC Tryz.prog 271 [.ptr 100000 0,enc e] (phX n p) (enc (0:Int)) (phX n ({ p with m:={ p.m with phase:=1,since:=e.y,target:=e.z } })):=by
 refine dD [100001] D3.is271 (by simp) (dR n p) (dE n p) (dE n _) (dI n p _) (fun cx _ hl _=>dC [dT,dS,nZ n p e.z] 1500 ?_);delta D3.c271 oO oN oM oT oQ oS oK oF oL oV oC oW oY oI oX oB o1 o6 o7;simp (maxSteps:=9^7) -implicitDefEqProofs only[D3.rv271,phX,phC,dY,h1,h2,h3,dT,dS,nZ,eq,dM,not_true_eq_false,not_false_eq_true,WU,Ent.of0,Ent.of1,Ent.of2,Ent.of3,Ent.of4,V,W3,↓reduceIte,seval,reduceCtorEq];refine kI [] 800 ?_;simp (maxSteps:=9^7) -implicitDefEqProofs only[drM,mFin,kx,lz,ib,reM,iu,gV,gK,ndE,an,ag,av,aU,aF,WU,Ent.of0,Ent.of1,Ent.of2,Ent.of3,Ent.of4,V,W3,↓reduceIte,seval,reduceCtorEq];refine dC [] 400 ?_;simp (maxSteps:=9^7) -implicitDefEqProofs only[D3.rv271,phX,phC,WU,Ent.of0,Ent.of1,Ent.of2,Ent.of3,Ent.of4,V,W3,↓reduceIte,seval,reduceCtorEq]
theorem send_e1 (n:Nw) (p:Ph) (e:T3) (h:ej p.m=true):FC Tryz.prog 269 [.ptr 100000 0,enc e] (phX n p) (enc (22:Int)) (phX n (p)):=by
 refine dD [100001] ol (by simp) (dR n p) (dE n p) (dE n _) (dI n p _) (fun cx _ hl _=>dC [fa n p] 1500 ?_);delta c269 oO oN oA oM oT oR oQ oS oK oF oL oV oC oW oY oI oX oB o0 o1 o4 o6 o7;simp (maxSteps:=9^7) -implicitDefEqProofs only[mI,phX,phC,dY,h,fa,eq,WU,Ent.of0,Ent.of1,Ent.of2,Ent.of3,Ent.of4,V,W3,↓reduceIte,seval,reduceCtorEq]
theorem send_e2 (n:Nw) (p:Ph) (e:T3) (h:ej p.m=false) (hi:0<=p.m.serving/\p.m.serving.toNat < p.m.buf.length) (hb:dQ p.m p.m.serving=[]):FC Tryz.prog 269 [.ptr 100000 0,enc e] (phX n p) (enc (12:Int)) (phX n (p)):=by
 have hi3:p.m.serving < (p.m.buf.length:Int):=by omega
 obtain⟨hi0,hi2⟩:=hi;have hbg:=fI p.m.buf p.m.serving.toNat;refine dD [100001] ol (by simp) (dR n p) (dE n p) (dE n _) (dI n p _) (fun cx _ hl _=>dC [fa n p] 1500 ?_);rw[show p.m.buf.getD p.m.serving.toNat []=[]from hb]at hbg;delta c269 oO oN oA oM oT oR oQ oS oK oF oL oV oC oW oY oI oX oB o0 o1 o4 o6 o7;simp (maxSteps:=9^7) -implicitDefEqProofs only[mI,phX,phC,dY,h,fa,eq,hi0,hi2,hi3,eu,hbg,zR,InR,WU,Ent.of0,Ent.of1,Ent.of2,Ent.of3,Ent.of4,V,W3,↓reduceIte,seval,reduceCtorEq]
theorem send_e3 (n:Nw) (p:Ph) (e:T3) (h:ej p.m=false) (hi:0<=p.m.serving/\p.m.serving.toNat < p.m.buf.length) (x:Int) (l:List Int) (hb:dQ p.m p.m.serving=x :: l) (hx:p.m.got < x):FC Tryz.prog 269 [.ptr 100000 0,enc e] (phX n p) (enc (14:Int)) (phX n (p)):=by
 have hi3:p.m.serving < (p.m.buf.length:Int):=by omega
 obtain⟨hi0,hi2⟩:=hi;have hbg:=fI p.m.buf p.m.serving.toNat;refine dD [100001] ol (by simp) (dR n p) (dE n p) (dE n _) (dI n p _) (fun cx _ hl _=>dC [fa n p] 1500 ?_);rw[show p.m.buf.getD p.m.serving.toNat []=x :: l from hb]at hbg;have hl0:¬ ((l.length:Int)+1=0):=by omega
 delta c269 oO oN oA oM oT oR oQ oS oK oF oL oV oC oW oY oI oX oB o0 o1 o4 o6 o7;simp (maxSteps:=9^7) -implicitDefEqProofs only[mI,phX,phC,dY,h,fa,eq,hi0,hi2,hi3,hx,hl0,eu,hbg,zt,zQ,Int.natCast_succ,yM,InR,WU,Ent.of0,Ent.of1,Ent.of2,Ent.of3,Ent.of4,V,W3,↓reduceIte,seval,reduceCtorEq]
 try omega
theorem wX (n:Nw) (p:Ph) (e:T3) (h:ej p.m=false) (hi:0<=p.m.serving/\p.m.serving.toNat < p.m.buf.length) (x:Int) (l:List Int) (hb:dQ p.m p.m.serving=x :: l) (hx:x=p.m.got) (hr:p.recv.length<=1000000) (hg:InR .i64 (p.m.got+1)):FC Tryz.prog 269 [.ptr 100000 0,enc e] (phX n p) (enc (0:Int)) (phX n ({ p with m:={ p.m with got:=p.m.got+1 },recv:=p.recv++[p.m.got] })):=by
 have hi3:p.m.serving < (p.m.buf.length:Int):=by omega
 obtain⟨hi0,hi2⟩:=hi;have hbg:=fI p.m.buf p.m.serving.toNat;refine dD [100001] ol (by simp) (dR n p) (dE n p) (dE n _) (dI n p _) (fun cx _ hl _=>dC [fa n p] 1500 ?_);rw[show p.m.buf.getD p.m.serving.toNat []=x :: l from hb]at hbg;have hl0:¬ ((l.length:Int)+1=0):=by omega
 subst hx;simp only[InR]at hg;have hap:p.recv.map Dat.cells++[[C.s (.int .i64 p.m.got)]]=(p.recv++[p.m.got]).map Dat.cells:=by rw[yg];rfl
 delta c269 oO oN oA oM oT oR oQ oS oK oF oL oV oC oW oY oI oX oB o0 o1 o4 o6 o7;simp (maxSteps:=9^7) -implicitDefEqProofs only[mI,phX,phC,dY,h,fa,eq,hi0,hi2,hi3,hl0,hg,hap,eu,hbg,zt,zQ,Int.natCast_succ,yM,zy,InR,WU,Ent.of0,Ent.of1,Ent.of2,Ent.of3,Ent.of4,V,W3,↓reduceIte,seval,reduceCtorEq]
 try omega
theorem wY (n:Nw) (p:Ph) (e:T3) (h:ej p.m=false) (hi:0<=p.m.serving/\p.m.serving.toNat < p.m.buf.length) (x:Int) (l:List Int) (hb:dQ p.m p.m.serving=x :: l) (hx:x < p.m.got):FC Tryz.prog 269 [.ptr 100000 0,enc e] (phX n p) (enc (0:Int)) (phX n (p)):=by
 have hi3:p.m.serving < (p.m.buf.length:Int):=by omega
 obtain⟨hi0,hi2⟩:=hi;have hbg:=fI p.m.buf p.m.serving.toNat;refine dD [100001] ol (by simp) (dR n p) (dE n p) (dE n _) (dI n p _) (fun cx _ hl _=>dC [fa n p] 1500 ?_);rw[show p.m.buf.getD p.m.serving.toNat []=x :: l from hb]at hbg;have hl0:¬ ((l.length:Int)+1=0):=by omega
 have hx1:¬ p.m.got < x:=by omega
 have hx2:¬ x=p.m.got:=by omega
 delta c269 oO oN oA oM oT oR oQ oS oK oF oL oV oC oW oY oI oX oB o0 o1 o4 o6 o7;simp (maxSteps:=9^7) -implicitDefEqProofs only[mI,phX,phC,dY,h,fa,eq,hi0,hi2,hi3,hx1,hx2,hl0,eu,hbg,zt,zQ,Int.natCast_succ,yM,InR,WU,Ent.of0,Ent.of1,Ent.of2,Ent.of3,Ent.of4,V,W3,↓reduceIte,seval,reduceCtorEq]
 try omega
theorem ack_e (n:Nw) (p:Ph) (e:T3) (h:ej p.m=true):FC Tryz.prog 270 [.ptr 100000 0,enc e] (phX n p) (enc (22:Int)) (phX n (p)):=by
 refine dD [100001] is270 (by simp) (dR n p) (dE n p) (dE n _) (dI n p _) (fun cx _ hl _=>dC [fa n p] 1500 ?_);delta c270 oO oA oM oT oQ oS oK oF oL oV oC oW oI oX o0 o6 o7;simp (maxSteps:=9^7) -implicitDefEqProofs only[qT,phX,phC,dY,h,fa,eq,WU,Ent.of0,Ent.of1,Ent.of2,Ent.of3,Ent.of4,V,W3,↓reduceIte,seval,reduceCtorEq]
theorem ack_ok (n:Nw) (p:Ph) (e:T3) (h:ej p.m=false) (hi:0<=p.m.serving/\p.m.serving.toNat < p.m.buf.length) (hb1:(dQ p.m p.m.serving).length<=1000000):FC Tryz.prog 270 [.ptr 100000 0,enc e] (phX n p) (enc (0:Int)) (phX n ({ p with m:={ p.m with buf:=p.m.buf.set p.m.serving.toNat (frm (dQ p.m p.m.serving) p.m.got) } })):=by
 have hi3:p.m.serving < (p.m.buf.length:Int):=by omega
 obtain⟨hi0,hi2⟩:=hi;have hbg:=fI p.m.buf p.m.serving.toNat;refine dD [100001] is270 (by simp) (dR n p) (dE n p) (dE n _) (dI n p _) (fun cx _ hl _=>dC [fa n p] 1500 ?_);rw[show p.m.buf.getD p.m.serving.toNat []=dQ p.m p.m.serving from rfl]at hbg;have hst:=jS p.m.buf p.m.serving.toNat (frm (dQ p.m p.m.serving) p.m.got);delta c270 oO oA oM oT oQ oS oK oF oL oV oC oW oI oX o0 o6 o7;simp (maxSteps:=9^7) -implicitDefEqProofs only[qT,phX,phC,dY,h,fa,eq,hi0,hi2,hi3,hbg,eu,InR,WU,Ent.of0,Ent.of1,Ent.of2,Ent.of3,Ent.of4,V,W3,↓reduceIte,seval,reduceCtorEq];refine pw rfl (dX.take (s:=22) (k:=100001) (j:=p.m.serving.toNat) (by decide) rfl rfl ⟨by rw[eu];exact hi2,by simp⟩ rfl (by decide)) ?_;refine py rfl (OpM.delF vY (dQ p.m p.m.serving) hb1 rfl rfl rfl (by show some (Ch.row 1 3 ((fP p.m.buf).getD p.m.serving.toNat []))=_;rw[hbg]) rfl rfl rfl) (fun ef he=>?_);subst he;refine nz [] 800 ?_;simp (maxSteps:=9^7) -implicitDefEqProofs only[aT,bM,qT,hbg,hst,hi2,eu,WU,Ent.of0,Ent.of1,Ent.of2,Ent.of3,Ent.of4,V,W3,↓reduceIte,seval,reduceCtorEq];exact .inr trivial
theorem data_e (n:Nw) (p:Ph) (e:T3) (h:60<=fj p.m.buf\/1000000<=p.m.fresh) (h1:p.m.buf.length<=1000000) (h2:fj p.m.buf<=1000000000):FC Tryz.prog 268 [.ptr 100000 0,enc e] (phX n p) (enc (16:Int)) (phX n (p)):=by
 refine dD [100001] D3.is268 (by simp) (dR n p) (dE n p) (dE n _) (dI n p _) (fun cx _ hl _=>dC [lU n p h1 h2] 1500 ?_);by_cases h3:60<=fj p.m.buf
 . delta D3.c268 oO oN oA oM oT oG oS oK oF oL oV oC oW oI oX oH oB oD oE oJ o0 o1 o6 o7;simp (maxSteps:=9^7) -implicitDefEqProofs only[D3.rv268,phX,phC,dY,h3,lU,eq,WU,Ent.of0,Ent.of1,Ent.of2,Ent.of3,Ent.of4,V,W3,↓reduceIte,seval,reduceCtorEq]
 . have h4:=h.resolve_left h3;delta D3.c268 oO oN oA oM oT oG oS oK oF oL oV oC oW oI oX oH oB oD oE oJ o0 o1 o6 o7;simp (maxSteps:=9^7) -implicitDefEqProofs only[D3.rv268,phX,phC,dY,h3,h4,lU,eq,WU,Ent.of0,Ent.of1,Ent.of2,Ent.of3,Ent.of4,V,W3,↓reduceIte,seval,reduceCtorEq]
theorem data_ok (n:Nw) (p:Ph) (e:T3) (h3:¬ 60<=fj p.m.buf) (h4:¬ 1000000<=p.m.fresh) (h1:p.m.buf.length<=1000000) (h2:fj p.m.buf<=1000000000) (hi:0<=p.m.path/\p.m.path.toNat < p.m.buf.length) (hg:InR .i64 (p.m.fresh+1)) (hb1:(dQ p.m p.m.path).length<=1000000):FC Tryz.prog 268 [.ptr 100000 0,enc e] (phX n p) (enc (0:Int)) (phX n ({ p with m:={ p.m with buf:=p.m.buf.set p.m.path.toNat (dQ p.m p.m.path++[p.m.fresh]),fresh:=p.m.fresh+1 } })):=by
 refine dD [100001] D3.is268 (by simp) (dR n p) (dE n p) (dE n _) (dI n p _) (fun cx _ hl _=>dC [lU n p h1 h2] 1500 ?_);delta D3.c268 oO oN oA oM oT oG oS oK oF oL oV oC oW oI oX oH oB oD oE oJ o0 o1 o6 o7;simp (maxSteps:=9^7) -implicitDefEqProofs only[D3.rv268,phX,phC,dY,h3,h4,lU,eq,WU,Ent.of0,Ent.of1,Ent.of2,Ent.of3,Ent.of4,V,W3,↓reduceIte,seval,reduceCtorEq];have hi3:p.m.path < (p.m.buf.length:Int):=by omega
 obtain⟨hi0,hi2⟩:=hi;have hbg:=fI p.m.buf p.m.path.toNat;rw[show p.m.buf.getD p.m.path.toNat []=dQ p.m p.m.path from rfl]at hbg;have hst:=jS p.m.buf p.m.path.toNat (dQ p.m p.m.path++[p.m.fresh]);have hap:(dQ p.m p.m.path).map Dat.cells++[[C.s (.int .i64 p.m.fresh)]]=(dQ p.m p.m.path++[p.m.fresh]).map Dat.cells:=by rw[yg];rfl
 simp only[InR]at hg;refine nC [] 800 ?_;simp (maxSteps:=9^7) -implicitDefEqProofs only[drS,lC,robC,reC,fixS,eQ,AOp.reads,true_or,or_true,false_or,hi0,hi2,hi3,eu,hbg,hap,zy,InR,WU,Ent.of0,Ent.of1,Ent.of2,Ent.of3,Ent.of4,V,W3,↓reduceIte,seval,reduceCtorEq];refine⟨by omega,dC [] 600 ?_⟩;simp (maxSteps:=9^7) -implicitDefEqProofs only[D3.rv268,hg,hst,InR,WU,Ent.of0,Ent.of1,Ent.of2,Ent.of3,Ent.of4,V,W3,↓reduceIte,seval,reduceCtorEq]
theorem vI (l:List Int) (v:Int) (h:l.length<=1000000):FC Tryz.prog 288 [enc l,enc v] [] (enc (i7 (fun x=>decide (v=x)) l)) []:=by
 refine eh is288 (by simp) (fun cx hl=>dC [] 800 ?_);generalize hB:i7 (fun x=>decide (v=x)) l=B;delta c288 oM oS oK oV oX o4;simp (maxSteps:=9^7) -implicitDefEqProofs only[po,Ent.of0,Ent.of1,Ent.of2,Ent.of3,Ent.of4,V,W3,↓reduceIte,seval,reduceCtorEq];refine eN l.length (fun i=>[(8,.s (.int .i64 (i:Int)))]) (fun _=>[]) (fun i=>∀ j,j < i->decide (v=l.getD j 0)=false) (fun j hj=>by omega) ?_ (fun i hi hv=>dC [] 800 ?_)
 . simp (maxSteps:=9^7) -implicitDefEqProofs only[Ent.of0,Ent.of1,Ent.of2,Ent.of3,Ent.of4,V,W3,↓reduceIte,seval,reduceCtorEq]
   try simp
 . by_cases h:i < l.length
   . have hi2:(i:Int) < (l.length:Int):=by omega
     have hi0:(0:Int)<=i:=by omega
     by_cases hx:v=l.getD i 0
     . have hB2:=ni (p:=fun x=>decide (v=x)) 0 h (by simpa using hx) hv;rw[hB]at hB2;subst hB2;delta nO oO oN oA oM oR oS oK oL oI oX oB o1;simp (maxSteps:=9^7) -implicitDefEqProofs only[po,hi2,hi0,h,InR,WU,Ent.of0,Ent.of1,Ent.of2,Ent.of3,Ent.of4,V,W3,↓reduceIte,seval,reduceCtorEq];simp only[<- hx,if_true]
     . delta nO oO oN oA oM oR oS oK oL oI oX oB o1;simp (maxSteps:=9^7) -implicitDefEqProofs only[po,hi2,hi0,h,hx,InR,WU,Ent.of0,Ent.of1,Ent.of2,Ent.of3,Ent.of4,V,W3,↓reduceIte,seval,reduceCtorEq];refine⟨by omega,fun j hj=>?_,by omega⟩;by_cases hji:j=i
       . subst hji;simpa using hx
       . have:=hv j (by omega);simpa using this
   . have hi2:¬ (i:Int) < (l.length:Int):=by omega
     have hB2:=l6 (p:=fun x=>decide (v=x)) (l:=l) 0 (fun j hj=>hv j (by omega));rw[hB]at hB2;subst hB2;delta nO oO oN oA oM oR oS oK oL oI oX oB o1;simp (maxSteps:=9^7) -implicitDefEqProofs only[po,hi2,WU,Ent.of0,Ent.of1,Ent.of2,Ent.of3,Ent.of4,V,W3,↓reduceIte,seval,reduceCtorEq]
def uM : Ent Tryz.prog:=.of2 288 (fun l _=>l.length<=1000000) (fun (l:List Int) (v:Int)=>enc (i7 (fun x=>decide (v=x)) l)) (fun _ _=>trivial) (fun l v h=>vI l v h)
theorem sk (l:List Int) (v:Int) (h:l.length<=1000000):FC Tryz.prog 284 [enc l,enc v] [] (enc (l.any fun x=>decide (v=x))) []:=by
 refine eh is284 (by simp) (fun cx hl=>dC [uM] 800 ?_);have hi:=nh (fun x=>decide (v=x)) l;delta c284 oO oN oM oC oX oB o9;simp (maxSteps:=9^7) -implicitDefEqProofs only[rv284,uM,h,hi,Ent.of0,Ent.of1,Ent.of2,Ent.of3,Ent.of4,V,W3,↓reduceIte,seval,reduceCtorEq]
def n9 : Ent Tryz.prog:=.of2 284 (fun l _=>l.length<=1000000) (fun (l:List Int) (v:Int)=>enc (l.any fun x=>decide (v=x))) (fun _ _=>trivial) (fun l v h=>sk l v h)
def recE (p:Ph) (e:T3):Int:=dM [if p.m.phase=3 then 0 else 22,if ([p.m.serving,p.m.target,p.m.source].any fun x=>decide (e.z=x))=true then 0 else 6]
theorem vw (n:Nw) (p:Ph) (e:T3) (hr:recE p e≠0):FC Tryz.prog 278 [.ptr 100000 0,enc e] (phX n p) (enc (recE p e)) (phX n p):=by
 refine dD [100001] is278 (by simp) (dR n p) (dE n p) (dE n _) (dI n p _) (fun cx _ hl _=>dC [dT,dS,n9] 1500 ?_);have h3:(3:Nat)<=1000000:=by decide
 have hcl:[[C.s (.int .i64 p.m.serving)],[C.s (.int .i64 p.m.target)],[C.s (.int .i64 p.m.source)]]=[p.m.serving,p.m.target,p.m.source].map Dat.cells:=rfl;have hLl:[p.m.serving,p.m.target,p.m.source].length<=1000000:=by simp
 unfold recE at *;generalize [p.m.serving,p.m.target,p.m.source]=L at *;generalize hR:dM [if p.m.phase=3 then 0 else 22,if (L.any fun x=>decide (e.z=x))=true then 0 else 6]=R at *;rcases Classical.propComplete (p.m.phase=3)with h1 | h1 <;> cases h2:(L.any fun x=>decide (e.z=x))
 all_goals
  rw[h2]at hR;simp[h1,dM]at hR
  first
   | exact absurd hR.symm hr
   | (subst hR
      delta c278 oO oN oA oM oT oR oQ oS oK oF oL oV oC oI oX oB o1 o6 o7
      simp (maxSteps:=9^7) -implicitDefEqProofs only[rv278,phX,phC,dY,h1,h2,dT,dS,n9,hcl,hLl,dM,not_true_eq_false,not_false_eq_true,WU,Ent.of0,Ent.of1,Ent.of2,Ent.of3,Ent.of4,V,W3,↓reduceIte,seval,reduceCtorEq])
theorem tR (n:Nw) (p:Ph) (e:T3) (h1:p.m.phase=3) (h2:([p.m.serving,p.m.target,p.m.source].any fun x=>decide (e.z=x))=true) (hc:ConOk n p e.z e.y):FC Tryz.prog 278 [.ptr 100000 0,enc e] (phX n p) (enc (0:Int)) (phX n (lg p e.z e.y)):=by
 refine dD [100001] is278 (by simp) (dR n p) (dE n p) (dE n _) (dI n p _) (fun cx _ hl _=>dC [dT,dS,n9,n5 n p e.z e.y hc] 1500 ?_);have hcl:[[C.s (.int .i64 p.m.serving)],[C.s (.int .i64 p.m.target)],[C.s (.int .i64 p.m.source)]]=[p.m.serving,p.m.target,p.m.source].map Dat.cells:=rfl;have hLl:[p.m.serving,p.m.target,p.m.source].length<=1000000:=by simp
 generalize [p.m.serving,p.m.target,p.m.source]=L at *;delta c278 oO oN oA oM oT oR oQ oS oK oF oL oV oC oI oX oB o1 o6 o7;simp (maxSteps:=9^7) -implicitDefEqProofs only[rv278,phX,phC,dY,h1,h2,dT,dS,n9,n5,eq,hcl,hLl,dM,not_true_eq_false,not_false_eq_true,WU,Ent.of0,Ent.of1,Ent.of2,Ent.of3,Ent.of4,V,W3,↓reduceIte,seval,reduceCtorEq]
def n7 : Ent Tryz.prog:=.of2 282 (fun xs _=>xs.Pairwise (·<=·)/\xs.length<=1000000) (fun (xs:List Int) (x:Int)=>.tup [.s (.int .i64 (lf xs x:Nat)),enc (xs.contains x)]) (fun _ _=>⟨trivial,trivial,trivial⟩) (fun xs x h=>pu xs x h.1 h.2)
def n8 (xs:List Int) (i:Nat) (x:Int) (hil:i<=xs.length) (h:xs.length<=1000000):Ent Tryz.prog where
 id:=283
 tk:=[0,2]
 sp:=fun args chs=>some (args=[.own 100000,.s (.int .i64 (i:Int)),.own 100001]/\chs=[(100000,.row 1 3 (xs.map Dat.cells)),(100001,.row 1 3 [[.s (.int .i64 x)]])],.own 100000,[(100000,.row 1 3 ((jC xs i x).map Dat.cells)),(100001,.row 1 3 [[.s (.int .i64 x)]])],[])
 ok:=by
  intro args chs pp r' chs' nk hs hp;simp only[zn,zf]at hs;obtain⟨rfl,rfl,rfl,rfl⟩:=hs;obtain⟨rfl,rfl⟩:=hp;refine⟨vK xs i x hil h,⟨fun k c hm=>.inr ?_,fun k cs hm=>?_,by simp[dF],fun k c hm=>?_⟩⟩
  . simp only[zl,zA,or_false,zf]at hm ⊢;rcases hm with⟨rfl,_⟩ | ⟨rfl,_⟩
    . exact⟨_,.inl ⟨rfl,rfl⟩⟩
    . exact⟨_,.inr ⟨rfl,rfl⟩⟩
  . simp at hm
  . simp only[zl,zA,or_false,zf]at hm;rcases hm with⟨_,rfl⟩ | ⟨_,rfl⟩ <;> trivial
theorem put_ins (l:List Int) (x:Int) (h:l.Pairwise (·<=·)):gc l x=jC l (lf l x) x:=qj l x h
theorem tH (n:Nw) (p:Ph) (e:T3) (h2:¬ p.m.phase=2) (h:¬ p.m.phase=0\/p.m.source=-1):FC Tryz.prog 275 [.ptr 100000 0,enc e] (phX n p) (enc (22:Int)) (phX n p):=by
 refine dD [100001] D3.is275 (by simp) (dR n p) (dE n p) (dE n _) (dI n p _) (fun cx _ hl _=>dC [] 1500 ?_);by_cases h0:p.m.phase=0
 . have hs:=h.resolve_left (fun q=>q h0);delta D3.c275 oO oN oA oM oT oG oQ oS oK oF oL oV oC oI oX oH oB oD oE oJ o0 o1 o4 o6 o7 o8;simp (maxSteps:=9^7) -implicitDefEqProofs only[D3.rv275,phX,phC,dY,h2,h0,hs,WU,Ent.of0,Ent.of1,Ent.of2,Ent.of3,Ent.of4,V,W3,↓reduceIte,seval,reduceCtorEq]
 . delta D3.c275 oO oN oA oM oT oG oQ oS oK oF oL oV oC oI oX oH oB oD oE oJ o0 o1 o4 o6 o7 o8;simp (maxSteps:=9^7) -implicitDefEqProofs only[D3.rv275,phX,phC,dY,h2,h0,WU,Ent.of0,Ent.of1,Ent.of2,Ent.of3,Ent.of4,V,W3,↓reduceIte,seval,reduceCtorEq]
theorem tI (n:Nw) (p:Ph) (e:T3) (h:p.m.phase=2\/(p.m.phase=0/\¬ p.m.source=-1)) (hi:0<=dW p.m/\(dW p.m).toNat < p.m.buf.length) (hb:dQ p.m (dW p.m)=[]):FC Tryz.prog 275 [.ptr 100000 0,enc e] (phX n p) (enc (12:Int)) (phX n p):=by
 have hi3:dW p.m < (p.m.buf.length:Int):=by omega
 obtain⟨hi0,hi2⟩:=hi;have hbg:=fI p.m.buf (dW p.m).toNat;rw[show p.m.buf.getD (dW p.m).toNat []=[]from hb]at hbg;refine dD [100001] D3.is275 (by simp) (dR n p) (dE n p) (dE n _) (dI n p _) (fun cx _ hl _=>dC [] 1500 ?_);generalize hF:dW p.m=F at *;rcases h with h1 | ⟨h1,h3⟩
 . obtain rfl:F=p.m.serving:=by rw[<- hF,dW,if_pos h1]
   delta D3.c275 oO oN oA oM oT oG oQ oS oK oF oL oV oC oI oX oH oB oD oE oJ o0 o1 o4 o6 o7 o8;simp (maxSteps:=9^7) -implicitDefEqProofs only[D3.rv275,phX,phC,dY,h1,hi0,hi2,hi3,hbg,eu,zR,InR,WU,Ent.of0,Ent.of1,Ent.of2,Ent.of3,Ent.of4,V,W3,↓reduceIte,seval,reduceCtorEq]
 . have h2:¬ p.m.phase=2:=by omega
   obtain rfl:F=p.m.source:=by rw[<- hF,dW,if_neg h2]
   delta D3.c275 oO oN oA oM oT oG oQ oS oK oF oL oV oC oI oX oH oB oD oE oJ o0 o1 o4 o6 o7 o8;simp (maxSteps:=9^7) -implicitDefEqProofs only[D3.rv275,phX,phC,dY,h1,h2,h3,hi0,hi2,hi3,hbg,eu,zR,InR,WU,Ent.of0,Ent.of1,Ent.of2,Ent.of3,Ent.of4,V,W3,↓reduceIte,seval,reduceCtorEq]
theorem tJ (n:Nw) (p:Ph) (e:T3) (h:p.m.phase=2\/(p.m.phase=0/\¬ p.m.source=-1)) (hi:0<=dW p.m/\(dW p.m).toNat < p.m.buf.length) (hj:0<=toC p.m/\(toC p.m).toNat < p.m.buf.length) (hne:dW p.m≠toC p.m) (x:Int) (B:List Int) (hb:dQ p.m (dW p.m)=x :: B)
 (hs:(dQ p.m (toC p.m)).Pairwise (·<=·)) (hl1:(dQ p.m (toC p.m)).length<=1000000) (hl2:B.length<=1000000) (hr:p.m.source≠-1->0<=p.m.source/\p.m.source.toNat < p.m.buf.length) :
 FC Tryz.prog 275 [.ptr 100000 0,enc e] (phX n p) (enc (0:Int)) (phX n { p with m:=settle { p.m with buf:=(p.m.buf.set (toC p.m).toNat (gc (dQ p.m (toC p.m)) x)).set (dW p.m).toNat B } }):=by
 have hi3:dW p.m < (p.m.buf.length:Int):=by omega
 have hj3:toC p.m < (p.m.buf.length:Int):=by omega
 have hnn:(toC p.m).toNat≠(dW p.m).toNat:=by omega
 obtain⟨hi0,hi2⟩:=hi;obtain⟨hj0,hj2⟩:=hj;have hbg:=fI p.m.buf (dW p.m).toNat;rw[show p.m.buf.getD (dW p.m).toNat []=x :: B from hb]at hbg;have hst1:=jS p.m.buf (dW p.m).toNat B;have hgt:(fP (p.m.buf.set (dW p.m).toNat B)).getD (toC p.m).toNat []=(dQ p.m (toC p.m)).map Dat.cells:=by
  rw[fI,fA,if_neg (fun q=>hnn q.1.symm)];rfl
 have hlen1:(p.m.buf.set (dW p.m).toNat B).length=p.m.buf.length:=by simp
 have hst2:(fP (p.m.buf.set (dW p.m).toNat B)).set (toC p.m).toNat ((gc (dQ p.m (toC p.m)) x).map Dat.cells)=fP ((p.m.buf.set (toC p.m).toNat (gc (dQ p.m (toC p.m)) x)).set (dW p.m).toNat B):=by
  rw[jS,List.set_comm _ _ (fun q=>hnn q.symm)]
 have hcnt:=cntL_le (dQ p.m (toC p.m)) x;rw[put_ins _ _ hs]at hst2 ⊢;have hl0:¬ ((B.length:Int)+1=0):=by omega
 have hl00:(0:Int) < (B.length:Int)+1:=by omega
 have hl01:(0:Int)<=(B.length:Int)+1:=by omega
 generalize hBB:(p.m.buf.set (toC p.m).toNat (jC (dQ p.m (toC p.m)) (lf (dQ p.m (toC p.m)) x) x)).set (dW p.m).toNat B=BB at *;have hBl:BB.length=p.m.buf.length:=by rw[<- hBB];simp
 have hrest:=vA n { p with m:={ p.m with buf:=BB } } (fun q=>by
  have:=hr q;show _/\_ < BB.length
  rw[hBl];exact this)
 generalize settle { p.m with buf:=BB }=S at hrest ⊢;refine dD [100001] D3.is275 (by simp) (dR n p) (dE n p) (dE n _) (dI n p _) (fun cx _ hl _=>dC [] 1500 ?_);generalize hF:dW p.m=F at *;generalize hG:toC p.m=G at *;generalize hBT:dQ p.m G=BT at *;generalize hB1:p.m.buf.set F.toNat B=B1 at *;have hdt:List.drop 1 (List.take ((B.length:Int)+1).toNat ([C.s (.int .i64 x)] :: B.map Dat.cells))=B.map Dat.cells:=by
  have e1:((B.length:Int)+1).toNat=B.length+1:=by omega
  rw[e1,yD,yw,yB,List.take_of_length_le (by simp)]
 rcases h with h1 | ⟨h1,h3⟩
 . obtain rfl:F=p.m.serving:=by rw[<- hF,dW,if_pos h1]
   obtain rfl:G=p.m.target:=by rw[<- hG,toC,if_pos h1]
   delta D3.c275 oO oN oA oM oT oG oQ oS oK oF oL oV oC oI oX oH oB oD oE oJ o0 o1 o4 o6 o7 o8;simp (maxSteps:=9^7) -implicitDefEqProofs only[D3.rv275,phX,phC,dY,h1,hi0,hi2,hi3,hl0,hbg,eu,zt,zQ,yM,InR,WU,Ent.of0,Ent.of1,Ent.of2,Ent.of3,Ent.of4,V,W3,↓reduceIte,seval,reduceCtorEq];refine⟨by omega,by omega,?_⟩;refine nC [] 800 ?_;simp (maxSteps:=9^7) -implicitDefEqProofs only[drS,lC,robC,reC,fixS,eQ,AOp.reads,kF,true_or,or_true,false_or,hi0,hi2,hi3,hl0,hbg,eu,hdt,hst1,zy,zt,zQ,yM,InR,WU,Ent.of0,Ent.of1,Ent.of2,Ent.of3,Ent.of4,V,W3,↓reduceIte,seval,reduceCtorEq];refine⟨by omega,?_⟩;refine dC [n7] 800 ?_;simp (maxSteps:=9^7) -implicitDefEqProofs only[hj0,hj2,hj3,hlen1,hgt,n7,hs,hl1,eu,InR,WU,Ent.of0,Ent.of1,Ent.of2,Ent.of3,Ent.of4,V,W3,↓reduceIte,seval,reduceCtorEq];refine rc [n8 BT (lf BT x) x hcnt hl1] 800 ?_;simp (maxSteps:=9^7) -implicitDefEqProofs only[gL,mFin2,ml,pG,ops2,jo,reM2,pc,qP,qQ,mE,finM,kE,ia,ip,gh,ft,fW,fW.fixBs,fV,ndE2,an,ag,av,aU,aF,kF,eQ,a6,bF,n8,hj0,hj2,hj3,hlen1,hgt,eu,InR,WU,Ent.of0,Ent.of1,Ent.of2,Ent.of3,Ent.of4,V,W3,↓reduceIte,seval,reduceCtorEq];refine⟨rfl,.inr trivial,?_⟩;refine dC [eq 262 n { p with m:={ p.m with buf:=BB } } { p with m:=S } [.ptr 100000 0] (.tup []) trivial hrest] 800 ?_;simp (maxSteps:=9^7) -implicitDefEqProofs only[D3.rv275,phX,phC,eq,hst2,h1,WU,Ent.of0,Ent.of1,Ent.of2,Ent.of3,Ent.of4,V,W3,↓reduceIte,seval,reduceCtorEq]
 . have h2:¬ p.m.phase=2:=by omega
   obtain rfl:F=p.m.source:=by rw[<- hF,dW,if_neg h2]
   obtain rfl:G=p.m.serving:=by rw[<- hG,toC,if_neg h2]
   delta D3.c275 oO oN oA oM oT oG oQ oS oK oF oL oV oC oI oX oH oB oD oE oJ o0 o1 o4 o6 o7 o8;simp (maxSteps:=9^7) -implicitDefEqProofs only[D3.rv275,phX,phC,dY,h1,h2,h3,hi0,hi2,hi3,hl0,hbg,eu,zt,zQ,yM,InR,WU,Ent.of0,Ent.of1,Ent.of2,Ent.of3,Ent.of4,V,W3,↓reduceIte,seval,reduceCtorEq];refine⟨by omega,by omega,?_⟩;refine nC [] 800 ?_;simp (maxSteps:=9^7) -implicitDefEqProofs only[drS,lC,robC,reC,fixS,eQ,AOp.reads,kF,true_or,or_true,false_or,hi0,hi2,hi3,hl0,hbg,eu,hdt,hst1,zy,zt,zQ,yM,InR,WU,Ent.of0,Ent.of1,Ent.of2,Ent.of3,Ent.of4,V,W3,↓reduceIte,seval,reduceCtorEq];refine⟨by omega,?_⟩;refine dC [n7] 800 ?_;simp (maxSteps:=9^7) -implicitDefEqProofs only[hj0,hj2,hj3,hlen1,hgt,n7,hs,hl1,eu,InR,WU,Ent.of0,Ent.of1,Ent.of2,Ent.of3,Ent.of4,V,W3,↓reduceIte,seval,reduceCtorEq];refine rc [n8 BT (lf BT x) x hcnt hl1] 800 ?_;simp (maxSteps:=9^7) -implicitDefEqProofs only[gL,mFin2,ml,pG,ops2,jo,reM2,pc,qP,qQ,mE,finM,kE,ia,ip,gh,ft,fW,fW.fixBs,fV,ndE2,an,ag,av,aU,aF,kF,eQ,a6,bF,n8,hj0,hj2,hj3,hlen1,hgt,eu,InR,WU,Ent.of0,Ent.of1,Ent.of2,Ent.of3,Ent.of4,V,W3,↓reduceIte,seval,reduceCtorEq];refine⟨rfl,.inr trivial,?_⟩;refine dC [eq 262 n { p with m:={ p.m with buf:=BB } } { p with m:=S } [.ptr 100000 0] (.tup []) trivial hrest] 800 ?_;simp (maxSteps:=9^7) -implicitDefEqProofs only[D3.rv275,phX,phC,eq,hst2,h1,h2,h3,WU,Ent.of0,Ent.of1,Ent.of2,Ent.of3,Ent.of4,V,W3,↓reduceIte,seval,reduceCtorEq]
theorem oq {x:Int} (h:0<=x/\x<=11):x=0\/x=1\/x=2\/x=3\/x=4\/x=5\/x=6\/x=7\/x=8\/x=9\/x=10\/x=11:=by omega
theorem glk : lk (Glob.gl Tryz.prog) 0=some jt:=rfl
theorem tF (n:Nw) (e:T3) (hn:NwS n):FC Tryz.prog 114 [enc n,enc e] [] (enc (evE n e)) []:=by
 have hb:=hn.c;obtain⟨x,y,z⟩:=e;refine dD [] is114 (by simp) trivial trivial trivial trivial (fun cx _ hl _=>dC [eZ,dT,dS,iQ] 1500 ?_);by_cases hx:0<=x/\x<=11
 rotate_left
 . have he:evE n ⟨x,y,z⟩=15:=by rw[evE,if_pos (by simpa using hx)]
   generalize evE n ⟨x,y,z⟩=E at *;subst he;cases ht:eM y
   all_goals
    delta c114 oO oN oA oM oT oQ oS oK oF oL oV oC oI oX oB o1 o4 o7;simp (maxSteps:=9^7) -implicitDefEqProofs only[pj,ed,dY,eZ,dT,dS,iQ,hx,ht,dM,not_true_eq_false,not_false_eq_true,WU,Ent.of0,Ent.of1,Ent.of2,Ent.of3,Ent.of4,V,W3,↓reduceIte,seval,reduceCtorEq]
 cases ht:eM y
 . have he:evE n ⟨x,y,z⟩=2:=by rw[evE,if_neg (by simpa using hx),if_pos ht]
   generalize evE n ⟨x,y,z⟩=E at *;subst he;delta c114 oO oN oA oM oT oQ oS oK oF oL oV oC oI oX oB o1 o4 o7;simp (maxSteps:=9^7) -implicitDefEqProofs only[pj,ed,dY,eZ,dT,dS,iQ,hx,ht,dM,not_true_eq_false,not_false_eq_true,WU,Ent.of0,Ent.of1,Ent.of2,Ent.of3,Ent.of4,V,W3,↓reduceIte,seval,reduceCtorEq]
 have he:evE n ⟨x,y,z⟩=if iN x=true then (if isC n z=true then 0 else 6)else if z=0 then 0 else 3:=by
  rw[evE,if_neg (by simpa using hx),if_neg (by simp[ht])]
 generalize evE n ⟨x,y,z⟩=E at *;subst he;have hic:isC n z=decide (0<=z/\z<=(n.cells.length:Int) - 1):=rfl;have glq:=glk;unfold Glob.gl at glq;have hr:-9223372036854775808<=(n.cells.length:Int) - 1/\(n.cells.length:Int) - 1<=9223372036854775807:=by omega
 by_cases hcell:iN x=true
 . have hk:x=3\/x=10:=by simpa[iN]using hcell
   rw[if_pos hcell];rcases hk with k | k <;> subst k <;> rcases Classical.propComplete (0<=z/\z<=(n.cells.length:Int) - 1)with hz | hz
   all_goals
    simp only[hz,decide_true,decide_false]at hic;delta c114 oO oN oA oM oT oQ oS oK oF oL oV oC oI oX oB o1 o4 o7;simp (maxSteps:=9^7) -implicitDefEqProofs only[pj,ed,dY,eZ,dT,dS,iQ,ht,hz,hic,hr,glq,jt,decide_true,decide_false,yw,yB,yc,dM,InR,not_true_eq_false,not_false_eq_true,WU,Ent.of0,Ent.of1,Ent.of2,Ent.of3,Ent.of4,V,W3,↓reduceIte,seval,reduceCtorEq]
 . rw[if_neg hcell];have hk:x≠3/\x≠10:=by simpa[iN]using hcell
   rcases oq hx with k | k | k | k | k | k | k | k | k | k | k | k <;> subst k <;> first | exact absurd rfl hk.1 | exact absurd rfl hk.2 | skip
   all_goals
    by_cases hz0:z=0
   all_goals
    delta c114 oO oN oA oM oT oQ oS oK oF oL oV oC oI oX oB o1 o4 o7;simp (maxSteps:=9^7) -implicitDefEqProofs only[pj,ed,dY,eZ,dT,dS,iQ,ht,hz0,hr,glq,jt,decide_true,decide_false,yw,yB,yc,dM,InR,not_true_eq_false,not_false_eq_true,WU,Ent.of0,Ent.of1,Ent.of2,Ent.of3,Ent.of4,V,W3,↓reduceIte,seval,reduceCtorEq]
def lT (n:Nw) (hn:NwS n):Ent Tryz.prog:=.of2 114 (fun m _=>m=n) (fun (m:Nw) (e:T3)=>enc (evE m e)) (fun _ _=>trivial) (fun m e h=>h ▸ tF n e hn)
def ie (n:Nw) (m:Ms) (e:T3):Int:=if evE n e≠0 then evE n e else if e.y < m.at_ then 9 else 0
theorem apply_e (n:Nw) (p:Ph) (e:T3) (hn:NwS n) (h:ie n p.m e≠0):FC Tryz.prog 118 [.ptr 100000 0,enc e] (phX n p) (enc (ie n p.m e)) (phX n p):=by
 have hdn:=gO n;have hE:ie n p.m e=if evE n e≠0 then evE n e else if e.y < p.m.at_ then 9 else 0:=rfl
 refine dD [100001] is118 (by simp) (dR n p) (dE n p) (dE n _) (dI n p _) (fun cx _ hl _=>dC [lT n hn,dT,dS] 1500 ?_);generalize ie n p.m e=E at *;generalize hv:evE n e=v at *;by_cases h1:v=0
 . subst h1;rw[if_neg (by simp)]at hE;by_cases h2:e.y < p.m.at_
   . rw[if_pos h2]at hE;subst hE;have h3:¬ p.m.at_<=e.y:=by omega
     delta c118 oO oN oA oM oT oQ oS oK oF oL oV oC oW oI oX oB o1 o5 o6 o7;simp (maxSteps:=9^7) -implicitDefEqProofs only[rv118,phX,phC,dY,mt,hdn,lT,dT,dS,hv,h3,dM,not_true_eq_false,not_false_eq_true,WU,Ent.of0,Ent.of1,Ent.of2,Ent.of3,Ent.of4,V,W3,↓reduceIte,seval,reduceCtorEq]
   . rw[if_neg h2]at hE;exact absurd hE h
 . rw[if_pos h1]at hE;subst hE;rcases Classical.propComplete (p.m.at_<=e.y)with h3 | h3
   all_goals
    delta c118 oO oN oA oM oT oQ oS oK oF oL oV oC oW oI oX oB o1 o5 o6 o7;simp (maxSteps:=9^7) -implicitDefEqProofs only[rv118,phX,phC,dY,mt,hdn,lT,dT,dS,hv,h1,h3,dM,not_true_eq_false,not_false_eq_true,WU,Ent.of0,Ent.of1,Ent.of2,Ent.of3,Ent.of4,V,W3,↓reduceIte,seval,reduceCtorEq]
theorem apply_k (n:Nw) (p:Ph) (e:T3) (hn:NwS n) (he:evE n e=0) (hy:p.m.at_<=e.y) (hd:InR .i64 (p.m.since+n.limit)) (hp:jJ n p.m e.y=true->ConOk n p 0 (p.m.since+n.limit)) (q:Ph) (r:Int) (hx:0<=e.x/\e.x<=11)
 (hM:FC Tryz.prog (268+e.x.toNat) [.ptr 100000 0,enc e] (phX n (eP n p e.y)) (enc r) (phX n q)) :
 FC Tryz.prog 118 [.ptr 100000 0,enc e] (phX n p) (enc r) (phX n (if r=0 then atP q e.y else q)):=by
 have hdn:=gO n;have hpass:=pass_c n p e.y hd hp;generalize eP n p e.y=p1 at *;have glq:=glk;unfold Glob.gl at glq;refine dD [100001] D4.is118 (by simp) (dR n p) (dE n p) (dE n _) (dI n p _) (fun cx _ hl _=>dC [lT n hn,dT,dS,eq 151 n p p1 [.ptr 100000 0,enc e.y] (.tup []) trivial hpass] 1500 ?_);delta D4.c118 oO oN oM oT oQ oS oK oF oL oV oC oI oX oB o1 o5 o6 o7;simp (maxSteps:=9^7) -implicitDefEqProofs only[D4.rv118,phX,phC,dY,mt,hdn,lT,dT,dS,eq,he,hy,dM,not_true_eq_false,not_false_eq_true,WU,Ent.of0,Ent.of1,Ent.of2,Ent.of3,Ent.of4,V,W3,↓reduceIte,seval,reduceCtorEq];obtain⟨x,y,z⟩:=e;simp only at hx hy hpass;rcases oq hx with k | k | k | k | k | k | k | k | k | k | k | k <;> subst k
 all_goals
  refine iw (dC [eq _ n p1 q [.ptr 100000 0,enc _] (enc r) trivial hM] 1000 ?_)
 all_goals
  rcases Classical.propComplete (r=0)with h0 | h0
 all_goals
  delta D4.c118k1 oO oN oA oM oT oQ oS oK oF oL oV oW oI oX oB o5 o6;simp (maxSteps:=9^7) -implicitDefEqProofs only[D4.rv118,phX,phC,dY,mt,eq,h0,glq,jt,atP,yw,yB,yc,not_true_eq_false,not_false_eq_true,WU,Ent.of0,Ent.of1,Ent.of2,Ent.of3,Ent.of4,V,W3,↓reduceIte,seval,reduceCtorEq]
  try exact (of_eq_true h0).symm
structure PhB (p:Ph):Prop where
 s0:0 < p.stays.length
 s1:p.stays.length<=900000
 r1:p.recv.length<=900000
 o1:-1<=p.out/\p.out<=1000000000
theorem ry {n:Nw} {p:Ph} {c t:Int} (hn:NwS n) (net:NetOk n) (hl:p.m.buf.length=n.cells.length) (hf:p.m.buf.flatten.length<=60) (b:PhB p) (hc:isC n c=true) (ht:0<=t/\t<=2000000000):ConOk n p c t:=by
 have h1:=fS hc;have h2:=net.len;have h3:=b.o1;have h4:=b.s1;exact⟨hn,⟨h1.1,h1.2.1⟩,hl,by omega,by omega,⟨b.s0,by omega⟩,fun _=>by simp only[InR];omega⟩
theorem qa {l:List Int} (h:l≠[]):∃ x t,l=x :: t:=by
 cases l with
 | nil=>exact absurd rfl h
 | cons x t=>exact⟨x,t,rfl⟩
theorem ap_len {n:Nw} {m:Ms} (g:G0 n m) (c:Int):(dQ m c).length<=60:=by
 rcases yu c.toNat m.buf.length with h | h
 . have:=(fT m.buf c.toNat h).length_eq;have h2:=g.large;rw[zK]at this;show (m.buf.getD c.toNat []).length<=60
   omega
 . show (m.buf.getD c.toNat []).length<=60
   rw[zb,List.getElem?_eq_none h];simp
def DoC (n:Nw) (p:Ph) (e:T3):Prop:=∃ q,FC Tryz.prog (268+e.x.toNat) [.ptr 100000 0,enc e] (phX n p) (enc (eA n p.m e)) (phX n q)/\(eA n p.m e=0->q=doP p e)
theorem do_data (n:Nw) (p:Ph) (y z:Int) (hf:p.m.buf.flatten.length<=60) (hl:p.m.buf.length<=1000) (hp:0<=p.m.path/\p.m.path.toNat < p.m.buf.length) (hfr:0<=p.m.fresh/\p.m.fresh<=1000000) (hb:(dQ p.m p.m.path).length<=60) (hst:settle (eK p.m ⟨0,y,z⟩)=eK p.m ⟨0,y,z⟩):DoC n p ⟨0,y,z⟩:=by
 have hk:=nr p.m.buf;have hD:eA n p.m ⟨0,y,z⟩=if 60<=fj p.m.buf\/1000000<=p.m.fresh then 16 else 0:=rfl
 unfold DoC;generalize eA n p.m ⟨0,y,z⟩=D at *;by_cases h:60<=fj p.m.buf\/1000000<=p.m.fresh
 . rw[if_pos h]at hD;subst hD;exact⟨p,data_e n p ⟨0,y,z⟩ h (by omega) (by omega),fun q=>by cases q⟩
 . rw[if_neg h]at hD;subst hD;refine⟨_,data_ok n p ⟨0,y,z⟩ (by omega) (by omega) (by omega) (by omega) hp (by simp only[InR];omega) (by omega),fun _=>?_⟩;simp only[doP,Int.reduceEq,if_false,hst,false_and,or_self];rfl
theorem do_send (n:Nw) (p:Ph) (y z:Int) (hs:0<=p.m.serving/\p.m.serving.toNat < p.m.buf.length) (hg:0<=p.m.got/\p.m.got<=1000000) (hr:p.recv.length<=900000) (hst:settle (eK p.m ⟨1,y,z⟩)=eK p.m ⟨1,y,z⟩):DoC n p ⟨1,y,z⟩:=by
 have hD:eA n p.m ⟨1,y,z⟩=if ej p.m=true then 22 else if dQ p.m p.m.serving=[]then 12 else if p.m.got < (dQ p.m p.m.serving).headD 0 then 14 else 0:=rfl
 unfold DoC;generalize eA n p.m ⟨1,y,z⟩=D at *;by_cases h:ej p.m=true
 . rw[if_pos h]at hD;subst hD;exact⟨p,send_e1 n p ⟨1,y,z⟩ h,fun q=>by cases q⟩
 rw[if_neg h]at hD;have h':ej p.m=false:=by simpa using h
 by_cases hb:dQ p.m p.m.serving=[]
 . rw[if_pos hb]at hD;subst hD;exact⟨p,send_e2 n p ⟨1,y,z⟩ h' hs hb,fun q=>by cases q⟩
 rw[if_neg hb]at hD;obtain⟨x,l,hx⟩:=qa hb;rw[hx,yc]at hD;by_cases hxg:p.m.got < x
 . rw[if_pos hxg]at hD;subst hD;exact⟨p,send_e3 n p ⟨1,y,z⟩ h' hs x l hx hxg,fun q=>by cases q⟩
 rw[if_neg hxg]at hD;subst hD;by_cases hxe:x=p.m.got
 . refine⟨_,wX n p ⟨1,y,z⟩ h' hs x l hx hxe (by omega) (by simp only[InR];omega),fun _=>?_⟩;have ha:eK p.m ⟨1,y,z⟩={ p.m with got:=p.m.got+1 }:=by
    simp only[eK,Int.reduceEq,if_true,if_false,hx,yc,hxe]
   rw[ha]at hst;simp only[doP,Int.reduceEq,if_false,ha,hst,hx,yc,hxe,true_and,if_true,or_self]
 . refine⟨_,wY n p ⟨1,y,z⟩ h' hs x l hx (by omega),fun _=>?_⟩;have ha:eK p.m ⟨1,y,z⟩=p.m:=by
    simp only[eK,Int.reduceEq,if_true,if_false,hx,yc,hxe]
   rw[ha]at hst;simp only[doP,Int.reduceEq,if_false,ha,hst,hx,yc,hxe,and_false,or_self]
theorem do_ack (n:Nw) (p:Ph) (y z:Int) (hs:0<=p.m.serving/\p.m.serving.toNat < p.m.buf.length) (hb:(dQ p.m p.m.serving).length<=60) (hst:settle (eK p.m ⟨2,y,z⟩)=eK p.m ⟨2,y,z⟩):DoC n p ⟨2,y,z⟩:=by
 have hD:eA n p.m ⟨2,y,z⟩=if ej p.m=true then 22 else 0:=rfl
 unfold DoC;generalize eA n p.m ⟨2,y,z⟩=D at *;by_cases h:ej p.m=true
 . rw[if_pos h]at hD;subst hD;exact⟨p,ack_e n p ⟨2,y,z⟩ h,fun q=>by cases q⟩
 rw[if_neg h]at hD;subst hD;refine⟨_,ack_ok n p ⟨2,y,z⟩ (by simpa using h) hs (by omega),fun _=>?_⟩;simp only[doP,Int.reduceEq,if_false,hst,false_and,or_self];rfl
theorem tA (n:Nw) (p:Ph) (y z:Int) (hst:settle (eK p.m ⟨3,y,z⟩)=eK p.m ⟨3,y,z⟩):DoC n p ⟨3,y,z⟩:=by
 have hD:eA n p.m ⟨3,y,z⟩=dM [if p.m.phase=0 then 0 else 22,if p.m.source=-1 then 0 else 17,if nbr n z p.m.serving=true then 0 else 6]:=by
  have:eA n p.m ⟨3,y,z⟩=if p.m.phase≠0 then 22 else if p.m.source≠-1 then 17 else if nbr n z p.m.serving=true then 0 else 6:=rfl
  rw[this];by_cases h1:p.m.phase=0 <;> by_cases h2:p.m.source=-1 <;> cases h3:nbr n z p.m.serving <;> simp[h1,h2,dM]
 unfold DoC;by_cases h:eA n p.m ⟨3,y,z⟩=0
 . rw[h];have h1:p.m.phase=0/\p.m.source=-1/\nbr n z p.m.serving=true:=by
    rw[h]at hD;by_cases h1:p.m.phase=0 <;> by_cases h2:p.m.source=-1 <;> cases h3:nbr n z p.m.serving <;> simp[h1,h2,h3,dM]at hD ⊢
   refine⟨_,tQ n p ⟨3,y,z⟩ h1.1 h1.2.1 h1.2.2,fun _=>?_⟩;simp only[doP,Int.reduceEq,if_false,hst,false_and,or_self];rfl
 . have hne:=h;rw[hD]at hne ⊢;exact⟨p,vq n p ⟨3,y,z⟩ hne,fun q=>absurd q hne⟩
theorem ur (n:Nw) (p:Ph) (y z:Int) (hst:settle (eK p.m ⟨4,y,z⟩)=eK p.m ⟨4,y,z⟩):DoC n p ⟨4,y,z⟩:=by
 have hD:eA n p.m ⟨4,y,z⟩=if p.m.phase≠1 then 22 else 0:=rfl
 unfold DoC;generalize eA n p.m ⟨4,y,z⟩=D at *;by_cases h:p.m.phase=1
 . rw[if_neg (fun q=>q h)]at hD;subst hD;refine⟨_,ui n p ⟨4,y,z⟩ h,fun _=>?_⟩;simp only[doP,Int.reduceEq,if_false,hst,false_and,or_self];rfl
 . rw[if_pos h]at hD;subst hD;exact⟨p,vU n p ⟨4,y,z⟩ h,fun q=>by cases q⟩
theorem tw (n:Nw) (p:Ph) (y z:Int) (hst:settle (eK p.m ⟨5,y,z⟩)=eK p.m ⟨5,y,z⟩):DoC n p ⟨5,y,z⟩:=by
 have hD:eA n p.m ⟨5,y,z⟩=if p.m.phase≠1 then 22 else 0:=rfl
 unfold DoC;generalize eA n p.m ⟨5,y,z⟩=D at *;by_cases h:p.m.phase=1
 . rw[if_neg (fun q=>q h)]at hD;subst hD;refine⟨_,tv n p ⟨5,y,z⟩ h,fun _=>?_⟩;simp only[doP,iS,Int.reduceEq,if_false,if_true,hst,false_and,true_or,or_self];rfl
 . rw[if_pos h]at hD;subst hD;exact⟨p,ul n p ⟨5,y,z⟩ h,fun q=>by cases q⟩
theorem su (n:Nw) (p:Ph) (y z:Int) (b:PhB p) (hy:0<=y/\y<=1000000000) (hst:settle (eK p.m ⟨6,y,z⟩)=eK p.m ⟨6,y,z⟩):DoC n p ⟨6,y,z⟩:=by
 have hD:eA n p.m ⟨6,y,z⟩=if p.m.phase≠2 then 22 else 0:=rfl
 have h3:=b.o1;have h4:=b.s1;unfold DoC;generalize eA n p.m ⟨6,y,z⟩=D at *;by_cases h:p.m.phase=2
 . rw[if_neg (fun q=>q h)]at hD;subst hD;refine⟨_,ss n p ⟨6,y,z⟩ h ⟨b.s0,by omega⟩ (fun _=>by simp only[InR];omega),fun _=>?_⟩;simp only[doP,Int.reduceEq,if_false,if_true,hst,false_and,or_self];rfl
 . rw[if_pos h]at hD;subst hD;exact⟨p,nS n p ⟨6,y,z⟩ h,fun q=>by cases q⟩
theorem do_fail (n:Nw) (p:Ph) (y z:Int) (hst:settle (eK p.m ⟨9,y,z⟩)=eK p.m ⟨9,y,z⟩):DoC n p ⟨9,y,z⟩:=by
 have hD:eA n p.m ⟨9,y,z⟩=if p.m.phase=3 then 22 else 0:=rfl
 unfold DoC;generalize eA n p.m ⟨9,y,z⟩=D at *;by_cases h:p.m.phase=3
 . rw[if_pos h]at hD;subst hD;exact⟨p,fail_e n p ⟨9,y,z⟩ h,fun q=>by cases q⟩
 . rw[if_neg h]at hD;subst hD;refine⟨_,fail_ok n p ⟨9,y,z⟩ h,fun _=>?_⟩;simp only[doP,iS,Int.reduceEq,if_false,if_true,hst,false_and,or_true,or_self];rfl
theorem do_pass (n:Nw) (p:Ph) (y z:Int) (hst:settle (eK p.m ⟨11,y,z⟩)=eK p.m ⟨11,y,z⟩):DoC n p ⟨11,y,z⟩:=by
 refine⟨_,vp n p ⟨11,y,z⟩,fun _=>?_⟩;simp only[doP,Int.reduceEq,if_false,hst,false_and,or_self];rfl
theorem do_turn (n:Nw) (p:Ph) (y z:Int) (hr:p.m.source≠-1->0<=p.m.source/\p.m.source.toNat < p.m.buf.length):DoC n p ⟨8,y,z⟩:=by
 have hD:eA n p.m ⟨8,y,z⟩=if p.m.source=-1 then 12 else if p.m.phase=3 then 22 else if p.m.path=p.m.serving then 26 else 0:=rfl
 unfold DoC;generalize eA n p.m ⟨8,y,z⟩=D at *;by_cases h1:p.m.source=-1
 . rw[if_pos h1]at hD;subst hD;exact⟨p,turn_e1 n p ⟨8,y,z⟩ h1,fun q=>by cases q⟩
 rw[if_neg h1]at hD;by_cases h2:p.m.phase=3
 . rw[if_pos h2]at hD;subst hD;exact⟨p,turn_e2 n p ⟨8,y,z⟩ h1 h2,fun q=>by cases q⟩
 rw[if_neg h2]at hD;by_cases h3:p.m.path=p.m.serving
 . rw[if_pos h3]at hD;subst hD;exact⟨p,turn_e3 n p ⟨8,y,z⟩ h1 h2 h3,fun q=>by cases q⟩
 rw[if_neg h3]at hD;subst hD;refine⟨_,turn_ok n p ⟨8,y,z⟩ h1 h2 h3 hr,fun _=>?_⟩;simp only[doP,Int.reduceEq,if_false,false_and,or_self];rfl
theorem tx (n:Nw) (p:Ph) (y z:Int) (hf:p.m.phase=2\/(p.m.phase=0/\¬ p.m.source=-1)->(0<=dW p.m/\(dW p.m).toNat < p.m.buf.length)/\(0<=toC p.m/\(toC p.m).toNat < p.m.buf.length)/\dW p.m≠toC p.m)
 (hs:(dQ p.m (toC p.m)).Pairwise (·<=·)) (hl:∀ c,(dQ p.m c).length<=60) (hr:p.m.source≠-1->0<=p.m.source/\p.m.source.toNat < p.m.buf.length):DoC n p ⟨7,y,z⟩:=by
 have hD:eA n p.m ⟨7,y,z⟩=if p.m.phase≠2/\(p.m.phase≠0\/p.m.source=-1)then 22 else if dQ p.m (dW p.m)=[]then 12 else 0:=rfl
 unfold DoC;generalize eA n p.m ⟨7,y,z⟩=D at *;by_cases h:p.m.phase≠2/\(p.m.phase≠0\/p.m.source=-1)
 . rw[if_pos h]at hD;subst hD;exact⟨p,tH n p ⟨7,y,z⟩ h.1 h.2,fun q=>by cases q⟩
 rw[if_neg h]at hD;have h':p.m.phase=2\/(p.m.phase=0/\¬ p.m.source=-1):=by omega
 obtain⟨f1,f2,f3⟩:=hf h';by_cases hb:dQ p.m (dW p.m)=[]
 . rw[if_pos hb]at hD;subst hD;exact⟨p,tI n p ⟨7,y,z⟩ h' f1 hb,fun q=>by cases q⟩
 rw[if_neg hb]at hD;subst hD;obtain⟨x,B,hx⟩:=qa hb;have hlB:=hl (dW p.m);have hlT:=hl (toC p.m);rw[hx]at hlB;simp only[zQ]at hlB;refine⟨_,tJ n p ⟨7,y,z⟩ h' f1 f2 f3 x B hx hs (by omega) (by omega) hr,fun _=>?_⟩;have ha:eK p.m ⟨7,y,z⟩={ p.m with buf:=(p.m.buf.set (toC p.m).toNat (gc (dQ p.m (toC p.m)) x)).set (dW p.m).toNat B }:=by
  simp only[eK,Int.reduceEq,if_true,if_false,hx,yc,List.tail_cons]
 simp only[doP,Int.reduceEq,if_false,ha,false_and,or_self]
theorem tC (n:Nw) (p:Ph) (y z:Int) (hc:isC n z=true) (hk:ConOk n p z y):DoC n p ⟨10,y,z⟩:=by
 have hz:=fS hc;have hD:eA n p.m ⟨10,y,z⟩=recE p ⟨10,y,z⟩:=by
  have:eA n p.m ⟨10,y,z⟩=if p.m.phase≠3 then 22 else if z≠p.m.serving/\(p.m.target=-1\/z≠p.m.target)/\(p.m.source=-1\/z≠p.m.source)then 6 else 0:=rfl
  rw[this,recE];simp only[List.any_cons,List.any_nil,Bool.or_false,zV,decide_eq_true_eq];by_cases h1:p.m.phase=3
  . rw[if_neg (fun q=>q h1),if_pos h1];simp only[dM,ne_eq,not_true_eq_false,if_false];by_cases h2:z=p.m.serving\/z=p.m.target\/z=p.m.source
    . rw[if_neg (by omega),if_pos h2];simp
    . rw[if_pos (by omega),if_neg h2];simp
  . rw[if_pos h1,if_neg h1];simp[dM]
 unfold DoC;by_cases h:recE p ⟨10,y,z⟩=0
 . rw[hD,h];have h1:p.m.phase=3/\([p.m.serving,p.m.target,p.m.source].any fun x=>decide (z=x))=true:=by
    unfold recE at h;by_cases h1:p.m.phase=3 <;> cases h2:([p.m.serving,p.m.target,p.m.source].any fun x=>decide (z=x))
    all_goals
     simp only[h1,if_true,if_false,dM]at h;simp only[h2]at h;simp at h
    exact⟨h1,rfl⟩
   refine⟨_,tR n p ⟨10,y,z⟩ h1.1 h1.2 hk,fun _=>?_⟩;simp only[doP,if_true]
 . rw[hD];exact⟨p,vw n p ⟨10,y,z⟩ h,fun q=>absurd q h⟩
structure PhK (k:Nat) (p:Ph):Prop where
 s0:0 < p.stays.length
 s1:p.stays.length<=2*k+1
 r1:p.recv.length<=k
 o1:-1<=p.out/\p.out<=1000000000
theorem vD (l:List T3) (t:Int):(jL l t).length=l.length:=by simp[jL]
theorem pB (l:List T3) (a b t:Int):l.length<=(chg l a b t).length/\(chg l a b t).length<=l.length+1:=by
 unfold chg;split
 . omega
 . simp[vD]
theorem qh (n:Nw) (p:Ph) (t:Int):(p.stays.length<=(eP n p t).stays.length/\(eP n p t).stays.length<=p.stays.length+1)/\(eP n p t).recv=p.recv/\((eP n p t).out=p.out\/(eP n p t).out=-1):=by
 unfold eP;split
 . exact⟨pB _ _ _ _,rfl,.inr rfl⟩
 . exact⟨by omega,rfl,.inl rfl⟩
theorem do_lens (p:Ph) (e:T3) (hy:0<=e.y/\e.y<=1000000000):(p.stays.length<=(doP p e).stays.length/\(doP p e).stays.length<=p.stays.length+1)/\(doP p e).recv.length<=p.recv.length+1/\(-1<=p.out/\p.out<=1000000000->-1<=(doP p e).out/\(doP p e).out<=1000000000):=by
 unfold doP;by_cases h:e.x=10
 . rw[if_pos h];exact⟨pB _ _ _ _,by show p.recv.length<=_;omega,fun _=>by show (-1:Int)<=-1/\(-1:Int)<=_;omega⟩
 . rw[if_neg h];refine⟨?_,?_,fun ho=>?_⟩
   . by_cases h6:e.x=6
     . simp only[h6,if_true];exact pB _ _ _ _
     . simp only[h6,if_false];omega
   . by_cases h6:e.x=1/\(dQ p.m p.m.serving).headD 0=p.m.got
     . simp only[h6,and_self,if_true,zK,zQ,yh];omega
     . simp only[h6,if_false];omega
   . show -1<=(if _ then _ else _:Int)/\(if _ then _ else _:Int)<=_
     split
     . split <;> omega
     . split <;> omega
theorem PhK.apply {n:Nw} {k:Nat} {p:Ph} {e:T3} (h:PhK k p) (hy:0<=e.y/\e.y<=1000000000):PhK (k+1) (kL n p e):=by
 have h1:=qh n p e.y;have h2:=do_lens (eP n p e.y) e hy;have h3:=h.s0;have h4:=h.s1;have h5:=h.r1;have h6:=h.o1;rw[h1.2.1]at h2;refine⟨?_,?_,?_,h2.2.2 ?_⟩
 . show 0 < (doP (eP n p e.y) e).stays.length;omega
 . show (doP (eP n p e.y) e).stays.length<=_;omega
 . show (doP (eP n p e.y) e).recv.length<=_;omega
 . rcases h1.2.2 with q | q <;> rw[q] <;> omega
theorem ev_ok {n:Nw} {e:T3} (h:evE n e=0):(0<=e.x/\e.x<=11)/\(0<=e.y/\e.y<=1000000000)/\(iN e.x=true->isC n e.z=true):=by
 unfold evE at h;by_cases h1:0<=e.x/\e.x<=11
 . rw[if_neg (by simp[h1])]at h;by_cases h2:eM e.y=true
   . rw[if_neg (by simp[h2])]at h;simp only[eM,decide_eq_true_eq]at h2;refine⟨h1,h2,fun q=>?_⟩;rw[if_pos q]at h;rcases Classical.em (isC n e.z=true)with q2 | q2
     . exact q2
     . rw[if_neg q2]at h;cases h
   . rw[if_pos (by simpa using h2)]at h;cases h
 . rw[if_pos (by simpa using h1)]at h;cases h
theorem apply_c (n:Nw) (p:Ph) (e:T3) (k:Nat) (hn:NwS n) (net:NetOk n) (g:dP n p.m) (b:PhK k p) (hk:k<=400000) :
 ∃ q,FC Tryz.prog 118 [.ptr 100000 0,enc e] (phX n p) (enc (gi n p.m e)) (phX n q)/\(gi n p.m e=0->q=kL n p e):=by
 by_cases hfr:ie n p.m e=0
 . have hev:evE n e=0:=by
    rcases Classical.em (evE n e=0)with q | q
    . exact q
    . rw[ie,if_pos q]at hfr;exact absurd hfr q
   have hat:p.m.at_<=e.y:=by
    rw[ie,if_neg (by simp[hev])]at hfr;rcases Classical.em (e.y < p.m.at_)with q | q
    . rw[if_pos q]at hfr;cases hfr
    . omega
   obtain⟨hx,hy,hcz⟩:=ev_ok hev;have hE:gi n p.m e=eA n (lB n p.m e.y) e:=by
    rw[gi,if_neg (by simp[hev]),qV,if_neg (by omega)]
   have hE2:eA n (lB n p.m e.y) e=eA n (eP n p e.y).m e:=by
    rw[pJ];rfl
   have G:=dP.pass net g hat hy.2;have b1:PhB (eP n p e.y):=by
    have h1:=qh n p e.y;have h3:=b.s0;have h4:=b.s1;have h5:=b.r1;have h6:=b.o1;refine⟨by omega,by omega,by rw[h1.2.1];omega,?_⟩;rcases h1.2.2 with q | q <;> rw[q] <;> omega
   have hm:({ (eP n p e.y).m with at_:=e.y }:Ms)=lB n p.m e.y:=by rw[pJ];rfl
   have hsi:=g.since;have hai:=g.at_;have hli:=net.lim;have b0:PhB p:=by
    have h3:=b.s0;have h4:=b.s1;have h5:=b.r1;exact⟨h3,by omega,by omega,b.o1⟩
   have hdo:DoC n (eP n p e.y) e:=by
    rw[<- hm]at G;generalize eP n p e.y=p1 at *;have hle:=net.len;have hlen:p1.m.buf.length=n.cells.length:=G.len;have hpth:isC n p1.m.path=true:=G.pth;have hsrv:isC n p1.m.serving=true:=G.srv;have hsrc:p1.m.source≠-1->isC n p1.m.source=true:=G.src;have htgt:p1.m.target≠-1->isC n p1.m.target=true:=G.tgt;have hc1:p1.m.target≠-1->nbr n p1.m.target p1.m.serving=true:=G.c1;have hc2:p1.m.source≠-1->nbr n p1.m.source p1.m.serving=true:=G.c2;have hf2:p1.m.target=-1->p1.m.phase≠1/\p1.m.phase≠2:=G.f2;have hf3:p1.m.source≠-1->p1.m.phase≠1/\p1.m.phase≠2/\p1.m.target=-1:=G.f3;have hf4:p1.m.path≠p1.m.serving->p1.m.source≠-1/\p1.m.path=p1.m.source:=G.f4;have hbusy:p1.m.source≠-1->p1.m.path=p1.m.serving->dQ p1.m p1.m.source≠[]:=G.busy;have hlarge:p1.m.buf.flatten.length<=60:=G.large;have hfresh:0<=p1.m.fresh/\p1.m.fresh<=1000000:=G.fresh;have hgot:0<=p1.m.got/\p1.m.got<=p1.m.fresh:=G.got;have hbl:∀ c,(dQ p1.m c).length<=60:=fun c=>ap_len G.toG0 c
    have hasc:∀ c,(dQ p1.m c).Pairwise (·<=·):=fun c=>qr (G.toG0.asc_at c.toNat)
    have ix:∀ {c:Int},isC n c=true->0<=c/\c.toNat < p1.m.buf.length:=fun h=>by
     have:=fS h;omega
    clear hE hE2 hm;have hst:(e.x=6->p1.m.phase=2)->e.x≠7->e.x≠8->settle (eK p1.m e)=eK p1.m e:=fun h6 h7 h8=>by
     refine tV net hlen hpth hsrv hsrc htgt hc1 hc2 hbusy (fun q=>?_) hx h7 h8;have h2:=h6 q;have ht:p1.m.target≠-1:=fun q2=>(hf2 q2).2 h2
     refine⟨ht,?_⟩;rcases Classical.em (p1.m.path=p1.m.serving)with q2 | q2
     . exact q2
     . exact absurd h2 (hf3 (hf4 q2).1).2.1
    obtain⟨x,y,z⟩:=e;simp only at hx hy hcz hst;have hxs:x=0\/x=1\/x=2\/x=3\/x=4\/x=5\/x=6\/x=7\/x=8\/x=9\/x=10\/x=11:=by omega
    rcases hxs with q | q | q | q | q | q | q | q | q | q | q | q <;> subst q
    . exact do_data n p1 y z hlarge (by omega) (ix hpth) hfresh (hbl _) (hst (by omega) (by omega) (by omega))
    . exact do_send n p1 y z (ix hsrv) (by omega) b1.r1 (hst (by omega) (by omega) (by omega))
    . exact do_ack n p1 y z (ix hsrv) (hbl _) (hst (by omega) (by omega) (by omega))
    . exact tA n p1 y z (hst (by omega) (by omega) (by omega))
    . exact ur n p1 y z (hst (by omega) (by omega) (by omega))
    . exact tw n p1 y z (hst (by omega) (by omega) (by omega))
    . by_cases h2:p1.m.phase=2
      . exact su n p1 y z b1 hy (hst (fun _=>h2) (by omega) (by omega))
      . have hD:eA n p1.m ⟨6,y,z⟩=22:=by
         show (if p1.m.phase≠2 then (22:Int)else 0)=22
         rw[if_pos h2]
        unfold DoC;rw[hD];exact⟨p1,nS n p1 ⟨6,y,z⟩ h2,fun q=>by cases q⟩
    . refine tx n p1 y z (fun h=>?_) (hasc _) hbl (fun q=>ix (hsrc q));by_cases h2:p1.m.phase=2
      . have ht:p1.m.target≠-1:=fun q2=>(hf2 q2).2 h2
        rw[dW,toC,if_pos h2,if_pos h2];exact⟨ix hsrv,ix (htgt ht),fun h=>net.ne _ _ (hc1 ht) h.symm⟩
      . have hs:p1.m.source≠-1:=by
         rcases h with h | h
         . exact absurd h h2
         . exact h.2
        rw[dW,toC,if_neg h2,if_neg h2];exact⟨ix (hsrc hs),ix hsrv,net.ne _ _ (hc2 hs)⟩
    . exact do_turn n p1 y z (fun q=>ix (hsrc q))
    . exact do_fail n p1 y z (hst (by omega) (by omega) (by omega))
    . have hc:=hcz (by simp[iN]);exact tC n p1 y z hc (ry hn net hlen hlarge b1 hc (by omega))
    . exact do_pass n p1 y z (hst (by omega) (by omega) (by omega))
   obtain⟨q,hq,hq2⟩:=hdo;refine⟨if eA n (eP n p e.y).m e=0 then atP q e.y else q,?_,fun h=>?_⟩
   . rw[hE,hE2];exact apply_k n p e hn hev hat (by simp only[InR];omega) (fun _=>ry hn net g.len g.large b0 (by simp only[isC,decide_eq_true_eq];have:=net.len;omega) (by omega)) q _ hx hq
   . rw[hE,hE2]at h;rw[if_pos h,hq2 h];rfl
 . have hE:gi n p.m e=ie n p.m e:=by
    unfold gi ie qV;by_cases h:evE n e≠0
    . rw[if_pos h,if_pos h]
    . rw[if_neg h,if_neg h];by_cases h2:e.y < p.m.at_
      . rw[if_pos h2,if_pos h2]
      . exfalso
        rw[ie,if_neg h,if_neg h2]at hfr;exact hfr rfl
   rw[hE];exact⟨p,apply_e n p e hn hfr,fun h=>absurd h hfr⟩
def phY (n:Nw) (p:Ph) (a b:Nat):Chs:=[(a,.box (phC n p b)),(b,.deep 1 3 24 none (fP p.m.buf))]
end Go.Proofs.YtcbabnbiinkafaaGreatDoor
end
