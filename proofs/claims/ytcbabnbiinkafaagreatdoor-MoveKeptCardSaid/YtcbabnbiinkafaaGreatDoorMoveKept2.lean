/- Part 2 of the proof of: MoveKept returns true for every input and never panics: behind an event every packet not yet received stands in one cell and in one only, and the state is right; conditions: those of the given statement, that the package variables it lists hold what their initialisers lay. -/
import Derived.Test.YtcbabnbiinkafaaGreatDoorMoveKept1
set_option linter.all false
section
open Go Go.Am
open Go.Am.Dat (cells)
namespace Go.Proofs.YtcbabnbiinkafaaGreatDoor
set_option maxHeartbeats 4000000
set_option maxRecDepth 100000
theorem where_c (m:Ms) (k:Nat) (v:Int) (h1:m.buf.length<=1000000) (h2:k<=m.buf.length):FC Tryz.prog 117 [enc m,.s (.int .i64 (k:Int)),enc v] [] (enc (xl v 0 (m.buf.take k))) []:=by
 refine dD [] is117 (by simp) trivial trivial trivial trivial (fun cx _ hl _=>dC [] 800 ?_);have hLl:(m.buf.take k).length=k:=by rw[List.length_take];omega
 have hLg:∀ i,i < k->(m.buf.take k).getD i []=m.buf.getD i []:=fun i hi=>by
  rw[zb,zb,ya,if_pos hi]
 generalize hT:xl v 0 (m.buf.take k)=T at *;generalize m.buf.take k=L at *;delta c117 oS oK oV oX o7;simp (maxSteps:=9^7) -implicitDefEqProofs only[Al,kN,WU,Ent.of0,Ent.of1,Ent.of2,Ent.of3,Ent.of4,V,W3,↓reduceIte,seval,reduceCtorEq];refine eN k (fun i=>[(7,.s (.int .i64 (i:Int)))]) (fun _=>[]) (fun i=>T=xl v i (L.drop i)) (by simp[hT]) ?_ (fun i hi hv=>dC [yO] 800 ?_)
 . simp (maxSteps:=9^7) -implicitDefEqProofs only[Ent.of0,Ent.of1,Ent.of2,Ent.of3,Ent.of4,V,W3,↓reduceIte,seval,reduceCtorEq]
   all_goals simp
 . by_cases h:i < k
   . have hi2:(i:Int) < (k:Int):=by omega
     have hi3:(i:Int) < (m.buf.length:Int):=by omega
     have h':i < m.buf.length:=by omega
     have hi0:(0:Int)<=i:=by omega
     have hgx:List.getD (m.buf.map Dat.cells) i [C.sl 0 []]=[C.sl 1 ((m.buf.getD i []).map Dat.cells)]:=by
      rw[zb,zb,zh,ze h'];rfl
     have hd:=eg (d:=[]) (show i < L.length by omega);rw[hd,hLg i h,xl]at hv;generalize m.buf.getD i []=p at *;cases hx:p.any fun x=>decide (x=v)
     all_goals
      rw[hx]at hv;simp only[if_true,if_false,zr]at hv;delta As oO oN oA oM oR oS oK oF oL oC oI oX oB o0;simp (maxSteps:=9^7) -implicitDefEqProofs only[Al,yO,hi0,hi2,hi3,h,h',hgx,hx,InR,WU,Ent.of0,Ent.of1,Ent.of2,Ent.of3,Ent.of4,V,W3,↓reduceIte,seval,reduceCtorEq]
      first | exact hv.symm | exact⟨by omega,h,hv,by omega⟩ | exact⟨by omega,hv,by omega⟩
   . have hi2:¬ (i:Int) < (k:Int):=by omega
     have hd:L.drop i=[]:=zv (by omega);rw[hd,xl]at hv;delta As oO oN oA oM oR oS oK oF oL oC oI oX oB o0;simp (maxSteps:=9^7) -implicitDefEqProofs only[Al,yO,hi2,WU,Ent.of0,Ent.of1,Ent.of2,Ent.of3,Ent.of4,V,W3,↓reduceIte,seval,reduceCtorEq];exact hv.symm
def yY (n:Nw) (m:Ms) (e:T3):Ms:=if gi n m e≠0 then ms0 else rf n m e
theorem dP.gap60 {n:Nw} {m:Ms} (g:dP n m):m.fresh - m.got<=60:=by
 have key:∀ (k:Nat) (l:List Int) (a:Int),(∀ x,a<=x->x < a+k->x∈l)->k<=l.length:=by
  intro k
  induction k with
  | zero=>intros;omega
  | succ k ih=>
   intro l a h;have h0:a∈l:=h a (by omega) (by omega);have h1:=ih (l.erase a) (a+1) (fun x h1 h2=>(List.mem_erase_of_ne (by omega)).2 (h x (by omega) (by push_cast;omega)));have h2:=List.length_erase_of_mem h0;have h3:=List.length_pos_of_mem h0;omega
 have:=key (m.fresh - m.got).toNat m.buf.flatten m.got (fun x h1 h2=>g.gap x h1 (by omega));have:=g.large;have:=g.got;omega
theorem Aa (n:Nw) (p:Ph) (c:Int) (h:NwS n):FC Tryz.prog 145 [.ptr 100000 0,enc c] (phX n p) (enc (isC n c)) (phX n p):=by
 have hb:=h.c;refine dD [100001] is145 (by simp) (dR n p) (dE n p) (dE n p) (dI n p p) (fun cx _ hl _=>dC [eZ] 1200 ?_);delta c145 oO oN oM oF oL oC oX oB o4 o6 o9;simp (maxSteps:=9^7) -implicitDefEqProofs only[rv145,phX,phC,eZ,isC,InR,WU,Ent.of0,Ent.of1,Ent.of2,Ent.of3,Ent.of4,V,W3,↓reduceIte,seval,reduceCtorEq];omega
def Ay (n:Nw) (p:Ph) (c:Int) (h:NwS n):Ent Tryz.prog:=eq 145 n p p [.ptr 100000 0,enc c] (enc (isC n c)) trivial (Aa n p c h)
theorem Bg (m:Ms):(settle m).got=m.got:=by
 unfold Go.Proofs.YtcbabnbiinkafaaGreatDoor.settle;split <;> rfl
theorem Bt (n:Nw) (m:Ms) (t:Int):(qN n m t).got=m.got:=by unfold qN;split <;> rfl
theorem got_act (m:Ms) (e:T3):(eK m e).got=if e.x=1/\(dQ m m.serving).headD 0=m.got then m.got+1 else m.got:=by
 unfold eK;by_cases h:e.x=1
 . simp only[h,Int.reduceEq,if_true,if_false,true_and];split <;> rfl
 . simp only[h,false_and,if_false]
   repeat' split
   all_goals rfl
structure Rw where
 m:Ms
 st:List T3
 ouw:List Gs
def hiTo (l:List Gs) (t:Int):List Gs:=l.set (l.length - 1) ⟨(l.getD (l.length - 1) ⟨0,0⟩).re,t⟩
def AK (n:Nw) (w:Rw) (t:Int):Rw:=
 if jJ n w.m t=true then ⟨qN n w.m t,chg w.st w.m.serving (qN n w.m t).serving (w.m.since+n.limit),hiTo w.ouw (w.m.since+n.limit)⟩else w
def xW (b:Rw) (x:Ms) (t:Int):Rw:=
 ⟨x,chg b.st b.m.serving x.serving t,
  let o:=if ej b.m=false/\ej x=true then b.ouw++[⟨t,0⟩]else b.ouw
  if ej b.m=true/\ej x=false then hiTo o t else o⟩
def rwStep (n:Nw) (w:Rw) (e:T3):Rw:=xW (AK n w e.y) (rf n w.m e) e.y
def xZ (l:List Gs):Int:=l.foldl (fun a o=>max a (o.im - o.re)) 0
theorem Ac (l:List Gs) (o:Gs):xZ (l++[o])=max (xZ l) (o.im - o.re):=by simp[xZ]
theorem Ab (l:List Gs) (o:Gs) (t:Int):hiTo (l++[o]) t=l++[⟨o.re,t⟩]:=by
 unfold hiTo;have h1:(l++[o]).length - 1=l.length:=by simp
 rw[h1];have h2:(l++[o]).getD l.length ⟨0,0⟩=o:=by simp[zb]
 rw[h2,List.set_append_right _ _ (zw _)];simp
structure RwOk (n:Nw) (p:Ph) (w:Rw):Prop where
 m:w.m=p.m
 st:w.st=p.stays
 no:ej p.m=false->p.out=-1/\xZ w.ouw=p.longest
 yes:ej p.m=true->p.out=p.m.since/\∃ l,w.ouw=l++[⟨p.out,0⟩]/\xZ l=p.longest
 lim:p.longest<=n.limit
 nnw:0<=p.longest
theorem Ap {o l t:Int} (h:0<=o):kW o l t=max l (t - o):=by unfold kW;rw[if_neg (by omega)]
theorem RwOk.pass {n:Nw} {p:Ph} {w:Rw} (hn:NetOk n) (r:RwOk n p w) (hs:0<=p.m.since) (t:Int):RwOk n (eP n p t) (AK n w t):=by
 unfold eP AK;rw[r.m];by_cases h:jJ n p.m t=true
 . rw[if_pos h,if_pos h];have ha:ej p.m=true:=by simp only[jJ,zm]at h;exact h.1
   obtain⟨ho,l,hl,hL⟩:=r.yes ha;have hbk:=Ap (o:=p.out) (l:=p.longest) (t:=p.m.since+n.limit) (by omega);have hP:qN n p.m t=iP p.m 0 (p.m.since+n.limit):=by unfold qN;rw[if_pos h]
   have h1:=r.lim;have h2:=r.nnw;refine⟨hP,by rw[hP,r.st];rfl,fun _=>⟨rfl,?_⟩,fun q=>by simp[ej,lg,iP]at q,?_,?_⟩
   . show xZ (hiTo w.ouw _)=kW _ _ _
     rw[hl,Ab,Ac,hL,hbk]
   . show kW _ _ _<=_
     rw[hbk];omega
   . show 0<=kW _ _ _
     rw[hbk];omega
 . rw[if_neg h,if_neg h];exact r
theorem xi (l:List T3) (a t:Int):chg l a a t=l:=by unfold chg;rw[if_pos rfl]
theorem xG (m:Ms):(settle m).serving=m.serving/\(settle m).phase=m.phase/\(settle m).since=m.since:=by
 unfold Go.Proofs.YtcbabnbiinkafaaGreatDoor.settle;split <;> exact⟨rfl,rfl,rfl⟩
theorem away_eq {m k:Ms} (h:m.phase=k.phase):ej m=ej k:=by unfold ej;rw[h]
theorem AS (m:Ms):ej (settle m)=ej m:=away_eq (xG m).2.1
theorem RwOk.act {n:Nw} {p:Ph} {w:Rw} {e:T3} (hn:NetOk n) (r:RwOk n p w) (hk:0<=e.x/\e.x<=11) (hy:0<=e.y) (hs:0<=p.m.since) (hdue:ej p.m=true->e.y < p.m.since+n.limit) (hd:eA n p.m e=0) {x:Ms} (hx:x=(atP (doP p e) e.y).m) :
 RwOk n (atP (doP p e) e.y) (xW w x e.y):=by
 obtain⟨wmw,ws,wow⟩:=w;obtain⟨r1,r2,r3,r4,r5,r6⟩:=r;simp only at r1 r2 r3 r4 r5 r6;subst r1 r2;have hA:ej x=ej (doP p e).m:=by rw[hx];rfl
 have hS:x.serving=(doP p e).m.serving:=by rw[hx];rfl
 have hI:(atP (doP p e) e.y).m.since=(doP p e).m.since:=rfl;have hW:ej (atP (doP p e) e.y).m=ej (doP p e).m:=rfl;have key:(chg p.stays p.m.serving x.serving e.y=(doP p e).stays) ->
  (ej p.m=false->ej (doP p e).m=false->(doP p e).out=p.out/\(doP p e).longest=p.longest) ->
  (ej p.m=false->ej (doP p e).m=true->(doP p e).out=e.y/\(doP p e).m.since=e.y/\(doP p e).longest=p.longest) ->
  (ej p.m=true->ej (doP p e).m=true->(doP p e).out=p.out/\(doP p e).m.since=p.m.since/\(doP p e).longest=p.longest) ->
  (ej p.m=true->ej (doP p e).m=false->(doP p e).out=-1/\(doP p e).longest=kW p.out p.longest e.y) ->
  RwOk n (atP (doP p e) e.y) (xW ⟨p.m,p.stays,wow⟩ x e.y):=by
  intro k0 k1 k2 k3 k4;cases ha:ej p.m <;> cases hb:ej (doP p e).m
  . obtain⟨q1,q2⟩:=k1 ha hb;obtain⟨s1,s2⟩:=r3 ha;refine⟨hx,k0,fun _=>⟨q1.trans s1,?_⟩,fun q=>(by rw[hW,hb]at q;cases q),?_,?_⟩
    . show xZ (xW _ _ _).ouw=(doP p e).longest
      simp only[xW,ha,hA,hb,zr,and_false,false_and,if_false];rw[s2,q2]
    . show (doP p e).longest<=_;omega
    . show 0<=(doP p e).longest;omega
  . obtain⟨q1,q2,q3⟩:=k2 ha hb;obtain⟨s1,s2⟩:=r3 ha;refine⟨hx,k0,fun q=>(by rw[hW,hb]at q;cases q),fun _=>⟨?_,wow,?_,?_⟩,?_,?_⟩
    . show (doP p e).out=(doP p e).m.since;omega
    . show (xW _ _ _).ouw=wow++[⟨(doP p e).out,0⟩]
      simp only[xW,ha,hA,hb,zr,ym,and_false,and_true,false_and,and_self,if_false,if_true];rw[q1]
    . show xZ wow=(doP p e).longest
      rw[s2,q3]
    . show (doP p e).longest<=_;omega
    . show 0<=(doP p e).longest;omega
  . obtain⟨q1,q2⟩:=k4 ha hb;obtain⟨s1,l,s2,s3⟩:=r4 ha;have hbk:=Ap (o:=p.out) (l:=p.longest) (t:=e.y) (by omega);have hdd:=hdue ha;refine⟨hx,k0,fun _=>⟨q1,?_⟩,fun q=>(by rw[hW,hb]at q;cases q),?_,?_⟩
    . show xZ (xW _ _ _).ouw=(doP p e).longest
      simp only[xW,ha,hA,hb,zr,ym,and_false,and_true,false_and,and_self,if_false,if_true];rw[s2,Ab,Ac,s3,q2,hbk]
    . show (doP p e).longest<=_;rw[q2,hbk];omega
    . show 0<=(doP p e).longest;rw[q2,hbk];omega
  . obtain⟨q1,q2,q3⟩:=k3 ha hb;obtain⟨s1,l,s2,s3⟩:=r4 ha;refine⟨hx,k0,fun q=>(by rw[hW,hb]at q;cases q),fun _=>⟨?_,l,?_,?_⟩,?_,?_⟩
    . show (doP p e).out=(doP p e).m.since;omega
    . show (xW _ _ _).ouw=l++[⟨(doP p e).out,0⟩]
      simp only[xW,ha,hA,hb,zr,ym,and_false,and_true,false_and,and_self,if_false,if_true];rw[s2,q1]
    . show xZ l=(doP p e).longest
      rw[s3,q3]
    . show (doP p e).longest<=_;omega
    . show 0<=(doP p e).longest;omega
 by_cases h10:e.x=10
 . have h3:p.m.phase=3:=by
    unfold eA at hd;simp only[h10,Int.reduceEq,if_true,if_false]at hd;rcases Classical.em (p.m.phase=3)with q | q
    . exact q
    . rw[if_pos q]at hd;cases hd
   have hD:doP p e=lg p e.z e.y:=by unfold doP;rw[if_pos h10]
   have ha:ej p.m=true:=by simp[ej,h3]
   refine key (by rw[hS,hD];rfl) (fun q=>(by rw[ha]at q;cases q)) (fun q=>(by rw[ha]at q;cases q)) (fun _ q=>(by rw[hD]at q;simp[ej,lg,iP]at q)) (fun _ _=>by rw[hD];exact⟨rfl,rfl⟩)
 . have hD:doP p e={ m:=settle (eK p.m e),recv:=if e.x=1/\(dQ p.m p.m.serving).headD 0=p.m.got then p.recv++[p.m.got]else p.recv,stays:=if e.x=6 then chg p.stays p.m.serving p.m.target e.y else p.stays,out:=if e.x=5\/e.x=9 then (if p.out=-1 then e.y else p.out)else if e.x=6 then -1 else p.out,longest:=if e.x=6 then kW p.out p.longest e.y else p.longest }:=by
    unfold doP;rw[if_neg h10]
   have hm:(doP p e).m=settle (eK p.m e):=by rw[hD]
   have hsv:(doP p e).m.serving=(eK p.m e).serving:=by rw[hm];exact (xG _).1
   have haw:ej (doP p e).m=ej (eK p.m e):=by rw[hm];exact AS _
   have hsi:(doP p e).m.since=(eK p.m e).since:=by rw[hm];exact (xG _).2.2
   have hst:(doP p e).stays=if e.x=6 then chg p.stays p.m.serving p.m.target e.y else p.stays:=by rw[hD]
   have hou:(doP p e).out=if e.x=5\/e.x=9 then (if p.out=-1 then e.y else p.out)else if e.x=6 then -1 else p.out:=by rw[hD]
   have hlo:(doP p e).longest=if e.x=6 then kW p.out p.longest e.y else p.longest:=by rw[hD]
   rw[hS,hst,hou,hlo,haw,hsi,hsv]at key;clear hD hm hst hou hlo hS hA hI hW hsv haw hsi;unfold eK at key;unfold eA at hd;have hph:ej p.m=true↔p.m.phase=2\/p.m.phase=3:=by simp[ej]
   have hpf:ej p.m=false↔¬ (p.m.phase=2\/p.m.phase=3):=by rw[<- hph];simp
   have k:e.x=0\/e.x=1\/e.x=2\/e.x=3\/e.x=4\/e.x=5\/e.x=6\/e.x=7\/e.x=8\/e.x=9\/e.x=11:=by omega
   rcases k with k | k | k | k | k | k | k | k | k | k | k <;> rw[k]at hd key <;> simp only[Int.reduceEq,if_true,if_false,or_false,false_or,or_true,or_self]at hd key
   ·
    refine key (xi _ _ _) (fun _ _=>⟨by trivial,by trivial⟩) (fun q1 q2=>absurd (q1.symm.trans q2) (by decide)) (fun _ _=>⟨by trivial,by trivial,by trivial⟩) (fun q1 q2=>absurd (q2.symm.trans q1) (by decide))
   ·
    by_cases hq:(dQ p.m p.m.serving).headD 0=p.m.got
    . rw[if_pos hq]at key;refine key (xi _ _ _) (fun _ _=>⟨by trivial,by trivial⟩) (fun q1 q2=>absurd (q1.symm.trans q2) (by decide)) (fun _ _=>⟨by trivial,by trivial,by trivial⟩) (fun q1 q2=>absurd (q2.symm.trans q1) (by decide))
    . rw[if_neg hq]at key;refine key (xi _ _ _) (fun _ _=>⟨by trivial,by trivial⟩) (fun q1 q2=>absurd (q1.symm.trans q2) (by decide)) (fun _ _=>⟨by trivial,by trivial,by trivial⟩) (fun q1 q2=>absurd (q2.symm.trans q1) (by decide))
   ·
    refine key (xi _ _ _) (fun _ _=>⟨by trivial,by trivial⟩) (fun q1 q2=>absurd (q1.symm.trans q2) (by decide)) (fun _ _=>⟨by trivial,by trivial,by trivial⟩) (fun q1 q2=>absurd (q2.symm.trans q1) (by decide))
   ·
    have h0:p.m.phase=0:=by
     rcases Classical.em (p.m.phase=0)with q | q
     . exact q
     . rw[if_pos q]at hd;cases hd
    refine key (xi _ _ _) (fun _ _=>⟨by trivial,by trivial⟩) (fun _ q2=>by simp[ej]at q2) (fun q=>(by rw[hph]at q;omega)) (fun q=>(by rw[hph]at q;omega))
   ·
    have h0:p.m.phase=1:=by
     rcases Classical.em (p.m.phase=1)with q | q
     . exact q
     . rw[if_pos q]at hd;cases hd
    refine key (xi _ _ _) (fun _ _=>⟨by trivial,by trivial⟩) (fun _ q2=>by simp[ej]at q2) (fun q=>(by rw[hph]at q;omega)) (fun q=>(by rw[hph]at q;omega))
   ·
    have h0:p.m.phase=1:=by
     rcases Classical.em (p.m.phase=1)with q | q
     . exact q
     . rw[if_pos q]at hd;cases hd
    refine key (xi _ _ _) (fun _ q=>by simp[ej]at q) (fun q _=>⟨by rw[if_pos (r3 q).1],by trivial,by trivial⟩) (fun q=>(by rw[hph]at q;omega)) (fun q=>(by rw[hph]at q;omega))
   ·
    have h0:p.m.phase=2:=by
     rcases Classical.em (p.m.phase=2)with q | q
     . exact q
     . rw[if_pos q]at hd;cases hd
    refine key (by trivial) (fun q=>(by rw[hpf]at q;omega)) (fun q=>(by rw[hpf]at q;omega)) (fun _ q=>by simp[ej]at q) (fun _ _=>⟨by trivial,by trivial⟩)
   ·
    refine key (xi _ _ _) (fun _ _=>⟨by trivial,by trivial⟩) (fun q1 q2=>absurd (q1.symm.trans q2) (by decide)) (fun _ _=>⟨by trivial,by trivial,by trivial⟩) (fun q1 q2=>absurd (q2.symm.trans q1) (by decide))
   ·
    refine key (xi _ _ _) (fun _ _=>⟨by trivial,by trivial⟩) (fun q1 q2=>absurd (q1.symm.trans q2) (by decide)) (fun _ _=>⟨by trivial,by trivial,by trivial⟩) (fun q1 q2=>absurd (q2.symm.trans q1) (by decide))
   ·
    have h3:p.m.phase≠3:=fun q=>by rw[if_pos q]at hd;cases hd
    refine key (xi _ _ _) (fun _ q=>by simp[ej]at q) (fun q _=>⟨by rw[if_pos (r3 q).1],?_,by trivial⟩) (fun q _=>⟨?_,?_,by trivial⟩) (fun _ q=>by simp[ej]at q)
    . rw[hpf]at q;show (if p.m.phase=2 then p.m.since else e.y)=e.y
      rw[if_neg (by omega)]
    . have:=(r4 q).1;rw[if_neg (by omega)]
    . rw[hph]at q;show (if p.m.phase=2 then p.m.since else e.y)=p.m.since
      rw[if_pos (by omega)]
   ·
    refine key (xi _ _ _) (fun _ _=>⟨by trivial,by trivial⟩) (fun q1 q2=>absurd (q1.symm.trans q2) (by decide)) (fun _ _=>⟨by trivial,by trivial,by trivial⟩) (fun q1 q2=>absurd (q2.symm.trans q1) (by decide))
abbrev t0 : T3:=⟨0,0,0⟩
structure Chn (n:Nw) (l:List T3) (c t:Int):Prop where
 ne:0 < l.length
 last:(l.getD (l.length - 1) t0).x=c/\(l.getD (l.length - 1) t0).y<=t
 cell:∀ i,i < l.length->isC n (l.getD i t0).x=true/\0<=(l.getD i t0).y/\(l.getD i t0).y<=t
 nxw:∀ i,i+1 < l.length->(l.getD i t0).y<=(l.getD i t0).z/\(l.getD i t0).z=(l.getD (i+1) t0).y/\(l.getD (i+1) t0).x≠(l.getD i t0).x
theorem Chn.later {n:Nw} {l:List T3} {c t u:Int} (h:Chn n l c t) (hu:t<=u):Chn n l c u:=
 ⟨h.ne,⟨h.last.1,by have:=h.last.2;omega⟩,fun i hi=>by have:=h.cell i hi;exact⟨this.1,this.2.1,by omega⟩,h.nxw⟩
theorem Bs (l:List T3) (i j:Nat) (v:T3):(l.set i v).getD j t0=if i=j/\j < l.length then v else l.getD j t0:=by
 rw[zb,zb,zJ];by_cases h:i=j
 . subst h;by_cases h2:i < l.length
   . simp[h2]
   . simp[h2]
 . simp[h]
theorem Be (l:List T3) (j:Nat) (v:T3):(l++[v]).getD j t0=if j < l.length then l.getD j t0 else if j=l.length then v else t0:=by
 rw[zb,zb,zS];by_cases h:j < l.length
 . rw[if_pos h,if_pos h]
 . rw[if_neg h,if_neg h];by_cases h2:j=l.length
   . subst h2;simp
   . rw[if_neg h2];have:j - l.length=(j - l.length - 1)+1:=by omega
     rw[this];simp
theorem Bh (l:List T3) (t:Int) (j:Nat):(jL l t).getD j t0=if j=l.length - 1/\j < l.length then ⟨(l.getD j t0).x,(l.getD j t0).y,t⟩else l.getD j t0:=by
 unfold jL;rw[Bs];by_cases h:l.length - 1=j/\j < l.length
 . rw[if_pos h,if_pos ⟨h.1.symm,h.2⟩,<- h.1]
 . rw[if_neg h,if_neg (fun q=>h ⟨q.1.symm,q.2⟩)]
theorem Chn.chg {n:Nw} {l:List T3} {c d t:Int} (h:Chn n l c t) (ht:0<=t) (hd:isC n d=true):Chn n (chg l c d t) d t:=by
 unfold Go.Proofs.YtcbabnbiinkafaaGreatDoor.chg;by_cases hcd:c=d
 . rw[if_pos hcd];subst hcd;exact h
 rw[if_neg hcd];have hne:=h.ne;have hl:(jL l t).length=l.length:=vC l t;have hg:∀ j,(jL l t++[(⟨d,t,0⟩:T3)]).getD j t0=if j < l.length then (if j=l.length - 1 then ⟨(l.getD j t0).x,(l.getD j t0).y,t⟩else l.getD j t0)else if j=l.length then (⟨d,t,0⟩:T3)else t0:=fun j=>by
  rw[Be,hl,Bh];by_cases h1:j < l.length
  . rw[if_pos h1,if_pos h1];by_cases h2:j=l.length - 1
    . rw[if_pos ⟨h2,h1⟩,if_pos h2]
    . rw[if_neg (fun q=>h2 q.1),if_neg h2]
  . rw[if_neg h1,if_neg h1]
 have hlen:(jL l t++[(⟨d,t,0⟩:T3)]).length=l.length+1:=by simp[hl]
 refine⟨by omega,?_,fun i hi=>?_,fun i hi=>?_⟩
 . rw[hlen,hg,Nat.add_sub_cancel,if_neg (by omega),if_pos rfl];exact⟨rfl,Int.le_refl _⟩
 . rw[hg];by_cases h1:i < l.length
   . rw[if_pos h1];have hc:=h.cell i h1;by_cases h2:i=l.length - 1
     . rw[if_pos h2];exact hc
     . rw[if_neg h2];exact hc
   . rw[if_neg h1,if_pos (by omega)];exact⟨hd,ht,Int.le_refl _⟩
 . rw[hg,hg];by_cases h2:i=l.length - 1
   . have h1:i < l.length:=by omega
     rw[if_pos h1,if_pos h2,if_neg (by omega),if_pos (by omega)];have hla:=h.last;rw[<- h2]at hla;refine⟨hla.2,rfl,?_⟩;show d≠(l.getD i t0).x
     rw[hla.1];exact fun q=>hcd q.symm
   . have h1:i < l.length:=by omega
     have h3:i+1 < l.length:=by omega
     have hn:=h.nxw i h3;rw[if_pos h1,if_neg h2,if_pos h3];by_cases h4:i+1=l.length - 1
     . rw[if_pos h4];exact hn
     . rw[if_neg h4];exact hn
theorem Chn.pass {n:Nw} {p:Ph} (hn:NetOk n) (g:dP n p.m) (h:Chn n p.stays p.m.serving p.m.at_) {t:Int} (ht:p.m.at_<=t):Chn n (eP n p t).stays (eP n p t).m.serving t:=by
 unfold eP;by_cases hp:jJ n p.m t=true
 . rw[if_pos hp];have hq:=hp;simp only[jJ,zm,decide_eq_true_eq]at hq;have hdue:=g.due hq.1;have hsi:=g.since;have hli:=hn.lim;have hz:isC n 0=true:=by simp only[isC,decide_eq_true_eq];have:=hn.len;omega
   exact ((h.later (u:=p.m.since+n.limit) (by omega)).chg (by omega) hz).later hq.2
 . rw[if_neg hp];exact h.later ht
theorem Chn.doP {n:Nw} {p:Ph} {e:T3} (g:p.m.phase=2->isC n p.m.target=true) (h:Chn n p.stays p.m.serving e.y) (h0:0<=e.y) (hev:evE n e=0) (hd:eA n p.m e=0):Chn n (doP p e).stays (doP p e).m.serving e.y:=by
 obtain⟨hx,hy,hcz⟩:=ev_ok hev;unfold Go.Proofs.YtcbabnbiinkafaaGreatDoor.doP;by_cases h10:e.x=10
 . rw[if_pos h10];exact h.chg h0 (hcz (by simp[iN,h10]))
 rw[if_neg h10];have hs:(settle (eK p.m e)).serving=(eK p.m e).serving:=(xG _).1;by_cases h6:e.x=6
 . have h2:p.m.phase=2:=by
    unfold eA at hd;simp only[h6,Int.reduceEq,if_true,if_false]at hd;rcases Classical.em (p.m.phase=2)with q | q
    . exact q
    . rw[if_pos q]at hd;cases hd
   have e1:(eK p.m e).serving=p.m.target:=by unfold eK;simp only[h6,Int.reduceEq,if_true,if_false]
   show Chn n (if e.x=6 then _ else _) (settle (eK p.m e)).serving e.y
   rw[if_pos h6,hs,e1];exact h.chg h0 (g h2)
 . have e1:(eK p.m e).serving=p.m.serving:=by
    unfold eK;simp only[h6,if_false]
    repeat' split
    all_goals rfl
   show Chn n (if e.x=6 then _ else _) (settle (eK p.m e)).serving e.y
   rw[if_neg h6,hs,e1];exact h
structure All (n:Nw) (p:Ph) (w:Rw):Prop where
 g:dP n p.m
 r:RwOk n p w
 c:Chn n p.stays p.m.serving p.m.at_
theorem All.apply {n:Nw} {p:Ph} {w:Rw} {e:T3} (hn:NetOk n) (a:All n p w) (h:gi n p.m e=0):All n (kL n p e) (rwStep n w e):=by
 have hev:=sw h;obtain⟨hx,hy,hcz⟩:=ev_ok hev;have hE:=h;rw[gi,if_neg (by simp[hev]),qU]at hE;have hat:p.m.at_<=e.y:=by
  rcases Classical.em (e.y < p.m.at_)with q | q
  . rw[if_pos q]at hE;cases hE
  . omega
 rw[if_neg (by omega)]at hE;have G:dP n (lB n p.m e.y):=a.g.pass hn hat hy.2;have hq:lB n p.m e.y=(atP (eP n p e.y) e.y).m:=by
  show _=({ (eP n p e.y).m with at_:=e.y }:Ms)
  rw[pI];rfl
 have hd:eA n (eP n p e.y).m e=0:=by
  rw[<- hE,hq];rfl
 have r1:=a.r.pass hn a.g.since.1 e.y;have c1:=a.c.pass hn a.g hat;have G':dP n (atP (eP n p e.y) e.y).m:=hq ▸ G;refine⟨by rw[rc];exact a.g.apply hn h,?_,?_⟩
 . refine RwOk.act hn r1 hx hy.1 G'.since.1 (fun q=>?_) hd ?_
   . exact G'.due q
   . rw[a.r.m];exact (rc n p e).symm
 . exact Chn.doP (p:=eP n p e.y) (fun h2=>G'.tgt (fun q=>(G'.f2 q).2 h2)) c1 hy.1 hev hd
theorem Az (m:Ms):(settle m).fresh=m.fresh:=by
 unfold Go.Proofs.YtcbabnbiinkafaaGreatDoor.settle;split <;> rfl
theorem AR (n:Nw) (m:Ms) (t:Int):(qN n m t).fresh=m.fresh:=by unfold qN;split <;> rfl
theorem AQ (n:Nw) (m:Ms) (e:T3):(rf n m e).fresh=m.fresh+(if e.x=0 then 1 else 0):=by
 unfold rf;have h1:(lB n m e.y).fresh=m.fresh:=AR n m e.y;generalize lB n m e.y=q at *;rw[<- h1];unfold kd;by_cases h10:e.x=10
 . rw[if_pos h10,h10];simp[iP]
 . rw[if_neg h10,Az];unfold eK;by_cases h:e.x=0
   . simp only[h,if_true]
   . simp only[h,if_false]
     repeat' split
     all_goals simp
def entN (f:FuncId) (as0:List C) (r:C) (k:Nat) (c:Ch) (hr:dF [k] r) (hc:gm [k] c) (h:FC Tryz.prog f as0 [] r [(k,c)]):Ent Tryz.prog:=.mk3 f (fun args chs=>some (args=as0/\chs=[],r,[(k,c)],[k])) (by
 intro args chs pp r' chs' nk hs hq;simp only[zn,zf]at hs;obtain⟨rfl,rfl,rfl,rfl⟩:=hs;obtain⟨rfl,rfl⟩:=hq;refine⟨h,⟨fun k' c' hm=>.inl ?_,fun k cs hm=>(by simp at hm),hr,fun k' c' hm=>?_⟩⟩
 . simp only[zg,zf]at hm ⊢;exact hm.1
 . simp only[zg,zf]at hm;obtain⟨rfl,rfl⟩:=hm
   exact hc)
theorem Bb (l:List Int) (h:l.length<=1000000):FC Tryz.prog 24 [enc l] [] (.own 3) [(3,.row 1 3 (l.map Dat.cells))]:=by
 refine dD [3] is24 (by simp) (by simp[bk]) (by simp[an,ag]) (by simp[an,ag,av]) (by simp[aB,lk]) (fun cx _ hl _=>dC [] 800 ?_);delta c24 oO oA oM oX o1;simp (maxSteps:=9^7) -implicitDefEqProofs only[rv24,InR,WU,Ent.of0,Ent.of1,Ent.of2,Ent.of3,Ent.of4,V,W3,↓reduceIte,seval,reduceCtorEq];omega
def Bp (l:List Int) (h:l.length<=1000000):Ent Tryz.prog:=entN 24 [enc l] (.own 3) 3 (.row 1 3 (l.map Dat.cells)) (by simp[dF]) (by simp[gm]) (Bb l h)
structure BufS (b:List (List Int)):Prop where
 l:b.length<=1000000
 r:∀ x∈b,x.length<=1000000
theorem AN (b:List (List Int)) (h:BufS b):FC Tryz.prog 60 [enc b] [] (.own 3) [(3,.deep 1 3 24 none (fP b))]:=by
 have h1:=h.l;refine dD [3] D7.is60 (by simp) (by simp[bk]) (by simp[an,ag]) (by simp[an,ag,av]) (by simp[aB,lk]) (fun cx _ hl _=>dC [] 800 ?_);delta D7.c60 oA oM oS oK oV oX;simp (maxSteps:=9^7) -implicitDefEqProofs only[D7.rv60,InR,WU,Ent.of0,Ent.of1,Ent.of2,Ent.of3,Ent.of4,V,W3,↓reduceIte,seval,reduceCtorEq];refine⟨by simp,?_⟩;refine eN b.length (fun i=>[(4,.s (.int .i64 (i:Int)))]) (fun i=>[(3,.deep 1 3 24 none (fP (b.take i)))]) (fun _=>True) trivial ?_ (fun i hi _=>?_)
 . simp (maxSteps:=9^7) -implicitDefEqProofs only[Ent.of0,Ent.of1,Ent.of2,Ent.of3,Ent.of4,V,W3,↓reduceIte,seval,reduceCtorEq]
   all_goals rfl
 . by_cases hlt:i < b.length
   . have hi2:(i:Int) < (b.length:Int):=by omega
     have hi0:(0:Int)<=i:=by omega
     have hgx:List.getD (b.map Dat.cells) i [C.sl 0 []]=[C.sl 1 ((b.getD i []).map Dat.cells)]:=by
      rw[zb,zb,zh,ze hlt];rfl
     have hx:=h.r _ (yy hlt);have hgd:b.getD i []=b[i]:=by rw[zb,ze hlt];rfl
     have hap:fP (b.take i)++[(b.getD i []).map Dat.cells]=fP (b.take (i+1)):=by
      rw[hgd,yI hlt,fP,fP,yg];rfl
     have hlen:(b.take i).length=i:=by rw[List.length_take];omega
     rw[<- hgd]at hx;refine dC [Bp (b.getD i []) hx] 800 ?_;delta D7.c60l1 oO oN oA oM oR oS oK oL oC oX oB o0 o4;simp (maxSteps:=9^7) -implicitDefEqProofs only[Bp,entN,hi0,hi2,hlt,hgx,hap,eu,hlen,InR,WU,Ent.of0,Ent.of1,Ent.of2,Ent.of3,Ent.of4,V,W3,↓reduceIte,seval,reduceCtorEq];omega
   . have hi2:¬ (i:Int) < (b.length:Int):=by omega
     have htk:b.take i=b:=List.take_of_length_le (by omega);refine dC [] 800 ?_;delta D7.c60l1 oO oN oA oM oR oS oK oL oC oX oB o0 o4;simp (maxSteps:=9^7) -implicitDefEqProofs only[D7.rv60,hi2,htk,WU,Ent.of0,Ent.of1,Ent.of2,Ent.of3,Ent.of4,V,W3,↓reduceIte,seval,reduceCtorEq]
theorem Raway_c (m:Ms):FC Tryz.prog 112 [enc m] [] (enc (ej m)) []:=by
 refine dD [] is112 (by simp) trivial trivial trivial trivial (fun cx _ hl _=>dC [] 800 ?_);by_cases h1:m.phase=2 <;> by_cases h2:m.phase=3
 all_goals
  delta c112 oO oN oM oG oF oL oX oH oB oE oJ o7 o9;simp (maxSteps:=9^7) -implicitDefEqProofs only[rv112,kN,ej,h1,h2,WU,Ent.of0,Ent.of1,Ent.of2,Ent.of3,Ent.of4,V,W3,↓reduceIte,seval,reduceCtorEq]
def xf : Ent Tryz.prog:=.of1 112 (fun _=>True) (fun m:Ms=>enc (ej m)) (fun _=>trivial) (fun m _=>Raway_c m)
structure MsS (m:Ms):Prop where
 b:BufS m.buf
 f:m.buf.flatten.length<=1000000
theorem Af (bs:List (List Int)) (i:Nat) (h:i < bs.length):(bs.take i).flatten.length+(bs.getD i []).length<=bs.flatten.length:=by
 have e:bs.flatten=(bs.take i).flatten++((bs.getD i [])++(bs.drop (i+1)).flatten):=by
  conv=>lhs;rw[<- List.take_append_drop i bs,eg [] h]
  rw[List.flatten_append,List.flatten_cons]
 rw[e,zK,zK];omega
theorem FC.post {f:FuncId} {as0:List C} {r r':C} (hfc:FC Tryz.prog f as0 [] r []) (hp:∀ E U h v,Rep E U h r v->Rep E U h r' v):FC Tryz.prog f as0 [] r' []:=
 ⟨hfc.1,fun E U vs w hg ha hi=>(hfc.2 E U vs w hg ha hi).mono fun e w' ⟨v,E',U',he,hr,hc⟩=>⟨v,E',U',he,hp _ _ _ _ hr,hc⟩⟩
structure Bst where
 f:Bool
 t:Int
 c:Int
 v:Int
def sgT (r:Rul) (L:List (List Int)) (s:Int) (k:Nat):List Int:=iv r (L.getD s.toNat []) (L.getD k [])
def sgIn (r:Rul) (L:List (List Int)) (s t:Int):Nat->Int
 | 0=>-1
 | k+1=>if (k:Int)≠s/\t∈sgT r L s k/\(sgIn r L s t k < 0\/(L.getD (sgIn r L s t k).toNat []).getD t.toNat 0 < (L.getD k []).getD t.toNat 0)then (k:Int)else sgIn r L s t k
structure SgInv (r:Rul) (L:List (List Int)) (s:Int) (k:Nat) (b:Bst):Prop where
 no:b.f=false->∀ t,sgIn r L s t k=-1
 yes:b.f=true->sgIn r L s b.t k=b.c/\(0<=b.c/\b.c < k)/\b.v=(L.getD b.c.toNat []).getD b.t.toNat 0/\(∀ t,t < b.t->sgIn r L s t k=-1)/\0<=b.t/\b.t < (L.getD s.toNat []).length
theorem AM (b:List (List Int)) (h:BufS b):FC Tryz.prog 60 [enc b] [] (enc b) []:=by
 have:=FC.frz (AN b h) (x:=.sl 1 (b.map Dat.cells)) (by simp[bz,fP];intro a _;rfl);exact this
def ent60 : Ent Tryz.prog:=.of1 60 BufS (fun b:List (List Int)=>enc b) (fun _=>trivial) (fun b h=>AM b h)
def xo (f:Int) (seen:List Int):Int->List Int->Int
 |_,[]=>0
 | p,x :: l=>if ¬ (0<=x/\x < f)then 2 else if x<=p then 9 else if x∈seen then 26 else xo f seen x l
def pkL (f:Int):List Int->List (List Int)->Int
 |_,[]=>0
 | seen,b :: bs=>if xo f seen (-1) b≠0 then xo f seen (-1) b else pkL f (seen++b) bs
def rgB (m:Ms):Bool:=decide (0<=m.at_/\m.at_<=1000000000) && decide (0<=m.since/\m.since<=m.at_) && decide (0<=m.fresh/\m.fresh<=1000000) && decide (0<=m.got/\m.got<=m.fresh)
def msB (n:Nw) (m:Ms):Bool:=isC n m.serving && isC n m.path && (decide (m.target=-1) || isC n m.target) && (decide (m.source=-1) || isC n m.source)
def bsyB (m:Ms):Bool:=decide (m.phase=1) || decide (m.phase=2)
def fmB (m:Ms):Bool:=
 !((!decide (m.target=-1) && decide (m.phase=0)) || (decide (m.target=-1) && bsyB m) || (!decide (m.source=-1) && (bsyB m || !decide (m.target=-1))) || (!decide (m.path=m.serving) && (decide (m.source=-1) || !decide (m.path=m.source))))
def clB (n:Nw) (m:Ms):Bool:=(decide (m.target=-1) || nbr n m.target m.serving) && (decide (m.source=-1) || nbr n m.source m.serving)
def stB (n:Nw) (m:Ms):Bool:=!(ej m && decide (m.since+n.limit<=m.at_)) && !(!decide (m.source=-1) && decide (m.path=m.serving) && (dQ m m.source).isEmpty)
def xx (m:Ms) (i:Nat):Bool:=(m.buf.getD i []).isEmpty || decide ((i:Int)=m.serving) || decide ((i:Int)=m.source) || (ej m && decide ((i:Int)=m.target))
def xD (m:Ms):Bool:=(List.range m.buf.length).all (xx m)
def xw (l:List Int):Nat->Int->Bool
 | 0,_=>true
 | k+1,a=>decide (a∈l) && xw l k (a+1)
def xK (m:Ms):Bool:=decide (m.fresh - m.got<=60) && xw m.buf.flatten (m.fresh - m.got).toNat m.got
def pkE (m:Ms):Int:=if 60 < m.buf.flatten.length then 8 else if pkL m.fresh [] m.buf≠0 then pkL m.fresh [] m.buf else if xD m=false then 23 else if xK m=false then 14 else 0
def x3 (n:Nw) (m:Ms):Int:=
 if m.buf.length≠n.cells.length then 10
 else if ¬ (0<=m.phase/\m.phase<=3)then 15
 else if rgB m=false then 2
 else if msB n m=false then 6
 else if fmB m=false then 3
 else if clB n m=false then 13
 else if stB n m=false then 22
 else pkE m
theorem xt {c:Prop} [Decidable c] {a b:Int} (ha:a≠0) (h:(if c then a else b)=0):¬ c/\b=0:=by
 by_cases hc:c
 . rw[if_pos hc]at h;exact absurd h ha
 . rw[if_neg hc]at h;exact⟨hc,h⟩
theorem y3 {a b:Int} (h:(if a≠0 then a else b)=0):a=0/\b=0:=by
 by_cases hc:a=0
 . rw[if_neg (by simp[hc])]at h;exact⟨hc,h⟩
 . rw[if_pos hc]at h;exact absurd h hc
theorem xX {f:Int} {seen:List Int}:∀ (l:List Int) (p:Int),xo f seen p l=0↔(∀ x∈l,(0<=x/\x < f)/\p < x/\x∉seen)/\l.Pairwise (· < ·)
 |[],p=>by simp[xo]
 | x :: l,p=>by
  rw[xo];constructor
  . intro h;obtain⟨h1,h⟩:=xt (by decide) h;obtain⟨h2,h⟩:=xt (by decide) h;obtain⟨h3,h⟩:=xt (by decide) h;obtain⟨g1,g2⟩:=(xX l x).1 h;refine⟨fun y hy=>?_,yK.2 ⟨fun y hy=>(g1 y hy).2.1,g2⟩⟩;rcases zl.1 hy with rfl | hy
    . exact⟨by omega,by omega,h3⟩
    . have:=g1 y hy;exact⟨this.1,by omega,this.2.2⟩
  . rintro⟨h1,h2⟩
    obtain⟨q1,q2,q3⟩:=h1 x (by simp);rw[yK]at h2;rw[if_neg (fun q=>q q1),if_neg (by omega),if_neg q3];exact (xX l x).2 ⟨fun y hy=>⟨(h1 y (by simp[hy])).1,h2.1 y hy,(h1 y (by simp[hy])).2.2⟩,h2.2⟩
theorem xV {f:Int}:∀ (bs:List (List Int)) (seen:List Int),pkL f seen bs=0↔(∀ x∈bs.flatten,(0<=x/\x < f)/\x∉seen)/\(∀ b∈bs,b.Pairwise (· < ·))/\bs.flatten.Nodup
 |[],seen=>by simp[pkL]
 | b :: bs,seen=>by
  rw[pkL];constructor
  . intro h;obtain⟨h1,h⟩:=y3 h;obtain⟨g1,g2⟩:=(xX b _).1 h1;obtain⟨k1,k2,k3⟩:=(xV bs _).1 h;refine⟨fun x hx=>?_,fun c hc=>?_,?_⟩
    . rw[List.flatten_cons,zW]at hx;rcases hx with hx | hx
      . exact⟨(g1 x hx).1,(g1 x hx).2.2⟩
      . exact⟨(k1 x hx).1,fun q=>(k1 x hx).2 (List.mem_append_left _ q)⟩
    . rcases zl.1 hc with rfl | hc
      . exact g2
      . exact k2 c hc
    . rw[List.flatten_cons,List.nodup_append];exact⟨r8 g2,k3,fun x hx y hy e=>(k1 y hy).2 (List.mem_append_right _ (e ▸ hx))⟩
  . rintro⟨h1,h2,h3⟩
    rw[List.flatten_cons,List.nodup_append]at h3
    have e:xo f seen (-1) b=0:=(xX b _).2 ⟨fun x hx=>by
     have:=h1 x (by rw[List.flatten_cons];exact List.mem_append_left _ hx)
     exact⟨this.1,by omega,this.2⟩,h2 b (by simp)⟩
    rw[if_neg (by simp[e])];refine (xV bs _).2 ⟨fun x hx=>?_,fun c hc=>h2 c (by simp[hc]),h3.2.1⟩;have:=h1 x (by rw[List.flatten_cons];exact List.mem_append_right _ hx);refine⟨this.1,fun q=>?_⟩;rcases zW.1 q with q | q
    . exact this.2 q
    . exact h3.2.2 x q x hx rfl
theorem xS {l:List Int}:∀ (k:Nat) (a:Int),xw l k a=true↔∀ x,a<=x->x < a+k->x∈l
 | 0,a=>by simp[xw];intro x h1 h2;omega
 | k+1,a=>by
  rw[xw,zm,xS k,decide_eq_true_eq];constructor
  . rintro⟨h1,h2⟩ x q1 q2
    rcases Int.lt_or_eq_of_le q1 with q | q
    . exact h2 x (by omega) (by push_cast at q2;omega)
    . exact q ▸ h1
  . exact fun h=>⟨h a (Int.le_refl _) (by push_cast;omega),fun x q1 q2=>h x (by omega) (by push_cast;omega)⟩
theorem x7 {m:Ms}:xD m=true↔∀ i:Nat,m.buf.getD i []≠[]->(i:Int)=m.serving\/(i:Int)=m.source\/(ej m=true/\(i:Int)=m.target):=by
 rw[xD,zx];constructor
 . intro h i hi;have hl:i < m.buf.length:=by
    rcases yu i m.buf.length with q | q
    . exact q
    . rw[zb,List.getElem?_eq_none q]at hi;exact absurd rfl hi
   have:=h i (zE.2 hl);simp only[xx,zV,zm,decide_eq_true_eq,List.isEmpty_iff]at this;rcases this with ((q | q) | q) | q
   . exact absurd q hi
   . exact .inl q
   . exact .inr (.inl q)
   . exact .inr (.inr q)
 . intro h i _;simp only[xx,zV,zm,decide_eq_true_eq,List.isEmpty_iff];rcases Classical.em (m.buf.getD i []=[])with q | q
   . exact .inl (.inl (.inl q))
   . rcases h i q with q | q | q
     . exact .inl (.inl (.inr q))
     . exact .inl (.inr q)
     . exact .inr q
theorem BI {n:Nw} {m:Ms} (h:x3 n m=0):dP n m:=by
 unfold x3 at h;obtain⟨h1,h⟩:=xt (by decide) h;obtain⟨h2,h⟩:=xt (by decide) h;obtain⟨h3,h⟩:=xt (by decide) h;obtain⟨h4,h⟩:=xt (by decide) h;obtain⟨h5,h⟩:=xt (by decide) h;obtain⟨h6,h⟩:=xt (by decide) h;obtain⟨h7,h⟩:=xt (by decide) h;unfold pkE at h;obtain⟨h8,h⟩:=xt (by decide) h;obtain⟨h9,h⟩:=y3 h;obtain⟨h10,h⟩:=xt (by decide) h;obtain⟨h11,h⟩:=xt (by decide) h;clear h;obtain⟨p1,p2,p3⟩:=(xV _ _).1 h9;have h1':m.buf.length=n.cells.length:=Classical.not_not.1 h1;have h2':0<=m.phase/\m.phase<=3:=Classical.not_not.1 h2;replace h3:rgB m=true:=by simpa using h3
 simp only[rgB,zm,decide_eq_true_eq]at h3;replace h4:msB n m=true:=by simpa using h4
 simp only[msB,zm,zV,decide_eq_true_eq]at h4;replace h5:fmB m=true:=by simpa using h5
 simp only[fmB,bsyB,yC,zm,zV,Bool.and_eq_false_iff,Bool.or_eq_false_iff,Bool.not_eq_false',decide_eq_true_eq,decide_eq_false_iff_not]at h5;replace h6:clB n m=true:=by simpa using h6
 simp only[clB,zm,zV,decide_eq_true_eq]at h6;replace h7:stB n m=true:=by simpa using h7
 simp only[stB,yC,zm,Bool.and_eq_false_iff,Bool.not_eq_false',decide_eq_true_eq,decide_eq_false_iff_not,List.isEmpty_eq_false_iff]at h7;have h10':=x7.1 (by simpa using h10);have h11':xK m=true:=by simpa using h11
 simp only[xK,zm,decide_eq_true_eq,xS]at h11';obtain⟨⟨⟨a1,a2⟩,a3⟩,a4⟩:=h3;obtain⟨⟨⟨b1,b2⟩,b3⟩,b4⟩:=h4;obtain⟨⟨⟨c1,c2⟩,c3⟩,c4⟩:=h5;refine⟨⟨h1',h2',a1,a2,a3,a4,b1,b2,fun q=>?_,fun q=>?_,fun q=>?_,fun q=>?_,fun q=>?_,fun q=>?_,fun q=>?_,fun q=>?_,fun q=>?_,by omega,fun x hx=>(p1 x hx).1,p2,p3,h10',fun x q1 q2=>h11'.2 x q1 (by omega)⟩,fun q1 q2=>?_⟩
 . rcases b3 with r | r
   . exact absurd r q
   . exact r
 . rcases b4 with r | r
   . exact absurd r q
   . exact r
 . rcases c1 with r | r
   . exact absurd r q
   . exact r
 . rcases c2 with r | r
   . exact absurd q r
   . exact r
 . rcases c3 with r | r
   . exact absurd r q
   . exact⟨r.1.1,r.1.2,r.2⟩
 . rcases c4 with r | r
   . exact absurd r q
   . exact r
 . rcases h6.1 with r | r
   . exact absurd r q
   . exact r
 . rcases h6.2 with r | r
   . exact absurd r q
   . exact r
 . rcases h7.1 with r | r
   . rw[q]at r;cases r
   . omega
 . rcases h7.2 with (r | r) | r
   . exact absurd r q1
   . exact absurd q2 r
   . exact r
theorem AD {n:Nw} {m:Ms} (g:dP n m):x3 n m=0:=by
 have e1:=g.len;have e2:=g.phase;have e3:rgB m=true:=by
  have:=g.at_;have:=g.since;have:=g.fresh;have:=g.got;simp only[rgB,zm,decide_eq_true_eq];exact⟨⟨⟨by omega,by omega⟩,by omega⟩,by omega⟩
 have e4:msB n m=true:=by
  simp only[msB,zm,zV,decide_eq_true_eq];refine⟨⟨⟨g.srv,g.pth⟩,?_⟩,?_⟩
  . rcases Classical.em (m.target=-1)with q | q
    . exact .inl q
    . exact .inr (g.tgt q)
  . rcases Classical.em (m.source=-1)with q | q
    . exact .inl q
    . exact .inr (g.src q)
 have e5:fmB m=true:=by
  simp only[fmB,bsyB,yC,zm,zV,Bool.and_eq_false_iff,Bool.or_eq_false_iff,Bool.not_eq_false',decide_eq_true_eq,decide_eq_false_iff_not];refine⟨⟨⟨?_,?_⟩,?_⟩,?_⟩
  . rcases Classical.em (m.target=-1)with q | q
    . exact .inl q
    . exact .inr (g.f1 q)
  . rcases Classical.em (m.target=-1)with q | q
    . exact .inr (g.f2 q)
    . exact .inl q
  . rcases Classical.em (m.source=-1)with q | q
    . exact .inl q
    . obtain⟨r1,r2,r3⟩:=g.f3 q;exact .inr ⟨⟨r1,r2⟩,r3⟩
  . rcases Classical.em (m.path=m.serving)with q | q
    . exact .inl q
    . exact .inr (g.f4 q)
 have e6:clB n m=true:=by
  simp only[clB,zm,zV,decide_eq_true_eq];constructor
  . rcases Classical.em (m.target=-1)with q | q
    . exact .inl q
    . exact .inr (g.c1 q)
  . rcases Classical.em (m.source=-1)with q | q
    . exact .inl q
    . exact .inr (g.c2 q)
 have e7:stB n m=true:=by
  simp only[stB,yC,zm,Bool.and_eq_false_iff,Bool.not_eq_false',decide_eq_true_eq,decide_eq_false_iff_not,List.isEmpty_eq_false_iff];constructor
  . cases ha:ej m with
    | false=>exact .inl rfl
    | true=>have:=g.due ha;exact .inr (by omega)
  . rcases Classical.em (m.source=-1)with q | q
    . exact .inl (.inl q)
    . rcases Classical.em (m.path=m.serving)with r | r
      . exact .inr (g.busy q r)
      . exact .inl (.inr r)
 have e8w:=g.large;have e9w:pkL m.fresh [] m.buf=0:=(xV _ _).2 ⟨fun x hx=>⟨g.rng x hx,by simp⟩,g.asc,g.nd⟩;have e10:xD m=true:=x7.2 g.opn;have e11:xK m=true:=by
  have:=g.gap60;simp only[xK,zm,decide_eq_true_eq,xS];exact⟨by omega,fun x q1 q2=>g.gap x q1 (by have:=g.got;omega)⟩
 unfold x3 pkE;rw[if_neg (by simp[e1]),if_neg (fun q=>q e2),if_neg (by simp[e3]),if_neg (by simp[e4]),if_neg (by simp[e5]),if_neg (by simp[e6]),if_neg (by simp[e7]),if_neg (by omega),if_neg (by simp[e9w]),if_neg (by simp[e10]),if_neg (by simp[e11])]
theorem y9 : ∀ (k:Nat) (l:List Int) (a:Int),l.Nodup->(∀ x∈l,a<=x/\x < a+k)->(l.length=k↔xw l k a=true)
 | 0,l,a,hn,h=>by
  have:l=[]:=by
   cases l with
   | nil=>rfl
   | cons x l=>have:=h x (by simp);omega
  subst this;simp[xw]
 | k+1,l,a,hn,h=>by
  rw[xS];have hle:∀ (k:Nat) (l:List Int) (a:Int),l.Nodup->(∀ x∈l,a<=x/\x < a+k)->l.length<=k:=by
   intro k
   induction k with
   | zero=>
    intro l a _ h;cases l with
    | nil=>simp
    | cons x l=>have:=h x (by simp);omega
   | succ k ih=>
    intro l a hn h
    have h1:=ih (l.erase a) (a+1) (hn.erase a) (fun x hx=>by
     have hx2:=(hn.mem_erase_iff).1 hx;have:=h x hx2.2
     push_cast at this
     omega)
    have:l.length<=(l.erase a).length+1:=by
     rw[List.length_erase];split <;> omega
    omega
  have hE:∀ x∈l.erase a,a+1<=x/\x < a+1+k:=fun x hx=>by
   have hx2:=(hn.mem_erase_iff).1 hx;have:=h x hx2.2
   push_cast at this
   omega
  have ih:=y9 k (l.erase a) (a+1) (hn.erase a) hE;rw[xS]at ih;have h1:=hle k (l.erase a) (a+1) (hn.erase a) hE;constructor
  . intro hl x q1 q2;have ha:a∈l:=by
     rcases Classical.em (a∈l)with q | q
     . exact q
     . rw[List.erase_of_not_mem q]at h1;omega
    rcases Int.lt_or_eq_of_le q1 with q | q
    . have h2:=List.length_erase_of_mem ha;exact List.mem_of_mem_erase (ih.1 (by omega) x (by omega) (by push_cast at q2;omega))
    . exact q ▸ ha
  . intro hx;have ha:a∈l:=hx a (Int.le_refl _) (by push_cast;omega);have h2:=List.length_erase_of_mem ha;have h3:=List.length_pos_of_mem ha;have:=ih.2 (fun x q1 q2=>(hn.mem_erase_iff).2 ⟨by omega,hx x (by omega) (by push_cast;omega)⟩);omega
def fmP (m:Ms):Bool:=if m.target≠-1/\m.phase=0 then false else if m.target=-1/\(m.phase=1\/m.phase=2)then false else if m.source≠-1/\((m.phase=1\/m.phase=2)\/m.target≠-1)then false else decide (m.path=m.serving\/m.path=m.source)
theorem BC (n:Nw) (p:Ph):FC Tryz.prog 146 [.ptr 100000 0] (phX n p) (enc (fmP p.m)) (phX n p):=by
 refine dD [100001] is146 (by simp) (dR n p) (dE n p) (dE n p) (dI n p p) (fun cx _ hl _=>dC [] 1200 ?_);delta c146 oO oN oA oM oT oG oR oQ oS oK oF oL oI oX oP oH oB oD oE oJ o6 o9;simp (maxSteps:=9^7) -implicitDefEqProofs only[rv146,phX,phC,InR,not_true_eq_false,not_false_eq_true,WU,Ent.of0,Ent.of1,Ent.of2,Ent.of3,Ent.of4,V,W3,↓reduceIte,seval,reduceCtorEq];unfold fmP;by_cases a:p.m.target=-1 <;> by_cases b0:p.m.phase=0 <;> by_cases b:p.m.phase=1 <;> by_cases b2:p.m.phase=2 <;> by_cases c:p.m.source=-1 <;> by_cases q:p.m.path=p.m.serving <;> by_cases r:p.m.path=p.m.source <;> simp[a,b,b2,b0,c,q,r] <;> omega
def xh (h:Int->Option Int) (c:Int):List Int->(Int->Option Int)
 |[]=>h
 | x :: l=>xh (upd h x c) c l
theorem yR (c x:Int):∀ (l:List Int) (h:Int->Option Int),xh h c (l++[x])=upd (xh h c l) x c
 |[],h=>rfl
 | y :: l,h=>yR c x l (upd h y c)
theorem xY (c:Int):∀ (l:List Int) (h:Int->Option Int) (z:Int),xh h c l z=if z∈l then some c else h z
 |[],h,z=>by simp[xh]
 | x :: l,h,z=>by
  rw[xh,xY c l];by_cases h1:z∈l
  . simp[h1]
  . by_cases h2:z=x
    . simp[h1,h2,upd]
    . simp[h1,h2,upd]
def xj (bs:List (List Int)):Nat->(Int->Option Int)
 | 0=>fun _=>none
 | i+1=>xh (xj bs i) (i:Int) (bs.getD i [])
theorem yT {α:Type} (d:α) {l:List α} {i:Nat} (h:i < l.length):l.take (i+1)=l.take i++[l.getD i d]:=by
 rw[yI h,zb,ze h];rfl
theorem x9 {bs:List (List Int)} {i:Nat} (h:i < bs.length):(bs.take (i+1)).flatten=(bs.take i).flatten++bs.getD i []:=by
 rw[yT [] h,List.flatten_append,List.flatten_cons,List.flatten_nil,z4]
theorem yN {bs:List (List Int)}:∀ (i:Nat),i<=bs.length->∀ z,(xj bs i z).isSome=decide (z∈(bs.take i).flatten)
 | 0,_,z=>by simp[xj]
 | i+1,h,z=>by
  rw[xj,xY,x9 (by omega)];by_cases h1:z∈bs.getD i []
  . rw[if_pos h1];exact (decide_eq_true (List.mem_append_right _ h1)).symm
  . rw[if_neg h1,yN i (by omega) z];rw[decide_eq_decide,zW];exact⟨.inl,fun q=>q.resolve_right h1⟩
theorem AW {bs:List (List Int)}:∀ (i:Nat) (z c:Int),xj bs i z=some c->∃ k:Nat,k < i/\c=(k:Int)/\z∈bs.getD k []
 | 0,z,c,h=>by cases h
 | i+1,z,c,h=>by
  rw[xj,xY]at h;by_cases h1:z∈bs.getD i []
  . rw[if_pos h1]at h;cases h;exact⟨i,by omega,rfl,h1⟩
  . rw[if_neg h1]at h;obtain⟨k,q1,q2,q3⟩:=AW i z c h;exact⟨k,by omega,q2,q3⟩
def xq (F:List Int) (g:Int) (left:Int->Bool):Nat:=F.countP fun x=>!left x && decide (g<=x)
theorem Bn {F:List Int} (hn:F.Nodup) {z:Int} (hz:z∈F) {left:Int->Bool} (hl:left z=true) (g:Int):xq F g (fun y=>left y && decide (y≠z))=xq F g left+if g<=z then 1 else 0:=by
 induction F with
 | nil=>cases hz
 | cons x F ih=>
  rw[zI]at hn;unfold xq;rw[List.countP_cons,List.countP_cons];rcases zl.1 hz with rfl | hz'
  . have e:F.countP (fun x=>!(left x && decide (x≠z)) && decide (g<=x))=F.countP (fun x=>!left x && decide (g<=x)):=by
     refine List.countP_congr fun x hx=>?_
     have:x≠z:=fun e=>hn.1 (e ▸ hx)
     simp[this]
    rw[e];simp[hl]
  . have hne:x≠z:=fun e=>hn.1 (e ▸ hz')
    have:=ih hn.2 hz';unfold xq at this;rw[this];simp only[hne,ne_eq,not_false_eq_true,decide_true,zZ];omega
theorem BA (F:List Int) (g:Int) {left:Int->Bool} (h:∀ z,left z=false):xq F g left=(F.filter fun x=>decide (g<=x)).length:=by
 unfold xq;rw[<- List.countP_eq_length_filter];exact List.countP_congr fun x _=>by simp[h x]
theorem Bm (F:List Int) (g:Int) {left:Int->Bool} (h:∀ z∈F,left z=true):xq F g left=0:=by
 unfold xq;rw[yk];intro x hx;simp[h x hx]
theorem cntG_le (F:List Int) (g:Int) (left:Int->Bool):xq F g left<=F.length:=List.countP_le_length
theorem yQ {F:List Int} {g:Int}:∀ (k:Nat) (a:Int),g<=a->xw (F.filter fun x=>decide (g<=x)) k a=xw F k a
 | 0,a,_=>rfl
 | k+1,a,h=>by
  rw[xw,xw,yQ k (a+1) (by omega)]
  congr 1
  rw[decide_eq_decide,yf];simp[h]
theorem Br {m:Ms} (hn:m.buf.flatten.Nodup) (hr:∀ x∈m.buf.flatten,0<=x/\x < m.fresh) (hg:0<=m.got/\m.got<=m.fresh) (hl:m.buf.flatten.length<=60) :
 (((m.buf.flatten.filter fun x=>decide (m.got<=x)).length:Int)=m.fresh - m.got)↔xK m=true:=by
 have hN:=hn.filter (fun x=>decide (m.got<=x))
 have h1:=y9 (m.fresh - m.got).toNat (m.buf.flatten.filter fun x=>decide (m.got<=x)) m.got hN (fun x hx=>by
  simp only[yf,decide_eq_true_eq]at hx;have:=hr x hx.1
  omega)
 rw[yQ _ _ (Int.le_refl _)]at h1;have hle:(m.buf.flatten.filter fun x=>decide (m.got<=x)).length<=m.buf.flatten.length:=List.length_filter_le _ _;unfold xK;rw[zm,decide_eq_true_eq,<- h1];constructor
 . intro q;omega
 . rintro⟨_,q⟩;omega
theorem y8 {f:Int} {seen:List Int} {p:Int} {l:List Int} {k:Nat} (h:k < l.length):xo f seen p (l.drop k)=if ¬ (0<=l.getD k 0/\l.getD k 0 < f)then 2 else if l.getD k 0<=p then 9 else if l.getD k 0∈seen then 26 else xo f seen (l.getD k 0) (l.drop (k+1)):=by
 rw[eg 0 h,xo]
theorem mapT : MapTy Tryz.prog 214 3 3 where
 ht:=by kernel_rfl
 hk:=by kernel_rfl
 he:=by kernel_rfl
 hz:=fun w=>by
  have h:(Tryz.prog.info? 3).map (fun i=>(i.zero,i.size,i.bytes))=some (some (.int .i64 0),1,8):=by kernel_rfl
  obtain⟨i,hi,hq⟩:=za.1 h;simp only[zf]at hq;simp[zeroValue,typeInfo,Sem.run,Sem.run_bind,hi,hq.1,Result.andThen]
theorem xJ (xs:List Int) (i:Nat) (h:i < xs.length):List.getD (xs.map Dat.cells) i []=[C.s (.int .i64 (xs.getD i 0))]:=by
 rw[zb,zb,zh,ze h];rfl
theorem AH {bs:List (List Int)} (hn:bs.flatten.Nodup) {i k:Nat} (hik:k≠i) {z:Int} (h1:z∈bs.getD i []):z∉bs.getD k []:=fun h2=>by
 have hlen:∀ j,z∈bs.getD j []->j < bs.length:=fun j h=>by
  rcases yu j bs.length with q | q
  . exact q
  . rw[zb,List.getElem?_eq_none q]at h;cases h
 have hs:=(fT bs i (hlen i h1)).nodup_iff.1 hn;rw[List.nodup_append]at hs;have hk:k < (bs.set i []).length:=by rw[List.length_set];exact hlen k h2
 refine hs.2.2 z h1 z ?_ rfl;refine (fT (bs.set i []) k hk).mem_iff.2 (List.mem_append_left _ ?_);rw[fA,if_neg (fun q=>hik q.1.symm)];exact h2
theorem yP {k n:Nat} (h:¬ k=0) (hk:k < n):(if (k:Int) - 1 > 0 then (k:Int) - 1 else 0)=((k - 1:Nat):Int)/\(0:Int)<=((k - 1:Nat):Int)/\((k - 1:Nat):Int) < (n:Int)/\k - 1 < n:=by omega
theorem AJ (n:Nw) (p:Ph) (hf:0<=p.m.fresh/\p.m.fresh<=1000000) (hg:0<=p.m.got/\p.m.got<=p.m.fresh) (hl1:p.m.buf.length<=1000000) (hp:fj p.m.buf<=1000000000) (hI:∀ x∈p.m.buf.flatten,InR .i64 x):FC Tryz.prog 150 [.ptr 100000 0] (phX n p) (enc (pkE p.m)) (phX n p):=by
 generalize hE:pkE p.m=E;refine dD [100001] is150 (by simp) (dR n p) (dE n p) (dE n p) (dI n p p) (fun cx _ hl _=>dC [lU n p hl1 hp] 800 ?_);unfold pkE at hE;have hpk:=nr p.m.buf;by_cases h60:60 < p.m.buf.flatten.length
 . rw[if_pos h60]at hE;subst hE;have h60':(60:Int) < fj p.m.buf:=by omega
   delta c150 oO oN oA oM oT oQ oS oK oF oL oV oC oI oX oB o4 o6;simp (maxSteps:=9^7) -implicitDefEqProofs only[xg,phX,phC,lU,eq,h60',WU,Ent.of0,Ent.of1,Ent.of2,Ent.of3,Ent.of4,V,W3,↓reduceIte,seval,reduceCtorEq]
 have h60':¬ (60:Int) < fj p.m.buf:=by omega
 rw[if_neg h60]at hE;delta c150 oO oN oA oM oT oQ oS oK oF oL oV oC oI oX oB o4 o6;simp (maxSteps:=9^7) -implicitDefEqProofs only[xg,phX,phC,lU,eq,h60',not_true_eq_false,WU,Ent.of0,Ent.of1,Ent.of2,Ent.of3,Ent.of4,V,W3,↓reduceIte,seval,reduceCtorEq];refine pw rfl (OpM.mapNew (k:=3) (e:=3)) (fun ef he=>?_);obtain⟨mb,rfl⟩:=he;refine nz [] 800 ?_;simp (maxSteps:=9^7) -implicitDefEqProofs only[phX,phC,eu,InR,WU,Ent.of0,Ent.of1,Ent.of2,Ent.of3,Ent.of4,V,W3,↓reduceIte,seval,reduceCtorEq];refine eN p.m.buf.length (fun i=>[(24,.s (.int .i64 (i:Int)))]) (fun i=>[(17,.res (xU Tryz.prog 3 3 mb (p.m.buf.take i).flatten.length (xj p.m.buf i)))]) (fun i=>pkL p.m.fresh [] p.m.buf=pkL p.m.fresh (p.m.buf.take i).flatten (p.m.buf.drop i)) rfl ?_ (fun i hi hv=>dC [] 800 ?_)
 . simp (maxSteps:=9^7) -implicitDefEqProofs only[Ent.of0,Ent.of1,Ent.of2,Ent.of3,Ent.of4,V,W3,↓reduceIte,seval,reduceCtorEq]
   all_goals rfl
 . by_cases h:i < p.m.buf.length
   . have hi2:(i:Int) < (p.m.buf.length:Int):=by omega
     have hi0:(0:Int)<=i:=by omega
     have hgb:=fI p.m.buf i;have hsm:=yN (bs:=p.m.buf) i (by omega);have hfs:=x9 h;have hN:(p.m.buf.take i).flatten.length+(p.m.buf.getD i []).length<=60:=by
      have:=Af p.m.buf i h;omega
     rw[eg [] h,pkL]at hv;have hhs:xj p.m.buf (i+1)=xh (xj p.m.buf i) (i:Int) (p.m.buf.getD i []):=rfl;rw[<- hfs]at hv
     have hIl:∀ x∈p.m.buf.getD i [],InR .i64 x:=fun x hx=>hI x (by
      have:=(fT p.m.buf i h).mem_iff (a:=x)
      exact this.2 (List.mem_append_left _ hx))
     generalize p.m.buf.getD i []=l at *;delta Au oO oN oA oM oR oS oK oL oV oX oB o0 o4;simp (maxSteps:=9^7) -implicitDefEqProofs only[hi0,hi2,h,hgb,eu,zy,InR,WU,Ent.of0,Ent.of1,Ent.of2,Ent.of3,Ent.of4,V,W3,↓reduceIte,seval,reduceCtorEq];generalize hS:(p.m.buf.take i).flatten=seen at *;refine eN l.length (fun k=>[(31,.s (.int .i64 (k:Int)))]) (fun k=>[(17,.res (xU Tryz.prog 3 3 mb (seen.length+k) (xh (xj p.m.buf i) (i:Int) (l.take k))))]) (fun k=>xo p.m.fresh seen (-1) l=xo p.m.fresh seen (if k=0 then -1 else l.getD (k - 1) 0) (l.drop k)/\∀ x∈l.take k,x<=(if k=0 then -1 else l.getD (k - 1) 0)) ⟨rfl,fun x hx=>by simp at hx⟩ ?_ (fun k hk hw=>dC [eZ,dT,dS] 800 ?_)
     . simp (maxSteps:=9^7) -implicitDefEqProofs only[Ent.of0,Ent.of1,Ent.of2,Ent.of3,Ent.of4,V,W3,↓reduceIte,seval,reduceCtorEq]
       all_goals rfl
     . obtain⟨hw1,hw2⟩:=hw;by_cases hkl:k < l.length
       . have hk2:(k:Int) < (l.length:Int):=by omega
         have hk0:(0:Int)<=k:=by omega
         have hge:l.getD k 0=l[k]:=by rw[zb,ze hkl];rfl
         have hIu:=hIl _ (yy hkl);have htk:=yT 0 hkl;rw[y8 hkl]at hw1;rw[<- hge]at hIu;obtain⟨u,hu⟩:∃ u,l.getD k 0=u:=⟨_,rfl⟩;rw[hu]at hw1 hIu htk;have hgl:List.getD (l.map Dat.cells) k []=[C.s (.int .i64 u)]:=by rw[xJ l k hkl,hu]
         have hkn:(xh (xj p.m.buf i) (i:Int) (l.take k) u).isSome=decide (u∈seen\/u∈l.take k):=by
          rw[xY];by_cases q:u∈l.take k
          . simp[q]
          . rw[if_neg q,hsm];simp[q]
         delta At oO oN oA oM oG oR oS oK oF oL oC oI oX oH oB oD oJ o1 o6 o8;simp (maxSteps:=9^7) -implicitDefEqProofs only[xg,hgb,eu,h,hi0,hi2,hk0,hk2,hkl,hgl,zy,yc,InR,WU,Ent.of0,Ent.of1,Ent.of2,Ent.of3,Ent.of4,V,W3,↓reduceIte,seval,reduceCtorEq];refine pw (outs:=?qo1) rfl ?qa1 ?qb1
         case qa1=>
          refine OpM.mapGet (b:=mb) (n:=seen.length+k) (kr:=17) (q:=u) (m:=xh (xj p.m.buf i) (i:Int) (l.take k)) mapT ?_ ?_ hIu ?_ <;> rfl
         intro ef he;subst he;refine nz [eZ,dT,dS] 800 ?_;by_cases hr:0<=u/\u < p.m.fresh
         rotate_left
         . rw[if_pos hr]at hw1;rw[hw1,if_pos (by decide)]at hv;rw[hv,if_pos (by decide)]at hE;subst hE;have hwi:=eq_false (show ¬ (0<=u/\u<=p.m.fresh - 1) by omega);by_cases hk00:k=0
           . have hkI:=eq_true (show (k:Int)=0 by omega);simp (maxSteps:=9^7) -implicitDefEqProofs only[xg,eZ,dT,dS,dM,phX,phC,hkn,hwi,hkI,hgb,eu,h,hi0,hi2,hk0,hk2,hkl,hgl,zy,yc,InR,not_true_eq_false,not_false_eq_true,WU,Ent.of0,Ent.of1,Ent.of2,Ent.of3,Ent.of4,V,W3,↓reduceIte,seval,reduceCtorEq];omega
           . have hkI:=eq_false (show ¬ (k:Int)=0 by omega);obtain⟨hmx,hmx0,hmx1,hmx2⟩:=yP hk00 hkl;have hgl1:=xJ l (k - 1) hmx2;simp (maxSteps:=9^7) -implicitDefEqProofs only[xg,eZ,dT,dS,dM,phX,phC,hkn,hwi,hkI,hgb,eu,h,hi0,hi2,hk0,hk2,hkl,hgl,zy,yc,hmx,hmx0,hmx1,hmx2,hgl1,InR,not_true_eq_false,not_false_eq_true,WU,Ent.of0,Ent.of1,Ent.of2,Ent.of3,Ent.of4,V,W3,↓reduceIte,seval,reduceCtorEq];exact⟨by omega,by omega⟩
         . rw[if_neg (fun q=>q hr)]at hw1;have hwi:=eq_true (show (0<=u/\u<=p.m.fresh - 1) by omega);by_cases ho:u<=(if k=0 then -1 else l.getD (k - 1) 0)
           . have hk00:¬ k=0:=fun q=>by
              rw[if_pos q]at ho;omega
             rw[if_pos ho]at hw1;rw[hw1,if_pos (by decide)]at hv;rw[hv,if_pos (by decide)]at hE;subst hE;rw[if_neg hk00]at ho;have hgt:=eq_false (show ¬ l.getD (k - 1) 0 < u by omega);have hkI:=eq_false (show ¬ (k:Int)=0 by omega);obtain⟨hmx,hmx0,hmx1,hmx2⟩:=yP hk00 hkl;have hgl1:=xJ l (k - 1) hmx2;simp (maxSteps:=9^7) -implicitDefEqProofs only[xg,eZ,dT,dS,dM,phX,phC,hkn,hwi,hkI,hgt,hgb,eu,h,hi0,hi2,hk0,hk2,hkl,hgl,zy,yc,hmx,hmx0,hmx1,hmx2,hgl1,InR,not_true_eq_false,not_false_eq_true,WU,Ent.of0,Ent.of1,Ent.of2,Ent.of3,Ent.of4,V,W3,↓reduceIte,seval,reduceCtorEq];exact⟨by omega,by omega⟩
           . rw[if_neg ho]at hw1;have hnt:u∉l.take k:=fun q=>ho (hw2 u q)
             have hkn2:(xh (xj p.m.buf i) (i:Int) (l.take k) u).isSome=decide (u∈seen):=by rw[hkn];simp[hnt]
             clear hkn;have hps:upd (xh (xj p.m.buf i) (i:Int) (l.take k)) u (i:Int)=xh (xj p.m.buf i) (i:Int) (l.take (k+1)):=by rw[htk,yR]
             have hk1:¬ k+1=0:=by omega
             have hiI:InR .i64 (i:Int):=by simp only[InR];omega
             have hord:k=0\/(¬ k=0/\l.getD (k - 1) 0 < u):=by
              by_cases q:k=0
              . exact .inl q
              . rw[if_neg q]at ho;exact .inr ⟨q,by omega⟩
             by_cases hsn:u∈seen
             . rw[if_pos hsn]at hw1;rw[hw1,if_pos (by decide)]at hv;rw[hv,if_pos (by decide)]at hE;subst hE;have hkn:=hkn2.trans (decide_eq_true hsn);rcases hord with hk00 | ⟨hk00,hgt⟩
               . have hkI:=eq_true (show (k:Int)=0 by omega);simp (maxSteps:=9^7) -implicitDefEqProofs only[xg,eZ,dT,dS,dM,phX,phC,hkn,hwi,hkI,hgb,eu,h,hi0,hi2,hk0,hk2,hkl,hgl,zy,yc,InR,not_true_eq_false,not_false_eq_true,WU,Ent.of0,Ent.of1,Ent.of2,Ent.of3,Ent.of4,V,W3,↓reduceIte,seval,reduceCtorEq];omega
               . have hgt:=eq_true hgt;have hkI:=eq_false (show ¬ (k:Int)=0 by omega);obtain⟨hmx,hmx0,hmx1,hmx2⟩:=yP hk00 hkl;have hgl1:=xJ l (k - 1) hmx2;simp (maxSteps:=9^7) -implicitDefEqProofs only[xg,eZ,dT,dS,dM,phX,phC,hkn,hwi,hkI,hgt,hgb,eu,h,hi0,hi2,hk0,hk2,hkl,hgl,zy,yc,hmx,hmx0,hmx1,hmx2,hgl1,InR,not_true_eq_false,not_false_eq_true,WU,Ent.of0,Ent.of1,Ent.of2,Ent.of3,Ent.of4,V,W3,↓reduceIte,seval,reduceCtorEq];exact⟨by omega,by omega⟩
             . rw[if_neg hsn]at hw1;have hkn:=hkn2.trans (decide_eq_false hsn);have hnx:∀ x∈l.take (k+1),x<=u:=fun x hx=>by
                rw[htk,zW,zg]at hx;rcases hx with hx | rfl
                . have:=hw2 x hx;omega
                . exact Int.le_refl _
               rcases hord with hk00 | ⟨hk00,hgt⟩
               . have hkI:=eq_true (show (k:Int)=0 by omega);simp (maxSteps:=9^7) -implicitDefEqProofs only[xg,eZ,dT,dS,dM,phX,phC,hkn,hwi,hkI,hgb,eu,h,hi0,hi2,hk0,hk2,hkl,hgl,zy,yc,InR,not_true_eq_false,not_false_eq_true,WU,Ent.of0,Ent.of1,Ent.of2,Ent.of3,Ent.of4,V,W3,↓reduceIte,seval,reduceCtorEq];refine⟨by omega,?_⟩;refine pw (outs:=?qo2) rfl ?qa2 ?qb2
                 case qa2=>
                  refine OpM.mapPut (b:=mb) (n:=seen.length+k) (kr:=17) (q:=u) (c:=(i:Int)) (m:=xh (xj p.m.buf i) (i:Int) (l.take k)) mapT (by omega) ?_ ?_ ?_ hIu hiI ?_ <;> rfl
                 intro ef he;subst he;refine nz [] 800 ?_;simp (maxSteps:=9^7) -implicitDefEqProofs only[xg,xN,hps,hkl,hw1,hk1,hu,Nat.add_sub_cancel,InR,WU,Ent.of0,Ent.of1,Ent.of2,Ent.of3,Ent.of4,V,W3,↓reduceIte,seval,reduceCtorEq];exact⟨by omega,hnx,by omega,rfl⟩
               . have hgt:=eq_true hgt;have hkI:=eq_false (show ¬ (k:Int)=0 by omega);obtain⟨hmx,hmx0,hmx1,hmx2⟩:=yP hk00 hkl;have hgl1:=xJ l (k - 1) hmx2;simp (maxSteps:=9^7) -implicitDefEqProofs only[xg,eZ,dT,dS,dM,phX,phC,hkn,hwi,hkI,hgt,hgb,eu,h,hi0,hi2,hk0,hk2,hkl,hgl,zy,yc,hmx,hmx0,hmx1,hmx2,hgl1,InR,not_true_eq_false,not_false_eq_true,WU,Ent.of0,Ent.of1,Ent.of2,Ent.of3,Ent.of4,V,W3,↓reduceIte,seval,reduceCtorEq];refine⟨by omega,by omega,?_⟩;refine pw (outs:=?qo3) rfl ?qa3 ?qb3
                 case qa3=>
                  refine OpM.mapPut (b:=mb) (n:=seen.length+k) (kr:=17) (q:=u) (c:=(i:Int)) (m:=xh (xj p.m.buf i) (i:Int) (l.take k)) mapT (by omega) ?_ ?_ ?_ hIu hiI ?_ <;> rfl
                 intro ef he;subst he;refine nz [] 800 ?_;simp (maxSteps:=9^7) -implicitDefEqProofs only[xg,xN,hps,hkl,hw1,hk1,hu,Nat.add_sub_cancel,InR,WU,Ent.of0,Ent.of1,Ent.of2,Ent.of3,Ent.of4,V,W3,↓reduceIte,seval,reduceCtorEq];exact⟨by omega,hnx,by omega,rfl⟩
       . have hke:k=l.length:=by omega
         subst hke;have hk2:¬ ((l.length:Nat):Int) < (l.length:Int):=by omega
         rw[zv (zw _),xo]at hw1;rw[if_neg (by simp[hw1])]at hv;rw[hfs]at hv;delta At oO oN oA oM oG oR oS oK oF oL oC oI oX oH oB oD oJ o1 o6 o8;simp (maxSteps:=9^7) -implicitDefEqProofs only[xg,hk2,hhs,hfs,yo,zK,InR,not_true_eq_false,not_false_eq_true,WU,Ent.of0,Ent.of1,Ent.of2,Ent.of3,Ent.of4,V,W3,↓reduceIte,seval,reduceCtorEq];exact⟨by omega,h,hv,by omega⟩
   . have hie:i=p.m.buf.length:=by omega
     subst hie;have hi2:¬ ((p.m.buf.length:Nat):Int) < (p.m.buf.length:Int):=by omega
     rw[zv (zw _),pkL]at hv;rw[if_neg (by simp[hv])]at hE;obtain⟨z1,z2,z3⟩:=(xV _ _).1 hv;have hho:=yN (bs:=p.m.buf) p.m.buf.length (zw _);rw[yo]at hho;have hha:=AW (bs:=p.m.buf) p.m.buf.length;generalize hH:xj p.m.buf p.m.buf.length=H at *;delta Au oO oN oA oM oR oS oK oL oV oX oB o0 o4;simp (maxSteps:=9^7) -implicitDefEqProofs only[xg,hi2,yo,InR,not_true_eq_false,not_false_eq_true,WU,Ent.of0,Ent.of1,Ent.of2,Ent.of3,Ent.of4,V,W3,↓reduceIte,seval,reduceCtorEq];refine pw (outs:=?qo4) rfl ?qa4 ?qb4
     case qa4=>
      refine OpM.mapRange (b:=mb) (n:=p.m.buf.flatten.length) (kr:=17) (m:=H) mapT ?_ ?_ <;> rfl
     intro ef he;obtain⟨mrw,cnt,rfl⟩:=he;refine nz [] 800 ?_;simp (maxSteps:=9^7) -implicitDefEqProofs only[xN,InR,WU,Ent.of0,Ent.of1,Ent.of2,Ent.of3,Ent.of4,V,W3,↓reduceIte,seval,reduceCtorEq];generalize hF:p.m.buf.flatten=F at *;have hF60:F.length<=60:=by omega
     have hok:∀ c:Int,∀ z,H z=some c->∃ k:Nat,c=(k:Int)/\z∈p.m.buf.getD k []:=fun c z q=>by
      obtain⟨k,_,q2,q3⟩:=hha z c q;exact⟨k,q2,q3⟩
     refine sJ (α:=(Int->Bool)×Nat) (fun v=>[(11,.s (.int .i64 (xq F p.m.got v.1:Nat)))]) (fun v=>[(17,.res (y5 Tryz.prog 3 3 mb mrw F.length H v.1 v.2))])
      (fun v=>(∀ z,v.1 z=true->(H z).isSome=true)/\∀ z c,v.1 z=false->H z=some c->c=p.m.serving\/c=p.m.source\/(ej p.m=true/\c=p.m.target)) (fun v=>v.2) (fun x=>(H x).isSome,cnt)
      ⟨fun z q=>q,fun z c q1 q2=>(by have q1':(H z).isSome=false:=q1;rw[q2]at q1';cases q1')⟩ ?_ (fun v hv=>dC [fa n p] 800 ?_)
     . have h0:xq F p.m.got (fun x=>(H x).isSome)=0:=Bm F _ fun z hz=>by rw[hho];exact decide_eq_true hz
       simp (maxSteps:=9^7) -implicitDefEqProofs only[h0,Ent.of0,Ent.of1,Ent.of2,Ent.of3,Ent.of4,V,W3,↓reduceIte,seval,reduceCtorEq]
       all_goals rfl
     . obtain⟨lfw,ct⟩:=v;obtain⟨i1,i2⟩:=hv;simp only at i1 i2;delta Bl oO oN oA oM oG oR oS oK oF oL oV oI oX oP oB oD oE oJ o6 o8;simp (maxSteps:=9^7) -implicitDefEqProofs only[xg,InR,WU,Ent.of0,Ent.of1,Ent.of2,Ent.of3,Ent.of4,V,W3,↓reduceIte,seval,reduceCtorEq];refine pw (outs:=?qo5) rfl ?qa5 ?qb5
       case qa5=>
        refine OpM.mapNextE (b:=mb) (r:=mrw) (n:=F.length) (kr:=17) (cnt:=ct) (m:=H) (left:=lfw) mapT ?_ ?_ <;> rfl
       intro ef he;rcases he with⟨rfl,hall⟩ | ⟨z,c,cnt',hz,hc,hlt,hzI,rfl⟩
       . refine nz [dT] 800 ?_;have hop:xD p.m=true:=x7.2 fun i hi=>by
          obtain⟨z,l,hzl⟩:∃ z l,p.m.buf.getD i []=z :: l:=by
           cases hb:p.m.buf.getD i []with
           | nil=>exact absurd hb hi
           | cons z l=>exact⟨z,l,rfl⟩
          have hiL:i < p.m.buf.length:=by
           rcases yu i p.m.buf.length with q | q
           . exact q
           . rw[zb,List.getElem?_eq_none q]at hi;exact absurd rfl hi
          have hzF:z∈F:=by
           rw[<- hF];refine (fT p.m.buf i hiL).mem_iff.2 (List.mem_append_left _ ?_);rw[hzl];simp
          have hsome:(H z).isSome=true:=by rw[hho];exact decide_eq_true hzF
          obtain⟨c,hc⟩:=Option.isSome_iff_exists.1 hsome;obtain⟨k,rfl,hk⟩:=hok c z hc;have hki:k=i:=by
           rcases yr k i with q | q | q
           . exact absurd hk (AH (hF ▸ z3) (Nat.ne_of_lt q) (by rw[hzl];simp))
           . exact q
           . exact absurd hk (AH (hF ▸ z3) (Nat.ne_of_gt q) (by rw[hzl];simp))
          rw[<- hki];exact i2 z k (hall z) hc
         rw[if_neg (by simp[hop])]at hE;have hgc:=Br (m:=p.m) (by rw[hF];exact z3) (fun x hx=>by rw[hF]at hx;exact (z1 x hx).1) hg (by rw[hF];exact hF60);rw[hF]at hgc;have hcn:xq F p.m.got lfw=(F.filter fun x=>decide (p.m.got<=x)).length:=BA F _ hall;rw[<- hcn]at hgc;generalize xq F p.m.got lfw=CN at *;by_cases hgap:xK p.m=true
         . have hEq:=hgc.2 hgap;rw[if_neg (by simp[hgap])]at hE;subst hE;simp (maxSteps:=9^7) -implicitDefEqProofs only[xg,dT,phX,phC,hEq,InR,not_true_eq_false,not_false_eq_true,WU,Ent.of0,Ent.of1,Ent.of2,Ent.of3,Ent.of4,V,W3,↓reduceIte,seval,reduceCtorEq];omega
         . have hEq:((CN:Int)=p.m.fresh - p.m.got)=False:=eq_false fun q=>hgap (hgc.1 q)
           rw[if_pos (by simpa using hgap)]at hE;subst hE;simp (maxSteps:=9^7) -implicitDefEqProofs only[xg,dT,phX,phC,hEq,InR,not_true_eq_false,not_false_eq_true,WU,Ent.of0,Ent.of1,Ent.of2,Ent.of3,Ent.of4,V,W3,↓reduceIte,seval,reduceCtorEq];omega
       . refine nz [] 800 ?_;have hzF:z∈F:=by
          have:=hho z;rw[hc]at this;exact of_decide_eq_true this.symm
         have hcs:xq F p.m.got (fun y=>lfw y && decide (¬ y=z))=xq F p.m.got lfw+if p.m.got<=z then 1 else 0:=Bn z3 hzF hz p.m.got
         have hcl:=cntG_le F p.m.got lfw;simp (maxSteps:=9^7) -implicitDefEqProofs only[xg,xN,InR,not_true_eq_false,not_false_eq_true,WU,Ent.of0,Ent.of1,Ent.of2,Ent.of3,Ent.of4,V,W3,↓reduceIte,seval,reduceCtorEq];refine pw (outs:=?qo6) rfl ?qa6 ?qb6
         case qa6=>
          refine OpM.mapEntry (P:=Tryz.prog) (k:=3) (e:=3) (b:=mb) (r:=mrw) (n:=F.length) (kr:=17) (cnt:=cnt') (m:=H) (left:=fun y=>lfw y && decide (¬ y=z)) (z:=z) (c:=c) ?_ ?_ <;> rfl
         intro ef he;subst he;refine nz [fa n p] 800 ?_;have hbad:¬ (c=p.m.serving\/c=p.m.source\/(ej p.m=true/\c=p.m.target))->E=23:=fun q=>by
          rw[<- hE,if_pos];cases hb:xD p.m with
          | false=>rfl
          | true=>
           obtain⟨kk,rfl,hk⟩:=hok c z hc;exact absurd (x7.1 hb kk (fun e=>by rw[e]at hk;cases hk)) q
         have hnew:(c=p.m.serving\/c=p.m.source\/(ej p.m=true/\c=p.m.target))->∀ z' c',(lfw z' && decide (¬ z'=z))=false->H z'=some c'->c'=p.m.serving\/c'=p.m.source\/(ej p.m=true/\c'=p.m.target):=fun q z' c' h1 h2=>by
          by_cases e:z'=z
          . rw[e,hc]at h2;cases h2;exact q
          . refine i2 z' c' ?_ h2;simpa[e]using h1
         have hleft:∀ z',(lfw z' && decide (¬ z'=z))=true->(H z').isSome=true:=fun z' h1=>by
          rw[zm]at h1;exact i1 z' h1.1
         have hkey:((c=p.m.serving)=True/\True/\True/\True/\(c=p.m.serving\/c=p.m.source\/(ej p.m=true/\c=p.m.target)))\/((c=p.m.serving)=False/\(c=p.m.source)=True/\True/\True/\(c=p.m.serving\/c=p.m.source\/(ej p.m=true/\c=p.m.target)))\/((c=p.m.serving)=False/\(c=p.m.source)=False/\(c=p.m.target)=False/\True/\E=23)\/((c=p.m.serving)=False/\(c=p.m.source)=False/\(c=p.m.target)=True/\ej p.m=false/\E=23)\/((c=p.m.serving)=False/\(c=p.m.source)=False/\(c=p.m.target)=True/\ej p.m=true/\(c=p.m.serving\/c=p.m.source\/(ej p.m=true/\c=p.m.target))):=by
          by_cases q1:c=p.m.serving
          . exact .inl ⟨eq_true q1,trivial,trivial,trivial,.inl q1⟩
          . by_cases q2:c=p.m.source
            . exact .inr (.inl ⟨eq_false q1,eq_true q2,trivial,trivial,.inr (.inl q2)⟩)
            . by_cases q3:c=p.m.target
              . cases q4:ej p.m
                . exact .inr (.inr (.inr (.inl ⟨eq_false q1,eq_false q2,eq_true q3,rfl,hbad (fun q=>q.elim q1 fun q=>q.elim q2 fun q=>(by have q5:=q.1;rw[q4]at q5;cases q5))⟩)))
                . exact .inr (.inr (.inr (.inr ⟨eq_false q1,eq_false q2,eq_true q3,rfl,.inr (.inr ⟨rfl,q3⟩)⟩)))
              . exact .inr (.inr (.inl ⟨eq_false q1,eq_false q2,eq_false q3,trivial,hbad (fun q=>q.elim q1 fun q=>q.elim q2 fun q=>q3 q.2)⟩))
         clear hbad i1 i2;rcases hkey with⟨q1,q2,q3,q4,q5⟩ | ⟨q1,q2,q3,q4,q5⟩ | ⟨q1,q2,q3,q4,q5⟩ | ⟨q1,q2,q3,q4,q5⟩ | ⟨q1,q2,q3,q4,q5⟩
         all_goals
          by_cases hgz:p.m.got<=z
          all_goals
           have hgz':=hgz;simp only[hgz,if_true,if_false]at hcs;simp (maxSteps:=9^7) -implicitDefEqProofs only[xg,fa,eq,phX,phC,xN,q1,q2,q3,q4,hgz,InR,not_true_eq_false,not_false_eq_true,WU,Ent.of0,Ent.of1,Ent.of2,Ent.of3,Ent.of4,V,W3,↓reduceIte,seval,reduceCtorEq];have hcz:((xq F p.m.got (fun y=>lfw y && decide (¬ y=z)):Nat):Int)=(xq F p.m.got lfw:Nat)+if p.m.got<=z then 1 else 0:=by
            rw[hcs];simp only[hgz,if_true,if_false];omega
           simp only[hgz,if_true,if_false]at hcz
           first
           | exact q5.symm
           | exact⟨by omega,(fun y=>lfw y && decide (¬ y=z),cnt'),⟨hleft,hnew q5⟩,hlt,hcz.symm,rfl⟩
           | exact⟨(fun y=>lfw y && decide (¬ y=z),cnt'),⟨hleft,hnew q5⟩,hlt,(by rw[hcz];omega),rfl⟩
           | exact⟨by omega,(fun y=>lfw y && decide (¬ y=z),cnt'),⟨hleft,fun z' c' h1 h2=>(hnew q5 z' c' h1 h2).imp id (Or.imp id And.right)⟩,hlt,hcz.symm,rfl⟩
           | exact⟨(fun y=>lfw y && decide (¬ y=z),cnt'),⟨hleft,fun z' c' h1 h2=>(hnew q5 z' c' h1 h2).imp id (Or.imp id And.right)⟩,hlt,(by rw[hcz];omega),rfl⟩
theorem Clone_o (l:List Int) (h:l.length<=1000000):FC Tryz.prog 143 [enc l] [] (.own 5) [(5,.row 1 3 (l.map Dat.cells))]:=by
 refine dD [5] E3.is143 (by simp) (by simp[bk]) (by simp[an,ag]) (by simp[an,ag,av]) (by simp[aB,lk]) (fun cx _ hl _=>dC [] 800 ?_);cases l with
 | nil=>
  delta E3.c143 oO oA oM oS oK oI oX o1;simp (maxSteps:=9^7) -implicitDefEqProofs only[E3.rv143,zR,InR,WU,Ent.of0,Ent.of1,Ent.of2,Ent.of3,Ent.of4,V,W3,↓reduceIte,seval,reduceCtorEq];refine pw rfl (OpM.isnilE (n:=1) rfl) (fun ef he=>?_);obtain⟨b,rfl⟩:=he;refine nz [] 800 ?_;cases b
  . simp (maxSteps:=9^7) -implicitDefEqProofs only[E3.rv143,zR,InR,WU,Ent.of0,Ent.of1,Ent.of2,Ent.of3,Ent.of4,V,W3,↓reduceIte,seval,reduceCtorEq];refine iw (dC [] 500 ?_);delta E3.c143k2;simp (maxSteps:=9^7) -implicitDefEqProofs only[E3.rv143,WU,Ent.of0,Ent.of1,Ent.of2,Ent.of3,Ent.of4,V,W3,↓reduceIte,seval,reduceCtorEq]
  . simp (maxSteps:=9^7) -implicitDefEqProofs only[E3.rv143,zR,InR,WU,Ent.of0,Ent.of1,Ent.of2,Ent.of3,Ent.of4,V,W3,↓reduceIte,seval,reduceCtorEq];refine m9 (i:=2) (sz:=1) (ty:=3) (by decide) rfl ?_;refine S_ren [(2,5)] (by decide) (by simp[an,ag,dn,af,ae,rn,av]) (by simp[jn,dn,af,ae]) ?_;refine iw (dC [] 500 ?_);delta E3.c143k1;simp (maxSteps:=9^7) -implicitDefEqProofs only[E3.rv143,dn,renS,rn,WU,Ent.of0,Ent.of1,Ent.of2,Ent.of3,Ent.of4,V,W3,↓reduceIte,seval,reduceCtorEq]
 | cons a tlw=>
  simp only[zQ]at h;delta E3.c143 oO oA oM oS oK oI oX o1;simp (maxSteps:=9^7) -implicitDefEqProofs only[E3.rv143,zt,zQ,InR,WU,Ent.of0,Ent.of1,Ent.of2,Ent.of3,Ent.of4,V,W3,↓reduceIte,seval,reduceCtorEq];refine⟨?_,iw (dC [] 500 ?_)⟩
  . omega
  delta E3.c143k2;simp (maxSteps:=9^7) -implicitDefEqProofs only[E3.rv143,zt,WU,Ent.of0,Ent.of1,Ent.of2,Ent.of3,Ent.of4,V,W3,↓reduceIte,seval,reduceCtorEq]
def AV (l:List Int) (h:l.length<=1000000):Ent Tryz.prog:=entN 143 [enc l] (.own 5) 5 (.row 1 3 (l.map Dat.cells)) (by simp[dF]) (by simp[gm]) (Clone_o l h)
def phO (n:Nw) (p:Ph):Chs:=[(100000,.box [.ptr 100001 0]),(100001,.box (phC n p 100002)),(100002,.deep 1 3 24 none (fP p.m.buf))]
theorem y4 (n:Nw) (p:Ph):an (ag (phO n p)):=by simp[phO,an,ag,av]
theorem Ba (n:Nw) (p:Ph):bk (phO n p):=by simp[phO,bk]
theorem Ad (n:Nw) (p q:Ph):aB (phO n p) (phO n q):=by simp[phO,aB,lk]
theorem open1_c (n:Nw) (p:Ph) (c:Int) (h:NwS n):FC Tryz.prog 144 [enc c,.ptr 100000 0] (phO n p) (enc (decide (c=-1) || isC n c)) (phO n p):=by
 refine dD [100002] is144 (by simp) (Ba n p) (y4 n p) (y4 n p) (Ad n p p) (fun cx _ hl _=>dC [Ay n p c h] 800 ?_);by_cases hc:c=-1
 . delta c144 oO oN oM oG oX oH oB oD oJ o9;simp (maxSteps:=9^7) -implicitDefEqProofs only[rv144,phO,phX,phC,Ay,eq,hc,yz,WU,Ent.of0,Ent.of1,Ent.of2,Ent.of3,Ent.of4,V,W3,↓reduceIte,seval,reduceCtorEq]
 . delta c144 oO oN oM oG oX oH oB oD oJ o9;simp (maxSteps:=9^7) -implicitDefEqProofs only[rv144,phO,phX,phC,Ay,eq,hc,zF,WU,Ent.of0,Ent.of1,Ent.of2,Ent.of3,Ent.of4,V,W3,↓reduceIte,seval,reduceCtorEq]
theorem open2_c (n:Nw) (p:Ph) (c:Int):FC Tryz.prog 147 [enc c,.ptr 100000 0] (phO n p) (enc (decide (c=-1) || nbr n c p.m.serving)) (phO n p):=by
 refine dD [100002] is147 (by simp) (Ba n p) (y4 n p) (y4 n p) (Ad n p p) (fun cx _ hl _=>dC [nZ n p c] 800 ?_);by_cases hc:c=-1
 . delta c147 oO oN oM oG oX oH oB oD oJ o9;simp (maxSteps:=9^7) -implicitDefEqProofs only[rv147,phO,phX,phC,nZ,eq,hc,yz,WU,Ent.of0,Ent.of1,Ent.of2,Ent.of3,Ent.of4,V,W3,↓reduceIte,seval,reduceCtorEq]
 . delta c147 oO oN oM oG oX oH oB oD oJ o9;simp (maxSteps:=9^7) -implicitDefEqProofs only[rv147,phO,phX,phC,nZ,eq,hc,zF,WU,Ent.of0,Ent.of1,Ent.of2,Ent.of3,Ent.of4,V,W3,↓reduceIte,seval,reduceCtorEq]
def x8 (n:Nw) (p:Ph):Ent Tryz.prog:=eq 146 n p p [.ptr 100000 0] (enc (fmP p.m)) trivial (BC n p)
def xQ (n:Nw) (p:Ph) (hf:0<=p.m.fresh/\p.m.fresh<=1000000) (hg:0<=p.m.got/\p.m.got<=p.m.fresh) (hl1:p.m.buf.length<=1000000) (hp:fj p.m.buf<=1000000000) (hI:∀ x∈p.m.buf.flatten,InR .i64 x):Ent Tryz.prog:=eq 150 n p p [.ptr 100000 0] (enc (pkE p.m)) trivial (AJ n p hf hg hl1 hp hI)
def xA (f:FuncId) (n:Nw) (p:Ph) (g:Int->C) (hr:∀ c,dF [100000,100001] (g c)) (h:∀ c:Int,FC Tryz.prog f [.ptr 100000 0,enc c] (phX n p) (g c) (phX n p)):Ent Tryz.prog:=.mk3 f (fun args chs=>match args with
 |[.ptr 100000 0,.s (.int .i64 c)]=>some (chs=phX n p,g c,phX n p,[])
 |_=>none) (by
 intro args chs pp r' chs' nk hs hp;split at hs
 . rename_i c;simp only[zn,zf]at hs;obtain⟨rfl,rfl,rfl,rfl⟩:=hs;subst hp;refine⟨h c,⟨fun k c hm=>.inr ⟨c,hm⟩,fun k cs hm=>⟨cs,hm⟩,hr c,fun k c hm=>?_⟩⟩;simp only[phX,zl,zA,or_false,zf]at hm;rcases hm with⟨rfl,rfl⟩ | ⟨rfl,rfl⟩
   . simp[gm,phC,phX,dF,dF.keysIns]
   . trivial
 . cases hs)
def xv (f:FuncId) (n:Nw) (p:Ph) (g:Int->C) (hr:∀ c,dF [100000,100001,100002] (g c)) (h:∀ c:Int,FC Tryz.prog f [enc c,.ptr 100000 0] (phO n p) (g c) (phO n p)):Ent Tryz.prog:=.mk3 f (fun args chs=>match args with
 |[.s (.int .i64 c),.ptr 100000 0]=>some (chs=phO n p,g c,phO n p,[])
 |_=>none) (by
 intro args chs pp r' chs' nk hs hp;split at hs
 . rename_i c;simp only[zn,zf]at hs;obtain⟨rfl,rfl,rfl,rfl⟩:=hs;subst hp;refine⟨h c,⟨fun k c hm=>.inr ⟨c,hm⟩,fun k cs hm=>⟨cs,hm⟩,hr c,fun k c hm=>?_⟩⟩;simp only[phO,zl,zA,or_false,zf]at hm;rcases hm with⟨rfl,rfl⟩ | ⟨rfl,rfl⟩ | ⟨rfl,rfl⟩
   . simp[gm,phO,dF,dF.keysIns]
   . simp[gm,phC,phO,dF,dF.keysIns]
   . trivial
 . cases hs)
def x5 (n:Nw) (p:Ph) (h:NwS n):Ent Tryz.prog:=xA 145 n p (fun c=>enc (isC n c)) (fun _=>trivial) (fun c=>Aa n p c h)
def x4 (n:Nw) (p:Ph) (h:NwS n):Ent Tryz.prog:=xv 144 n p (fun c=>enc (decide (c=-1) || isC n c)) (fun _=>trivial) (fun c=>open1_c n p c h)
def xC (n:Nw) (p:Ph):Ent Tryz.prog:=xv 147 n p (fun c=>enc (decide (c=-1) || nbr n c p.m.serving)) (fun _=>trivial) (fun c=>open2_c n p c)
structure MsB (m:Ms):Prop where
 l:m.buf.length<=1000000
 r:∀ x∈m.buf,x.length<=1000
 i:∀ x∈m.buf.flatten,InR .i64 x
def opE (n:Nw) (m:Ms):Int:=if (eW n).2≠0 then (eW n).2 else x3 n m
def opP (m:Ms):Ph:=⟨m,[],[⟨0,0,0⟩],-1,0⟩
def msD (m:Ms):List C:=[.s (.int .i64 m.at_),.s (.int .i64 m.phase),.s (.int .i64 m.since),.s (.int .i64 m.serving),.s (.int .i64 m.target),.s (.int .i64 m.source),.s (.int .i64 m.path),.s (.int .i64 m.fresh),.s (.int .i64 m.got),.sl 1 (m.buf.map Dat.cells)]
def chO (n:Nw) (m:Ms):Chs:=[(1030,.deep 1 3 24 none (fP m.buf)),(7,.box [.ptr 30 0]),(30,.box (phC n (opP m) 1030)),(3,.box (msD m)),(2,.box [.sl 1 (n.cells.map Dat.cells),.sl 2 (n.nb.map Dat.cells),.s (.int .i64 n.limit)])]
theorem fmP_eq {n:Nw} {m:Ms} (h:isC n m.path=true):fmP m=fmB m:=by
 simp only[isC,decide_eq_true_eq]at h;unfold fmP fmB bsyB;by_cases a:m.target=-1 <;> by_cases b0:m.phase=0 <;> by_cases b:m.phase=1 <;> by_cases b2:m.phase=2 <;> by_cases c:m.source=-1 <;> by_cases q:m.path=m.serving <;> by_cases r:m.path=m.source <;> simp[a,b,b2,b0,c,q,r] <;> omega
theorem bqT (b:Bool):(b == true)=b:=by cases b <;> rfl
theorem bqF (b:Bool):(b == false)=!b:=by cases b <;> rfl
theorem open_1 (n:Nw) (m:Ms) (hn:NwS n) (hm:MsB m) (cx:Cx) (E:Int) (r:C) (ch:Chs)
 (hE:(if ¬(0<=m.phase/\m.phase<=3)then 15 else if rgB m=false then 2 else if msB n m=false then 6 else if fmB m=false then 3 else if clB n m=false then 13 else if stB n m=false then 22 else pkE m)=E)
 (her:E≠0->r=.tup [.s (.pointer none),enc E]/\ch=[])
 (hgo:(0<=m.phase/\m.phase<=3)->rgB m=true->msB n m=true->fmB m=true->SG Tryz.prog cx (cB [RV.tmp 4,RV.tmp 5] [1030] r ch) [It.c E2.c113k2.cut] ⟨[(3,.ptr 3 0),(7,.ptr 7 0),(13,.fn (.func 147) [] [.ptr 7 0])],chO n m⟩) :
 SG Tryz.prog cx (cB [RV.tmp 4,RV.tmp 5] [1030] r ch) [It.c E2.c113k3.cut] ⟨[(3,.ptr 3 0),(7,.ptr 7 0),(10,.fn (.func 144) [] [.ptr 7 0]),(11,.s (.bool (rgB m)))],chO n m⟩:=by
 have hml:=hm.l;have hEn:dM [if (0<=m.phase/\m.phase<=3)then 0 else 15,if rgB m=true then 0 else 2,if msB n m=true then 0 else 6,if fmP m=true then 0 else 3]=0/\((0<=m.phase/\m.phase<=3)/\rgB m=true/\msB n m=true/\fmB m=true)\/(dM [if (0<=m.phase/\m.phase<=3)then 0 else 15,if rgB m=true then 0 else 2,if msB n m=true then 0 else 6,if fmP m=true then 0 else 3]=E/\E≠0):=by
  by_cases a1:(0<=m.phase/\m.phase<=3)
  . cases a2:rgB m
    . simp only[a1,a2]at hE;right;subst hE;simp[dM,a1]
    . cases a3:msB n m
      . simp only[a1,a2,a3]at hE;right;subst hE;simp[dM,a1]
      . have a4:fmP m=fmB m:=fmP_eq (n:=n) (by simp only[msB,zm]at a3;exact a3.1.1.2);rw[a4];cases a5:fmB m
        . simp only[a1,a2,a3,a5]at hE;right;subst hE;simp[dM,a1]
        . left;exact⟨by simp[dM,a1],a1,rfl,rfl,rfl⟩
  . simp only[a1]at hE;right;subst hE;simp[dM,a1]
 refine iw (dC [] 500 ?_);delta E2.c113k3 oO oN oA oM oT oG oS oK oF oL oC oI oX oP oB oD oE oJ o1;simp (maxSteps:=9^7) -implicitDefEqProofs only[WU,Ent.of0,Ent.of1,Ent.of2,Ent.of3,Ent.of4,V,W3,↓reduceIte,seval,reduceCtorEq];refine AU [eZ,dT,dS,x5 n (opP m) hn,x4 n (opP m) hn,x8 n (opP m)] 800 ?_;have hc:(isC n m.serving=false/\msB n m=false)\/(isC n m.serving=true/\isC n m.path=false/\msB n m=false)\/(isC n m.serving=true/\isC n m.path=true/\(decide (m.target=-1) || isC n m.target)=false/\msB n m=false)\/(isC n m.serving=true/\isC n m.path=true/\(decide (m.target=-1) || isC n m.target)=true/\msB n m=(decide (m.source=-1) || isC n m.source)):=by
  unfold msB;cases isC n m.serving <;> cases isC n m.path <;> cases (decide (m.target=-1) || isC n m.target) <;> simp
 rcases hc with⟨g1,g4⟩ | ⟨g1,g2,g4⟩ | ⟨g1,g2,g3,g4⟩ | ⟨g1,g2,g3,g4⟩
 . simp (maxSteps:=9^7) -implicitDefEqProofs only[drR,xR,xB,stR,xL,xM,xm,br,gV,fm,chO,phC,opP,msD,phX,phO,eZ,dT,dS,x5,x4,x8,eq,xA,xv,g1,aF,an,ag,av,aU,bqT,bqF,Bool.not_true,Bool.not_false,InR,WU,Ent.of0,Ent.of1,Ent.of2,Ent.of3,Ent.of4,V,W3,↓reduceIte,seval,reduceCtorEq];refine⟨rfl,dC [] 600 ?_⟩;simp (maxSteps:=9^7) -implicitDefEqProofs only[E2.rv113,WU,Ent.of0,Ent.of1,Ent.of2,Ent.of3,Ent.of4,V,W3,↓reduceIte,seval,reduceCtorEq];rw[g4]at hEn;simp only[zr,if_false,false_and,and_false,false_or]at hEn;obtain⟨hF,h0⟩:=hEn;obtain⟨rfl,rfl⟩:=her h0;rw[hF,if_pos h0];simp (maxSteps:=9^7) -implicitDefEqProofs only[Ent.of0,Ent.of1,Ent.of2,Ent.of3,Ent.of4,V,W3,↓reduceIte,seval,reduceCtorEq]
 . simp (maxSteps:=9^7) -implicitDefEqProofs only[drR,xR,xB,stR,xL,xM,xm,br,gV,fm,chO,phC,opP,msD,phX,phO,eZ,dT,dS,x5,x4,x8,eq,xA,xv,g1,g2,aF,an,ag,av,aU,bqT,bqF,Bool.not_true,Bool.not_false,InR,WU,Ent.of0,Ent.of1,Ent.of2,Ent.of3,Ent.of4,V,W3,↓reduceIte,seval,reduceCtorEq];refine⟨rfl,dC [] 600 ?_⟩;simp (maxSteps:=9^7) -implicitDefEqProofs only[E2.rv113,WU,Ent.of0,Ent.of1,Ent.of2,Ent.of3,Ent.of4,V,W3,↓reduceIte,seval,reduceCtorEq];rw[g4]at hEn;simp only[zr,if_false,false_and,and_false,false_or]at hEn;obtain⟨hF,h0⟩:=hEn;obtain⟨rfl,rfl⟩:=her h0;rw[hF,if_pos h0];simp (maxSteps:=9^7) -implicitDefEqProofs only[Ent.of0,Ent.of1,Ent.of2,Ent.of3,Ent.of4,V,W3,↓reduceIte,seval,reduceCtorEq]
 . simp (maxSteps:=9^7) -implicitDefEqProofs only[drR,xR,xB,stR,xL,xM,xm,br,gV,fm,chO,phC,opP,msD,phX,phO,eZ,dT,dS,x5,x4,x8,eq,xA,xv,g1,g2,g3,aF,an,ag,av,aU,bqT,bqF,Bool.not_true,Bool.not_false,InR,WU,Ent.of0,Ent.of1,Ent.of2,Ent.of3,Ent.of4,V,W3,↓reduceIte,seval,reduceCtorEq];refine⟨rfl,dC [] 600 ?_⟩;simp (maxSteps:=9^7) -implicitDefEqProofs only[E2.rv113,WU,Ent.of0,Ent.of1,Ent.of2,Ent.of3,Ent.of4,V,W3,↓reduceIte,seval,reduceCtorEq];rw[g4]at hEn;simp only[zr,if_false,false_and,and_false,false_or]at hEn;obtain⟨hF,h0⟩:=hEn;obtain⟨rfl,rfl⟩:=her h0;rw[hF,if_pos h0];simp (maxSteps:=9^7) -implicitDefEqProofs only[Ent.of0,Ent.of1,Ent.of2,Ent.of3,Ent.of4,V,W3,↓reduceIte,seval,reduceCtorEq]
 . simp (maxSteps:=9^7) -implicitDefEqProofs only[drR,xR,xB,stR,xL,xM,xm,br,gV,fm,chO,phC,opP,msD,phX,phO,eZ,dT,dS,x5,x4,x8,eq,xA,xv,g1,g2,g3,aF,an,ag,av,aU,bqT,bqF,Bool.not_true,Bool.not_false,InR,WU,Ent.of0,Ent.of1,Ent.of2,Ent.of3,Ent.of4,V,W3,↓reduceIte,seval,reduceCtorEq];refine⟨rfl,dC [] 600 ?_⟩;simp (maxSteps:=9^7) -implicitDefEqProofs only[E2.rv113,WU,Ent.of0,Ent.of1,Ent.of2,Ent.of3,Ent.of4,V,W3,↓reduceIte,seval,reduceCtorEq];rw[<- g4];rcases hEn with⟨hF,q1,q2,q3,q4⟩ | ⟨hF,h0⟩
   . rw[hF,if_neg (fun q=>q rfl)];exact hgo q1 q2 q3 q4
   . obtain⟨rfl,rfl⟩:=her h0;rw[hF,if_pos h0];simp (maxSteps:=9^7) -implicitDefEqProofs only[Ent.of0,Ent.of1,Ent.of2,Ent.of3,Ent.of4,V,W3,↓reduceIte,seval,reduceCtorEq]
theorem y7 : ∀ (bs:List (List Int)) (k:Nat),(∀ x∈bs,x.length<=k)->bs.flatten.length<=bs.length*k
 |[],k,h=>by simp
 | b :: bs,k,h=>by
  have h1:=y7 bs k (fun x hx=>h x (by simp[hx]));have h2:=h b (by simp);rw[List.flatten_cons,zK,zQ,zP];omega
theorem stB_eq (n:Nw) (m:Ms):stB n m=(!(ej m && decide (m.since+n.limit<=m.at_)) && !(fU m)):=by
 unfold stB fU;cases h:decide (m.source=-1) <;> simp_all
end Go.Proofs.YtcbabnbiinkafaaGreatDoor
end
