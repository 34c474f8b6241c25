/- Part 2 of the proof of: MoveOnce returns true for every input and never panics: every packet of a log comes once and in its order, or still waits; conditions: those of the given statement, that the package variables it lists hold what their initialisers lay. -/
import Derived.Test.YtcbabnbiinkafaaGreatDoorMoveOnce1
set_option linter.all false
section
open Go Go.Am
open Go.Am.Dat (cells)
namespace Go.Proofs.YtcbabnbiinkafaaGreatDoor
set_option maxHeartbeats 4000000
set_option maxRecDepth 100000
theorem upL_len (k:Nat):∀ a,(upL a k).length=k:=by
 induction k with
 | zero=>intro a;rfl
 | succ k ih=>intro a;simp[upL,ih]
theorem Bu (k:Nat):∀ (a:Int) (i:Nat),i < k->(upL a k).getD i 0=a+i:=by
 induction k with
 | zero=>intro a i h;omega
 | succ k ih=>
  intro a i h;cases i with
  | zero=>simp[upL]
  | succ i=>
   show (upL (a+1) k).getD i 0=_
   rw[ih _ _ (by omega)];push_cast;omega
theorem Ae (m:Ms):(settle m).fresh=m.fresh:=by
 unfold Go.Proofs.YtcbabnbiinkafaaGreatDoor.settle;split <;> rfl
theorem Aq (n:Nw) (m:Ms) (t:Int):(qN n m t).fresh=m.fresh:=by unfold qN;split <;> rfl
theorem Ap (n:Nw) (m:Ms) (e:T3):(rf n m e).fresh=m.fresh+(if e.x=0 then 1 else 0):=by
 unfold rf;have h1:(lB n m e.y).fresh=m.fresh:=Aq n m e.y;generalize lB n m e.y=q at *;rw[<- h1];unfold kd;by_cases h10:e.x=10
 . rw[if_pos h10,h10];simp[iP]
 . rw[if_neg h10,Ae];unfold eK;by_cases h:e.x=0
   . simp only[h,if_true]
   . simp only[h,if_false]
     repeat' split
     all_goals simp
theorem AZ (n:Nw) (m:Ms) (e:T3):(rf n m e).got=m.got\/(rf n m e).got=m.got+1:=by
 unfold rf;have h1:(lB n m e.y).got=m.got:=yU n m e.y;generalize lB n m e.y=q at *;rw[<- h1];unfold kd;by_cases h10:e.x=10
 . rw[if_pos h10];exact .inl rfl
 . rw[if_neg h10,x8,Ax];split
   . exact .inr rfl
   . exact .inl rfl
def xj : List T3->Int
 |[]=>0
 | e :: l=>(if e.x=0 then 1 else 0)+xj l
theorem AD (n:Nw):∀ (l:List T3) (m:Ms),∃ k:Nat,xX n m l=upL m.got k/\(l.foldl (rf n) m).got=m.got+k/\(l.foldl (rf n) m).fresh=m.fresh+xj l
 |[],m=>⟨0,rfl,by simp,by simp[xj]⟩
 | e :: l,m=>by
  obtain⟨k,h1,h2,h3⟩:=AD n l (rf n m e);have hf:=Ap n m e;rcases AZ n m e with h | h
  . refine⟨k,?_,?_,?_⟩
    . rw[xX,h1,h,if_neg (by omega)];rfl
    . rw[List.foldl_cons,h2,h]
    . rw[List.foldl_cons,h3,hf,xj];omega
  . refine⟨k+1,?_,?_,?_⟩
    . rw[xX,h1,h,if_pos (by omega)];rfl
    . rw[List.foldl_cons,h2,h];push_cast;omega
    . rw[List.foldl_cons,h3,hf,xj];omega
theorem AU (n:Nw) (c:Int) (l:List T3):(lR n c l).m=l.foldl (rf n) (eR n c):=by
 have key:∀ (l:List T3) (p:Ph),(jy n p l).m=l.foldl (rf n) p.m:=by
  intro l
  induction l with
  | nil=>intro p;rfl
  | cons e l ih=>intro p;rw[jy,ih,rc];rfl
 exact key l _
theorem Br {n:Nw} (hn:NetOk n) {c:Int} (hc:isC n c=true) (l:List T3) (h:(iW n (eR n c) l 0).2=0) :
 dP n (lR n c l).m/\(lR n c l).recv=upL 0 (lR n c l).m.got.toNat/\(lR n c l).m.fresh=xj l:=by
 have a:=All.steps hn l (gz n c) (yQ n c) 0 (All.begin hn hc) h;have hr:(lR n c l).recv=xX n (eR n c) l:=by
  show (jy n (gz n c) l).recv=_
  rw[yN];simp[gz]
 obtain⟨k,h1,h2,h3⟩:=AD n l (eR n c);have e0:(eR n c).got=0:=rfl;have e1:(eR n c).fresh=0:=rfl;refine⟨a.g,?_,?_⟩
 . rw[hr,h1,AU,h2,e0]
   congr 1;omega
 . rw[AU,h3,e1];omega
def entN (f:FuncId) (as0:List C) (r:C) (k:Nat) (c:Ch) (hr:dF [k] r) (hc:gm [k] c) (h:FC Tryz.prog f as0 [] r [(k,c)]):Ent Tryz.prog:=.mk3 f (fun args chs=>some (args=as0/\chs=[],r,[(k,c)],[k])) (by
 intro args chs pp r' chs' nk hs hq;simp only[zn,zf]at hs;obtain⟨rfl,rfl,rfl,rfl⟩:=hs;obtain⟨rfl,rfl⟩:=hq;refine⟨h,⟨fun k' c' hm=>.inl ?_,fun k cs hm=>(by simp at hm),hr,fun k' c' hm=>?_⟩⟩
 . simp only[zg,zf]at hm ⊢;exact hm.1
 . simp only[zg,zf]at hm;obtain⟨rfl,rfl⟩:=hm
   exact hc)
theorem AG (l:List Int) (h:l.length<=1000000):FC Tryz.prog 24 [enc l] [] (.own 3) [(3,.row 1 3 (l.map Dat.cells))]:=by
 refine dD [3] is24 (by simp) (by simp[bk]) (by simp[an,ag]) (by simp[an,ag,av]) (by simp[aB,lk]) (fun cx _ hl _=>dC [] 800 ?_);delta c24 oO oA oM oX o1;simp (maxSteps:=9^7) -implicitDefEqProofs only[rv24,InR,WU,Ent.of0,Ent.of1,Ent.of2,Ent.of3,Ent.of4,V,W3,↓reduceIte,seval,reduceCtorEq];omega
def AV (l:List Int) (h:l.length<=1000000):Ent Tryz.prog:=entN 24 [enc l] (.own 3) 3 (.row 1 3 (l.map Dat.cells)) (by simp[dF]) (by simp[gm]) (AG l h)
structure BufS (b:List (List Int)):Prop where
 l:b.length<=1000000
 r:∀ x∈b,x.length<=1000000
theorem An (b:List (List Int)) (h:BufS b):FC Tryz.prog 60 [enc b] [] (.own 3) [(3,.deep 1 3 24 none (fP b))]:=by
 have h1:=h.l;refine dD [3] D7.is60 (by simp) (by simp[bk]) (by simp[an,ag]) (by simp[an,ag,av]) (by simp[aB,lk]) (fun cx _ hl _=>dC [] 800 ?_);delta D7.c60 oA oM oS oK oV oX;simp (maxSteps:=9^7) -implicitDefEqProofs only[D7.rv60,InR,WU,Ent.of0,Ent.of1,Ent.of2,Ent.of3,Ent.of4,V,W3,↓reduceIte,seval,reduceCtorEq];refine⟨by simp,?_⟩;refine eN b.length (fun i=>[(4,.s (.int .i64 (i:Int)))]) (fun i=>[(3,.deep 1 3 24 none (fP (b.take i)))]) (fun _=>True) trivial ?_ (fun i hi _=>?_)
 . simp (maxSteps:=9^7) -implicitDefEqProofs only[Ent.of0,Ent.of1,Ent.of2,Ent.of3,Ent.of4,V,W3,↓reduceIte,seval,reduceCtorEq]
   all_goals rfl
 . by_cases hlt:i < b.length
   . have hi2:(i:Int) < (b.length:Int):=by omega
     have hi0:(0:Int)<=i:=by omega
     have hgx:List.getD (b.map Dat.cells) i [C.sl 0 []]=[C.sl 1 ((b.getD i []).map Dat.cells)]:=by
      rw[zb,zb,zh,ze hlt];rfl
     have hx:=h.r _ (yy hlt);have hgd:b.getD i []=b[i]:=by rw[zb,ze hlt];rfl
     have hap:fP (b.take i)++[(b.getD i []).map Dat.cells]=fP (b.take (i+1)):=by
      rw[hgd,yI hlt,fP,fP,yg];rfl
     have hlen:(b.take i).length=i:=by rw[List.length_take];omega
     rw[<- hgd]at hx;refine dC [AV (b.getD i []) hx] 800 ?_;delta D7.c60l1 oO oN oA oM oR oS oK oL oC oX oB o0 o4;simp (maxSteps:=9^7) -implicitDefEqProofs only[AV,entN,hi0,hi2,hlt,hgx,hap,eu,hlen,InR,WU,Ent.of0,Ent.of1,Ent.of2,Ent.of3,Ent.of4,V,W3,↓reduceIte,seval,reduceCtorEq];omega
   . have hi2:¬ (i:Int) < (b.length:Int):=by omega
     have htk:b.take i=b:=List.take_of_length_le (by omega);refine dC [] 800 ?_;delta D7.c60l1 oO oN oA oM oR oS oK oL oC oX oB o0 o4;simp (maxSteps:=9^7) -implicitDefEqProofs only[D7.rv60,hi2,htk,WU,Ent.of0,Ent.of1,Ent.of2,Ent.of3,Ent.of4,V,W3,↓reduceIte,seval,reduceCtorEq]
structure MsS (m:Ms):Prop where
 b:BufS m.buf
 f:m.buf.flatten.length<=1000000
theorem y3 (bs:List (List Int)) (i:Nat) (h:i < bs.length):(bs.take i).flatten.length+(bs.getD i []).length<=bs.flatten.length:=by
 have e:bs.flatten=(bs.take i).flatten++((bs.getD i [])++(bs.drop (i+1)).flatten):=by
  conv=>lhs;rw[<- List.take_append_drop i bs,eg [] h]
  rw[List.flatten_append,List.flatten_cons]
 rw[e,zK,zK];omega
theorem FC.post {f:FuncId} {as0:List C} {r r':C} (hfc:FC Tryz.prog f as0 [] r []) (hp:∀ E U h v,Rep E U h r v->Rep E U h r' v):FC Tryz.prog f as0 [] r' []:=
 ⟨hfc.1,fun E U vs w hg ha hi=>(hfc.2 E U vs w hg ha hi).mono fun e w' ⟨v,E',U',he,hr,hc⟩=>⟨v,E',U',he,hp _ _ _ _ hr,hc⟩⟩
theorem AM (l:List T3) (h:l.length<=1000000):FC Tryz.prog 38 [enc l] [] (enc l) []:=by
 refine eh is38 (by simp) (fun cx hl=>dC [] 800 ?_);delta c38 oO oA oM oX o3;simp (maxSteps:=9^7) -implicitDefEqProofs only[rv38,hJ,WU,Ent.of0,Ent.of1,Ent.of2,Ent.of3,Ent.of4,V,W3,↓reduceIte,seval,reduceCtorEq];omega
def y6 : Ent Tryz.prog:=.of1 38 (fun l=>l.length<=1000000) (fun l:List T3=>enc l) (fun _=>trivial) (fun l h=>AM l h)
structure Bst where
 f:Bool
 t:Int
 c:Int
 v:Int
def sgT (r:Rul) (L:List (List Int)) (s:Int) (k:Nat):List Int:=iv r (L.getD s.toNat []) (L.getD k [])
def sgIn (r:Rul) (L:List (List Int)) (s t:Int):Nat->Int
 | 0=>-1
 | k+1=>if (k:Int)≠s/\t∈sgT r L s k/\(sgIn r L s t k < 0\/(L.getD (sgIn r L s t k).toNat []).getD t.toNat 0 < (L.getD k []).getD t.toNat 0)then (k:Int)else sgIn r L s t k
structure SgInv (r:Rul) (L:List (List Int)) (s:Int) (k:Nat) (b:Bst):Prop where
 no:b.f=false->∀ t,sgIn r L s t k=-1
 yes:b.f=true->sgIn r L s b.t k=b.c/\(0<=b.c/\b.c < k)/\b.v=(L.getD b.c.toNat []).getD b.t.toNat 0/\(∀ t,t < b.t->sgIn r L s t k=-1)/\0<=b.t/\b.t < (L.getD s.toNat []).length
theorem Al (b:List (List Int)) (h:BufS b):FC Tryz.prog 60 [enc b] [] (enc b) []:=by
 have:=FC.frz (An b h) (x:=.sl 1 (b.map Dat.cells)) (by simp[bz,fP];intro a _;rfl);exact this
def ent60 : Ent Tryz.prog:=.of1 60 BufS (fun b:List (List Int)=>enc b) (fun _=>trivial) (fun b h=>Al b h)
def xv (f:Int) (seen:List Int):Int->List Int->Int
 |_,[]=>0
 | p,x :: l=>if ¬ (0<=x/\x < f)then 2 else if x<=p then 9 else if x∈seen then 26 else xv f seen x l
def pkL (f:Int):List Int->List (List Int)->Int
 |_,[]=>0
 | seen,b :: bs=>if xv f seen (-1) b≠0 then xv f seen (-1) b else pkL f (seen++b) bs
def rgB (m:Ms):Bool:=decide (0<=m.at_/\m.at_<=1000000000) && decide (0<=m.since/\m.since<=m.at_) && decide (0<=m.fresh/\m.fresh<=1000000) && decide (0<=m.got/\m.got<=m.fresh)
def msB (n:Nw) (m:Ms):Bool:=isC n m.serving && isC n m.path && (decide (m.target=-1) || isC n m.target) && (decide (m.source=-1) || isC n m.source)
def bsyB (m:Ms):Bool:=decide (m.phase=1) || decide (m.phase=2)
def fmB (m:Ms):Bool:=
 !((!decide (m.target=-1) && decide (m.phase=0)) || (decide (m.target=-1) && bsyB m) || (!decide (m.source=-1) && (bsyB m || !decide (m.target=-1))) || (!decide (m.path=m.serving) && (decide (m.source=-1) || !decide (m.path=m.source))))
def clB (n:Nw) (m:Ms):Bool:=(decide (m.target=-1) || nbr n m.target m.serving) && (decide (m.source=-1) || nbr n m.source m.serving)
def stB (n:Nw) (m:Ms):Bool:=!(ej m && decide (m.since+n.limit<=m.at_)) && !(!decide (m.source=-1) && decide (m.path=m.serving) && (dQ m m.source).isEmpty)
def opnC (m:Ms) (i:Nat):Bool:=(m.buf.getD i []).isEmpty || decide ((i:Int)=m.serving) || decide ((i:Int)=m.source) || (ej m && decide ((i:Int)=m.target))
def opnB (m:Ms):Bool:=(List.range m.buf.length).all (opnC m)
def xG (l:List Int):Nat->Int->Bool
 | 0,_=>true
 | k+1,a=>decide (a∈l) && xG l k (a+1)
def xV (m:Ms):Bool:=decide (m.fresh - m.got<=60) && xG m.buf.flatten (m.fresh - m.got).toNat m.got
def pkE (m:Ms):Int:=if 60 < m.buf.flatten.length then 8 else if pkL m.fresh [] m.buf≠0 then pkL m.fresh [] m.buf else if opnB m=false then 23 else if xV m=false then 14 else 0
def rstE (n:Nw) (m:Ms):Int:=
 if m.buf.length≠n.cells.length then 10
 else if ¬ (0<=m.phase/\m.phase<=3)then 15
 else if rgB m=false then 2
 else if msB n m=false then 6
 else if fmB m=false then 3
 else if clB n m=false then 13
 else if stB n m=false then 22
 else pkE m
theorem xo {c:Prop} [Decidable c] {a b:Int} (ha:a≠0) (h:(if c then a else b)=0):¬ c/\b=0:=by
 by_cases hc:c
 . rw[if_pos hc]at h;exact absurd h ha
 . rw[if_neg hc]at h;exact⟨hc,h⟩
theorem Af {a b:Int} (h:(if a≠0 then a else b)=0):a=0/\b=0:=by
 by_cases hc:a=0
 . rw[if_neg (by simp[hc])]at h;exact⟨hc,h⟩
 . rw[if_pos hc]at h;exact absurd h hc
theorem xL {f:Int} {seen:List Int}:∀ (l:List Int) (p:Int),xv f seen p l=0↔(∀ x∈l,(0<=x/\x < f)/\p < x/\x∉seen)/\l.Pairwise (· < ·)
 |[],p=>by simp[xv]
 | x :: l,p=>by
  rw[xv];constructor
  . intro h;obtain⟨h1,h⟩:=xo (by decide) h;obtain⟨h2,h⟩:=xo (by decide) h;obtain⟨h3,h⟩:=xo (by decide) h;obtain⟨g1,g2⟩:=(xL l x).1 h;refine⟨fun y hy=>?_,yK.2 ⟨fun y hy=>(g1 y hy).2.1,g2⟩⟩;rcases zl.1 hy with rfl | hy
    . exact⟨by omega,by omega,h3⟩
    . have:=g1 y hy;exact⟨this.1,by omega,this.2.2⟩
  . rintro⟨h1,h2⟩
    obtain⟨q1,q2,q3⟩:=h1 x (by simp);rw[yK]at h2;rw[if_neg (fun q=>q q1),if_neg (by omega),if_neg q3];exact (xL l x).2 ⟨fun y hy=>⟨(h1 y (by simp[hy])).1,h2.1 y hy,(h1 y (by simp[hy])).2.2⟩,h2.2⟩
theorem xJ {f:Int}:∀ (bs:List (List Int)) (seen:List Int),pkL f seen bs=0↔(∀ x∈bs.flatten,(0<=x/\x < f)/\x∉seen)/\(∀ b∈bs,b.Pairwise (· < ·))/\bs.flatten.Nodup
 |[],seen=>by simp[pkL]
 | b :: bs,seen=>by
  rw[pkL];constructor
  . intro h;obtain⟨h1,h⟩:=Af h;obtain⟨g1,g2⟩:=(xL b _).1 h1;obtain⟨k1,k2,k3⟩:=(xJ bs _).1 h;refine⟨fun x hx=>?_,fun c hc=>?_,?_⟩
    . rw[List.flatten_cons,zW]at hx;rcases hx with hx | hx
      . exact⟨(g1 x hx).1,(g1 x hx).2.2⟩
      . exact⟨(k1 x hx).1,fun q=>(k1 x hx).2 (List.mem_append_left _ q)⟩
    . rcases zl.1 hc with rfl | hc
      . exact g2
      . exact k2 c hc
    . rw[List.flatten_cons,List.nodup_append];exact⟨r8 g2,k3,fun x hx y hy e=>(k1 y hy).2 (List.mem_append_right _ (e ▸ hx))⟩
  . rintro⟨h1,h2,h3⟩
    rw[List.flatten_cons,List.nodup_append]at h3
    have e:xv f seen (-1) b=0:=(xL b _).2 ⟨fun x hx=>by
     have:=h1 x (by rw[List.flatten_cons];exact List.mem_append_left _ hx)
     exact⟨this.1,by omega,this.2⟩,h2 b (by simp)⟩
    rw[if_neg (by simp[e])];refine (xJ bs _).2 ⟨fun x hx=>?_,fun c hc=>h2 c (by simp[hc]),h3.2.1⟩;have:=h1 x (by rw[List.flatten_cons];exact List.mem_append_right _ hx);refine⟨this.1,fun q=>?_⟩;rcases zW.1 q with q | q
    . exact this.2 q
    . exact h3.2.2 x q x hx rfl
theorem xH {l:List Int}:∀ (k:Nat) (a:Int),xG l k a=true↔∀ x,a<=x->x < a+k->x∈l
 | 0,a=>by simp[xG];intro x h1 h2;omega
 | k+1,a=>by
  rw[xG,zm,xH k,decide_eq_true_eq];constructor
  . rintro⟨h1,h2⟩ x q1 q2
    rcases Int.lt_or_eq_of_le q1 with q | q
    . exact h2 x (by omega) (by push_cast at q2;omega)
    . exact q ▸ h1
  . exact fun h=>⟨h a (Int.le_refl _) (by push_cast;omega),fun x q1 q2=>h x (by omega) (by push_cast;omega)⟩
theorem xS {m:Ms}:opnB m=true↔∀ i:Nat,m.buf.getD i []≠[]->(i:Int)=m.serving\/(i:Int)=m.source\/(ej m=true/\(i:Int)=m.target):=by
 rw[opnB,zx];constructor
 . intro h i hi;have hl:i < m.buf.length:=by
    rcases yu i m.buf.length with q | q
    . exact q
    . rw[zb,List.getElem?_eq_none q]at hi;exact absurd rfl hi
   have:=h i (zE.2 hl);simp only[opnC,zV,zm,decide_eq_true_eq,List.isEmpty_iff]at this;rcases this with ((q | q) | q) | q
   . exact absurd q hi
   . exact .inl q
   . exact .inr (.inl q)
   . exact .inr (.inr q)
 . intro h i _;simp only[opnC,zV,zm,decide_eq_true_eq,List.isEmpty_iff];rcases Classical.em (m.buf.getD i []=[])with q | q
   . exact .inl (.inl (.inl q))
   . rcases h i q with q | q | q
     . exact .inl (.inl (.inr q))
     . exact .inl (.inr q)
     . exact .inr q
theorem Bs {n:Nw} {m:Ms} (h:rstE n m=0):dP n m:=by
 unfold rstE at h;obtain⟨h1,h⟩:=xo (by decide) h;obtain⟨h2,h⟩:=xo (by decide) h;obtain⟨h3,h⟩:=xo (by decide) h;obtain⟨h4,h⟩:=xo (by decide) h;obtain⟨h5,h⟩:=xo (by decide) h;obtain⟨h6,h⟩:=xo (by decide) h;obtain⟨h7,h⟩:=xo (by decide) h;unfold pkE at h;obtain⟨h8,h⟩:=xo (by decide) h;obtain⟨h9,h⟩:=Af h;obtain⟨h10,h⟩:=xo (by decide) h;obtain⟨h11,h⟩:=xo (by decide) h;clear h;obtain⟨p1,p2,p3⟩:=(xJ _ _).1 h9;have h1':m.buf.length=n.cells.length:=Classical.not_not.1 h1;have h2':0<=m.phase/\m.phase<=3:=Classical.not_not.1 h2;replace h3:rgB m=true:=by simpa using h3
 simp only[rgB,zm,decide_eq_true_eq]at h3;replace h4:msB n m=true:=by simpa using h4
 simp only[msB,zm,zV,decide_eq_true_eq]at h4;replace h5:fmB m=true:=by simpa using h5
 simp only[fmB,bsyB,yC,zm,zV,Bool.and_eq_false_iff,Bool.or_eq_false_iff,Bool.not_eq_false',decide_eq_true_eq,decide_eq_false_iff_not]at h5;replace h6:clB n m=true:=by simpa using h6
 simp only[clB,zm,zV,decide_eq_true_eq]at h6;replace h7:stB n m=true:=by simpa using h7
 simp only[stB,yC,zm,Bool.and_eq_false_iff,Bool.not_eq_false',decide_eq_true_eq,decide_eq_false_iff_not,List.isEmpty_eq_false_iff]at h7;have h10':=xS.1 (by simpa using h10);have h11':xV m=true:=by simpa using h11
 simp only[xV,zm,decide_eq_true_eq,xH]at h11';obtain⟨⟨⟨a1,a2⟩,a3⟩,a4⟩:=h3;obtain⟨⟨⟨b1,b2⟩,b3⟩,b4⟩:=h4;obtain⟨⟨⟨c1,c2⟩,c3⟩,c4⟩:=h5;refine⟨⟨h1',h2',a1,a2,a3,a4,b1,b2,fun q=>?_,fun q=>?_,fun q=>?_,fun q=>?_,fun q=>?_,fun q=>?_,fun q=>?_,fun q=>?_,fun q=>?_,by omega,fun x hx=>(p1 x hx).1,p2,p3,h10',fun x q1 q2=>h11'.2 x q1 (by omega)⟩,fun q1 q2=>?_⟩
 . rcases b3 with r | r
   . exact absurd r q
   . exact r
 . rcases b4 with r | r
   . exact absurd r q
   . exact r
 . rcases c1 with r | r
   . exact absurd r q
   . exact r
 . rcases c2 with r | r
   . exact absurd q r
   . exact r
 . rcases c3 with r | r
   . exact absurd r q
   . exact⟨r.1.1,r.1.2,r.2⟩
 . rcases c4 with r | r
   . exact absurd r q
   . exact r
 . rcases h6.1 with r | r
   . exact absurd r q
   . exact r
 . rcases h6.2 with r | r
   . exact absurd r q
   . exact r
 . rcases h7.1 with r | r
   . rw[q]at r;cases r
   . omega
 . rcases h7.2 with (r | r) | r
   . exact absurd r q1
   . exact absurd q2 r
   . exact r
theorem Bm {n:Nw} {m:Ms} (g:dP n m):rstE n m=0:=by
 have e1:=g.len;have e2:=g.phase;have e3:rgB m=true:=by
  have:=g.at_;have:=g.since;have:=g.fresh;have:=g.got;simp only[rgB,zm,decide_eq_true_eq];exact⟨⟨⟨by omega,by omega⟩,by omega⟩,by omega⟩
 have e4:msB n m=true:=by
  simp only[msB,zm,zV,decide_eq_true_eq];refine⟨⟨⟨g.srv,g.pth⟩,?_⟩,?_⟩
  . rcases Classical.em (m.target=-1)with q | q
    . exact .inl q
    . exact .inr (g.tgt q)
  . rcases Classical.em (m.source=-1)with q | q
    . exact .inl q
    . exact .inr (g.src q)
 have e5:fmB m=true:=by
  simp only[fmB,bsyB,yC,zm,zV,Bool.and_eq_false_iff,Bool.or_eq_false_iff,Bool.not_eq_false',decide_eq_true_eq,decide_eq_false_iff_not];refine⟨⟨⟨?_,?_⟩,?_⟩,?_⟩
  . rcases Classical.em (m.target=-1)with q | q
    . exact .inl q
    . exact .inr (g.f1 q)
  . rcases Classical.em (m.target=-1)with q | q
    . exact .inr (g.f2 q)
    . exact .inl q
  . rcases Classical.em (m.source=-1)with q | q
    . exact .inl q
    . obtain⟨r1,r2,r3⟩:=g.f3 q;exact .inr ⟨⟨r1,r2⟩,r3⟩
  . rcases Classical.em (m.path=m.serving)with q | q
    . exact .inl q
    . exact .inr (g.f4 q)
 have e6:clB n m=true:=by
  simp only[clB,zm,zV,decide_eq_true_eq];constructor
  . rcases Classical.em (m.target=-1)with q | q
    . exact .inl q
    . exact .inr (g.c1 q)
  . rcases Classical.em (m.source=-1)with q | q
    . exact .inl q
    . exact .inr (g.c2 q)
 have e7:stB n m=true:=by
  simp only[stB,yC,zm,Bool.and_eq_false_iff,Bool.not_eq_false',decide_eq_true_eq,decide_eq_false_iff_not,List.isEmpty_eq_false_iff];constructor
  . cases ha:ej m with
    | false=>exact .inl rfl
    | true=>have:=g.due ha;exact .inr (by omega)
  . rcases Classical.em (m.source=-1)with q | q
    . exact .inl (.inl q)
    . rcases Classical.em (m.path=m.serving)with r | r
      . exact .inr (g.busy q r)
      . exact .inl (.inr r)
 have e8w:=g.large;have e9w:pkL m.fresh [] m.buf=0:=(xJ _ _).2 ⟨fun x hx=>⟨g.rng x hx,by simp⟩,g.asc,g.nd⟩;have e10:opnB m=true:=xS.2 g.opn;have e11:xV m=true:=by
  have:=g.gap60;simp only[xV,zm,decide_eq_true_eq,xH];exact⟨by omega,fun x q1 q2=>g.gap x q1 (by have:=g.got;omega)⟩
 unfold rstE pkE;rw[if_neg (by simp[e1]),if_neg (fun q=>q e2),if_neg (by simp[e3]),if_neg (by simp[e4]),if_neg (by simp[e5]),if_neg (by simp[e6]),if_neg (by simp[e7]),if_neg (by omega),if_neg (by simp[e9w]),if_neg (by simp[e10]),if_neg (by simp[e11])]
theorem yR : ∀ (k:Nat) (l:List Int) (a:Int),l.Nodup->(∀ x∈l,a<=x/\x < a+k)->(l.length=k↔xG l k a=true)
 | 0,l,a,hn,h=>by
  have:l=[]:=by
   cases l with
   | nil=>rfl
   | cons x l=>have:=h x (by simp);omega
  subst this;simp[xG]
 | k+1,l,a,hn,h=>by
  rw[xH];have hle:∀ (k:Nat) (l:List Int) (a:Int),l.Nodup->(∀ x∈l,a<=x/\x < a+k)->l.length<=k:=by
   intro k
   induction k with
   | zero=>
    intro l a _ h;cases l with
    | nil=>simp
    | cons x l=>have:=h x (by simp);omega
   | succ k ih=>
    intro l a hn h
    have h1:=ih (l.erase a) (a+1) (hn.erase a) (fun x hx=>by
     have hx2:=(hn.mem_erase_iff).1 hx;have:=h x hx2.2
     push_cast at this
     omega)
    have:l.length<=(l.erase a).length+1:=by
     rw[List.length_erase];split <;> omega
    omega
  have hE:∀ x∈l.erase a,a+1<=x/\x < a+1+k:=fun x hx=>by
   have hx2:=(hn.mem_erase_iff).1 hx;have:=h x hx2.2
   push_cast at this
   omega
  have ih:=yR k (l.erase a) (a+1) (hn.erase a) hE;rw[xH]at ih;have h1:=hle k (l.erase a) (a+1) (hn.erase a) hE;constructor
  . intro hl x q1 q2;have ha:a∈l:=by
     rcases Classical.em (a∈l)with q | q
     . exact q
     . rw[List.erase_of_not_mem q]at h1;omega
    rcases Int.lt_or_eq_of_le q1 with q | q
    . have h2:=List.length_erase_of_mem ha;exact List.mem_of_mem_erase (ih.1 (by omega) x (by omega) (by push_cast at q2;omega))
    . exact q ▸ ha
  . intro hx;have ha:a∈l:=hx a (Int.le_refl _) (by push_cast;omega);have h2:=List.length_erase_of_mem ha;have h3:=List.length_pos_of_mem ha;have:=ih.2 (fun x q1 q2=>(hn.mem_erase_iff).2 ⟨by omega,hx x (by omega) (by push_cast;omega)⟩);omega
def fmP (m:Ms):Bool:=if m.target≠-1/\m.phase=0 then false else if m.target=-1/\(m.phase=1\/m.phase=2)then false else if m.source≠-1/\((m.phase=1\/m.phase=2)\/m.target≠-1)then false else decide (m.path=m.serving\/m.path=m.source)
theorem Bj (n:Nw) (p:Ph):FC Tryz.prog 146 [.ptr 100000 0] (phX n p) (enc (fmP p.m)) (phX n p):=by
 refine dD [100001] is146 (by simp) (dR n p) (dE n p) (dE n p) (dI n p p) (fun cx _ hl _=>dC [] 1200 ?_);delta c146 oO oN oA oM oT oG oR oQ oS oK oF oL oI oX oP oH oB oD oE oJ o6 o9;simp (maxSteps:=9^7) -implicitDefEqProofs only[rv146,phX,phC,InR,not_true_eq_false,not_false_eq_true,WU,Ent.of0,Ent.of1,Ent.of2,Ent.of3,Ent.of4,V,W3,↓reduceIte,seval,reduceCtorEq];unfold fmP;by_cases a:p.m.target=-1 <;> by_cases b0:p.m.phase=0 <;> by_cases b:p.m.phase=1 <;> by_cases b2:p.m.phase=2 <;> by_cases c:p.m.source=-1 <;> by_cases q:p.m.path=p.m.serving <;> by_cases r:p.m.path=p.m.source <;> simp[a,b,b2,b0,c,q,r] <;> omega
def xg (h:Int->Option Int) (c:Int):List Int->(Int->Option Int)
 |[]=>h
 | x :: l=>xg (upd h x c) c l
theorem x3 (c x:Int):∀ (l:List Int) (h:Int->Option Int),xg h c (l++[x])=upd (xg h c l) x c
 |[],h=>rfl
 | y :: l,h=>x3 c x l (upd h y c)
theorem xM (c:Int):∀ (l:List Int) (h:Int->Option Int) (z:Int),xg h c l z=if z∈l then some c else h z
 |[],h,z=>by simp[xg]
 | x :: l,h,z=>by
  rw[xg,xM c l];by_cases h1:z∈l
  . simp[h1]
  . by_cases h2:z=x
    . simp[h1,h2,upd]
    . simp[h1,h2,upd]
def xi (bs:List (List Int)):Nat->(Int->Option Int)
 | 0=>fun _=>none
 | i+1=>xg (xi bs i) (i:Int) (bs.getD i [])
theorem x5 {α:Type} (d:α) {l:List α} {i:Nat} (h:i < l.length):l.take (i+1)=l.take i++[l.getD i d]:=by
 rw[yI h,zb,ze h];rfl
theorem yS {bs:List (List Int)} {i:Nat} (h:i < bs.length):(bs.take (i+1)).flatten=(bs.take i).flatten++bs.getD i []:=by
 rw[x5 [] h,List.flatten_append,List.flatten_cons,List.flatten_nil,z4]
theorem xW {bs:List (List Int)}:∀ (i:Nat),i<=bs.length->∀ z,(xi bs i z).isSome=decide (z∈(bs.take i).flatten)
 | 0,_,z=>by simp[xi]
 | i+1,h,z=>by
  rw[xi,xM,yS (by omega)];by_cases h1:z∈bs.getD i []
  . rw[if_pos h1];exact (decide_eq_true (List.mem_append_right _ h1)).symm
  . rw[if_neg h1,xW i (by omega) z];rw[decide_eq_decide,zW];exact⟨.inl,fun q=>q.resolve_right h1⟩
theorem Ay {bs:List (List Int)}:∀ (i:Nat) (z c:Int),xi bs i z=some c->∃ k:Nat,k < i/\c=(k:Int)/\z∈bs.getD k []
 | 0,z,c,h=>by cases h
 | i+1,z,c,h=>by
  rw[xi,xM]at h;by_cases h1:z∈bs.getD i []
  . rw[if_pos h1]at h;cases h;exact⟨i,by omega,rfl,h1⟩
  . rw[if_neg h1]at h;obtain⟨k,q1,q2,q3⟩:=Ay i z c h;exact⟨k,by omega,q2,q3⟩
def xn (F:List Int) (g:Int) (left:Int->Bool):Nat:=F.countP fun x=>!left x && decide (g<=x)
theorem AS {F:List Int} (hn:F.Nodup) {z:Int} (hz:z∈F) {left:Int->Bool} (hl:left z=true) (g:Int):xn F g (fun y=>left y && decide (y≠z))=xn F g left+if g<=z then 1 else 0:=by
 induction F with
 | nil=>cases hz
 | cons x F ih=>
  rw[zI]at hn;unfold xn;rw[List.countP_cons,List.countP_cons];rcases zl.1 hz with rfl | hz'
  . have e:F.countP (fun x=>!(left x && decide (x≠z)) && decide (g<=x))=F.countP (fun x=>!left x && decide (g<=x)):=by
     refine List.countP_congr fun x hx=>?_
     have:x≠z:=fun e=>hn.1 (e ▸ hx)
     simp[this]
    rw[e];simp[hl]
  . have hne:x≠z:=fun e=>hn.1 (e ▸ hz')
    have:=ih hn.2 hz';unfold xn at this;rw[this];simp only[hne,ne_eq,not_false_eq_true,decide_true,zZ];omega
theorem Bi (F:List Int) (g:Int) {left:Int->Bool} (h:∀ z,left z=false):xn F g left=(F.filter fun x=>decide (g<=x)).length:=by
 unfold xn;rw[<- List.countP_eq_length_filter];exact List.countP_congr fun x _=>by simp[h x]
theorem AR (F:List Int) (g:Int) {left:Int->Bool} (h:∀ z∈F,left z=true):xn F g left=0:=by
 unfold xn;rw[yk];intro x hx;simp[h x hx]
theorem cntG_le (F:List Int) (g:Int) (left:Int->Bool):xn F g left<=F.length:=List.countP_le_length
theorem xZ {F:List Int} {g:Int}:∀ (k:Nat) (a:Int),g<=a->xG (F.filter fun x=>decide (g<=x)) k a=xG F k a
 | 0,a,_=>rfl
 | k+1,a,h=>by
  rw[xG,xG,xZ k (a+1) (by omega)]
  congr 1
  rw[decide_eq_decide,yf];simp[h]
theorem AX {m:Ms} (hn:m.buf.flatten.Nodup) (hr:∀ x∈m.buf.flatten,0<=x/\x < m.fresh) (hg:0<=m.got/\m.got<=m.fresh) (hl:m.buf.flatten.length<=60) :
 (((m.buf.flatten.filter fun x=>decide (m.got<=x)).length:Int)=m.fresh - m.got)↔xV m=true:=by
 have hN:=hn.filter (fun x=>decide (m.got<=x))
 have h1:=yR (m.fresh - m.got).toNat (m.buf.flatten.filter fun x=>decide (m.got<=x)) m.got hN (fun x hx=>by
  simp only[yf,decide_eq_true_eq]at hx;have:=hr x hx.1
  omega)
 rw[xZ _ _ (Int.le_refl _)]at h1;have hle:(m.buf.flatten.filter fun x=>decide (m.got<=x)).length<=m.buf.flatten.length:=List.length_filter_le _ _;unfold xV;rw[zm,decide_eq_true_eq,<- h1];constructor
 . intro q;omega
 . rintro⟨_,q⟩;omega
theorem AQ {f:Int} {seen:List Int} {p:Int} {l:List Int} {k:Nat} (h:k < l.length):xv f seen p (l.drop k)=if ¬ (0<=l.getD k 0/\l.getD k 0 < f)then 2 else if l.getD k 0<=p then 9 else if l.getD k 0∈seen then 26 else xv f seen (l.getD k 0) (l.drop (k+1)):=by
 rw[eg 0 h,xv]
theorem mapT : MapTy Tryz.prog 214 3 3 where
 ht:=by kernel_rfl
 hk:=by kernel_rfl
 he:=by kernel_rfl
 hz:=fun w=>by
  have h:(Tryz.prog.info? 3).map (fun i=>(i.zero,i.size,i.bytes))=some (some (.int .i64 0),1,8):=by kernel_rfl
  obtain⟨i,hi,hq⟩:=za.1 h;simp only[zf]at hq;simp[zeroValue,typeInfo,Sem.run,Sem.run_bind,hi,hq.1,Result.andThen]
theorem xz (xs:List Int) (i:Nat) (h:i < xs.length):List.getD (xs.map Dat.cells) i []=[C.s (.int .i64 (xs.getD i 0))]:=by
 rw[zb,zb,zh,ze h];rfl
theorem Ah {bs:List (List Int)} (hn:bs.flatten.Nodup) {i k:Nat} (hik:k≠i) {z:Int} (h1:z∈bs.getD i []):z∉bs.getD k []:=fun h2=>by
 have hlen:∀ j,z∈bs.getD j []->j < bs.length:=fun j h=>by
  rcases yu j bs.length with q | q
  . exact q
  . rw[zb,List.getElem?_eq_none q]at h;cases h
 have hs:=(fT bs i (hlen i h1)).nodup_iff.1 hn;rw[List.nodup_append]at hs;have hk:k < (bs.set i []).length:=by rw[List.length_set];exact hlen k h2
 refine hs.2.2 z h1 z ?_ rfl;refine (fT (bs.set i []) k hk).mem_iff.2 (List.mem_append_left _ ?_);rw[fA,if_neg (fun q=>hik q.1.symm)];exact h2
theorem xY {k n:Nat} (h:¬ k=0) (hk:k < n):(if (k:Int) - 1 > 0 then (k:Int) - 1 else 0)=((k - 1:Nat):Int)/\(0:Int)<=((k - 1:Nat):Int)/\((k - 1:Nat):Int) < (n:Int)/\k - 1 < n:=by omega
theorem Ai (n:Nw) (p:Ph) (hf:0<=p.m.fresh/\p.m.fresh<=1000000) (hg:0<=p.m.got/\p.m.got<=p.m.fresh) (hl1:p.m.buf.length<=1000000) (hp:fj p.m.buf<=1000000000) (hI:∀ x∈p.m.buf.flatten,InR .i64 x):FC Tryz.prog 150 [.ptr 100000 0] (phX n p) (enc (pkE p.m)) (phX n p):=by
 generalize hE:pkE p.m=E;refine dD [100001] is150 (by simp) (dR n p) (dE n p) (dE n p) (dI n p p) (fun cx _ hl _=>dC [lU n p hl1 hp] 800 ?_);unfold pkE at hE;have hpk:=nr p.m.buf;by_cases h60:60 < p.m.buf.flatten.length
 . rw[if_pos h60]at hE;subst hE;have h60':(60:Int) < fj p.m.buf:=by omega
   delta c150 oO oN oA oM oT oQ oS oK oF oL oV oC oI oX oB o4 o6;simp (maxSteps:=9^7) -implicitDefEqProofs only[xf,phX,phC,lU,eq,h60',WU,Ent.of0,Ent.of1,Ent.of2,Ent.of3,Ent.of4,V,W3,↓reduceIte,seval,reduceCtorEq]
 have h60':¬ (60:Int) < fj p.m.buf:=by omega
 rw[if_neg h60]at hE;delta c150 oO oN oA oM oT oQ oS oK oF oL oV oC oI oX oB o4 o6;simp (maxSteps:=9^7) -implicitDefEqProofs only[xf,phX,phC,lU,eq,h60',not_true_eq_false,WU,Ent.of0,Ent.of1,Ent.of2,Ent.of3,Ent.of4,V,W3,↓reduceIte,seval,reduceCtorEq];refine pw rfl (OpM.mapNew (k:=3) (e:=3)) (fun ef he=>?_);obtain⟨mb,rfl⟩:=he;refine nz [] 800 ?_;simp (maxSteps:=9^7) -implicitDefEqProofs only[phX,phC,eu,InR,WU,Ent.of0,Ent.of1,Ent.of2,Ent.of3,Ent.of4,V,W3,↓reduceIte,seval,reduceCtorEq];refine eN p.m.buf.length (fun i=>[(24,.s (.int .i64 (i:Int)))]) (fun i=>[(17,.res (xI Tryz.prog 3 3 mb (p.m.buf.take i).flatten.length (xi p.m.buf i)))]) (fun i=>pkL p.m.fresh [] p.m.buf=pkL p.m.fresh (p.m.buf.take i).flatten (p.m.buf.drop i)) rfl ?_ (fun i hi hv=>dC [] 800 ?_)
 . simp (maxSteps:=9^7) -implicitDefEqProofs only[Ent.of0,Ent.of1,Ent.of2,Ent.of3,Ent.of4,V,W3,↓reduceIte,seval,reduceCtorEq]
   all_goals rfl
 . by_cases h:i < p.m.buf.length
   . have hi2:(i:Int) < (p.m.buf.length:Int):=by omega
     have hi0:(0:Int)<=i:=by omega
     have hgb:=fI p.m.buf i;have hsm:=xW (bs:=p.m.buf) i (by omega);have hfs:=yS h;have hN:(p.m.buf.take i).flatten.length+(p.m.buf.getD i []).length<=60:=by
      have:=y3 p.m.buf i h;omega
     rw[eg [] h,pkL]at hv;have hhs:xi p.m.buf (i+1)=xg (xi p.m.buf i) (i:Int) (p.m.buf.getD i []):=rfl;rw[<- hfs]at hv
     have hIl:∀ x∈p.m.buf.getD i [],InR .i64 x:=fun x hx=>hI x (by
      have:=(fT p.m.buf i h).mem_iff (a:=x)
      exact this.2 (List.mem_append_left _ hx))
     generalize p.m.buf.getD i []=l at *;delta Aa oO oN oA oM oR oS oK oL oV oX oB o0 o4;simp (maxSteps:=9^7) -implicitDefEqProofs only[hi0,hi2,h,hgb,eu,zy,InR,WU,Ent.of0,Ent.of1,Ent.of2,Ent.of3,Ent.of4,V,W3,↓reduceIte,seval,reduceCtorEq];generalize hS:(p.m.buf.take i).flatten=seen at *;refine eN l.length (fun k=>[(31,.s (.int .i64 (k:Int)))]) (fun k=>[(17,.res (xI Tryz.prog 3 3 mb (seen.length+k) (xg (xi p.m.buf i) (i:Int) (l.take k))))]) (fun k=>xv p.m.fresh seen (-1) l=xv p.m.fresh seen (if k=0 then -1 else l.getD (k - 1) 0) (l.drop k)/\∀ x∈l.take k,x<=(if k=0 then -1 else l.getD (k - 1) 0)) ⟨rfl,fun x hx=>by simp at hx⟩ ?_ (fun k hk hw=>dC [eZ,dT,dS] 800 ?_)
     . simp (maxSteps:=9^7) -implicitDefEqProofs only[Ent.of0,Ent.of1,Ent.of2,Ent.of3,Ent.of4,V,W3,↓reduceIte,seval,reduceCtorEq]
       all_goals rfl
     . obtain⟨hw1,hw2⟩:=hw;by_cases hkl:k < l.length
       . have hk2:(k:Int) < (l.length:Int):=by omega
         have hk0:(0:Int)<=k:=by omega
         have hge:l.getD k 0=l[k]:=by rw[zb,ze hkl];rfl
         have hIu:=hIl _ (yy hkl);have htk:=x5 0 hkl;rw[AQ hkl]at hw1;rw[<- hge]at hIu;obtain⟨u,hu⟩:∃ u,l.getD k 0=u:=⟨_,rfl⟩;rw[hu]at hw1 hIu htk;have hgl:List.getD (l.map Dat.cells) k []=[C.s (.int .i64 u)]:=by rw[xz l k hkl,hu]
         have hkn:(xg (xi p.m.buf i) (i:Int) (l.take k) u).isSome=decide (u∈seen\/u∈l.take k):=by
          rw[xM];by_cases q:u∈l.take k
          . simp[q]
          . rw[if_neg q,hsm];simp[q]
         delta y9 oO oN oA oM oG oR oS oK oF oL oC oI oX oH oB oD oJ o1 o6 o8;simp (maxSteps:=9^7) -implicitDefEqProofs only[xf,hgb,eu,h,hi0,hi2,hk0,hk2,hkl,hgl,zy,yc,InR,WU,Ent.of0,Ent.of1,Ent.of2,Ent.of3,Ent.of4,V,W3,↓reduceIte,seval,reduceCtorEq];refine pw (outs:=?qo1) rfl ?qa1 ?qb1
         case qa1=>
          refine OpM.mapGet (b:=mb) (n:=seen.length+k) (kr:=17) (q:=u) (m:=xg (xi p.m.buf i) (i:Int) (l.take k)) mapT ?_ ?_ hIu ?_ <;> rfl
         intro ef he;subst he;refine nz [eZ,dT,dS] 800 ?_;by_cases hr:0<=u/\u < p.m.fresh
         rotate_left
         . rw[if_pos hr]at hw1;rw[hw1,if_pos (by decide)]at hv;rw[hv,if_pos (by decide)]at hE;subst hE;have hwi:=eq_false (show ¬ (0<=u/\u<=p.m.fresh - 1) by omega);by_cases hk00:k=0
           . have hkI:=eq_true (show (k:Int)=0 by omega);simp (maxSteps:=9^7) -implicitDefEqProofs only[xf,eZ,dT,dS,dM,phX,phC,hkn,hwi,hkI,hgb,eu,h,hi0,hi2,hk0,hk2,hkl,hgl,zy,yc,InR,not_true_eq_false,not_false_eq_true,WU,Ent.of0,Ent.of1,Ent.of2,Ent.of3,Ent.of4,V,W3,↓reduceIte,seval,reduceCtorEq];omega
           . have hkI:=eq_false (show ¬ (k:Int)=0 by omega);obtain⟨hmx,hmx0,hmx1,hmx2⟩:=xY hk00 hkl;have hgl1:=xz l (k - 1) hmx2;simp (maxSteps:=9^7) -implicitDefEqProofs only[xf,eZ,dT,dS,dM,phX,phC,hkn,hwi,hkI,hgb,eu,h,hi0,hi2,hk0,hk2,hkl,hgl,zy,yc,hmx,hmx0,hmx1,hmx2,hgl1,InR,not_true_eq_false,not_false_eq_true,WU,Ent.of0,Ent.of1,Ent.of2,Ent.of3,Ent.of4,V,W3,↓reduceIte,seval,reduceCtorEq];exact⟨by omega,by omega⟩
         . rw[if_neg (fun q=>q hr)]at hw1;have hwi:=eq_true (show (0<=u/\u<=p.m.fresh - 1) by omega);by_cases ho:u<=(if k=0 then -1 else l.getD (k - 1) 0)
           . have hk00:¬ k=0:=fun q=>by
              rw[if_pos q]at ho;omega
             rw[if_pos ho]at hw1;rw[hw1,if_pos (by decide)]at hv;rw[hv,if_pos (by decide)]at hE;subst hE;rw[if_neg hk00]at ho;have hgt:=eq_false (show ¬ l.getD (k - 1) 0 < u by omega);have hkI:=eq_false (show ¬ (k:Int)=0 by omega);obtain⟨hmx,hmx0,hmx1,hmx2⟩:=xY hk00 hkl;have hgl1:=xz l (k - 1) hmx2;simp (maxSteps:=9^7) -implicitDefEqProofs only[xf,eZ,dT,dS,dM,phX,phC,hkn,hwi,hkI,hgt,hgb,eu,h,hi0,hi2,hk0,hk2,hkl,hgl,zy,yc,hmx,hmx0,hmx1,hmx2,hgl1,InR,not_true_eq_false,not_false_eq_true,WU,Ent.of0,Ent.of1,Ent.of2,Ent.of3,Ent.of4,V,W3,↓reduceIte,seval,reduceCtorEq];exact⟨by omega,by omega⟩
           . rw[if_neg ho]at hw1;have hnt:u∉l.take k:=fun q=>ho (hw2 u q)
             have hkn2:(xg (xi p.m.buf i) (i:Int) (l.take k) u).isSome=decide (u∈seen):=by rw[hkn];simp[hnt]
             clear hkn;have hps:upd (xg (xi p.m.buf i) (i:Int) (l.take k)) u (i:Int)=xg (xi p.m.buf i) (i:Int) (l.take (k+1)):=by rw[htk,x3]
             have hk1:¬ k+1=0:=by omega
             have hiI:InR .i64 (i:Int):=by simp only[InR];omega
             have hord:k=0\/(¬ k=0/\l.getD (k - 1) 0 < u):=by
              by_cases q:k=0
              . exact .inl q
              . rw[if_neg q]at ho;exact .inr ⟨q,by omega⟩
             by_cases hsn:u∈seen
             . rw[if_pos hsn]at hw1;rw[hw1,if_pos (by decide)]at hv;rw[hv,if_pos (by decide)]at hE;subst hE;have hkn:=hkn2.trans (decide_eq_true hsn);rcases hord with hk00 | ⟨hk00,hgt⟩
               . have hkI:=eq_true (show (k:Int)=0 by omega);simp (maxSteps:=9^7) -implicitDefEqProofs only[xf,eZ,dT,dS,dM,phX,phC,hkn,hwi,hkI,hgb,eu,h,hi0,hi2,hk0,hk2,hkl,hgl,zy,yc,InR,not_true_eq_false,not_false_eq_true,WU,Ent.of0,Ent.of1,Ent.of2,Ent.of3,Ent.of4,V,W3,↓reduceIte,seval,reduceCtorEq];omega
               . have hgt:=eq_true hgt;have hkI:=eq_false (show ¬ (k:Int)=0 by omega);obtain⟨hmx,hmx0,hmx1,hmx2⟩:=xY hk00 hkl;have hgl1:=xz l (k - 1) hmx2;simp (maxSteps:=9^7) -implicitDefEqProofs only[xf,eZ,dT,dS,dM,phX,phC,hkn,hwi,hkI,hgt,hgb,eu,h,hi0,hi2,hk0,hk2,hkl,hgl,zy,yc,hmx,hmx0,hmx1,hmx2,hgl1,InR,not_true_eq_false,not_false_eq_true,WU,Ent.of0,Ent.of1,Ent.of2,Ent.of3,Ent.of4,V,W3,↓reduceIte,seval,reduceCtorEq];exact⟨by omega,by omega⟩
             . rw[if_neg hsn]at hw1;have hkn:=hkn2.trans (decide_eq_false hsn);have hnx:∀ x∈l.take (k+1),x<=u:=fun x hx=>by
                rw[htk,zW,zg]at hx;rcases hx with hx | rfl
                . have:=hw2 x hx;omega
                . exact Int.le_refl _
               rcases hord with hk00 | ⟨hk00,hgt⟩
               . have hkI:=eq_true (show (k:Int)=0 by omega);simp (maxSteps:=9^7) -implicitDefEqProofs only[xf,eZ,dT,dS,dM,phX,phC,hkn,hwi,hkI,hgb,eu,h,hi0,hi2,hk0,hk2,hkl,hgl,zy,yc,InR,not_true_eq_false,not_false_eq_true,WU,Ent.of0,Ent.of1,Ent.of2,Ent.of3,Ent.of4,V,W3,↓reduceIte,seval,reduceCtorEq];refine⟨by omega,?_⟩;refine pw (outs:=?qo2) rfl ?qa2 ?qb2
                 case qa2=>
                  refine OpM.mapPut (b:=mb) (n:=seen.length+k) (kr:=17) (q:=u) (c:=(i:Int)) (m:=xg (xi p.m.buf i) (i:Int) (l.take k)) mapT (by omega) ?_ ?_ ?_ hIu hiI ?_ <;> rfl
                 intro ef he;subst he;refine nz [] 800 ?_;simp (maxSteps:=9^7) -implicitDefEqProofs only[xf,xD,hps,hkl,hw1,hk1,hu,Nat.add_sub_cancel,InR,WU,Ent.of0,Ent.of1,Ent.of2,Ent.of3,Ent.of4,V,W3,↓reduceIte,seval,reduceCtorEq];exact⟨by omega,hnx,by omega,rfl⟩
               . have hgt:=eq_true hgt;have hkI:=eq_false (show ¬ (k:Int)=0 by omega);obtain⟨hmx,hmx0,hmx1,hmx2⟩:=xY hk00 hkl;have hgl1:=xz l (k - 1) hmx2;simp (maxSteps:=9^7) -implicitDefEqProofs only[xf,eZ,dT,dS,dM,phX,phC,hkn,hwi,hkI,hgt,hgb,eu,h,hi0,hi2,hk0,hk2,hkl,hgl,zy,yc,hmx,hmx0,hmx1,hmx2,hgl1,InR,not_true_eq_false,not_false_eq_true,WU,Ent.of0,Ent.of1,Ent.of2,Ent.of3,Ent.of4,V,W3,↓reduceIte,seval,reduceCtorEq];refine⟨by omega,by omega,?_⟩;refine pw (outs:=?qo3) rfl ?qa3 ?qb3
                 case qa3=>
                  refine OpM.mapPut (b:=mb) (n:=seen.length+k) (kr:=17) (q:=u) (c:=(i:Int)) (m:=xg (xi p.m.buf i) (i:Int) (l.take k)) mapT (by omega) ?_ ?_ ?_ hIu hiI ?_ <;> rfl
                 intro ef he;subst he;refine nz [] 800 ?_;simp (maxSteps:=9^7) -implicitDefEqProofs only[xf,xD,hps,hkl,hw1,hk1,hu,Nat.add_sub_cancel,InR,WU,Ent.of0,Ent.of1,Ent.of2,Ent.of3,Ent.of4,V,W3,↓reduceIte,seval,reduceCtorEq];exact⟨by omega,hnx,by omega,rfl⟩
       . have hke:k=l.length:=by omega
         subst hke;have hk2:¬ ((l.length:Nat):Int) < (l.length:Int):=by omega
         rw[zv (zw _),xv]at hw1;rw[if_neg (by simp[hw1])]at hv;rw[hfs]at hv;delta y9 oO oN oA oM oG oR oS oK oF oL oC oI oX oH oB oD oJ o1 o6 o8;simp (maxSteps:=9^7) -implicitDefEqProofs only[xf,hk2,hhs,hfs,yo,zK,InR,not_true_eq_false,not_false_eq_true,WU,Ent.of0,Ent.of1,Ent.of2,Ent.of3,Ent.of4,V,W3,↓reduceIte,seval,reduceCtorEq];exact⟨by omega,h,hv,by omega⟩
   . have hie:i=p.m.buf.length:=by omega
     subst hie;have hi2:¬ ((p.m.buf.length:Nat):Int) < (p.m.buf.length:Int):=by omega
     rw[zv (zw _),pkL]at hv;rw[if_neg (by simp[hv])]at hE;obtain⟨z1,z2,z3⟩:=(xJ _ _).1 hv;have hho:=xW (bs:=p.m.buf) p.m.buf.length (zw _);rw[yo]at hho;have hha:=Ay (bs:=p.m.buf) p.m.buf.length;generalize hH:xi p.m.buf p.m.buf.length=H at *;delta Aa oO oN oA oM oR oS oK oL oV oX oB o0 o4;simp (maxSteps:=9^7) -implicitDefEqProofs only[xf,hi2,yo,InR,not_true_eq_false,not_false_eq_true,WU,Ent.of0,Ent.of1,Ent.of2,Ent.of3,Ent.of4,V,W3,↓reduceIte,seval,reduceCtorEq];refine pw (outs:=?qo4) rfl ?qa4 ?qb4
     case qa4=>
      refine OpM.mapRange (b:=mb) (n:=p.m.buf.flatten.length) (kr:=17) (m:=H) mapT ?_ ?_ <;> rfl
     intro ef he;obtain⟨mrw,cnt,rfl⟩:=he;refine nz [] 800 ?_;simp (maxSteps:=9^7) -implicitDefEqProofs only[xD,InR,WU,Ent.of0,Ent.of1,Ent.of2,Ent.of3,Ent.of4,V,W3,↓reduceIte,seval,reduceCtorEq];generalize hF:p.m.buf.flatten=F at *;have hF60:F.length<=60:=by omega
     have hok:∀ c:Int,∀ z,H z=some c->∃ k:Nat,c=(k:Int)/\z∈p.m.buf.getD k []:=fun c z q=>by
      obtain⟨k,_,q2,q3⟩:=hha z c q;exact⟨k,q2,q3⟩
     refine sJ (α:=(Int->Bool)×Nat) (fun v=>[(11,.s (.int .i64 (xn F p.m.got v.1:Nat)))]) (fun v=>[(17,.res (yO Tryz.prog 3 3 mb mrw F.length H v.1 v.2))])
      (fun v=>(∀ z,v.1 z=true->(H z).isSome=true)/\∀ z c,v.1 z=false->H z=some c->c=p.m.serving\/c=p.m.source\/(ej p.m=true/\c=p.m.target)) (fun v=>v.2) (fun x=>(H x).isSome,cnt)
      ⟨fun z q=>q,fun z c q1 q2=>(by have q1':(H z).isSome=false:=q1;rw[q2]at q1';cases q1')⟩ ?_ (fun v hv=>dC [fa n p] 800 ?_)
     . have h0:xn F p.m.got (fun x=>(H x).isSome)=0:=AR F _ fun z hz=>by rw[hho];exact decide_eq_true hz
       simp (maxSteps:=9^7) -implicitDefEqProofs only[h0,Ent.of0,Ent.of1,Ent.of2,Ent.of3,Ent.of4,V,W3,↓reduceIte,seval,reduceCtorEq]
       all_goals rfl
     . obtain⟨lfw,ct⟩:=v;obtain⟨i1,i2⟩:=hv;simp only at i1 i2;delta AP oO oN oA oM oG oR oS oK oF oL oV oI oX oP oB oD oE oJ o6 o8;simp (maxSteps:=9^7) -implicitDefEqProofs only[xf,InR,WU,Ent.of0,Ent.of1,Ent.of2,Ent.of3,Ent.of4,V,W3,↓reduceIte,seval,reduceCtorEq];refine pw (outs:=?qo5) rfl ?qa5 ?qb5
       case qa5=>
        refine OpM.mapNextE (b:=mb) (r:=mrw) (n:=F.length) (kr:=17) (cnt:=ct) (m:=H) (left:=lfw) mapT ?_ ?_ <;> rfl
       intro ef he;rcases he with⟨rfl,hall⟩ | ⟨z,c,cnt',hz,hc,hlt,hzI,rfl⟩
       . refine nz [dT] 800 ?_;have hop:opnB p.m=true:=xS.2 fun i hi=>by
          obtain⟨z,l,hzl⟩:∃ z l,p.m.buf.getD i []=z :: l:=by
           cases hb:p.m.buf.getD i []with
           | nil=>exact absurd hb hi
           | cons z l=>exact⟨z,l,rfl⟩
          have hiL:i < p.m.buf.length:=by
           rcases yu i p.m.buf.length with q | q
           . exact q
           . rw[zb,List.getElem?_eq_none q]at hi;exact absurd rfl hi
          have hzF:z∈F:=by
           rw[<- hF];refine (fT p.m.buf i hiL).mem_iff.2 (List.mem_append_left _ ?_);rw[hzl];simp
          have hsome:(H z).isSome=true:=by rw[hho];exact decide_eq_true hzF
          obtain⟨c,hc⟩:=Option.isSome_iff_exists.1 hsome;obtain⟨k,rfl,hk⟩:=hok c z hc;have hki:k=i:=by
           rcases yr k i with q | q | q
           . exact absurd hk (Ah (hF ▸ z3) (Nat.ne_of_lt q) (by rw[hzl];simp))
           . exact q
           . exact absurd hk (Ah (hF ▸ z3) (Nat.ne_of_gt q) (by rw[hzl];simp))
          rw[<- hki];exact i2 z k (hall z) hc
         rw[if_neg (by simp[hop])]at hE;have hgc:=AX (m:=p.m) (by rw[hF];exact z3) (fun x hx=>by rw[hF]at hx;exact (z1 x hx).1) hg (by rw[hF];exact hF60);rw[hF]at hgc;have hcn:xn F p.m.got lfw=(F.filter fun x=>decide (p.m.got<=x)).length:=Bi F _ hall;rw[<- hcn]at hgc;generalize xn F p.m.got lfw=CN at *;by_cases hgap:xV p.m=true
         . have hEq:=hgc.2 hgap;rw[if_neg (by simp[hgap])]at hE;subst hE;simp (maxSteps:=9^7) -implicitDefEqProofs only[xf,dT,phX,phC,hEq,InR,not_true_eq_false,not_false_eq_true,WU,Ent.of0,Ent.of1,Ent.of2,Ent.of3,Ent.of4,V,W3,↓reduceIte,seval,reduceCtorEq];omega
         . have hEq:((CN:Int)=p.m.fresh - p.m.got)=False:=eq_false fun q=>hgap (hgc.1 q)
           rw[if_pos (by simpa using hgap)]at hE;subst hE;simp (maxSteps:=9^7) -implicitDefEqProofs only[xf,dT,phX,phC,hEq,InR,not_true_eq_false,not_false_eq_true,WU,Ent.of0,Ent.of1,Ent.of2,Ent.of3,Ent.of4,V,W3,↓reduceIte,seval,reduceCtorEq];omega
       . refine nz [] 800 ?_;have hzF:z∈F:=by
          have:=hho z;rw[hc]at this;exact of_decide_eq_true this.symm
         have hcs:xn F p.m.got (fun y=>lfw y && decide (¬ y=z))=xn F p.m.got lfw+if p.m.got<=z then 1 else 0:=AS z3 hzF hz p.m.got
         have hcl:=cntG_le F p.m.got lfw;simp (maxSteps:=9^7) -implicitDefEqProofs only[xf,xD,InR,not_true_eq_false,not_false_eq_true,WU,Ent.of0,Ent.of1,Ent.of2,Ent.of3,Ent.of4,V,W3,↓reduceIte,seval,reduceCtorEq];refine pw (outs:=?qo6) rfl ?qa6 ?qb6
         case qa6=>
          refine OpM.mapEntry (P:=Tryz.prog) (k:=3) (e:=3) (b:=mb) (r:=mrw) (n:=F.length) (kr:=17) (cnt:=cnt') (m:=H) (left:=fun y=>lfw y && decide (¬ y=z)) (z:=z) (c:=c) ?_ ?_ <;> rfl
         intro ef he;subst he;refine nz [fa n p] 800 ?_;have hbad:¬ (c=p.m.serving\/c=p.m.source\/(ej p.m=true/\c=p.m.target))->E=23:=fun q=>by
          rw[<- hE,if_pos];cases hb:opnB p.m with
          | false=>rfl
          | true=>
           obtain⟨kk,rfl,hk⟩:=hok c z hc;exact absurd (xS.1 hb kk (fun e=>by rw[e]at hk;cases hk)) q
         have hnew:(c=p.m.serving\/c=p.m.source\/(ej p.m=true/\c=p.m.target))->∀ z' c',(lfw z' && decide (¬ z'=z))=false->H z'=some c'->c'=p.m.serving\/c'=p.m.source\/(ej p.m=true/\c'=p.m.target):=fun q z' c' h1 h2=>by
          by_cases e:z'=z
          . rw[e,hc]at h2;cases h2;exact q
          . refine i2 z' c' ?_ h2;simpa[e]using h1
         have hleft:∀ z',(lfw z' && decide (¬ z'=z))=true->(H z').isSome=true:=fun z' h1=>by
          rw[zm]at h1;exact i1 z' h1.1
         have hkey:((c=p.m.serving)=True/\True/\True/\True/\(c=p.m.serving\/c=p.m.source\/(ej p.m=true/\c=p.m.target)))\/((c=p.m.serving)=False/\(c=p.m.source)=True/\True/\True/\(c=p.m.serving\/c=p.m.source\/(ej p.m=true/\c=p.m.target)))\/((c=p.m.serving)=False/\(c=p.m.source)=False/\(c=p.m.target)=False/\True/\E=23)\/((c=p.m.serving)=False/\(c=p.m.source)=False/\(c=p.m.target)=True/\ej p.m=false/\E=23)\/((c=p.m.serving)=False/\(c=p.m.source)=False/\(c=p.m.target)=True/\ej p.m=true/\(c=p.m.serving\/c=p.m.source\/(ej p.m=true/\c=p.m.target))):=by
          by_cases q1:c=p.m.serving
          . exact .inl ⟨eq_true q1,trivial,trivial,trivial,.inl q1⟩
          . by_cases q2:c=p.m.source
            . exact .inr (.inl ⟨eq_false q1,eq_true q2,trivial,trivial,.inr (.inl q2)⟩)
            . by_cases q3:c=p.m.target
              . cases q4:ej p.m
                . exact .inr (.inr (.inr (.inl ⟨eq_false q1,eq_false q2,eq_true q3,rfl,hbad (fun q=>q.elim q1 fun q=>q.elim q2 fun q=>(by have q5:=q.1;rw[q4]at q5;cases q5))⟩)))
                . exact .inr (.inr (.inr (.inr ⟨eq_false q1,eq_false q2,eq_true q3,rfl,.inr (.inr ⟨rfl,q3⟩)⟩)))
              . exact .inr (.inr (.inl ⟨eq_false q1,eq_false q2,eq_false q3,trivial,hbad (fun q=>q.elim q1 fun q=>q.elim q2 fun q=>q3 q.2)⟩))
         clear hbad i1 i2;rcases hkey with⟨q1,q2,q3,q4,q5⟩ | ⟨q1,q2,q3,q4,q5⟩ | ⟨q1,q2,q3,q4,q5⟩ | ⟨q1,q2,q3,q4,q5⟩ | ⟨q1,q2,q3,q4,q5⟩
         all_goals
          by_cases hgz:p.m.got<=z
          all_goals
           have hgz':=hgz;simp only[hgz,if_true,if_false]at hcs;simp (maxSteps:=9^7) -implicitDefEqProofs only[xf,fa,eq,phX,phC,xD,q1,q2,q3,q4,hgz,InR,not_true_eq_false,not_false_eq_true,WU,Ent.of0,Ent.of1,Ent.of2,Ent.of3,Ent.of4,V,W3,↓reduceIte,seval,reduceCtorEq];have hcz:((xn F p.m.got (fun y=>lfw y && decide (¬ y=z)):Nat):Int)=(xn F p.m.got lfw:Nat)+if p.m.got<=z then 1 else 0:=by
            rw[hcs];simp only[hgz,if_true,if_false];omega
           simp only[hgz,if_true,if_false]at hcz
           first
           | exact q5.symm
           | exact⟨by omega,(fun y=>lfw y && decide (¬ y=z),cnt'),⟨hleft,hnew q5⟩,hlt,hcz.symm,rfl⟩
           | exact⟨(fun y=>lfw y && decide (¬ y=z),cnt'),⟨hleft,hnew q5⟩,hlt,(by rw[hcz];omega),rfl⟩
           | exact⟨by omega,(fun y=>lfw y && decide (¬ y=z),cnt'),⟨hleft,fun z' c' h1 h2=>(hnew q5 z' c' h1 h2).imp id (Or.imp id And.right)⟩,hlt,hcz.symm,rfl⟩
           | exact⟨(fun y=>lfw y && decide (¬ y=z),cnt'),⟨hleft,fun z' c' h1 h2=>(hnew q5 z' c' h1 h2).imp id (Or.imp id And.right)⟩,hlt,(by rw[hcz];omega),rfl⟩
theorem Clone_o (l:List Int) (h:l.length<=1000000):FC Tryz.prog 143 [enc l] [] (.own 5) [(5,.row 1 3 (l.map Dat.cells))]:=by
 refine dD [5] E3.is143 (by simp) (by simp[bk]) (by simp[an,ag]) (by simp[an,ag,av]) (by simp[aB,lk]) (fun cx _ hl _=>dC [] 800 ?_);cases l with
 | nil=>
  delta E3.c143 oO oA oM oS oK oI oX o1;simp (maxSteps:=9^7) -implicitDefEqProofs only[E3.rv143,zR,InR,WU,Ent.of0,Ent.of1,Ent.of2,Ent.of3,Ent.of4,V,W3,↓reduceIte,seval,reduceCtorEq];refine pw rfl (OpM.isnilE (n:=1) rfl) (fun ef he=>?_);obtain⟨b,rfl⟩:=he;refine nz [] 800 ?_;cases b
  . simp (maxSteps:=9^7) -implicitDefEqProofs only[E3.rv143,zR,InR,WU,Ent.of0,Ent.of1,Ent.of2,Ent.of3,Ent.of4,V,W3,↓reduceIte,seval,reduceCtorEq];refine iw (dC [] 500 ?_);delta E3.c143k2;simp (maxSteps:=9^7) -implicitDefEqProofs only[E3.rv143,WU,Ent.of0,Ent.of1,Ent.of2,Ent.of3,Ent.of4,V,W3,↓reduceIte,seval,reduceCtorEq]
  . simp (maxSteps:=9^7) -implicitDefEqProofs only[E3.rv143,zR,InR,WU,Ent.of0,Ent.of1,Ent.of2,Ent.of3,Ent.of4,V,W3,↓reduceIte,seval,reduceCtorEq];refine m9 (i:=2) (sz:=1) (ty:=3) (by decide) rfl ?_;refine S_ren [(2,5)] (by decide) (by simp[an,ag,dn,af,ae,rn,av]) (by simp[jn,dn,af,ae]) ?_;refine iw (dC [] 500 ?_);delta E3.c143k1;simp (maxSteps:=9^7) -implicitDefEqProofs only[E3.rv143,dn,renS,rn,WU,Ent.of0,Ent.of1,Ent.of2,Ent.of3,Ent.of4,V,W3,↓reduceIte,seval,reduceCtorEq]
 | cons a tlw=>
  simp only[zQ]at h;delta E3.c143 oO oA oM oS oK oI oX o1;simp (maxSteps:=9^7) -implicitDefEqProofs only[E3.rv143,zt,zQ,InR,WU,Ent.of0,Ent.of1,Ent.of2,Ent.of3,Ent.of4,V,W3,↓reduceIte,seval,reduceCtorEq];refine⟨?_,iw (dC [] 500 ?_)⟩
  . omega
  delta E3.c143k2;simp (maxSteps:=9^7) -implicitDefEqProofs only[E3.rv143,zt,WU,Ent.of0,Ent.of1,Ent.of2,Ent.of3,Ent.of4,V,W3,↓reduceIte,seval,reduceCtorEq]
def Av (l:List Int) (h:l.length<=1000000):Ent Tryz.prog:=entN 143 [enc l] (.own 5) 5 (.row 1 3 (l.map Dat.cells)) (by simp[dF]) (by simp[gm]) (Clone_o l h)
def phO (n:Nw) (p:Ph):Chs:=[(100000,.box [.ptr 100001 0]),(100001,.box (phC n p 100002)),(100002,.deep 1 3 24 none (fP p.m.buf))]
theorem x9 (n:Nw) (p:Ph):an (ag (phO n p)):=by simp[phO,an,ag,av]
theorem AB (n:Nw) (p:Ph):bk (phO n p):=by simp[phO,bk]
theorem yY (n:Nw) (p q:Ph):aB (phO n p) (phO n q):=by simp[phO,aB,lk]
theorem open1_c (n:Nw) (p:Ph) (c:Int) (h:NwS n):FC Tryz.prog 144 [enc c,.ptr 100000 0] (phO n p) (enc (decide (c=-1) || isC n c)) (phO n p):=by
 refine dD [100002] is144 (by simp) (AB n p) (x9 n p) (x9 n p) (yY n p p) (fun cx _ hl _=>dC [Ad n p c h] 800 ?_);by_cases hc:c=-1
 . delta c144 oO oN oM oG oX oH oB oD oJ o9;simp (maxSteps:=9^7) -implicitDefEqProofs only[rv144,phO,phX,phC,Ad,eq,hc,yz,WU,Ent.of0,Ent.of1,Ent.of2,Ent.of3,Ent.of4,V,W3,↓reduceIte,seval,reduceCtorEq]
 . delta c144 oO oN oM oG oX oH oB oD oJ o9;simp (maxSteps:=9^7) -implicitDefEqProofs only[rv144,phO,phX,phC,Ad,eq,hc,zF,WU,Ent.of0,Ent.of1,Ent.of2,Ent.of3,Ent.of4,V,W3,↓reduceIte,seval,reduceCtorEq]
theorem open2_c (n:Nw) (p:Ph) (c:Int):FC Tryz.prog 147 [enc c,.ptr 100000 0] (phO n p) (enc (decide (c=-1) || nbr n c p.m.serving)) (phO n p):=by
 refine dD [100002] is147 (by simp) (AB n p) (x9 n p) (x9 n p) (yY n p p) (fun cx _ hl _=>dC [nZ n p c] 800 ?_);by_cases hc:c=-1
 . delta c147 oO oN oM oG oX oH oB oD oJ o9;simp (maxSteps:=9^7) -implicitDefEqProofs only[rv147,phO,phX,phC,nZ,eq,hc,yz,WU,Ent.of0,Ent.of1,Ent.of2,Ent.of3,Ent.of4,V,W3,↓reduceIte,seval,reduceCtorEq]
 . delta c147 oO oN oM oG oX oH oB oD oJ o9;simp (maxSteps:=9^7) -implicitDefEqProofs only[rv147,phO,phX,phC,nZ,eq,hc,zF,WU,Ent.of0,Ent.of1,Ent.of2,Ent.of3,Ent.of4,V,W3,↓reduceIte,seval,reduceCtorEq]
def xU (n:Nw) (p:Ph):Ent Tryz.prog:=eq 146 n p p [.ptr 100000 0] (enc (fmP p.m)) trivial (Bj n p)
def xE (n:Nw) (p:Ph) (hf:0<=p.m.fresh/\p.m.fresh<=1000000) (hg:0<=p.m.got/\p.m.got<=p.m.fresh) (hl1:p.m.buf.length<=1000000) (hp:fj p.m.buf<=1000000000) (hI:∀ x∈p.m.buf.flatten,InR .i64 x):Ent Tryz.prog:=eq 150 n p p [.ptr 100000 0] (enc (pkE p.m)) trivial (Ai n p hf hg hl1 hp hI)
def xt (f:FuncId) (n:Nw) (p:Ph) (g:Int->C) (hr:∀ c,dF [100000,100001] (g c)) (h:∀ c:Int,FC Tryz.prog f [.ptr 100000 0,enc c] (phX n p) (g c) (phX n p)):Ent Tryz.prog:=.mk3 f (fun args chs=>match args with
 |[.ptr 100000 0,.s (.int .i64 c)]=>some (chs=phX n p,g c,phX n p,[])
 |_=>none) (by
 intro args chs pp r' chs' nk hs hp;split at hs
 . rename_i c;simp only[zn,zf]at hs;obtain⟨rfl,rfl,rfl,rfl⟩:=hs;subst hp;refine⟨h c,⟨fun k c hm=>.inr ⟨c,hm⟩,fun k cs hm=>⟨cs,hm⟩,hr c,fun k c hm=>?_⟩⟩;simp only[phX,zl,zA,or_false,zf]at hm;rcases hm with⟨rfl,rfl⟩ | ⟨rfl,rfl⟩
   . simp[gm,phC,phX,dF,dF.keysIns]
   . trivial
 . cases hs)
def xp (f:FuncId) (n:Nw) (p:Ph) (g:Int->C) (hr:∀ c,dF [100000,100001,100002] (g c)) (h:∀ c:Int,FC Tryz.prog f [enc c,.ptr 100000 0] (phO n p) (g c) (phO n p)):Ent Tryz.prog:=.mk3 f (fun args chs=>match args with
 |[.s (.int .i64 c),.ptr 100000 0]=>some (chs=phO n p,g c,phO n p,[])
 |_=>none) (by
 intro args chs pp r' chs' nk hs hp;split at hs
 . rename_i c;simp only[zn,zf]at hs;obtain⟨rfl,rfl,rfl,rfl⟩:=hs;subst hp;refine⟨h c,⟨fun k c hm=>.inr ⟨c,hm⟩,fun k cs hm=>⟨cs,hm⟩,hr c,fun k c hm=>?_⟩⟩;simp only[phO,zl,zA,or_false,zf]at hm;rcases hm with⟨rfl,rfl⟩ | ⟨rfl,rfl⟩ | ⟨rfl,rfl⟩
   . simp[gm,phO,dF,dF.keysIns]
   . simp[gm,phC,phO,dF,dF.keysIns]
   . trivial
 . cases hs)
def xP (n:Nw) (p:Ph) (h:NwS n):Ent Tryz.prog:=xt 145 n p (fun c=>enc (isC n c)) (fun _=>trivial) (fun c=>yV n p c h)
def xO (n:Nw) (p:Ph) (h:NwS n):Ent Tryz.prog:=xp 144 n p (fun c=>enc (decide (c=-1) || isC n c)) (fun _=>trivial) (fun c=>open1_c n p c h)
def xw (n:Nw) (p:Ph):Ent Tryz.prog:=xp 147 n p (fun c=>enc (decide (c=-1) || nbr n c p.m.serving)) (fun _=>trivial) (fun c=>open2_c n p c)
structure MsB (m:Ms):Prop where
 l:m.buf.length<=1000000
 r:∀ x∈m.buf,x.length<=1000
 i:∀ x∈m.buf.flatten,InR .i64 x
def opE (n:Nw) (m:Ms):Int:=if (eW n).2≠0 then (eW n).2 else rstE n m
def opP (m:Ms):Ph:=⟨m,[],[⟨0,0,0⟩],-1,0⟩
def msD (m:Ms):List C:=[.s (.int .i64 m.at_),.s (.int .i64 m.phase),.s (.int .i64 m.since),.s (.int .i64 m.serving),.s (.int .i64 m.target),.s (.int .i64 m.source),.s (.int .i64 m.path),.s (.int .i64 m.fresh),.s (.int .i64 m.got),.sl 1 (m.buf.map Dat.cells)]
def chO (n:Nw) (m:Ms):Chs:=[(1030,.deep 1 3 24 none (fP m.buf)),(7,.box [.ptr 30 0]),(30,.box (phC n (opP m) 1030)),(3,.box (msD m)),(2,.box [.sl 1 (n.cells.map Dat.cells),.sl 2 (n.nb.map Dat.cells),.s (.int .i64 n.limit)])]
theorem fmP_eq {n:Nw} {m:Ms} (h:isC n m.path=true):fmP m=fmB m:=by
 simp only[isC,decide_eq_true_eq]at h;unfold fmP fmB bsyB;by_cases a:m.target=-1 <;> by_cases b0:m.phase=0 <;> by_cases b:m.phase=1 <;> by_cases b2:m.phase=2 <;> by_cases c:m.source=-1 <;> by_cases q:m.path=m.serving <;> by_cases r:m.path=m.source <;> simp[a,b,b2,b0,c,q,r] <;> omega
theorem bqT (b:Bool):(b == true)=b:=by cases b <;> rfl
theorem bqF (b:Bool):(b == false)=!b:=by cases b <;> rfl
theorem open_1 (n:Nw) (m:Ms) (hn:NwS n) (hm:MsB m) (cx:Cx) (E:Int) (r:C) (ch:Chs)
 (hE:(if ¬(0<=m.phase/\m.phase<=3)then 15 else if rgB m=false then 2 else if msB n m=false then 6 else if fmB m=false then 3 else if clB n m=false then 13 else if stB n m=false then 22 else pkE m)=E)
 (her:E≠0->r=.tup [.s (.pointer none),enc E]/\ch=[])
 (hgo:(0<=m.phase/\m.phase<=3)->rgB m=true->msB n m=true->fmB m=true->SG Tryz.prog cx (cB [RV.tmp 4,RV.tmp 5] [1030] r ch) [It.c E2.c113k2.cut] ⟨[(3,.ptr 3 0),(7,.ptr 7 0),(13,.fn (.func 147) [] [.ptr 7 0])],chO n m⟩) :
 SG Tryz.prog cx (cB [RV.tmp 4,RV.tmp 5] [1030] r ch) [It.c E2.c113k3.cut] ⟨[(3,.ptr 3 0),(7,.ptr 7 0),(10,.fn (.func 144) [] [.ptr 7 0]),(11,.s (.bool (rgB m)))],chO n m⟩:=by
 have hml:=hm.l;have hEn:dM [if (0<=m.phase/\m.phase<=3)then 0 else 15,if rgB m=true then 0 else 2,if msB n m=true then 0 else 6,if fmP m=true then 0 else 3]=0/\((0<=m.phase/\m.phase<=3)/\rgB m=true/\msB n m=true/\fmB m=true)\/(dM [if (0<=m.phase/\m.phase<=3)then 0 else 15,if rgB m=true then 0 else 2,if msB n m=true then 0 else 6,if fmP m=true then 0 else 3]=E/\E≠0):=by
  by_cases a1:(0<=m.phase/\m.phase<=3)
  . cases a2:rgB m
    . simp only[a1,a2]at hE;right;subst hE;simp[dM,a1]
    . cases a3:msB n m
      . simp only[a1,a2,a3]at hE;right;subst hE;simp[dM,a1]
      . have a4:fmP m=fmB m:=fmP_eq (n:=n) (by simp only[msB,zm]at a3;exact a3.1.1.2);rw[a4];cases a5:fmB m
        . simp only[a1,a2,a3,a5]at hE;right;subst hE;simp[dM,a1]
        . left;exact⟨by simp[dM,a1],a1,rfl,rfl,rfl⟩
  . simp only[a1]at hE;right;subst hE;simp[dM,a1]
 refine iw (dC [] 500 ?_);delta E2.c113k3 oO oN oA oM oT oG oS oK oF oL oC oI oX oP oB oD oE oJ o1;simp (maxSteps:=9^7) -implicitDefEqProofs only[WU,Ent.of0,Ent.of1,Ent.of2,Ent.of3,Ent.of4,V,W3,↓reduceIte,seval,reduceCtorEq];refine As [eZ,dT,dS,xP n (opP m) hn,xO n (opP m) hn,xU n (opP m)] 800 ?_;have hc:(isC n m.serving=false/\msB n m=false)\/(isC n m.serving=true/\isC n m.path=false/\msB n m=false)\/(isC n m.serving=true/\isC n m.path=true/\(decide (m.target=-1) || isC n m.target)=false/\msB n m=false)\/(isC n m.serving=true/\isC n m.path=true/\(decide (m.target=-1) || isC n m.target)=true/\msB n m=(decide (m.source=-1) || isC n m.source)):=by
  unfold msB;cases isC n m.serving <;> cases isC n m.path <;> cases (decide (m.target=-1) || isC n m.target) <;> simp
 rcases hc with⟨g1,g4⟩ | ⟨g1,g2,g4⟩ | ⟨g1,g2,g3,g4⟩ | ⟨g1,g2,g3,g4⟩
 . simp (maxSteps:=9^7) -implicitDefEqProofs only[drR,xF,xu,stR,xB,xC,xl,br,gV,fm,chO,phC,opP,msD,phX,phO,eZ,dT,dS,xP,xO,xU,eq,xt,xp,g1,aF,an,ag,av,aU,bqT,bqF,Bool.not_true,Bool.not_false,InR,WU,Ent.of0,Ent.of1,Ent.of2,Ent.of3,Ent.of4,V,W3,↓reduceIte,seval,reduceCtorEq];refine⟨rfl,dC [] 600 ?_⟩;simp (maxSteps:=9^7) -implicitDefEqProofs only[E2.rv113,WU,Ent.of0,Ent.of1,Ent.of2,Ent.of3,Ent.of4,V,W3,↓reduceIte,seval,reduceCtorEq];rw[g4]at hEn;simp only[zr,if_false,false_and,and_false,false_or]at hEn;obtain⟨hF,h0⟩:=hEn;obtain⟨rfl,rfl⟩:=her h0;rw[hF,if_pos h0];simp (maxSteps:=9^7) -implicitDefEqProofs only[Ent.of0,Ent.of1,Ent.of2,Ent.of3,Ent.of4,V,W3,↓reduceIte,seval,reduceCtorEq]
 . simp (maxSteps:=9^7) -implicitDefEqProofs only[drR,xF,xu,stR,xB,xC,xl,br,gV,fm,chO,phC,opP,msD,phX,phO,eZ,dT,dS,xP,xO,xU,eq,xt,xp,g1,g2,aF,an,ag,av,aU,bqT,bqF,Bool.not_true,Bool.not_false,InR,WU,Ent.of0,Ent.of1,Ent.of2,Ent.of3,Ent.of4,V,W3,↓reduceIte,seval,reduceCtorEq];refine⟨rfl,dC [] 600 ?_⟩;simp (maxSteps:=9^7) -implicitDefEqProofs only[E2.rv113,WU,Ent.of0,Ent.of1,Ent.of2,Ent.of3,Ent.of4,V,W3,↓reduceIte,seval,reduceCtorEq];rw[g4]at hEn;simp only[zr,if_false,false_and,and_false,false_or]at hEn;obtain⟨hF,h0⟩:=hEn;obtain⟨rfl,rfl⟩:=her h0;rw[hF,if_pos h0];simp (maxSteps:=9^7) -implicitDefEqProofs only[Ent.of0,Ent.of1,Ent.of2,Ent.of3,Ent.of4,V,W3,↓reduceIte,seval,reduceCtorEq]
 . simp (maxSteps:=9^7) -implicitDefEqProofs only[drR,xF,xu,stR,xB,xC,xl,br,gV,fm,chO,phC,opP,msD,phX,phO,eZ,dT,dS,xP,xO,xU,eq,xt,xp,g1,g2,g3,aF,an,ag,av,aU,bqT,bqF,Bool.not_true,Bool.not_false,InR,WU,Ent.of0,Ent.of1,Ent.of2,Ent.of3,Ent.of4,V,W3,↓reduceIte,seval,reduceCtorEq];refine⟨rfl,dC [] 600 ?_⟩;simp (maxSteps:=9^7) -implicitDefEqProofs only[E2.rv113,WU,Ent.of0,Ent.of1,Ent.of2,Ent.of3,Ent.of4,V,W3,↓reduceIte,seval,reduceCtorEq];rw[g4]at hEn;simp only[zr,if_false,false_and,and_false,false_or]at hEn;obtain⟨hF,h0⟩:=hEn;obtain⟨rfl,rfl⟩:=her h0;rw[hF,if_pos h0];simp (maxSteps:=9^7) -implicitDefEqProofs only[Ent.of0,Ent.of1,Ent.of2,Ent.of3,Ent.of4,V,W3,↓reduceIte,seval,reduceCtorEq]
 . simp (maxSteps:=9^7) -implicitDefEqProofs only[drR,xF,xu,stR,xB,xC,xl,br,gV,fm,chO,phC,opP,msD,phX,phO,eZ,dT,dS,xP,xO,xU,eq,xt,xp,g1,g2,g3,aF,an,ag,av,aU,bqT,bqF,Bool.not_true,Bool.not_false,InR,WU,Ent.of0,Ent.of1,Ent.of2,Ent.of3,Ent.of4,V,W3,↓reduceIte,seval,reduceCtorEq];refine⟨rfl,dC [] 600 ?_⟩;simp (maxSteps:=9^7) -implicitDefEqProofs only[E2.rv113,WU,Ent.of0,Ent.of1,Ent.of2,Ent.of3,Ent.of4,V,W3,↓reduceIte,seval,reduceCtorEq];rw[<- g4];rcases hEn with⟨hF,q1,q2,q3,q4⟩ | ⟨hF,h0⟩
   . rw[hF,if_neg (fun q=>q rfl)];exact hgo q1 q2 q3 q4
   . obtain⟨rfl,rfl⟩:=her h0;rw[hF,if_pos h0];simp (maxSteps:=9^7) -implicitDefEqProofs only[Ent.of0,Ent.of1,Ent.of2,Ent.of3,Ent.of4,V,W3,↓reduceIte,seval,reduceCtorEq]
theorem Aw : ∀ (bs:List (List Int)) (k:Nat),(∀ x∈bs,x.length<=k)->bs.flatten.length<=bs.length*k
 |[],k,h=>by simp
 | b :: bs,k,h=>by
  have h1:=Aw bs k (fun x hx=>h x (by simp[hx]));have h2:=h b (by simp);rw[List.flatten_cons,zK,zQ,zP];omega
theorem stB_eq (n:Nw) (m:Ms):stB n m=(!(ej m && decide (m.since+n.limit<=m.at_)) && !(fU m)):=by
 unfold stB fU;cases h:decide (m.source=-1) <;> simp_all
theorem open_2 (n:Nw) (m:Ms) (hn:NwS n) (hm:MsB m) (net:NetOk n) (hlen:m.buf.length=n.cells.length) (cx:Cx) (E:Int) (r:C) (ch:Chs) (q2:rgB m=true) (q3:msB n m=true)
 (hE:(if clB n m=false then 13 else if stB n m=false then 22 else pkE m)=E)
 (hok:E=0->r=.tup [.ptr 30 0,enc (0:Int)]/\ch=phY n (opP m) 30 1030)
 (her:E≠0->r=.tup [.s (.pointer none),enc E]/\ch=[]) :
 SG Tryz.prog cx (cB [RV.tmp 4,RV.tmp 5] [1030] r ch) [It.c E2.c113k2.cut] ⟨[(3,.ptr 3 0),(7,.ptr 7 0),(13,.fn (.func 147) [] [.ptr 7 0])],chO n m⟩:=by
 have hml:=hm.l;have hEn:dM [if clB n m=true then 0 else 13,if stB n m=true then 0 else 22,pkE m]=E:=by
  cases a1:clB n m
  . simp only[a1]at hE;subst hE;simp[dM]
  . cases a2:stB n m
    . simp only[a1,a2]at hE;subst hE;simp[dM]
    . simp only[a1,a2]at hE;subst hE;simp only[dM,if_true];simp;exact fun h=>h.symm
 have q2':=q2;simp only[rgB,zm,decide_eq_true_eq]at q2';obtain⟨⟨⟨r1,r2⟩,r3⟩,r4⟩:=q2';have hlim:=net.lim;have hI:InR .i64 ((opP m).m.since+n.limit):=by simp only[InR,opP];omega
 simp only[msB,zm,zV,decide_eq_true_eq]at q3;have hso:(opP m).m.source≠-1->0<=(opP m).m.source/\(opP m).m.source.toNat < (opP m).m.buf.length:=fun h=>by
  rcases q3.2 with h2 | h2
  . exact absurd h2 h
  . have:=fS h2;simp only[opP];rw[hlen];omega
 have hpk:fj (opP m).m.buf<=1000000000:=by
  rw[nr];have h1:=Aw m.buf 1000 hm.r;have h2:=net.len;simp only[opP];have:m.buf.length*1000<=6*1000:=zB _ (by omega);omega
 refine iw (dC [] 500 ?_);delta E2.c113k2 oO oN oA oM oT oG oS oK oF oL oV oC oI oX oP oB oD oE oJ o1;simp (maxSteps:=9^7) -implicitDefEqProofs only[WU,Ent.of0,Ent.of1,Ent.of2,Ent.of3,Ent.of4,V,W3,↓reduceIte,seval,reduceCtorEq];refine As [dT,dS,xw n (opP m),fa n (opP m),nW n (opP m) hI,uE n (opP m) hso,xE n (opP m) r3 r4 hml hpk hm.i] 800 ?_;have hc:((decide (m.target=-1) || nbr n m.target m.serving)=false/\clB n m=false)\/((decide (m.target=-1) || nbr n m.target m.serving)=true/\clB n m=(decide (m.source=-1) || nbr n m.source m.serving)):=by
  unfold clB;cases (decide (m.target=-1) || nbr n m.target m.serving) <;> simp
 have hd:(ej m=false/\stB n m=!(fU m))\/(ej m=true/\(m.since+n.limit<=m.at_)=True/\stB n m=false)\/(ej m=true/\(m.since+n.limit<=m.at_)=False/\stB n m=!(fU m)):=by
  rw[stB_eq];cases ej m <;> rcases Classical.propComplete (m.since+n.limit<=m.at_)with h | h <;> simp[h]
 rcases hc with⟨g1,g2⟩ | ⟨g1,g2⟩ <;> rcases hd with⟨d1,d2⟩ | ⟨d1,d3,d2⟩ | ⟨d1,d3,d2⟩
 . simp (maxSteps:=9^7) -implicitDefEqProofs only[drR,xF,xu,stR,xB,xC,xl,br,gV,fm,chO,phC,opP,msD,phX,phO,dT,dS,xw,fa,nW,uE,xE,eq,xt,xp,g1,d1,aF,an,ag,av,aU,bqT,bqF,Bool.not_true,Bool.not_false,InR,WU,Ent.of0,Ent.of1,Ent.of2,Ent.of3,Ent.of4,V,W3,↓reduceIte,seval,reduceCtorEq];refine⟨rfl,dC [] 600 ?_⟩;simp (maxSteps:=9^7) -implicitDefEqProofs only[E2.rv113,WU,Ent.of0,Ent.of1,Ent.of2,Ent.of3,Ent.of4,V,W3,↓reduceIte,seval,reduceCtorEq];rw[g2,d2]at hEn;simp only[zr,if_false,yC]at hEn;rw[hEn];by_cases h0:E=0
   . obtain⟨rfl,rfl⟩:=hok h0;rw[if_neg (fun q=>q h0)];simp (maxSteps:=9^7) -implicitDefEqProofs only[phY,phC,opP,Ent.of0,Ent.of1,Ent.of2,Ent.of3,Ent.of4,V,W3,↓reduceIte,seval,reduceCtorEq]
   . obtain⟨rfl,rfl⟩:=her h0;rw[if_pos h0];simp (maxSteps:=9^7) -implicitDefEqProofs only[Ent.of0,Ent.of1,Ent.of2,Ent.of3,Ent.of4,V,W3,↓reduceIte,seval,reduceCtorEq]
 . simp (maxSteps:=9^7) -implicitDefEqProofs only[drR,xF,xu,stR,xB,xC,xl,br,gV,fm,chO,phC,opP,msD,phX,phO,dT,dS,xw,fa,nW,uE,xE,eq,xt,xp,g1,d1,d3,aF,an,ag,av,aU,bqT,bqF,Bool.not_true,Bool.not_false,InR,WU,Ent.of0,Ent.of1,Ent.of2,Ent.of3,Ent.of4,V,W3,↓reduceIte,seval,reduceCtorEq];refine⟨rfl,dC [] 600 ?_⟩;simp (maxSteps:=9^7) -implicitDefEqProofs only[E2.rv113,WU,Ent.of0,Ent.of1,Ent.of2,Ent.of3,Ent.of4,V,W3,↓reduceIte,seval,reduceCtorEq];rw[g2,d2]at hEn;simp only[zr,if_false,yC]at hEn;rw[hEn];by_cases h0:E=0
   . obtain⟨rfl,rfl⟩:=hok h0;rw[if_neg (fun q=>q h0)];simp (maxSteps:=9^7) -implicitDefEqProofs only[phY,phC,opP,Ent.of0,Ent.of1,Ent.of2,Ent.of3,Ent.of4,V,W3,↓reduceIte,seval,reduceCtorEq]
   . obtain⟨rfl,rfl⟩:=her h0;rw[if_pos h0];simp (maxSteps:=9^7) -implicitDefEqProofs only[Ent.of0,Ent.of1,Ent.of2,Ent.of3,Ent.of4,V,W3,↓reduceIte,seval,reduceCtorEq]
 . simp (maxSteps:=9^7) -implicitDefEqProofs only[drR,xF,xu,stR,xB,xC,xl,br,gV,fm,chO,phC,opP,msD,phX,phO,dT,dS,xw,fa,nW,uE,xE,eq,xt,xp,g1,d1,d3,aF,an,ag,av,aU,bqT,bqF,Bool.not_true,Bool.not_false,InR,WU,Ent.of0,Ent.of1,Ent.of2,Ent.of3,Ent.of4,V,W3,↓reduceIte,seval,reduceCtorEq];refine⟨rfl,dC [] 600 ?_⟩;simp (maxSteps:=9^7) -implicitDefEqProofs only[E2.rv113,WU,Ent.of0,Ent.of1,Ent.of2,Ent.of3,Ent.of4,V,W3,↓reduceIte,seval,reduceCtorEq];rw[g2,d2]at hEn;simp only[zr,if_false,yC]at hEn;rw[hEn];by_cases h0:E=0
   . obtain⟨rfl,rfl⟩:=hok h0;rw[if_neg (fun q=>q h0)];simp (maxSteps:=9^7) -implicitDefEqProofs only[phY,phC,opP,Ent.of0,Ent.of1,Ent.of2,Ent.of3,Ent.of4,V,W3,↓reduceIte,seval,reduceCtorEq]
   . obtain⟨rfl,rfl⟩:=her h0;rw[if_pos h0];simp (maxSteps:=9^7) -implicitDefEqProofs only[Ent.of0,Ent.of1,Ent.of2,Ent.of3,Ent.of4,V,W3,↓reduceIte,seval,reduceCtorEq]
 . simp (maxSteps:=9^7) -implicitDefEqProofs only[drR,xF,xu,stR,xB,xC,xl,br,gV,fm,chO,phC,opP,msD,phX,phO,dT,dS,xw,fa,nW,uE,xE,eq,xt,xp,g1,d1,aF,an,ag,av,aU,bqT,bqF,Bool.not_true,Bool.not_false,InR,WU,Ent.of0,Ent.of1,Ent.of2,Ent.of3,Ent.of4,V,W3,↓reduceIte,seval,reduceCtorEq];refine⟨rfl,dC [] 600 ?_⟩;simp (maxSteps:=9^7) -implicitDefEqProofs only[E2.rv113,WU,Ent.of0,Ent.of1,Ent.of2,Ent.of3,Ent.of4,V,W3,↓reduceIte,seval,reduceCtorEq];rw[g2,d2]at hEn;simp only[zr,if_false,yC]at hEn;rw[hEn];by_cases h0:E=0
   . obtain⟨rfl,rfl⟩:=hok h0;rw[if_neg (fun q=>q h0)];simp (maxSteps:=9^7) -implicitDefEqProofs only[phY,phC,opP,Ent.of0,Ent.of1,Ent.of2,Ent.of3,Ent.of4,V,W3,↓reduceIte,seval,reduceCtorEq]
   . obtain⟨rfl,rfl⟩:=her h0;rw[if_pos h0];simp (maxSteps:=9^7) -implicitDefEqProofs only[Ent.of0,Ent.of1,Ent.of2,Ent.of3,Ent.of4,V,W3,↓reduceIte,seval,reduceCtorEq]
 . simp (maxSteps:=9^7) -implicitDefEqProofs only[drR,xF,xu,stR,xB,xC,xl,br,gV,fm,chO,phC,opP,msD,phX,phO,dT,dS,xw,fa,nW,uE,xE,eq,xt,xp,g1,d1,d3,aF,an,ag,av,aU,bqT,bqF,Bool.not_true,Bool.not_false,InR,WU,Ent.of0,Ent.of1,Ent.of2,Ent.of3,Ent.of4,V,W3,↓reduceIte,seval,reduceCtorEq];refine⟨rfl,dC [] 600 ?_⟩;simp (maxSteps:=9^7) -implicitDefEqProofs only[E2.rv113,WU,Ent.of0,Ent.of1,Ent.of2,Ent.of3,Ent.of4,V,W3,↓reduceIte,seval,reduceCtorEq];rw[g2,d2]at hEn;simp only[zr,if_false,yC]at hEn;rw[hEn];by_cases h0:E=0
   . obtain⟨rfl,rfl⟩:=hok h0;rw[if_neg (fun q=>q h0)];simp (maxSteps:=9^7) -implicitDefEqProofs only[phY,phC,opP,Ent.of0,Ent.of1,Ent.of2,Ent.of3,Ent.of4,V,W3,↓reduceIte,seval,reduceCtorEq]
   . obtain⟨rfl,rfl⟩:=her h0;rw[if_pos h0];simp (maxSteps:=9^7) -implicitDefEqProofs only[Ent.of0,Ent.of1,Ent.of2,Ent.of3,Ent.of4,V,W3,↓reduceIte,seval,reduceCtorEq]
 . simp (maxSteps:=9^7) -implicitDefEqProofs only[drR,xF,xu,stR,xB,xC,xl,br,gV,fm,chO,phC,opP,msD,phX,phO,dT,dS,xw,fa,nW,uE,xE,eq,xt,xp,g1,d1,d3,aF,an,ag,av,aU,bqT,bqF,Bool.not_true,Bool.not_false,InR,WU,Ent.of0,Ent.of1,Ent.of2,Ent.of3,Ent.of4,V,W3,↓reduceIte,seval,reduceCtorEq];refine⟨rfl,dC [] 600 ?_⟩;simp (maxSteps:=9^7) -implicitDefEqProofs only[E2.rv113,WU,Ent.of0,Ent.of1,Ent.of2,Ent.of3,Ent.of4,V,W3,↓reduceIte,seval,reduceCtorEq];rw[g2,d2]at hEn;simp only[zr,if_false,yC]at hEn;rw[hEn];by_cases h0:E=0
   . obtain⟨rfl,rfl⟩:=hok h0;rw[if_neg (fun q=>q h0)];simp (maxSteps:=9^7) -implicitDefEqProofs only[phY,phC,opP,Ent.of0,Ent.of1,Ent.of2,Ent.of3,Ent.of4,V,W3,↓reduceIte,seval,reduceCtorEq]
   . obtain⟨rfl,rfl⟩:=her h0;rw[if_pos h0];simp (maxSteps:=9^7) -implicitDefEqProofs only[Ent.of0,Ent.of1,Ent.of2,Ent.of3,Ent.of4,V,W3,↓reduceIte,seval,reduceCtorEq]
theorem Bc (n:Nw) (m:Ms) (hn:NwS n) (hm:MsB m) (E:Int) (hE:opE n m=E) (r:C) (ch:Chs)
 (hok:E=0->r=.tup [.ptr 30 0,enc (0:Int)]/\ch=phY n (opP m) 30 1030)
 (her:E≠0->r=.tup [.s (.pointer none),enc E]/\ch=[])
 (hn1:an (ag ch)) (hkd:aB [] ch):FC Tryz.prog 113 [enc n,enc m] [] r ch:=by
 have hdn:=gO n;have hdm:=Ba m;have hb:=hn.c;have hml:=hm.l;have hF:dM [(eW n).2,if (m.buf.length:Int)=(n.cells.length:Int)then 0 else 10]=if (eW n).2≠0 then (eW n).2 else if m.buf.length≠n.cells.length then 10 else 0:=by
  by_cases h1:(eW n).2=0 <;> by_cases h2:m.buf.length=n.cells.length
  . simp[dM,h1,h2]
  . have h2':¬ (m.buf.length:Int)=(n.cells.length:Int):=by omega
    simp[dM,h1,h2,h2']
  . simp[dM,h1,h2]
  . simp[dM,h1,h2]
 have key:E=(if (eW n).2≠0 then (eW n).2 else if m.buf.length≠n.cells.length then 10 else 0)/\E≠0\/(dM [(eW n).2,if (m.buf.length:Int)=(n.cells.length:Int)then 0 else 10]=0/\(eW n).2=0/\m.buf.length=n.cells.length):=by
  unfold opE rstE at hE;by_cases h1:(eW n).2=0
  . by_cases h2:m.buf.length=n.cells.length
    . right;rw[hF,if_neg (by simp[h1]),if_neg (by simp[h2])];exact⟨rfl,h1,h2⟩
    . left;rw[if_neg (by simp[h1]),if_pos h2]at hE;rw[if_neg (by simp[h1]),if_pos h2];subst hE;exact⟨rfl,by decide⟩
  . left;rw[if_pos h1]at hE;rw[if_pos h1];subst hE;exact⟨rfl,h1⟩
 refine dD [1030] E2.is113 (by simp) (by simp[bk]) (by simp[an,ag]) hn1 hkd (fun cx _ hl _=>dC [jq,eZ,dT,dS] 1500 ?_);rcases key with⟨hE1,h0⟩ | ⟨h0,h1,h2⟩
 . rw[<- hF]at hE1;obtain⟨rfl,rfl⟩:=her h0;delta E2.c113 oO oN oA oM oT oG oQ oS oK oF oL oV oC oW oY oI oX oP oB oE oJ o1 o4 o5 o6 o7;simp (maxSteps:=9^7) -implicitDefEqProofs only[E2.rv113,ed,kN,hdn,hn,jq,eZ,dT,dS,InR,not_true_eq_false,not_false_eq_true,WU,Ent.of0,Ent.of1,Ent.of2,Ent.of3,Ent.of4,V,W3,↓reduceIte,seval,reduceCtorEq];rw[<- hE1,if_pos h0]
 unfold opE rstE at hE;rw[if_neg (by simp[h1]),if_neg (by simp[h2])]at hE;delta E2.c113 oO oN oA oM oT oG oQ oS oK oF oL oV oC oW oY oI oX oP oB oE oJ o1 o4 o5 o6 o7;simp (maxSteps:=9^7) -implicitDefEqProofs only[E2.rv113,ed,kN,hdn,hn,jq,eZ,dT,dS,InR,not_true_eq_false,not_false_eq_true,WU,Ent.of0,Ent.of1,Ent.of2,Ent.of3,Ent.of4,V,W3,↓reduceIte,seval,reduceCtorEq];rw[h0,if_neg (fun q=>q rfl)];obtain⟨p0,hp0⟩:∃ p0,gz n 0=p0:=⟨_,rfl⟩;refine nz [uz n 0 p0 hn hp0] 1500 ?_;simp (maxSteps:=9^7) -implicitDefEqProofs only[E2.rv113,uz,ed,phY,phC,WU,Ent.of0,Ent.of1,Ent.of2,Ent.of3,Ent.of4,V,W3,↓reduceIte,seval,reduceCtorEq];refine uc 1030 30 9 (c0:=.deep 1 3 24 none []) (by decide) (by decide) rfl rfl rfl ?_;refine eN m.buf.length (fun i=>[(42,.s (.int .i64 (i:Int)))]) (fun i=>[(1030,.deep 1 3 24 none (fP (m.buf.take i)))]) (fun _=>True) trivial ?_ (fun i hi _=>?_)
 . simp (maxSteps:=9^7) -implicitDefEqProofs only[ox,Ent.of0,Ent.of1,Ent.of2,Ent.of3,Ent.of4,V,W3,↓reduceIte,seval,reduceCtorEq]
   all_goals rfl
 . by_cases hlt:i < m.buf.length
   . have hi2:(i:Int) < (m.buf.length:Int):=by omega
     have hi0:(0:Int)<=i:=by omega
     have hgx:List.getD (m.buf.map Dat.cells) i [C.sl 0 []]=[C.sl 1 ((m.buf.getD i []).map Dat.cells)]:=by
      rw[zb,zb,zh,ze hlt];rfl
     have hx:=hm.r _ (yy hlt);have hgd:m.buf.getD i []=m.buf[i]:=by rw[zb,ze hlt];rfl
     have hap:fP (m.buf.take i)++[(m.buf.getD i []).map Dat.cells]=fP (m.buf.take (i+1)):=by
      rw[hgd,yI hlt,fP,fP,yg];rfl
     have hlen:(m.buf.take i).length=i:=by rw[List.length_take];omega
     rw[<- hgd]at hx;refine dC [] 800 ?_;delta E2.c113l1 oO oN oA oM oT oR oS oK oF oL oC oX oB o0 o6;simp (maxSteps:=9^7) -implicitDefEqProofs only[ox,hi0,hi2,hlt,hgx,InR,WU,Ent.of0,Ent.of1,Ent.of2,Ent.of3,Ent.of4,V,W3,↓reduceIte,seval,reduceCtorEq];refine qZ [Av (m.buf.getD i []) (by omega)] 800 ?_;simp (maxSteps:=9^7) -implicitDefEqProofs only[gL,mFin2,ml,pF,ops2,jo,reM2,oU,qO,qP,mE,finM,kE,ia,ip,gh,ft,fW,fW.fixBs,fV,ndE2,an,ag,av,aU,aF,kF,eQ,a6,bF,Av,entN,eu,hlen,InR,WU,Ent.of0,Ent.of1,Ent.of2,Ent.of3,Ent.of4,V,W3,↓reduceIte,seval,reduceCtorEq];refine⟨rfl,⟨by omega,by omega⟩,dC [] 600 ?_⟩;simp (maxSteps:=9^7) -implicitDefEqProofs only[hap,WU,Ent.of0,Ent.of1,Ent.of2,Ent.of3,Ent.of4,V,W3,↓reduceIte,seval,reduceCtorEq];refine⟨by simp only[InR];omega,hlt,by omega⟩
   . have hi2:¬ (i:Int) < (m.buf.length:Int):=by omega
     have htk:m.buf.take i=m.buf:=List.take_of_length_le (by omega);have e0:p0=⟨eR n 0,[],[⟨0,0,0⟩],-1,0⟩:=hp0.symm;subst e0;have ht:eM m.at_=decide (0<=m.at_/\m.at_<=1000000000):=rfl;refine dC [iQ,eZ] 800 ?_;have hgo:(0<=m.phase/\m.phase<=3)->rgB m=true->msB n m=true->fmB m=true->SG Tryz.prog cx (cB [RV.tmp 4,RV.tmp 5] [1030] r ch) [It.c E2.c113k2.cut] ⟨[(3,.ptr 3 0),(7,.ptr 7 0),(13,.fn (.func 147) [] [.ptr 7 0])],chO n m⟩:=fun p1 p2 p3 p4=>by
      rw[if_neg (fun q=>q p1),if_neg (by simp[p2]),if_neg (by simp[p3]),if_neg (by simp[p4])]at hE;exact open_2 n m hn hm (rS h1) h2 cx E r ch p2 p3 hE hok her
     have hop:=open_1 n m hn hm cx E r ch hE her hgo;have hc:((0<=m.at_/\m.at_<=1000000000)=False/\rgB m=false)\/((0<=m.at_/\m.at_<=1000000000)=True/\(0<=m.since/\m.since<=m.at_)=False/\rgB m=false)\/((0<=m.at_/\m.at_<=1000000000)=True/\(0<=m.since/\m.since<=m.at_)=True/\(0<=m.fresh/\m.fresh<=1000000)=False/\rgB m=false)\/((0<=m.at_/\m.at_<=1000000000)=True/\(0<=m.since/\m.since<=m.at_)=True/\(0<=m.fresh/\m.fresh<=1000000)=True/\rgB m=decide (0<=m.got/\m.got<=m.fresh)):=by
      rcases Classical.propComplete (0<=m.at_/\m.at_<=1000000000)with g1 | g1 <;> rcases Classical.propComplete (0<=m.since/\m.since<=m.at_)with g2 | g2 <;> rcases Classical.propComplete (0<=m.fresh/\m.fresh<=1000000)with g3 | g3 <;> simp[rgB,g1,g2,g3]
     rcases hc with⟨g1,g4⟩ | ⟨g1,g2,g4⟩ | ⟨g1,g2,g3,g4⟩ | ⟨g1,g2,g3,g4⟩
     . rw[g4]at hop;delta E2.c113l1 oO oN oA oM oT oR oS oK oF oL oC oX oB o0 o6;simp (maxSteps:=9^7) -implicitDefEqProofs only[E2.rv113,ox,hi2,htk,iQ,eZ,ht,g1,WU,Ent.of0,Ent.of1,Ent.of2,Ent.of3,Ent.of4,V,W3,↓reduceIte,seval,reduceCtorEq];exact hop
     . rw[g4]at hop;delta E2.c113l1 oO oN oA oM oT oR oS oK oF oL oC oX oB o0 o6;simp (maxSteps:=9^7) -implicitDefEqProofs only[E2.rv113,ox,hi2,htk,iQ,eZ,ht,g1,g2,WU,Ent.of0,Ent.of1,Ent.of2,Ent.of3,Ent.of4,V,W3,↓reduceIte,seval,reduceCtorEq];exact hop
     . rw[g4]at hop;delta E2.c113l1 oO oN oA oM oT oR oS oK oF oL oC oX oB o0 o6;simp (maxSteps:=9^7) -implicitDefEqProofs only[E2.rv113,ox,hi2,htk,iQ,eZ,ht,g1,g2,g3,WU,Ent.of0,Ent.of1,Ent.of2,Ent.of3,Ent.of4,V,W3,↓reduceIte,seval,reduceCtorEq];exact hop
     . rw[g4]at hop;delta E2.c113l1 oO oN oA oM oT oR oS oK oF oL oC oX oB o0 o6;simp (maxSteps:=9^7) -implicitDefEqProofs only[E2.rv113,ox,hi2,htk,iQ,eZ,ht,g1,g2,g3,WU,Ent.of0,Ent.of1,Ent.of2,Ent.of3,Ent.of4,V,W3,↓reduceIte,seval,reduceCtorEq];exact hop
theorem open_ok (n:Nw) (m:Ms) (hn:NwS n) (hm:MsB m) (h:opE n m=0):FC Tryz.prog 113 [enc n,enc m] [] (.tup [.ptr 30 0,enc (0:Int)]) (phY n (opP m) 30 1030):=
 Bc n m hn hm 0 h _ _ (fun _=>⟨rfl,rfl⟩) (fun q=>absurd rfl q) (by simp[phY,an,ag,av]) (by simp[phY,aB,lk])
theorem open_no (n:Nw) (m:Ms) (hn:NwS n) (hm:MsB m) (h:opE n m≠0):FC Tryz.prog 113 [enc n,enc m] [] (.tup [.s (.pointer none),enc (opE n m)]) []:=
 Bc n m hn hm _ rfl _ _ (fun q=>absurd q h) (fun _=>⟨rfl,rfl⟩) (by simp[an,ag]) (by simp[aB])
def Au (n:Nw) (m:Ms) (hn:NwS n) (hm:MsB m) (h:opE n m=0):Ent Tryz.prog:=.mk3 113 (fun args chs=>some (args=[enc n,enc m]/\chs=[],.tup [.ptr 30 0,enc (0:Int)],phY n (opP m) 30 1030,[30,1030])) (by
 intro args chs pp r chs' nk hs hq;simp only[zn,zf]at hs;obtain⟨rfl,rfl,rfl,rfl⟩:=hs;obtain⟨rfl,rfl⟩:=hq;refine⟨open_ok n m hn hm h,⟨fun k c hm=>.inl ?_,fun k cs hm=>(by simp at hm),?_,fun k c hm=>?_⟩⟩
 . simp only[phY,zl,zA,or_false,zf]at hm ⊢;rcases hm with⟨rfl,rfl⟩ | ⟨rfl,rfl⟩
   . exact .inl rfl
   . exact .inr rfl
 . simp only[phY,zt,zR,dF,dF.keysIns];exact⟨by simp,trivial,trivial⟩
 . simp only[phY,zl,zA,or_false,zf]at hm;rcases hm with⟨rfl,rfl⟩ | ⟨rfl,rfl⟩
   . simp[phY,gm,phC,dF,dF.keysIns]
   . simp[gm])
def At (n:Nw) (m:Ms) (e:Int) (hn:NwS n) (hm:MsB m) (h:e≠0) (hp:opE n m=e):Ent Tryz.prog:=.mk3 113 (fun args chs=>some (args=[enc n,enc m]/\chs=[],.tup [.s (.pointer none),enc e],[],[])) (by
 intro args chs pp r chs' nk hs hq;simp only[zn,zf]at hs;obtain⟨rfl,rfl,rfl,rfl⟩:=hs;obtain⟨rfl,rfl⟩:=hq;have:=open_no n m hn hm (by rw[hp];exact h);rw[hp]at this
 exact⟨this,⟨fun k c hm=>(by simp at hm),fun k cs hm=>(by simp at hm),⟨trivial,trivial,trivial⟩,fun k c hm=>(by simp at hm)⟩⟩)
theorem opE_ok {n:Nw} {m:Ms} (h:opE n m=0):NetOk n/\dP n m:=by
 unfold opE at h;obtain⟨h1,h2⟩:=Af h;exact⟨rS h1,Bs h2⟩
def upN (a:Int) (i:Nat):List Int:=(List.range i).map fun (j:Nat)=>a+(j:Int)
theorem AF (a:Int) (i:Nat):(upN a i).length=i:=by simp[upN]
theorem Bv (a:Int) (i:Nat):upN a (i+1)=upN a i++[a+(i:Int)]:=by simp[upN,List.range_succ]
theorem Bf (a:Int) (i:Nat):(upN a i).map Dat.cells++[[C.s (.int .i64 (a+(i:Int)))]]=(upN a (i+1)).map Dat.cells:=by rw[Bv,yg];rfl
def waitL (m:Ms):List Int:=upN m.got (m.fresh - m.got).toNat
def y7 (n:Nw) (m:Ms):C:=.tup (if opE n m≠0 then [enc ([]:List Int),enc (opE n m)]else [enc (waitL m),enc (0:Int)])
theorem AN (n:Nw) (m:Ms) (hn:NwS n) (hm:MsB m):FC Tryz.prog 72 [enc n,enc m] [] (y7 n m) []:=by
 by_cases h:opE n m=0
 . obtain⟨net,g⟩:=opE_ok h;have hg:=g.got;have hf:=g.fresh;unfold y7;rw[if_neg (by simp[h])];refine dD [] is72 (by simp) (by simp[bk]) (by simp[an,ag]) (by simp[an,ag]) (by simp[aB]) (fun cx _ hl _=>dC [Au n m hn hm h] 1500 ?_);obtain⟨K,hK⟩:∃ K,(m.fresh - m.got).toNat=K:=⟨_,rfl⟩;unfold waitL;rw[hK];delta c72 oO oN oA oM oS oK oF oL oV oC oI oX oB o5 o6 o7 o8;simp (maxSteps:=9^7) -implicitDefEqProofs only[rv72,Au,ed,kN,phY,phC,opP,not_true_eq_false,not_false_eq_true,WU,Ent.of0,Ent.of1,Ent.of2,Ent.of3,Ent.of4,V,W3,↓reduceIte,seval,reduceCtorEq];refine eN K (fun i=>[(9,.s (.int .i64 (m.got+(i:Int))))]) (fun i=>[(8,.row 1 3 ((upN m.got i).map Dat.cells))]) (fun _=>True) trivial ?_ (fun i hi _=>dC [] 800 ?_)
   . simp (maxSteps:=9^7) -implicitDefEqProofs only[upN,Ent.of0,Ent.of1,Ent.of2,Ent.of3,Ent.of4,V,W3,↓reduceIte,seval,reduceCtorEq]
     all_goals simp
   . have hll:=AF m.got i;have hsu:=Bf m.got i;by_cases hlt:i < K
     . have hi2:m.got+(i:Int) < m.fresh:=by omega
       delta c72l1 oO oN oA oM oR oS oK oF oL oX oB o1 o6;simp (maxSteps:=9^7) -implicitDefEqProofs only[rv72,hi2,hll,hsu,InR,WU,Ent.of0,Ent.of1,Ent.of2,Ent.of3,Ent.of4,V,W3,↓reduceIte,seval,reduceCtorEq];exact⟨⟨by omega,by omega⟩,⟨by omega,by omega⟩,hlt,by omega⟩
     . have hi2:¬ m.got+(i:Int) < m.fresh:=by omega
       have hie:i=K:=by omega
       subst hie;delta c72l1 oO oN oA oM oR oS oK oF oL oX oB o1 o6;simp (maxSteps:=9^7) -implicitDefEqProofs only[rv72,hi2,InR,WU,Ent.of0,Ent.of1,Ent.of2,Ent.of3,Ent.of4,V,W3,↓reduceIte,seval,reduceCtorEq]
 . obtain⟨E,he⟩:∃ e,opE n m=e:=⟨_,rfl⟩;unfold y7;rw[he]at h;rw[he,if_pos h];refine dD [] is72 (by simp) (by simp[bk]) (by simp[an,ag]) (by simp[an,ag]) (by simp[aB]) (fun cx _ hl _=>dC [At n m E hn hm h he] 1500 ?_);delta c72 oO oN oA oM oS oK oF oL oV oC oI oX oB o5 o6 o7 o8;simp (maxSteps:=9^7) -implicitDefEqProofs only[rv72,At,ed,kN,h,not_true_eq_false,not_false_eq_true,WU,Ent.of0,Ent.of1,Ent.of2,Ent.of3,Ent.of4,V,W3,↓reduceIte,seval,reduceCtorEq]
theorem MsB.bs {m:Ms} (h:MsB m):BufS m.buf:=⟨h.l,fun x hx=>by have:=h.r x hx;omega⟩
theorem Ao (m:Ms) (h:BufS m.buf):FC Tryz.prog 65 [enc m] [] (enc m) []:=by
 refine dD [] is65 (by simp) (by simp[bk]) (by simp[an,ag]) (by simp[an,ag]) (by simp[aB]) (fun cx _ hl _=>dC [ent60] 800 ?_);delta c65 oO oA oF oL oC oW oX oZ o5 o7;simp (maxSteps:=9^7) -implicitDefEqProofs only[rv65,ent60,kN,h,WU,Ent.of0,Ent.of1,Ent.of2,Ent.of3,Ent.of4,V,W3,↓reduceIte,seval,reduceCtorEq]
def ent65 : Ent Tryz.prog:=.of1 65 (fun m:Ms=>BufS m.buf) (fun m=>enc m) (fun m=>by simp[kN,dF,dF.keysIns]) (fun m h=>Ao m h)
theorem Bd {n:Nw} {c:Int} {l:List T3} (h:(gT n c l).2=0):(eW n).2=0/\isC n c=true/\(iW n (eR n c) l 0).2=0:=by
 unfold gT at h;by_cases h1:gk n c l=0
 . rw[if_neg (fun q=>q h1)]at h;have hc:=(wi (n:=n) (c:=c) (log:=l) (by rw[p6];exact h1)).1;refine⟨?_,hc,h⟩;rw[<- p6]at h1;unfold dM at h1;by_cases h2:(eW n).2=0
   . exact h2
   . rw[if_pos h2]at h1;exact h1
 . rw[if_pos h1]at h;exact absurd h h1
theorem Bk {n:Nw} {m:Ms} (net:NetOk n) (g:dP n m):MsB m:=by
 have h1:=net.len;have h2:m.buf.length=n.cells.length:=g.len;have h3:m.buf.flatten.length<=60:=g.large;have h4:0<=m.fresh/\m.fresh<=1000000:=g.fresh;refine⟨by omega,fun x hx=>?_,fun x hx=>?_⟩
 . have:=(List.sublist_flatten_of_mem hx).length_le;omega
 . have:=g.rng x hx;simp only[InR];omega
theorem Bl {n:Nw} {m:Ms} (h:(eW n).2=0) (g:dP n m):opE n m=0:=by
 unfold opE;rw[if_neg (by simp[h])];exact Bm g
theorem upN_get (k:Nat) (a:Int) (j:Nat) (h:j < k):(upN a k).getD j 0=a+(j:Int):=by
 rw[zb,upN,zh,yv h];rfl
theorem xQ : ∀ l:List T3,0<=xj l/\xj l<=(l.length:Int)
 |[]=>by simp[xj]
 | e :: l=>by
  have:=xQ l;rw[xj,zQ];split <;> omega
theorem yT (xs:List Int) (i:Nat) (h:i < xs.length):List.getD (xs.map Dat.cells) i [C.s (.int .i64 0)]=[C.s (.int .i64 (xs.getD i 0))]:=by
 rw[zb,zb,zh,ze h];rfl
end Go.Proofs.YtcbabnbiinkafaaGreatDoor
end
