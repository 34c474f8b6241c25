/- Part 4 of the proof of: TopMoveTold returns true for every input and never panics: a right log told in texts, and in two halves with the state told between them, gives the same state, and what is possible there is the same and not nothing; conditions: those of the given statement, that the package variables it lists hold what their initialisers lay. -/
import Derived.WalkKit
import Derived.BigCall
import Derived.Lib.QuietBelow
import Derived.Test.YtcbabnbiinkafaaGreatDoorTopMoveTold3
set_option linter.all false
set_option maxHeartbeats 8000000
set_option maxRecDepth 100000
section
open Go Go.Am
open Go.Am.Dat (cells)
namespace Go.Proofs.YtcbabnbiinkafaaGreatDoor
theorem ES (n:Nw) (c:Int) (hn:NwS n):FC Tryz.prog 52 [enc n,enc c] [] (enc (eM n c)) []:=by
 have hb:=hn.c;have key:FC Tryz.prog 52 [enc n,enc c] [] (.agg ([.s (.int .i64 0),.s (.int .i64 0),.s (.int .i64 0),.s (.int .i64 c),.s (.int .i64 (-1)),.s (.int .i64 (-1)),.s (.int .i64 c),.s (.int .i64 0),.s (.int .i64 0)]++[.sl 1 (List.replicate n.cells.length [C.s (.slice none 0 0)])])) []:=by
  refine dD [] is52 (by simp) (by simp[bn]) (by simp[ap,ag]) (by simp[ap,ag]) (by simp[aC]) (fun cx _ _ _=>dC [] 1500 ?_);delta c52 oO oN oA oM oF oL oW oX o0 oZ o4 o7;simp only[rv52,eO,yq,yb,InR,WU,V,W3,seval];omega
 have e:(n.cells.map fun _=>([]:List Int)).map Dat.cells=List.replicate n.cells.length [C.sl 1 []]:=by
  rw[zT];exact List.map_const' (l:=n.cells) (b:=[C.sl 1 []])
 refine FC.post key (fun E U h v hr=>?_);have:=EU hr (fun u hu=>nil_els _ hu);rw[qT,eM];simp only[e];exact this
def ent52 : Ent Tryz.prog:=.of2 52 (fun n _=>NwS n) (fun (n:Nw) (c:Int)=>enc (eM n c)) (fun _ _=>Ar _) (fun n c h=>ES n c h)
theorem DR (l:List T3) (h:l.length<=1000000):FC Tryz.prog 38 [enc l] [] (enc l) []:=by
 refine eP is38 (by simp) (fun cx hl=>dC [] 800 ?_);delta c38 oO oA oM oX o3;simp only[rv38,qx,WU,V,W3,seval];omega
def B7 : Ent Tryz.prog:=.of1 38 (fun l=>l.length<=1000000) (fun l:List T3=>enc l) (fun _=>trivial) (fun l h=>DR l h)
def rpE (n:Nw) (c:Int) (l:List T3):Int×Int:=if 200 < l.length then (0,8)else iG n (eM n c) l 0
def rpS (n:Nw) (c:Int) (l:List T3):Ms:=if (rpE n c l).2=0 then l.foldl (qE n) (eM n c)else ms0
def ent71 (n:Nw) (m:Ms) (e:T3) (hn:NwS n) (net:NetOk n) (g:dN n m):Ent Tryz.prog:=wu 71 [enc n,enc m,enc e] (.tup [enc (wU n m e),enc (fY n m e)]) (Apply_c n m e hn net g) ⟨Ar _,trivial,trivial⟩
theorem DT (n:Nw) (c:Int) (l:List T3) (hn:NwS n) (net:NetOk n) (hc:isC n c=true):FC Tryz.prog 42 [enc n,enc c,enc l] [] (.tup [enc (rpS n c l),enc (rpE n c l).1,enc (rpE n c l).2]) []:=by
 have hdn:=jd n;by_cases hl:200 < l.length
 . have hl':(200:Int) < (l.length:Int):=by omega
   have hE:rpE n c l=(0,8):=by rw[rpE,qb hl]
   have hS:rpS n c l=ms0:=by rw[rpS,hE];rfl
   rw[hS,hE];refine dD [] is42 (by simp) (by simp[bn]) (by simp[ap,ag]) (by simp[ap,ag]) (by simp[aC]) (fun cx _ _ _=>dC [] 1500 ?_);delta c42 oO oN oA oM oS oK oV oC oW oI oX oB oZ o4 o5 o7;simp only[rv42,eO,qT,ms0,hl',WU,V,W3,seval]
 . have hl':¬ (200:Int) < (l.length:Int):=by omega
   have hE:rpE n c l=iG n (eM n c) l 0:=by rw[rpE,qa hl]
   have hS:rpS n c l=if (iG n (eM n c) l 0).2=0 then l.foldl (qE n) (eM n c)else ms0:=by rw[rpS,hE]
   rw[hS,hE];generalize hR:iG n (eM n c) l 0=R;have g0:=dN.begin net hc;refine dD [] D7.is42 (by simp) (by simp[bn]) (by simp[ap,ag]) (by simp[ap,ag]) (by simp[aC]) (fun cx _ _ _=>dC [ent52] 1500 ?_);delta D7.c42 oO oN oA oM oS oK oV oC oW oI oX oB oZ o4 o5 o7;simp only[D7.rv42,ent52,eO,qT,hdn,hn,hl',qc,WU,Ent.of2,V,W3,seval];obtain⟨mfw,hmf⟩:∃ mfw:Nat->Ms,∀ i,mfw i=(l.take i).foldl (qE n) (eM n c):=⟨_,fun _=>rfl⟩;have hm0:mfw 0=eM n c:=hmf 0;have hme:mfw l.length=l.foldl (qE n) (eM n c):=by rw[hmf,yo]
   rw[<- hme];rw[<- hm0]at g0 hR;refine fH l.length (fun i=>[(10,.s (.int .i64 (i:Int)))]) (fun i=>[(9,.box [.s (.int .i64 (mfw i).at_),.s (.int .i64 (mfw i).vP),.s (.int .i64 (mfw i).since),.s (.int .i64 (mfw i).vG),.s (.int .i64 (mfw i).target),.s (.int .i64 (mfw i).vS),.s (.int .i64 (mfw i).path),.s (.int .i64 (mfw i).fresh),.s (.int .i64 (mfw i).got),.sl 1 ((mfw i).buf.map Dat.cells)])]) (fun i=>dN n (mfw i)/\iG n (mfw i) (l.drop i) (i:Int)=R) ⟨g0,hR⟩ ?_ (fun i hi hv=>?_)
   . simp only[hm0,qT,V,W3,seval]
     all_goals rfl
   . obtain⟨g,hv⟩:=hv;by_cases h:i < l.length
     . have hi2:(i:Int) < (l.length:Int):=by omega
       have hi0:(0:Int)<=i:=by omega
       have hgd:=vp l i h;have hd:=fI (d:=(⟨0,0,0⟩:T3)) h;have hnx:mfw (i+1)=qE n (mfw i) (l.getD i ⟨0,0,0⟩):=by
        rw[hmf,hmf,yI h,List.foldl_append];rw[zb,ze h];rfl
       rw[hd]at hv;generalize l.getD i ⟨0,0,0⟩=e at *;rw[iG]at hv;have eta:(⟨e.x,e.y,e.z⟩:T3)=e:=rfl;refine dC [] 800 ?_;delta D7.c42l1 oO oN oA oM oT oR oS oK oC oW oI oX oB o3 oZ o4 o5 o8;simp only[D7.rv42,hi0,hi2,h,hgd,qx,InR,WU,V,W3,seval];refine AJ [ent71 n (mfw i) e hn net g] 800 [6] ?_;simp only[xF,mFin2,AX,lP,ot,ops2,ja,reM2,nR,p9,qr,l6,finM,kd,gP,g9,fX,ff,fN,fN.fixBs,fL,ndE2,ap,ag,av,aU,aE,ke,eL,a6,bF,ent71,wu,eO,qT,dV,hi0,hi2,h,hgd,InR,WU,V,W3,seval];refine⟨rfl,?_⟩;refine dC [] 800 ?_;by_cases h0:fY n (mfw i) e=0
       . rw[qb h0]at hv;have hA:wU n (mfw i) e=mfw (i+1):=by rw[hnx,wU,qa (by simp[h0])]
         rw[hA];rw[<- hnx]at hv;have g':dN n (mfw (i+1)):=by rw[hnx];exact g.apply net h0
         simp only[D7.rv42,h0,qc,WU,V,W3,seval];exact⟨by simp only[InR];omega,h,⟨g',by rw[<- hv];congr 1⟩,by omega⟩
       . rw[qa h0]at hv;subst hv;simp only[D7.rv42,h0,ms0,qc,qd,WU,V,W3,seval]
     . have hil:i=l.length:=by omega
       subst hil;have hi2:¬ ((l.length:Nat):Int) < (l.length:Int):=by omega
       rw[List.drop_length]at hv;subst hv;refine dC [] 800 ?_;delta D7.c42l1 oO oN oA oM oT oR oS oK oC oW oI oX oB o3 oZ o4 o5 o8;simp only[D7.rv42,hi2,iG,WU,V,W3,seval]
theorem AB (n:Nw) (c:Int) (l:List T3):fZ n c l=if wI n c≠0 then wI n c else if l.length<=200 then 0 else 8:=by
 unfold fZ wI;by_cases h1:(gO n).2=0 <;> cases h2:isC n c <;> by_cases h3:l.length<=200 <;> simp[dS,h1,h3]
theorem EF (n:Nw) (c:Int) (l:List T3) (h:wI n c≠0):gH n c l=(0,wI n c):=by
 have:fZ n c l=wI n c:=by rw[AB,qb h]
 rw[gH,this,qb h]
theorem Bz (n:Nw) (c:Int) (l:List T3) (h:wI n c=0):gH n c l=rpE n c l:=by
 have hf:=AB n c l;rw[qa (by simp[h])]at hf;rw[gH,rpE];by_cases h3:l.length<=200
 . rw[qb h3]at hf;rw[qa (by simp[hf]),qa (by omega)]
 . rw[qa h3]at hf;rw[qb (by simp[hf]),hf,qb (by omega)]
theorem cell_ok {n:Nw} {c:Int} (h:wI n c=0):NetOk n/\isC n c=true:=by
 unfold wI at h;by_cases h1:(gO n).2=0
 . rw[qa (by simp[h1])]at h;cases h2:isC n c
   . simp[h2]at h
   . exact⟨rm h1,rfl⟩
 . rw[qb h1]at h;exact absurd h h1
theorem rpE_ok {n:Nw} {c:Int} {l:List T3} (h:(rpE n c l).2=0):rpE n c l=(0,0)/\l.length<=200/\(iG n (eM n c) l 0).2=0:=by
 unfold rpE at h ⊢;by_cases h3:200 < l.length
 . rw[qb h3]at h;cases h
 . rw[qa h3]at h ⊢;exact⟨AF n l _ 0 h,by omega,h⟩
theorem EQ (n:Nw) (c:Int) (l:List T3) (hn:NwS n):FC Tryz.prog 53 [enc n,enc c,enc l] [] (enc (gH n c l).2) []:=by
 have hdn:=jd n;by_cases hd:wI n c=0
 rotate_left
 . rw[EF n c l hd];refine dD [] is53 (by simp) (by simp[bn]) (by simp[ap,ag]) (by simp[ap,ag]) (by simp[aC]) (fun cx _ _ _=>dC [B8] 1500 ?_);delta c53 oO oN oA oM oS oK oV oC oW oI oX oB oZ o5 o7 o8;simp only[rv53,B8,eO,hdn,hn,hd,qc,qd,WU,Ent.of2,V,W3,seval]
 . obtain⟨net,hc⟩:=cell_ok hd;rw[Bz n c l hd];have h42:=DT n c l hn net hc;generalize rpE n c l=R at *;generalize rpS n c l=S at *;refine dD [] is53 (by simp) (by simp[bn]) (by simp[ap,ag]) (by simp[ap,ag]) (by simp[aC]) (fun cx _ _ _=>dC [B8,wu 42 _ _ h42 ⟨Ar _,trivial,trivial,trivial⟩] 1500 ?_);delta c53 oO oN oA oM oS oK oV oC oW oI oX oB oZ o5 o7 o8;simp only[rv53,B8,wu,eO,qT,hdn,hn,hd,qc,qd,WU,Ent.of2,V,W3,seval]
structure Bst where
 f:Bool
 t:Int
 c:Int
 v:Int
def sgT (r:Rul) (L:List (List Int)) (s:Int) (k:Nat):List Int:=x7 r (L.getD s.toNat []) (L.getD k [])
def sgIn (r:Rul) (L:List (List Int)) (s t:Int):Nat->Int
 | 0=>-1
 | k+1=>if (k:Int)≠s/\t∈sgT r L s k/\(sgIn r L s t k < 0\/(L.getD (sgIn r L s t k).toNat []).getD t.toNat 0 < (L.getD k []).getD t.toNat 0)then (k:Int)else sgIn r L s t k
structure SgInv (r:Rul) (L:List (List Int)) (s:Int) (k:Nat) (b:Bst):Prop where
 no:b.f=false->∀ t,sgIn r L s t k=-1
 yes:b.f=true->sgIn r L s b.t k=b.c/\(0<=b.c/\b.c < k)/\b.v=(L.getD b.c.toNat []).getD b.t.toNat 0/\(∀ t,t < b.t->sgIn r L s t k=-1)/\0<=b.t/\b.t < (L.getD s.toNat []).length
theorem C0 (b:List (List Int)) (h:BufS b):FC Tryz.prog 60 [enc b] [] (enc b) []:=by
 have:=FC.frz (Aw b h) (x:=.sl 1 (b.map Dat.cells)) (by simp[bz,fB];intro a _;rfl);exact this
def ent60 : Ent Tryz.prog:=.of1 60 BufS (fun b:List (List Int)=>enc b) (fun _=>trivial) (fun b h=>C0 b h)
def xp (f:Int) (seen:List Int):Int->List Int->Int
 |_,[]=>0
 | p,x :: l=>if ¬ (0<=x/\x < f)then 2 else if x<=p then 9 else if x∈seen then 26 else xp f seen x l
def pkL (f:Int):List Int->List (List Int)->Int
 |_,[]=>0
 | seen,b :: bs=>if xp f seen (-1) b≠0 then xp f seen (-1) b else pkL f (seen++b) bs
def rgB (m:Ms):Bool:=decide (0<=m.at_/\m.at_<=1000000000) && decide (0<=m.since/\m.since<=m.at_) && decide (0<=m.fresh/\m.fresh<=1000000) && decide (0<=m.got/\m.got<=m.fresh)
def msB (n:Nw) (m:Ms):Bool:=isC n m.vG && isC n m.path && (decide (m.target=-1) || isC n m.target) && (decide (m.vS=-1) || isC n m.vS)
def bsyB (m:Ms):Bool:=decide (m.vP=1) || decide (m.vP=2)
def fmB (m:Ms):Bool:=
 !((!decide (m.target=-1) && decide (m.vP=0)) || (decide (m.target=-1) && bsyB m) || (!decide (m.vS=-1) && (bsyB m || !decide (m.target=-1))) || (!decide (m.path=m.vG) && (decide (m.vS=-1) || !decide (m.path=m.vS))))
def clB (n:Nw) (m:Ms):Bool:=(decide (m.target=-1) || nbr n m.target m.vG) && (decide (m.vS=-1) || nbr n m.vS m.vG)
def stB (n:Nw) (m:Ms):Bool:=!(ed m && decide (m.since+n.limit<=m.at_)) && !(!decide (m.vS=-1) && decide (m.path=m.vG) && (dO m m.vS).isEmpty)
def opnC (m:Ms) (i:Nat):Bool:=(m.buf.getD i []).isEmpty || decide ((i:Int)=m.vG) || decide ((i:Int)=m.vS) || (ed m && decide ((i:Int)=m.target))
def opnB (m:Ms):Bool:=(List.range m.buf.length).all (opnC m)
def xP (l:List Int):Nat->Int->Bool
 | 0,_=>true
 | k+1,a=>decide (a∈l) && xP l k (a+1)
def Ac (m:Ms):Bool:=decide (m.fresh - m.got<=60) && xP m.buf.flatten (m.fresh - m.got).toNat m.got
def pkE (m:Ms):Int:=if 60 < m.buf.flatten.length then 8 else if pkL m.fresh [] m.buf≠0 then pkL m.fresh [] m.buf else if opnB m=false then 23 else if Ac m=false then 14 else 0
def rstE (n:Nw) (m:Ms):Int:=
 if m.buf.length≠n.cells.length then 10
 else if ¬ (0<=m.vP/\m.vP<=3)then 15
 else if rgB m=false then 2
 else if msB n m=false then 6
 else if fmB m=false then 3
 else if clB n m=false then 13
 else if stB n m=false then 22
 else pkE m
theorem xb {c:Prop} [Decidable c] {a b:Int} (ha:a≠0) (h:(if c then a else b)=0):¬ c/\b=0:=by
 by_cases hc:c
 . rw[qb hc]at h;exact absurd h ha
 . rw[qa hc]at h;exact⟨hc,h⟩
theorem CH {a b:Int} (h:(if a≠0 then a else b)=0):a=0/\b=0:=by
 by_cases hc:a=0
 . rw[qa (by simp[hc])]at h;exact⟨hc,h⟩
 . rw[qb hc]at h;exact absurd h hc
theorem xX {f:Int} {seen:List Int}:∀ (l:List Int) (p:Int),xp f seen p l=0↔(∀ x∈l,(0<=x/\x < f)/\p < x/\x∉seen)/\l.Pairwise (· < ·)
 |[],p=>by simp[xp]
 | x :: l,p=>by
  rw[xp];constructor
  . intro h;obtain⟨h1,h⟩:=xb (by decide) h;obtain⟨h2,h⟩:=xb (by decide) h;obtain⟨h3,h⟩:=xb (by decide) h;obtain⟨g1,g2⟩:=(xX l x).1 h;refine⟨fun y hy=>?_,yK.2 ⟨fun y hy=>(g1 y hy).2.1,g2⟩⟩;rcases zl.1 hy with rfl | hy
    . exact⟨by omega,by omega,h3⟩
    . have:=g1 y hy;exact⟨this.1,by omega,this.2.2⟩
  . rintro⟨h1,h2⟩
    obtain⟨q1,q2,q3⟩:=h1 x (by simp);rw[yK]at h2;rw[qa (fun q=>q q1),qa (by omega),qa q3];exact (xX l x).2 ⟨fun y hy=>⟨(h1 y (by simp[hy])).1,h2.1 y hy,(h1 y (by simp[hy])).2.2⟩,h2.2⟩
theorem xS {f:Int}:∀ (bs:List (List Int)) (seen:List Int),pkL f seen bs=0↔(∀ x∈bs.flatten,(0<=x/\x < f)/\x∉seen)/\(∀ b∈bs,b.Pairwise (· < ·))/\bs.flatten.Nodup
 |[],seen=>by simp[pkL]
 | b :: bs,seen=>by
  rw[pkL];constructor
  . intro h;obtain⟨h1,h⟩:=CH h;obtain⟨g1,g2⟩:=(xX b _).1 h1;obtain⟨k1,k2,k3⟩:=(xS bs _).1 h;refine⟨fun x hx=>?_,fun c hc=>?_,?_⟩
    . rw[List.flatten_cons,zW]at hx;rcases hx with hx | hx
      . exact⟨(g1 x hx).1,(g1 x hx).2.2⟩
      . exact⟨(k1 x hx).1,fun q=>(k1 x hx).2 (List.mem_append_left _ q)⟩
    . rcases zl.1 hc with rfl | hc
      . exact g2
      . exact k2 c hc
    . rw[List.flatten_cons,List.nodup_append];exact⟨rz g2,k3,fun x hx y hy e=>(k1 y hy).2 (List.mem_append_right _ (e ▸ hx))⟩
  . rintro⟨h1,h2,h3⟩
    rw[List.flatten_cons,List.nodup_append]at h3
    have e:xp f seen (-1) b=0:=(xX b _).2 ⟨fun x hx=>by
     have:=h1 x (by rw[List.flatten_cons];exact List.mem_append_left _ hx)
     exact⟨this.1,by omega,this.2⟩,h2 b (by simp)⟩
    rw[qa (by simp[e])];refine (xS bs _).2 ⟨fun x hx=>?_,fun c hc=>h2 c (by simp[hc]),h3.2.1⟩;have:=h1 x (by rw[List.flatten_cons];exact List.mem_append_right _ hx);refine⟨this.1,fun q=>?_⟩;rcases zW.1 q with q | q
    . exact this.2 q
    . exact h3.2.2 x q x hx rfl
theorem xQ {l:List Int}:∀ (k:Nat) (a:Int),xP l k a=true↔∀ x,a<=x->x < a+k->x∈l
 | 0,a=>by simp[xP];intro x h1 h2;omega
 | k+1,a=>by
  rw[xP,zm,xQ k,qf];constructor
  . rintro⟨h1,h2⟩ x q1 q2
    rcases Int.lt_or_eq_of_le q1 with q | q
    . exact h2 x (by omega) (by push_cast at q2;omega)
    . exact q ▸ h1
  . exact fun h=>⟨h a (Int.le_refl _) (by push_cast;omega),fun x q1 q2=>h x (by omega) (by push_cast;omega)⟩
theorem y3 {m:Ms}:opnB m=true↔∀ i:Nat,m.buf.getD i []≠[]->(i:Int)=m.vG\/(i:Int)=m.vS\/(ed m=true/\(i:Int)=m.target):=by
 rw[opnB,zx];constructor
 . intro h i hi;have hl:i < m.buf.length:=by
    rcases yu i m.buf.length with q | q
    . exact q
    . rw[zb,List.getElem?_eq_none q]at hi;exact absurd rfl hi
   have:=h i (zE.2 hl);simp only[opnC,zV,zm,qf,List.isEmpty_iff]at this;rcases this with ((q | q) | q) | q
   . exact absurd q hi
   . exact .inl q
   . exact .inr (.inl q)
   . exact .inr (.inr q)
 . intro h i _;simp only[opnC,zV,zm,qf,List.isEmpty_iff];rcases qh (m.buf.getD i []=[])with q | q
   . exact .inl (.inl (.inl q))
   . rcases h i q with q | q | q
     . exact .inl (.inl (.inr q))
     . exact .inl (.inr q)
     . exact .inr q
theorem Fo {n:Nw} {m:Ms} (h:rstE n m=0):dN n m:=by
 unfold rstE at h;obtain⟨h1,h⟩:=xb (by decide) h;obtain⟨h2,h⟩:=xb (by decide) h;obtain⟨h3,h⟩:=xb (by decide) h;obtain⟨h4,h⟩:=xb (by decide) h;obtain⟨h5,h⟩:=xb (by decide) h;obtain⟨h6,h⟩:=xb (by decide) h;obtain⟨h7,h⟩:=xb (by decide) h;unfold pkE at h;obtain⟨h8,h⟩:=xb (by decide) h;obtain⟨h9,h⟩:=CH h;obtain⟨h10,h⟩:=xb (by decide) h;obtain⟨h11,h⟩:=xb (by decide) h;clear h;obtain⟨p1,p2,p3⟩:=(xS _ _).1 h9;have h1':m.buf.length=n.cells.length:=Classical.not_not.1 h1;have h2':0<=m.vP/\m.vP<=3:=Classical.not_not.1 h2;replace h3:rgB m=true:=by simpa using h3
 simp only[rgB,zm,qf]at h3;replace h4:msB n m=true:=by simpa using h4
 simp only[msB,zm,zV,qf]at h4;replace h5:fmB m=true:=by simpa using h5
 simp only[fmB,bsyB,yC,zm,zV,Bool.and_eq_false_iff,Bool.or_eq_false_iff,Bool.not_eq_false',qf,ql]at h5;replace h6:clB n m=true:=by simpa using h6
 simp only[clB,zm,zV,qf]at h6;replace h7:stB n m=true:=by simpa using h7
 simp only[stB,yC,zm,Bool.and_eq_false_iff,Bool.not_eq_false',qf,ql,List.isEmpty_eq_false_iff]at h7;have h10':=y3.1 (by simpa using h10);have h11':Ac m=true:=by simpa using h11
 simp only[Ac,zm,qf,xQ]at h11';obtain⟨⟨⟨a1,a2⟩,a3⟩,a4⟩:=h3;obtain⟨⟨⟨b1,b2⟩,b3⟩,b4⟩:=h4;obtain⟨⟨⟨c1,c2⟩,c3⟩,c4⟩:=h5;refine⟨⟨h1',h2',a1,a2,a3,a4,b1,b2,fun q=>?_,fun q=>?_,fun q=>?_,fun q=>?_,fun q=>?_,fun q=>?_,fun q=>?_,fun q=>?_,fun q=>?_,by omega,fun x hx=>(p1 x hx).1,p2,p3,h10',fun x q1 q2=>h11'.2 x q1 (by omega)⟩,fun q1 q2=>?_⟩
 . rcases b3 with r | r
   . exact absurd r q
   . exact r
 . rcases b4 with r | r
   . exact absurd r q
   . exact r
 . rcases c1 with r | r
   . exact absurd r q
   . exact r
 . rcases c2 with r | r
   . exact absurd q r
   . exact r
 . rcases c3 with r | r
   . exact absurd r q
   . exact⟨r.1.1,r.1.2,r.2⟩
 . rcases c4 with r | r
   . exact absurd r q
   . exact r
 . rcases h6.1 with r | r
   . exact absurd r q
   . exact r
 . rcases h6.2 with r | r
   . exact absurd r q
   . exact r
 . rcases h7.1 with r | r
   . rw[q]at r;cases r
   . omega
 . rcases h7.2 with (r | r) | r
   . exact absurd r q1
   . exact absurd q2 r
   . exact r
theorem E6 {n:Nw} {m:Ms} (g:dN n m):rstE n m=0:=by
 have e1:=g.len;have e2:=g.vP;have e3:rgB m=true:=by
  have:=g.at_;have:=g.since;have:=g.fresh;have:=g.got;simp only[rgB,zm,qf];exact⟨⟨⟨by omega,by omega⟩,by omega⟩,by omega⟩
 have e4:msB n m=true:=by
  simp only[msB,zm,zV,qf];refine⟨⟨⟨g.srv,g.pth⟩,?_⟩,?_⟩
  . rcases qh (m.target=-1)with q | q
    . exact .inl q
    . exact .inr (g.tgt q)
  . rcases qh (m.vS=-1)with q | q
    . exact .inl q
    . exact .inr (g.src q)
 have e5:fmB m=true:=by
  simp only[fmB,bsyB,yC,zm,zV,Bool.and_eq_false_iff,Bool.or_eq_false_iff,Bool.not_eq_false',qf,ql];refine⟨⟨⟨?_,?_⟩,?_⟩,?_⟩
  . rcases qh (m.target=-1)with q | q
    . exact .inl q
    . exact .inr (g.f1 q)
  . rcases qh (m.target=-1)with q | q
    . exact .inr (g.f2 q)
    . exact .inl q
  . rcases qh (m.vS=-1)with q | q
    . exact .inl q
    . obtain⟨r1,r2,r3⟩:=g.f3 q;exact .inr ⟨⟨r1,r2⟩,r3⟩
  . rcases qh (m.path=m.vG)with q | q
    . exact .inl q
    . exact .inr (g.f4 q)
 have e6:clB n m=true:=by
  simp only[clB,zm,zV,qf];constructor
  . rcases qh (m.target=-1)with q | q
    . exact .inl q
    . exact .inr (g.c1 q)
  . rcases qh (m.vS=-1)with q | q
    . exact .inl q
    . exact .inr (g.c2 q)
 have e7:stB n m=true:=by
  simp only[stB,yC,zm,Bool.and_eq_false_iff,Bool.not_eq_false',qf,ql,List.isEmpty_eq_false_iff];constructor
  . cases ha:ed m with
    | false=>exact .inl rfl
    | true=>have:=g.due ha;exact .inr (by omega)
  . rcases qh (m.vS=-1)with q | q
    . exact .inl (.inl q)
    . rcases qh (m.path=m.vG)with r | r
      . exact .inr (g.busy q r)
      . exact .inl (.inr r)
 have e8w:=g.large;have e9w:pkL m.fresh [] m.buf=0:=(xS _ _).2 ⟨fun x hx=>⟨g.rng x hx,by simp⟩,g.asc,g.nd⟩;have e10:opnB m=true:=y3.2 g.opn;have e11:Ac m=true:=by
  have:=g.gap60;simp only[Ac,zm,qf,xQ];exact⟨by omega,fun x q1 q2=>g.gap x q1 (by have:=g.got;omega)⟩
 unfold rstE pkE;rw[qa (by simp[e1]),qa (fun q=>q e2),qa (by simp[e3]),qa (by simp[e4]),qa (by simp[e5]),qa (by simp[e6]),qa (by simp[e7]),qa (by omega),qa (by simp[e9w]),qa (by simp[e10]),qa (by simp[e11])]
theorem BH : ∀ (k:Nat) (l:List Int) (a:Int),l.Nodup->(∀ x∈l,a<=x/\x < a+k)->(l.length=k↔xP l k a=true)
 | 0,l,a,hn,h=>by
  have:l=[]:=by
   cases l with
   | nil=>rfl
   | cons x l=>have:=h x (by simp);omega
  subst this;simp[xP]
 | k+1,l,a,hn,h=>by
  rw[xQ];have hle:∀ (k:Nat) (l:List Int) (a:Int),l.Nodup->(∀ x∈l,a<=x/\x < a+k)->l.length<=k:=by
   intro k
   induction k with
   | zero=>
    intro l a _ h;cases l with
    | nil=>simp
    | cons x l=>have:=h x (by simp);omega
   | succ k ih=>
    intro l a hn h
    have h1:=ih (l.erase a) (a+1) (hn.erase a) (fun x hx=>by
     have hx2:=(hn.mem_erase_iff).1 hx;have:=h x hx2.2
     push_cast at this
     omega)
    have:l.length<=(l.erase a).length+1:=by
     rw[List.length_erase];split <;> omega
    omega
  have hE:∀ x∈l.erase a,a+1<=x/\x < a+1+k:=fun x hx=>by
   have hx2:=(hn.mem_erase_iff).1 hx;have:=h x hx2.2
   push_cast at this
   omega
  have ih:=BH k (l.erase a) (a+1) (hn.erase a) hE;rw[xQ]at ih;have h1:=hle k (l.erase a) (a+1) (hn.erase a) hE;constructor
  . intro hl x q1 q2;have ha:a∈l:=by
     rcases qh (a∈l)with q | q
     . exact q
     . rw[List.erase_of_not_mem q]at h1;omega
    rcases Int.lt_or_eq_of_le q1 with q | q
    . have h2:=List.length_erase_of_mem ha;exact List.mem_of_mem_erase (ih.1 (by omega) x (by omega) (by push_cast at q2;omega))
    . exact q ▸ ha
  . intro hx;have ha:a∈l:=hx a (Int.le_refl _) (by push_cast;omega);have h2:=List.length_erase_of_mem ha;have h3:=List.length_pos_of_mem ha;have:=ih.2 (fun x q1 q2=>(hn.mem_erase_iff).2 ⟨by omega,hx x (by omega) (by push_cast;omega)⟩);omega
def fmP (m:Ms):Bool:=if m.target≠-1/\m.vP=0 then false else if m.target=-1/\(m.vP=1\/m.vP=2)then false else if m.vS≠-1/\((m.vP=1\/m.vP=2)\/m.target≠-1)then false else decide (m.path=m.vG\/m.path=m.vS)
theorem E4 (n:Nw) (p:Ph):FC Tryz.prog 146 [.ptr 100000 0] (phX n p) (enc (fmP p.m)) (phX n p):=by
 refine dD [100001] is146 (by simp) (dP n p) (dE n p) (dE n p) (dI n p p) (fun cx _ hl _=>dC [] 1200 ?_);delta c146 oO oN oA oM oT oG oR oQ oS oK oF oL oI oX oP oH oB oD oE oJ o6 o9;simp (maxSteps:=9^7) only[rv146,phX,phC,InR,qc,qd,WU,V,W3,seval];unfold fmP;by_cases a:p.m.target=-1 <;> by_cases b0:p.m.vP=0 <;> by_cases b:p.m.vP=1 <;> by_cases b2:p.m.vP=2 <;> by_cases c:p.m.vS=-1 <;> by_cases q:p.m.path=p.m.vG <;> by_cases r:p.m.path=p.m.vS <;> simp[a,b,b2,b0,c,q,r] <;> omega
def wE (h:Int->Option Int) (c:Int):List Int->(Int->Option Int)
 |[]=>h
 | x :: l=>wE (upd h x c) c l
theorem AE (c x:Int):∀ (l:List Int) (h:Int->Option Int),wE h c (l++[x])=upd (wE h c l) x c
 |[],h=>rfl
 | y :: l,h=>AE c x l (upd h y c)
theorem x3 (c:Int):∀ (l:List Int) (h:Int->Option Int) (z:Int),wE h c l z=if z∈l then some c else h z
 |[],h,z=>by simp[wE]
 | x :: l,h,z=>by
  rw[wE,x3 c l];by_cases h1:z∈l
  . simp[h1]
  . by_cases h2:z=x
    . simp[h1,h2,upd]
    . simp[h1,h2,upd]
def wH (bs:List (List Int)):Nat->(Int->Option Int)
 | 0=>fun _=>none
 | i+1=>wE (wH bs i) (i:Int) (bs.getD i [])
theorem xy {α:Type} (d:α) {l:List α} {i:Nat} (h:i < l.length):l.take (i+1)=l.take i++[l.getD i d]:=by
 rw[yI h,zb,ze h];rfl
theorem BJ {bs:List (List Int)} {i:Nat} (h:i < bs.length):(bs.take (i+1)).flatten=(bs.take i).flatten++bs.getD i []:=by
 rw[xy [] h,List.flatten_append,List.flatten_cons,List.flatten_nil,z4]
theorem Ad {bs:List (List Int)}:∀ (i:Nat),i<=bs.length->∀ z,(wH bs i z).isSome=decide (z∈(bs.take i).flatten)
 | 0,_,z=>by simp[wH]
 | i+1,h,z=>by
  rw[wH,x3,BJ (by omega)];by_cases h1:z∈bs.getD i []
  . rw[qb h1];exact (decide_eq_true (List.mem_append_right _ h1)).symm
  . rw[qa h1,Ad i (by omega) z];rw[decide_eq_decide,zW];exact⟨.inl,fun q=>q.resolve_right h1⟩
theorem Do {bs:List (List Int)}:∀ (i:Nat) (z c:Int),wH bs i z=some c->∃ k:Nat,k < i/\c=(k:Int)/\z∈bs.getD k []
 | 0,z,c,h=>by cases h
 | i+1,z,c,h=>by
  rw[wH,x3]at h;by_cases h1:z∈bs.getD i []
  . rw[qb h1]at h;cases h;exact⟨i,by omega,rfl,h1⟩
  . rw[qa h1]at h;obtain⟨k,q1,q2,q3⟩:=Do i z c h;exact⟨k,by omega,q2,q3⟩
def wV (F:List Int) (g:Int) (left:Int->Bool):Nat:=F.countP fun x=>!left x && decide (g<=x)
theorem D1 {F:List Int} (hn:F.Nodup) {z:Int} (hz:z∈F) {left:Int->Bool} (hl:left z=true) (g:Int):wV F g (fun y=>left y && decide (y≠z))=wV F g left+if g<=z then 1 else 0:=by
 induction F with
 | nil=>cases hz
 | cons x F ih=>
  rw[zI]at hn;unfold wV;rw[List.countP_cons,List.countP_cons];rcases zl.1 hz with rfl | hz'
  . have e:F.countP (fun x=>!(left x && decide (x≠z)) && decide (g<=x))=F.countP (fun x=>!left x && decide (g<=x)):=by
     refine List.countP_congr fun x hx=>?_
     have:x≠z:=fun e=>hn.1 (e ▸ hx)
     simp[this]
    rw[e];simp[hl]
  . have hne:x≠z:=fun e=>hn.1 (e ▸ hz')
    have:=ih hn.2 hz';unfold wV at this;rw[this];simp only[hne,ne_eq,qd,decide_true,zZ];omega
theorem EY (F:List Int) (g:Int) {left:Int->Bool} (h:∀ z,left z=false):wV F g left=(F.filter fun x=>decide (g<=x)).length:=by
 unfold wV;rw[<- List.countP_eq_length_filter];exact List.countP_congr fun x _=>by simp[h x]
theorem D0 (F:List Int) (g:Int) {left:Int->Bool} (h:∀ z∈F,left z=true):wV F g left=0:=by
 unfold wV;rw[yk];intro x hx;simp[h x hx]
theorem cntG_le (F:List Int) (g:Int) (left:Int->Bool):wV F g left<=F.length:=List.countP_le_length
theorem AD {F:List Int} {g:Int}:∀ (k:Nat) (a:Int),g<=a->xP (F.filter fun x=>decide (g<=x)) k a=xP F k a
 | 0,a,_=>rfl
 | k+1,a,h=>by
  rw[xP,xP,AD k (a+1) (by omega)]
  congr 1
  rw[decide_eq_decide,yf];simp[h]
theorem Er {m:Ms} (hn:m.buf.flatten.Nodup) (hr:∀ x∈m.buf.flatten,0<=x/\x < m.fresh) (hg:0<=m.got/\m.got<=m.fresh) (hl:m.buf.flatten.length<=60) :
 (((m.buf.flatten.filter fun x=>decide (m.got<=x)).length:Int)=m.fresh - m.got)↔Ac m=true:=by
 have hN:=hn.filter (fun x=>decide (m.got<=x))
 have h1:=BH (m.fresh - m.got).toNat (m.buf.flatten.filter fun x=>decide (m.got<=x)) m.got hN (fun x hx=>by
  simp only[yf,qf]at hx;have:=hr x hx.1
  omega)
 rw[AD _ _ (Int.le_refl _)]at h1;have hle:(m.buf.flatten.filter fun x=>decide (m.got<=x)).length<=m.buf.flatten.length:=List.length_filter_le _ _;unfold Ac;rw[zm,qf,<- h1];constructor
 . intro q;omega
 . rintro⟨_,q⟩;omega
theorem DY {f:Int} {seen:List Int} {p:Int} {l:List Int} {k:Nat} (h:k < l.length):xp f seen p (l.drop k)=if ¬ (0<=l.getD k 0/\l.getD k 0 < f)then 2 else if l.getD k 0<=p then 9 else if l.getD k 0∈seen then 26 else xp f seen (l.getD k 0) (l.drop (k+1)):=by
 rw[fI 0 h,xp]
theorem mapT : MapTy Tryz.prog 214 3 3 where
 ht:=by kernel_rfl
 hk:=by kernel_rfl
 he:=by kernel_rfl
 hz:=fun w=>by
  have h:(Tryz.prog.info? 3).map (fun i=>(i.zero,i.size,i.bytes))=some (some (.int .i64 0),1,8):=by kernel_rfl
  obtain⟨i,hi,hq⟩:=za.1 h;simp only[zf]at hq;simp[zeroValue,typeInfo,Sem.run,Sem.run_bind,hi,hq.1,Result.andThen]
theorem xA (xs:List Int) (i:Nat) (h:i < xs.length):List.getD (xs.map Dat.cells) i []=[C.s (.int .i64 (xs.getD i 0))]:=by
 rw[zb,zb,zh,ze h];rfl
theorem CM {bs:List (List Int)} (hn:bs.flatten.Nodup) {i k:Nat} (hik:k≠i) {z:Int} (h1:z∈bs.getD i []):z∉bs.getD k []:=fun h2=>by
 have hlen:∀ j,z∈bs.getD j []->j < bs.length:=fun j h=>by
  rcases yu j bs.length with q | q
  . exact q
  . rw[zb,List.getElem?_eq_none q]at h;cases h
 have hs:=(fJ bs i (hlen i h1)).nodup_iff.1 hn;rw[List.nodup_append]at hs;have hk:k < (bs.set i []).length:=by rw[List.length_set];exact hlen k h2
 refine hs.2.2 z h1 z ?_ rfl;refine (fJ (bs.set i []) k hk).mem_iff.2 (List.mem_append_left _ ?_);rw[fi,qa (fun q=>hik q.1.symm)];exact h2
theorem As {k n:Nat} (h:¬ k=0) (hk:k < n):(if (k:Int) - 1 > 0 then (k:Int) - 1 else 0)=((k - 1:Nat):Int)/\(0:Int)<=((k - 1:Nat):Int)/\((k - 1:Nat):Int) < (n:Int)/\k - 1 < n:=by omega
theorem CS (n:Nw) (p:Ph) (hf:0<=p.m.fresh/\p.m.fresh<=1000000) (hg:0<=p.m.got/\p.m.got<=p.m.fresh) (hl1:p.m.buf.length<=1000000) (hp:fc p.m.buf<=1000000000) (hI:∀ x∈p.m.buf.flatten,InR .i64 x):FC Tryz.prog 150 [.ptr 100000 0] (phX n p) (enc (pkE p.m)) (phX n p):=by
 generalize hE:pkE p.m=E;refine dD [100001] is150 (by simp) (dP n p) (dE n p) (dE n p) (dI n p p) (fun cx _ hl _=>dC [ly n p hl1 hp] 800 ?_);unfold pkE at hE;have hpk:=mK p.m.buf;by_cases h60:60 < p.m.buf.flatten.length
 . rw[qb h60]at hE;subst hE;have h60':(60:Int) < fc p.m.buf:=by omega
   delta c150 oO oN oA oM oT oQ oS oK oF oL oV oC oI oX oB o4 o6;simp (maxSteps:=9^7) only[wC,phX,phC,ly,ei,h60',WU,V,W3,seval]
 have h60':¬ (60:Int) < fc p.m.buf:=by omega
 rw[qa h60]at hE;delta c150 oO oN oA oM oT oQ oS oK oF oL oV oC oI oX oB o4 o6;simp (maxSteps:=9^7) only[wC,phX,phC,ly,ei,h60',qc,WU,V,W3,seval];refine oh rfl (OpM.mapNew (k:=3) (e:=3)) (fun ef he=>?_);obtain⟨mb,rfl⟩:=he;refine pW [] 800 ?_;simp (maxSteps:=9^7) only[phX,phC,eo,InR,WU,V,W3,seval];refine fH p.m.buf.length (fun i=>[(24,.s (.int .i64 (i:Int)))]) (fun i=>[(17,.res (xR Tryz.prog 3 3 mb (p.m.buf.take i).flatten.length (wH p.m.buf i)))]) (fun i=>pkL p.m.fresh [] p.m.buf=pkL p.m.fresh (p.m.buf.take i).flatten (p.m.buf.drop i)) rfl ?_ (fun i hi hv=>dC [] 800 ?_)
 . simp (maxSteps:=9^7) only[V,W3,seval]
   all_goals rfl
 . by_cases h:i < p.m.buf.length
   . have hi2:(i:Int) < (p.m.buf.length:Int):=by omega
     have hi0:(0:Int)<=i:=by omega
     have hgb:=fu p.m.buf i;have hsm:=Ad (bs:=p.m.buf) i (by omega);have hfs:=BJ h;have hN:(p.m.buf.take i).flatten.length+(p.m.buf.getD i []).length<=60:=by
      have:=y7 p.m.buf i h;omega
     rw[fI [] h,pkL]at hv;have hhs:wH p.m.buf (i+1)=wE (wH p.m.buf i) (i:Int) (p.m.buf.getD i []):=rfl;rw[<- hfs]at hv
     have hIl:∀ x∈p.m.buf.getD i [],InR .i64 x:=fun x hx=>hI x (by
      have:=(fJ p.m.buf i h).mem_iff (a:=x)
      exact this.2 (List.mem_append_left _ hx))
     generalize p.m.buf.getD i []=l at *;delta Cr oO oN oA oM oR oS oK oL oV oX oB o0 o4;simp (maxSteps:=9^7) only[hi0,hi2,h,hgb,eo,zy,InR,WU,V,W3,seval];generalize hS:(p.m.buf.take i).flatten=seen at *;refine fH l.length (fun k=>[(31,.s (.int .i64 (k:Int)))]) (fun k=>[(17,.res (xR Tryz.prog 3 3 mb (seen.length+k) (wE (wH p.m.buf i) (i:Int) (l.take k))))]) (fun k=>xp p.m.fresh seen (-1) l=xp p.m.fresh seen (if k=0 then -1 else l.getD (k - 1) 0) (l.drop k)/\∀ x∈l.take k,x<=(if k=0 then -1 else l.getD (k - 1) 0)) ⟨rfl,fun x hx=>by simp at hx⟩ ?_ (fun k hk hw=>dC [gi,eg,ee] 800 ?_)
     . simp (maxSteps:=9^7) only[V,W3,seval]
       all_goals rfl
     . obtain⟨hw1,hw2⟩:=hw;by_cases hkl:k < l.length
       . have hk2:(k:Int) < (l.length:Int):=by omega
         have hk0:(0:Int)<=k:=by omega
         have hge:l.getD k 0=l[k]:=by rw[zb,ze hkl];rfl
         have hIu:=hIl _ (yy hkl);have htk:=xy 0 hkl;rw[DY hkl]at hw1;rw[<- hge]at hIu;obtain⟨u,hu⟩:∃ u,l.getD k 0=u:=⟨_,rfl⟩;rw[hu]at hw1 hIu htk;have hgl:List.getD (l.map Dat.cells) k []=[C.s (.int .i64 u)]:=by rw[xA l k hkl,hu]
         have hkn:(wE (wH p.m.buf i) (i:Int) (l.take k) u).isSome=decide (u∈seen\/u∈l.take k):=by
          rw[x3];by_cases q:u∈l.take k
          . simp[q]
          . rw[qa q,hsm];simp[q]
         delta Cq oO oN oA oM oG oR oS oK oF oL oC oI oX oH oB oD oJ o1 o6 o8;simp (maxSteps:=9^7) only[wC,hgb,eo,h,hi0,hi2,hk0,hk2,hkl,hgl,zy,yc,InR,WU,V,W3,seval];refine oh (outs:=?qo1) rfl ?qa1 ?qb1
         case qa1=>
          refine OpM.mapGet (b:=mb) (n:=seen.length+k) (kr:=17) (q:=u) (m:=wE (wH p.m.buf i) (i:Int) (l.take k)) mapT ?_ ?_ hIu ?_ <;> rfl
         intro ef he;subst he;refine pW [gi,eg,ee] 800 ?_;by_cases hr:0<=u/\u < p.m.fresh
         rotate_left
         . rw[qb hr]at hw1;rw[hw1,qb (by decide)]at hv;rw[hv,qb (by decide)]at hE;subst hE;have hwi:=eq_false (show ¬ (0<=u/\u<=p.m.fresh - 1) by omega);by_cases hk00:k=0
           . have hkI:=eq_true (show (k:Int)=0 by omega);simp (maxSteps:=9^7) only[wC,gi,eg,ee,dS,phX,phC,hkn,hwi,hkI,hgb,eo,h,hi0,hi2,hk0,hk2,hkl,hgl,zy,yc,InR,qc,qd,WU,Ent.of1,Ent.of2,Ent.of3,V,W3,seval];omega
           . have hkI:=eq_false (show ¬ (k:Int)=0 by omega);obtain⟨hmx,hmx0,hmx1,hmx2⟩:=As hk00 hkl;have hgl1:=xA l (k - 1) hmx2;simp (maxSteps:=9^7) only[wC,gi,eg,ee,dS,phX,phC,hkn,hwi,hkI,hgb,eo,h,hi0,hi2,hk0,hk2,hkl,hgl,zy,yc,hmx,hmx0,hmx1,hmx2,hgl1,InR,qc,qd,WU,Ent.of1,Ent.of2,Ent.of3,V,W3,seval];exact⟨by omega,by omega⟩
         . rw[qa (fun q=>q hr)]at hw1;have hwi:=eq_true (show (0<=u/\u<=p.m.fresh - 1) by omega);by_cases ho:u<=(if k=0 then -1 else l.getD (k - 1) 0)
           . have hk00:¬ k=0:=fun q=>by
              rw[qb q]at ho;omega
             rw[qb ho]at hw1;rw[hw1,qb (by decide)]at hv;rw[hv,qb (by decide)]at hE;subst hE;rw[qa hk00]at ho;have hgt:=eq_false (show ¬ l.getD (k - 1) 0 < u by omega);have hkI:=eq_false (show ¬ (k:Int)=0 by omega);obtain⟨hmx,hmx0,hmx1,hmx2⟩:=As hk00 hkl;have hgl1:=xA l (k - 1) hmx2;simp (maxSteps:=9^7) only[wC,gi,eg,ee,dS,phX,phC,hkn,hwi,hkI,hgt,hgb,eo,h,hi0,hi2,hk0,hk2,hkl,hgl,zy,yc,hmx,hmx0,hmx1,hmx2,hgl1,InR,qc,qd,WU,Ent.of1,Ent.of2,Ent.of3,V,W3,seval];exact⟨by omega,by omega⟩
           . rw[qa ho]at hw1;have hnt:u∉l.take k:=fun q=>ho (hw2 u q)
             have hkn2:(wE (wH p.m.buf i) (i:Int) (l.take k) u).isSome=decide (u∈seen):=by rw[hkn];simp[hnt]
             clear hkn;have hps:upd (wE (wH p.m.buf i) (i:Int) (l.take k)) u (i:Int)=wE (wH p.m.buf i) (i:Int) (l.take (k+1)):=by rw[htk,AE]
             have hk1:¬ k+1=0:=by omega
             have hiI:InR .i64 (i:Int):=by simp only[InR];omega
             have hord:k=0\/(¬ k=0/\l.getD (k - 1) 0 < u):=by
              by_cases q:k=0
              . exact .inl q
              . rw[qa q]at ho;exact .inr ⟨q,by omega⟩
             by_cases hsn:u∈seen
             . rw[qb hsn]at hw1;rw[hw1,qb (by decide)]at hv;rw[hv,qb (by decide)]at hE;subst hE;have hkn:=hkn2.trans (decide_eq_true hsn);rcases hord with hk00 | ⟨hk00,hgt⟩
               . have hkI:=eq_true (show (k:Int)=0 by omega);simp (maxSteps:=9^7) only[wC,gi,eg,ee,dS,phX,phC,hkn,hwi,hkI,hgb,eo,h,hi0,hi2,hk0,hk2,hkl,hgl,zy,yc,InR,qc,qd,WU,Ent.of1,Ent.of2,Ent.of3,V,W3,seval];omega
               . have hgt:=eq_true hgt;have hkI:=eq_false (show ¬ (k:Int)=0 by omega);obtain⟨hmx,hmx0,hmx1,hmx2⟩:=As hk00 hkl;have hgl1:=xA l (k - 1) hmx2;simp (maxSteps:=9^7) only[wC,gi,eg,ee,dS,phX,phC,hkn,hwi,hkI,hgt,hgb,eo,h,hi0,hi2,hk0,hk2,hkl,hgl,zy,yc,hmx,hmx0,hmx1,hmx2,hgl1,InR,qc,qd,WU,Ent.of1,Ent.of2,Ent.of3,V,W3,seval];exact⟨by omega,by omega⟩
             . rw[qa hsn]at hw1;have hkn:=hkn2.trans (decide_eq_false hsn);have hnx:∀ x∈l.take (k+1),x<=u:=fun x hx=>by
                rw[htk,zW,zg]at hx;rcases hx with hx | rfl
                . have:=hw2 x hx;omega
                . exact Int.le_refl _
               rcases hord with hk00 | ⟨hk00,hgt⟩
               . have hkI:=eq_true (show (k:Int)=0 by omega);simp (maxSteps:=9^7) only[wC,gi,eg,ee,dS,phX,phC,hkn,hwi,hkI,hgb,eo,h,hi0,hi2,hk0,hk2,hkl,hgl,zy,yc,InR,qc,qd,WU,Ent.of1,Ent.of2,Ent.of3,V,W3,seval];refine⟨by omega,?_⟩;refine oh (outs:=?qo2) rfl ?qa2 ?qb2
                 case qa2=>
                  refine OpM.mapPut (b:=mb) (n:=seen.length+k) (kr:=17) (q:=u) (c:=(i:Int)) (m:=wE (wH p.m.buf i) (i:Int) (l.take k)) mapT (by omega) ?_ ?_ ?_ hIu hiI ?_ <;> rfl
                 intro ef he;subst he;refine pW [] 800 ?_;simp (maxSteps:=9^7) only[wC,xK,hps,hkl,hw1,hk1,hu,Nat.add_sub_cancel,InR,WU,V,W3,seval];exact⟨by omega,hnx,by omega,rfl⟩
               . have hgt:=eq_true hgt;have hkI:=eq_false (show ¬ (k:Int)=0 by omega);obtain⟨hmx,hmx0,hmx1,hmx2⟩:=As hk00 hkl;have hgl1:=xA l (k - 1) hmx2;simp (maxSteps:=9^7) only[wC,gi,eg,ee,dS,phX,phC,hkn,hwi,hkI,hgt,hgb,eo,h,hi0,hi2,hk0,hk2,hkl,hgl,zy,yc,hmx,hmx0,hmx1,hmx2,hgl1,InR,qc,qd,WU,Ent.of1,Ent.of2,Ent.of3,V,W3,seval];refine⟨by omega,by omega,?_⟩;refine oh (outs:=?qo3) rfl ?qa3 ?qb3
                 case qa3=>
                  refine OpM.mapPut (b:=mb) (n:=seen.length+k) (kr:=17) (q:=u) (c:=(i:Int)) (m:=wE (wH p.m.buf i) (i:Int) (l.take k)) mapT (by omega) ?_ ?_ ?_ hIu hiI ?_ <;> rfl
                 intro ef he;subst he;refine pW [] 800 ?_;simp (maxSteps:=9^7) only[wC,xK,hps,hkl,hw1,hk1,hu,Nat.add_sub_cancel,InR,WU,V,W3,seval];exact⟨by omega,hnx,by omega,rfl⟩
       . have hke:k=l.length:=by omega
         subst hke;have hk2:¬ ((l.length:Nat):Int) < (l.length:Int):=by omega
         rw[zv (zw _),xp]at hw1;rw[qa (by simp[hw1])]at hv;rw[hfs]at hv;delta Cq oO oN oA oM oG oR oS oK oF oL oC oI oX oH oB oD oJ o1 o6 o8;simp (maxSteps:=9^7) only[wC,hk2,hhs,hfs,yo,zK,InR,qc,qd,WU,V,W3,seval];exact⟨by omega,h,hv,by omega⟩
   . have hie:i=p.m.buf.length:=by omega
     subst hie;have hi2:¬ ((p.m.buf.length:Nat):Int) < (p.m.buf.length:Int):=by omega
     rw[zv (zw _),pkL]at hv;rw[qa (by simp[hv])]at hE;obtain⟨z1,z2,z3⟩:=(xS _ _).1 hv;have hho:=Ad (bs:=p.m.buf) p.m.buf.length (zw _);rw[yo]at hho;have hha:=Do (bs:=p.m.buf) p.m.buf.length;generalize hH:wH p.m.buf p.m.buf.length=H at *;delta Cr oO oN oA oM oR oS oK oL oV oX oB o0 o4;simp (maxSteps:=9^7) only[wC,hi2,yo,InR,qc,qd,WU,V,W3,seval];refine oh (outs:=?qo4) rfl ?qa4 ?qb4
     case qa4=>
      refine OpM.mapRange (b:=mb) (n:=p.m.buf.flatten.length) (kr:=17) (m:=H) mapT ?_ ?_ <;> rfl
     intro ef he;obtain⟨mrw,cnt,rfl⟩:=he;refine pW [] 800 ?_;simp (maxSteps:=9^7) only[xK,InR,WU,V,W3,seval];generalize hF:p.m.buf.flatten=F at *;have hF60:F.length<=60:=by omega
     have hok:∀ c:Int,∀ z,H z=some c->∃ k:Nat,c=(k:Int)/\z∈p.m.buf.getD k []:=fun c z q=>by
      obtain⟨k,_,q2,q3⟩:=hha z c q;exact⟨k,q2,q3⟩
     refine S_loopU (α:=(Int->Bool)×Nat) (fun v=>[(11,.s (.int .i64 (wV F p.m.got v.1:Nat)))]) (fun v=>[(17,.res (Bo Tryz.prog 3 3 mb mrw F.length H v.1 v.2))])
      (fun v=>(∀ z,v.1 z=true->(H z).isSome=true)/\∀ z c,v.1 z=false->H z=some c->c=p.m.vG\/c=p.m.vS\/(ed p.m=true/\c=p.m.target)) (fun v=>v.2) (fun x=>(H x).isSome,cnt)
      ⟨fun z q=>q,fun z c q1 q2=>(by have q1':(H z).isSome=false:=q1;rw[q2]at q1';cases q1')⟩ ?_ (fun v hv=>dC [eX n p] 800 ?_)
     . have h0:wV F p.m.got (fun x=>(H x).isSome)=0:=D0 F _ fun z hz=>by rw[hho];exact decide_eq_true hz
       simp (maxSteps:=9^7) only[h0,V,W3,seval]
       all_goals rfl
     . obtain⟨lfw,ct⟩:=v;obtain⟨i1,i2⟩:=hv;simp only at i1 i2;delta DX oO oN oA oM oG oR oS oK oF oL oV oI oX oP oB oD oE oJ o6 o8;simp (maxSteps:=9^7) only[wC,InR,WU,V,W3,seval];refine oh (outs:=?qo5) rfl ?qa5 ?qb5
       case qa5=>
        refine OpM.mapNextE (b:=mb) (r:=mrw) (n:=F.length) (kr:=17) (cnt:=ct) (m:=H) (left:=lfw) mapT ?_ ?_ <;> rfl
       intro ef he;rcases he with⟨rfl,hall⟩ | ⟨z,c,cnt',hz,hc,hlt,hzI,rfl⟩
       . refine pW [eg] 800 ?_;have hop:opnB p.m=true:=y3.2 fun i hi=>by
          obtain⟨z,l,hzl⟩:∃ z l,p.m.buf.getD i []=z :: l:=by
           cases hb:p.m.buf.getD i []with
           | nil=>exact absurd hb hi
           | cons z l=>exact⟨z,l,rfl⟩
          have hiL:i < p.m.buf.length:=by
           rcases yu i p.m.buf.length with q | q
           . exact q
           . rw[zb,List.getElem?_eq_none q]at hi;exact absurd rfl hi
          have hzF:z∈F:=by
           rw[<- hF];refine (fJ p.m.buf i hiL).mem_iff.2 (List.mem_append_left _ ?_);rw[hzl];simp
          have hsome:(H z).isSome=true:=by rw[hho];exact decide_eq_true hzF
          obtain⟨c,hc⟩:=Option.isSome_iff_exists.1 hsome;obtain⟨k,rfl,hk⟩:=hok c z hc;have hki:k=i:=by
           rcases yr k i with q | q | q
           . exact absurd hk (CM (hF ▸ z3) (Nat.ne_of_lt q) (by rw[hzl];simp))
           . exact q
           . exact absurd hk (CM (hF ▸ z3) (Nat.ne_of_gt q) (by rw[hzl];simp))
          rw[<- hki];exact i2 z k (hall z) hc
         rw[qa (by simp[hop])]at hE;have hgc:=Er (m:=p.m) (by rw[hF];exact z3) (fun x hx=>by rw[hF]at hx;exact (z1 x hx).1) hg (by rw[hF];exact hF60);rw[hF]at hgc;have hcn:wV F p.m.got lfw=(F.filter fun x=>decide (p.m.got<=x)).length:=EY F _ hall;rw[<- hcn]at hgc;generalize wV F p.m.got lfw=CN at *;by_cases hgap:Ac p.m=true
         . have hEq:=hgc.2 hgap;rw[qa (by simp[hgap])]at hE;subst hE;simp (maxSteps:=9^7) only[wC,eg,phX,phC,hEq,InR,qc,qd,WU,Ent.of2,V,W3,seval];omega
         . have hEq:((CN:Int)=p.m.fresh - p.m.got)=False:=eq_false fun q=>hgap (hgc.1 q)
           rw[qb (by simpa using hgap)]at hE;subst hE;simp (maxSteps:=9^7) only[wC,eg,phX,phC,hEq,InR,qc,qd,WU,Ent.of2,V,W3,seval];omega
       . refine pW [] 800 ?_;have hzF:z∈F:=by
          have:=hho z;rw[hc]at this;exact of_decide_eq_true this.symm
         have hcs:wV F p.m.got (fun y=>lfw y && decide (¬ y=z))=wV F p.m.got lfw+if p.m.got<=z then 1 else 0:=D1 z3 hzF hz p.m.got
         have hcl:=cntG_le F p.m.got lfw;simp (maxSteps:=9^7) only[wC,xK,InR,qc,qd,WU,V,W3,seval];refine oh (outs:=?qo6) rfl ?qa6 ?qb6
         case qa6=>
          refine OpM.mapEntry (P:=Tryz.prog) (k:=3) (e:=3) (b:=mb) (r:=mrw) (n:=F.length) (kr:=17) (cnt:=cnt') (m:=H) (left:=fun y=>lfw y && decide (¬ y=z)) (z:=z) (c:=c) ?_ ?_ <;> rfl
         intro ef he;subst he;refine pW [eX n p] 800 ?_;have hbad:¬ (c=p.m.vG\/c=p.m.vS\/(ed p.m=true/\c=p.m.target))->E=23:=fun q=>by
          rw[<- hE,qb];cases hb:opnB p.m with
          | false=>rfl
          | true=>
           obtain⟨kk,rfl,hk⟩:=hok c z hc;exact absurd (y3.1 hb kk (fun e=>by rw[e]at hk;cases hk)) q
         have hnew:(c=p.m.vG\/c=p.m.vS\/(ed p.m=true/\c=p.m.target))->∀ z' c',(lfw z' && decide (¬ z'=z))=false->H z'=some c'->c'=p.m.vG\/c'=p.m.vS\/(ed p.m=true/\c'=p.m.target):=fun q z' c' h1 h2=>by
          by_cases e:z'=z
          . rw[e,hc]at h2;cases h2;exact q
          . refine i2 z' c' ?_ h2;simpa[e]using h1
         have hleft:∀ z',(lfw z' && decide (¬ z'=z))=true->(H z').isSome=true:=fun z' h1=>by
          rw[zm]at h1;exact i1 z' h1.1
         have hkey:((c=p.m.vG)=True/\True/\True/\True/\(c=p.m.vG\/c=p.m.vS\/(ed p.m=true/\c=p.m.target)))\/((c=p.m.vG)=False/\(c=p.m.vS)=True/\True/\True/\(c=p.m.vG\/c=p.m.vS\/(ed p.m=true/\c=p.m.target)))\/((c=p.m.vG)=False/\(c=p.m.vS)=False/\(c=p.m.target)=False/\True/\E=23)\/((c=p.m.vG)=False/\(c=p.m.vS)=False/\(c=p.m.target)=True/\ed p.m=false/\E=23)\/((c=p.m.vG)=False/\(c=p.m.vS)=False/\(c=p.m.target)=True/\ed p.m=true/\(c=p.m.vG\/c=p.m.vS\/(ed p.m=true/\c=p.m.target))):=by
          by_cases q1:c=p.m.vG
          . exact .inl ⟨eq_true q1,trivial,trivial,trivial,.inl q1⟩
          . by_cases q2:c=p.m.vS
            . exact .inr (.inl ⟨eq_false q1,eq_true q2,trivial,trivial,.inr (.inl q2)⟩)
            . by_cases q3:c=p.m.target
              . cases q4:ed p.m
                . exact .inr (.inr (.inr (.inl ⟨eq_false q1,eq_false q2,eq_true q3,rfl,hbad (fun q=>q.elim q1 fun q=>q.elim q2 fun q=>(by have q5:=q.1;rw[q4]at q5;cases q5))⟩)))
                . exact .inr (.inr (.inr (.inr ⟨eq_false q1,eq_false q2,eq_true q3,rfl,.inr (.inr ⟨rfl,q3⟩)⟩)))
              . exact .inr (.inr (.inl ⟨eq_false q1,eq_false q2,eq_false q3,trivial,hbad (fun q=>q.elim q1 fun q=>q.elim q2 fun q=>q3 q.2)⟩))
         clear hbad i1 i2;rcases hkey with⟨q1,q2,q3,q4,q5⟩ | ⟨q1,q2,q3,q4,q5⟩ | ⟨q1,q2,q3,q4,q5⟩ | ⟨q1,q2,q3,q4,q5⟩ | ⟨q1,q2,q3,q4,q5⟩
         all_goals
          by_cases hgz:p.m.got<=z
          all_goals
           have hgz':=hgz;simp only[hgz,qj,qi]at hcs;simp (maxSteps:=9^7) only[wC,eX,ei,phX,phC,xK,q1,q2,q3,q4,hgz,InR,qc,qd,WU,V,W3,seval];have hcz:((wV F p.m.got (fun y=>lfw y && decide (¬ y=z)):Nat):Int)=(wV F p.m.got lfw:Nat)+if p.m.got<=z then 1 else 0:=by
            rw[hcs];simp only[hgz,qj,qi];omega
           simp only[hgz,qj,qi]at hcz
           first
           | exact q5.symm
           | exact⟨by omega,(fun y=>lfw y && decide (¬ y=z),cnt'),⟨hleft,hnew q5⟩,hlt,hcz.symm,rfl⟩
           | exact⟨(fun y=>lfw y && decide (¬ y=z),cnt'),⟨hleft,hnew q5⟩,hlt,(by rw[hcz];omega),rfl⟩
           | exact⟨by omega,(fun y=>lfw y && decide (¬ y=z),cnt'),⟨hleft,fun z' c' h1 h2=>(hnew q5 z' c' h1 h2).imp id (Or.imp id And.right)⟩,hlt,hcz.symm,rfl⟩
           | exact⟨(fun y=>lfw y && decide (¬ y=z),cnt'),⟨hleft,fun z' c' h1 h2=>(hnew q5 z' c' h1 h2).imp id (Or.imp id And.right)⟩,hlt,(by rw[hcz];omega),rfl⟩
theorem Clone_o (l:List Int) (h:l.length<=1000000):FC Tryz.prog 143 [enc l] [] (.own 5) [(5,.row 1 3 (l.map Dat.cells))]:=by
 refine dD [5] E3.is143 (by simp) (by simp[bn]) (by simp[ap,ag]) (by simp[ap,ag,av]) (by simp[aC,lk]) (fun cx _ hl _=>dC [] 800 ?_);cases l with
 | nil=>
  delta E3.c143 oO oA oM oS oK oI oX o1;simp (maxSteps:=9^7) only[E3.rv143,zR,InR,WU,V,W3,seval];refine oh rfl (OpM.isnilE (n:=1) rfl) (fun ef he=>?_);obtain⟨b,rfl⟩:=he;refine pW [] 800 ?_;cases b
  . simp (maxSteps:=9^7) only[E3.rv143,zR,InR,WU,V,W3,seval];refine iI (dC [] 500 ?_);delta E3.c143k2;simp (maxSteps:=9^7) only[E3.rv143,WU,V,W3,seval]
  . simp (maxSteps:=9^7) only[E3.rv143,zR,InR,WU,V,W3,seval];refine mA (i:=2) (sz:=1) (ty:=3) (by decide) rfl ?_;refine S_ren [(2,5)] (by decide) (by simp[ap,ag,dm,af,ae,rn,av]) (by simp[i7,dm,af,ae]) ?_;refine iI (dC [] 500 ?_);delta E3.c143k1;simp (maxSteps:=9^7) only[E3.rv143,dm,renS,rn,WU,V,W3,seval]
 | cons a tlw=>
  simp only[zQ]at h;delta E3.c143 oO oA oM oS oK oI oX o1;simp (maxSteps:=9^7) only[E3.rv143,zt,zQ,InR,WU,V,W3,seval];refine⟨?_,iI (dC [] 500 ?_)⟩
  . omega
  delta E3.c143k2;simp (maxSteps:=9^7) only[E3.rv143,zt,WU,V,W3,seval]
def Dk (l:List Int) (h:l.length<=1000000):Ent Tryz.prog:=wO 143 [enc l] (.own 5) 5 (.row 1 3 (l.map Dat.cells)) (by simp[dG]) (by simp[gd]) (Clone_o l h)
def phO (n:Nw) (p:Ph):Chs:=[(100000,.box [.ptr 100001 0]),(100001,.box (phC n p 100002)),(100002,.deep 1 3 24 none (fB p.m.buf))]
theorem Bk (n:Nw) (p:Ph):ap (ag (phO n p)):=by simp[phO,ap,ag,av]
theorem Du (n:Nw) (p:Ph):bn (phO n p):=by simp[phO,bn]
theorem BR (n:Nw) (p q:Ph):aC (phO n p) (phO n q):=by simp[phO,aC,lk]
theorem open1_c (n:Nw) (p:Ph) (c:Int) (h:NwS n):FC Tryz.prog 144 [enc c,.ptr 100000 0] (phO n p) (enc (decide (c=-1) || isC n c)) (phO n p):=by
 refine dD [100002] is144 (by simp) (Du n p) (Bk n p) (Bk n p) (BR n p p) (fun cx _ hl _=>dC [Cz n p c h] 800 ?_);by_cases hc:c=-1
 . delta c144 oO oN oM oG oX oH oB oD oJ o9;simp (maxSteps:=9^7) only[rv144,phO,phX,phC,Cz,ei,hc,yz,WU,V,W3,seval]
 . delta c144 oO oN oM oG oX oH oB oD oJ o9;simp (maxSteps:=9^7) only[rv144,phO,phX,phC,Cz,ei,hc,zF,WU,V,W3,seval]
theorem open2_c (n:Nw) (p:Ph) (c:Int):FC Tryz.prog 147 [enc c,.ptr 100000 0] (phO n p) (enc (decide (c=-1) || nbr n c p.m.vG)) (phO n p):=by
 refine dD [100002] is147 (by simp) (Du n p) (Bk n p) (Bk n p) (BR n p p) (fun cx _ hl _=>dC [ns n p c] 800 ?_);by_cases hc:c=-1
 . delta c147 oO oN oM oG oX oH oB oD oJ o9;simp (maxSteps:=9^7) only[rv147,phO,phX,phC,ns,ei,hc,yz,WU,V,W3,seval]
 . delta c147 oO oN oM oG oX oH oB oD oJ o9;simp (maxSteps:=9^7) only[rv147,phO,phX,phC,ns,ei,hc,zF,WU,V,W3,seval]
def Aa (n:Nw) (p:Ph):Ent Tryz.prog:=ei 146 n p p [.ptr 100000 0] (enc (fmP p.m)) trivial (E4 n p)
def xM (n:Nw) (p:Ph) (hf:0<=p.m.fresh/\p.m.fresh<=1000000) (hg:0<=p.m.got/\p.m.got<=p.m.fresh) (hl1:p.m.buf.length<=1000000) (hp:fc p.m.buf<=1000000000) (hI:∀ x∈p.m.buf.flatten,InR .i64 x):Ent Tryz.prog:=ei 150 n p p [.ptr 100000 0] (enc (pkE p.m)) trivial (CS n p hf hg hl1 hp hI)
def xj (f:FuncId) (n:Nw) (p:Ph) (g:Int->C) (hr:∀ c,dG [100000,100001] (g c)) (h:∀ c:Int,FC Tryz.prog f [.ptr 100000 0,enc c] (phX n p) (g c) (phX n p)):Ent Tryz.prog:=.mk3 f (fun args chs=>match args with
 |[.ptr 100000 0,.s (.int .i64 c)]=>some (chs=phX n p,g c,phX n p,[])
 |_=>none) (by
 intro args chs pp r' chs' nk hs hp;split at hs
 . rename_i c;simp only[zn,zf]at hs;obtain⟨rfl,rfl,rfl,rfl⟩:=hs;subst hp;refine⟨h c,⟨fun k c hm=>.inr ⟨c,hm⟩,fun k cs hm=>⟨cs,hm⟩,hr c,fun k c hm=>?_⟩⟩;simp only[phX,zl,zA,qk,zf]at hm;rcases hm with⟨rfl,rfl⟩ | ⟨rfl,rfl⟩
   . simp[gd,phC,phX,dG,dG.keysIns]
   . trivial
 . cases hs)
def xg (f:FuncId) (n:Nw) (p:Ph) (g:Int->C) (hr:∀ c,dG [100000,100001,100002] (g c)) (h:∀ c:Int,FC Tryz.prog f [enc c,.ptr 100000 0] (phO n p) (g c) (phO n p)):Ent Tryz.prog:=.mk3 f (fun args chs=>match args with
 |[.s (.int .i64 c),.ptr 100000 0]=>some (chs=phO n p,g c,phO n p,[])
 |_=>none) (by
 intro args chs pp r' chs' nk hs hp;split at hs
 . rename_i c;simp only[zn,zf]at hs;obtain⟨rfl,rfl,rfl,rfl⟩:=hs;subst hp;refine⟨h c,⟨fun k c hm=>.inr ⟨c,hm⟩,fun k cs hm=>⟨cs,hm⟩,hr c,fun k c hm=>?_⟩⟩;simp only[phO,zl,zA,qk,zf]at hm;rcases hm with⟨rfl,rfl⟩ | ⟨rfl,rfl⟩ | ⟨rfl,rfl⟩
   . simp[gd,phO,dG,dG.keysIns]
   . simp[gd,phC,phO,dG,dG.keysIns]
   . trivial
 . cases hs)
def yS (n:Nw) (p:Ph) (h:NwS n):Ent Tryz.prog:=xj 145 n p (fun c=>enc (isC n c)) (fun _=>trivial) (fun c=>BL n p c h)
def yR (n:Nw) (p:Ph) (h:NwS n):Ent Tryz.prog:=xg 144 n p (fun c=>enc (decide (c=-1) || isC n c)) (fun _=>trivial) (fun c=>open1_c n p c h)
def xq (n:Nw) (p:Ph):Ent Tryz.prog:=xg 147 n p (fun c=>enc (decide (c=-1) || nbr n c p.m.vG)) (fun _=>trivial) (fun c=>open2_c n p c)
structure MsB (m:Ms):Prop where
 l:m.buf.length<=1000000
 r:∀ x∈m.buf,x.length<=1000
 i:∀ x∈m.buf.flatten,InR .i64 x
def opE (n:Nw) (m:Ms):Int:=if (gO n).2≠0 then (gO n).2 else rstE n m
def opP (m:Ms):Ph:=⟨m,[],[⟨0,0,0⟩],-1,0⟩
def msD (m:Ms):List C:=[.s (.int .i64 m.at_),.s (.int .i64 m.vP),.s (.int .i64 m.since),.s (.int .i64 m.vG),.s (.int .i64 m.target),.s (.int .i64 m.vS),.s (.int .i64 m.path),.s (.int .i64 m.fresh),.s (.int .i64 m.got),.sl 1 (m.buf.map Dat.cells)]
def chO (n:Nw) (m:Ms):Chs:=[(1030,.deep 1 3 24 none (fB m.buf)),(7,.box [.ptr 30 0]),(30,.box (phC n (opP m) 1030)),(3,.box (msD m)),(2,.box [.sl 1 (n.cells.map Dat.cells),.sl 2 (n.nb.map Dat.cells),.s (.int .i64 n.limit)])]
theorem fmP_eq {n:Nw} {m:Ms} (h:isC n m.path=true):fmP m=fmB m:=by
 simp only[isC,qf]at h;unfold fmP fmB bsyB;by_cases a:m.target=-1 <;> by_cases b0:m.vP=0 <;> by_cases b:m.vP=1 <;> by_cases b2:m.vP=2 <;> by_cases c:m.vS=-1 <;> by_cases q:m.path=m.vG <;> by_cases r:m.path=m.vS <;> simp[a,b,b2,b0,c,q,r] <;> omega
theorem bqT (b:Bool):(b == true)=b:=by cases b <;> rfl
theorem bqF (b:Bool):(b == false)=!b:=by cases b <;> rfl
theorem open_1 (n:Nw) (m:Ms) (hn:NwS n) (hm:MsB m) (cx:Cx) (E:Int) (r:C) (ch:Chs)
 (hE:(if ¬(0<=m.vP/\m.vP<=3)then 15 else if rgB m=false then 2 else if msB n m=false then 6 else if fmB m=false then 3 else if clB n m=false then 13 else if stB n m=false then 22 else pkE m)=E)
 (her:E≠0->r=.tup [.s (.pointer none),enc E]/\ch=[])
 (hgo:(0<=m.vP/\m.vP<=3)->rgB m=true->msB n m=true->fmB m=true->SG Tryz.prog cx (cz [RV.tmp 4,RV.tmp 5] [1030] r ch) [It.c E2.c113k2.cut] ⟨[(3,.ptr 3 0),(7,.ptr 7 0),(13,.fn (.func 147) [] [.ptr 7 0])],chO n m⟩) :
 SG Tryz.prog cx (cz [RV.tmp 4,RV.tmp 5] [1030] r ch) [It.c E2.c113k3.cut] ⟨[(3,.ptr 3 0),(7,.ptr 7 0),(10,.fn (.func 144) [] [.ptr 7 0]),(11,.s (.bool (rgB m)))],chO n m⟩:=by
 have hml:=hm.l;have hEn:dS [if (0<=m.vP/\m.vP<=3)then 0 else 15,if rgB m=true then 0 else 2,if msB n m=true then 0 else 6,if fmP m=true then 0 else 3]=0/\((0<=m.vP/\m.vP<=3)/\rgB m=true/\msB n m=true/\fmB m=true)\/(dS [if (0<=m.vP/\m.vP<=3)then 0 else 15,if rgB m=true then 0 else 2,if msB n m=true then 0 else 6,if fmP m=true then 0 else 3]=E/\E≠0):=by
  by_cases a1:(0<=m.vP/\m.vP<=3)
  . cases a2:rgB m
    . simp only[a1,a2]at hE;right;subst hE;simp[dS,a1]
    . cases a3:msB n m
      . simp only[a1,a2,a3]at hE;right;subst hE;simp[dS,a1]
      . have a4:fmP m=fmB m:=fmP_eq (n:=n) (by simp only[msB,zm]at a3;exact a3.1.1.2);rw[a4];cases a5:fmB m
        . simp only[a1,a2,a3,a5]at hE;right;subst hE;simp[dS,a1]
        . left;exact⟨by simp[dS,a1],a1,rfl,rfl,rfl⟩
  . simp only[a1]at hE;right;subst hE;simp[dS,a1]
 refine iI (dC [] 500 ?_);delta E2.c113k3 oO oN oA oM oT oG oS oK oF oL oC oI oX oP oB oD oE oJ o1;simp (maxSteps:=9^7) only[WU,V,W3,seval];refine Dh [gi,eg,ee,yS n (opP m) hn,yR n (opP m) hn,Aa n (opP m)] 800 ?_;have hc:(isC n m.vG=false/\msB n m=false)\/(isC n m.vG=true/\isC n m.path=false/\msB n m=false)\/(isC n m.vG=true/\isC n m.path=true/\(decide (m.target=-1) || isC n m.target)=false/\msB n m=false)\/(isC n m.vG=true/\isC n m.path=true/\(decide (m.target=-1) || isC n m.target)=true/\msB n m=(decide (m.vS=-1) || isC n m.vS)):=by
  unfold msB;cases isC n m.vG <;> cases isC n m.path <;> cases (decide (m.target=-1) || isC n m.target) <;> simp
 rcases hc with⟨g1,g4⟩ | ⟨g1,g2,g4⟩ | ⟨g1,g2,g3,g4⟩ | ⟨g1,g2,g3,g4⟩
 . simp (maxSteps:=9^7) only[drR,xO,xn,stR,xG,xH,wQ,br,gJ,fe,chO,phC,opP,msD,phX,phO,gi,eg,ee,yS,yR,Aa,ei,xj,xg,g1,aE,ap,ag,av,aU,bqT,bqF,Bool.not_true,Bool.not_false,InR,WU,Ent.of1,Ent.of2,Ent.of3,V,W3,seval];refine⟨rfl,dC [] 600 ?_⟩;simp (maxSteps:=9^7) only[E2.rv113,WU,V,W3,seval];rw[g4]at hEn;simp only[zr,qi,false_and,and_false,false_or]at hEn;obtain⟨hF,h0⟩:=hEn;obtain⟨rfl,rfl⟩:=her h0;rw[hF,qb h0];simp (maxSteps:=9^7) only[V,W3,seval]
 . simp (maxSteps:=9^7) only[drR,xO,xn,stR,xG,xH,wQ,br,gJ,fe,chO,phC,opP,msD,phX,phO,gi,eg,ee,yS,yR,Aa,ei,xj,xg,g1,g2,aE,ap,ag,av,aU,bqT,bqF,Bool.not_true,Bool.not_false,InR,WU,Ent.of1,Ent.of2,Ent.of3,V,W3,seval];refine⟨rfl,dC [] 600 ?_⟩;simp (maxSteps:=9^7) only[E2.rv113,WU,V,W3,seval];rw[g4]at hEn;simp only[zr,qi,false_and,and_false,false_or]at hEn;obtain⟨hF,h0⟩:=hEn;obtain⟨rfl,rfl⟩:=her h0;rw[hF,qb h0];simp (maxSteps:=9^7) only[V,W3,seval]
 . simp (maxSteps:=9^7) only[drR,xO,xn,stR,xG,xH,wQ,br,gJ,fe,chO,phC,opP,msD,phX,phO,gi,eg,ee,yS,yR,Aa,ei,xj,xg,g1,g2,g3,aE,ap,ag,av,aU,bqT,bqF,Bool.not_true,Bool.not_false,InR,WU,Ent.of1,Ent.of2,Ent.of3,V,W3,seval];refine⟨rfl,dC [] 600 ?_⟩;simp (maxSteps:=9^7) only[E2.rv113,WU,V,W3,seval];rw[g4]at hEn;simp only[zr,qi,false_and,and_false,false_or]at hEn;obtain⟨hF,h0⟩:=hEn;obtain⟨rfl,rfl⟩:=her h0;rw[hF,qb h0];simp (maxSteps:=9^7) only[V,W3,seval]
 . simp (maxSteps:=9^7) only[drR,xO,xn,stR,xG,xH,wQ,br,gJ,fe,chO,phC,opP,msD,phX,phO,gi,eg,ee,yS,yR,Aa,ei,xj,xg,g1,g2,g3,aE,ap,ag,av,aU,bqT,bqF,Bool.not_true,Bool.not_false,InR,WU,Ent.of1,Ent.of2,Ent.of3,V,W3,seval];refine⟨rfl,dC [] 600 ?_⟩;simp (maxSteps:=9^7) only[E2.rv113,WU,V,W3,seval];rw[<- g4];rcases hEn with⟨hF,q1,q2,q3,q4⟩ | ⟨hF,h0⟩
   . rw[hF,qa (fun q=>q rfl)];exact hgo q1 q2 q3 q4
   . obtain⟨rfl,rfl⟩:=her h0;rw[hF,qb h0];simp (maxSteps:=9^7) only[V,W3,seval]
theorem Dm : ∀ (bs:List (List Int)) (k:Nat),(∀ x∈bs,x.length<=k)->bs.flatten.length<=bs.length*k
 |[],k,h=>by simp
 | b :: bs,k,h=>by
  have h1:=Dm bs k (fun x hx=>h x (by simp[hx]));have h2:=h b (by simp);rw[List.flatten_cons,zK,zQ,zP];omega
theorem stB_eq (n:Nw) (m:Ms):stB n m=(!(ed m && decide (m.since+n.limit<=m.at_)) && !(fK m)):=by
 unfold stB fK;cases h:decide (m.vS=-1) <;> simp_all
theorem open_2 (n:Nw) (m:Ms) (hn:NwS n) (hm:MsB m) (net:NetOk n) (hlen:m.buf.length=n.cells.length) (cx:Cx) (E:Int) (r:C) (ch:Chs) (q2:rgB m=true) (q3:msB n m=true)
 (hE:(if clB n m=false then 13 else if stB n m=false then 22 else pkE m)=E)
 (hok:E=0->r=.tup [.ptr 30 0,enc (0:Int)]/\ch=phY n (opP m) 30 1030)
 (her:E≠0->r=.tup [.s (.pointer none),enc E]/\ch=[]) :
 SG Tryz.prog cx (cz [RV.tmp 4,RV.tmp 5] [1030] r ch) [It.c E2.c113k2.cut] ⟨[(3,.ptr 3 0),(7,.ptr 7 0),(13,.fn (.func 147) [] [.ptr 7 0])],chO n m⟩:=by
 have hml:=hm.l;have hEn:dS [if clB n m=true then 0 else 13,if stB n m=true then 0 else 22,pkE m]=E:=by
  cases a1:clB n m
  . simp only[a1]at hE;subst hE;simp[dS]
  . cases a2:stB n m
    . simp only[a1,a2]at hE;subst hE;simp[dS]
    . simp only[a1,a2]at hE;subst hE;simp only[dS,qj];simp;exact fun h=>h.symm
 have q2':=q2;simp only[rgB,zm,qf]at q2';obtain⟨⟨⟨r1,r2⟩,r3⟩,r4⟩:=q2';have hlim:=net.lim;have hI:InR .i64 ((opP m).m.since+n.limit):=by simp only[InR,opP];omega
 simp only[msB,zm,zV,qf]at q3;have hso:(opP m).m.vS≠-1->0<=(opP m).m.vS/\(opP m).m.vS.toNat < (opP m).m.buf.length:=fun h=>by
  rcases q3.2 with h2 | h2
  . exact absurd h2 h
  . have:=fG h2;simp only[opP];rw[hlen];omega
 have hpk:fc (opP m).m.buf<=1000000000:=by
  rw[mK];have h1:=Dm m.buf 1000 hm.r;have h2:=net.len;simp only[opP];have:m.buf.length*1000<=6*1000:=zB _ (by omega);omega
 refine iI (dC [] 500 ?_);delta E2.c113k2 oO oN oA oM oT oG oS oK oF oL oV oC oI oX oP oB oD oE oJ o1;simp (maxSteps:=9^7) only[WU,V,W3,seval];refine Dh [eg,ee,xq n (opP m),eX n (opP m),np n (opP m) hI,tM n (opP m) hso,xM n (opP m) r3 r4 hml hpk hm.i] 800 ?_;have hc:((decide (m.target=-1) || nbr n m.target m.vG)=false/\clB n m=false)\/((decide (m.target=-1) || nbr n m.target m.vG)=true/\clB n m=(decide (m.vS=-1) || nbr n m.vS m.vG)):=by
  unfold clB;cases (decide (m.target=-1) || nbr n m.target m.vG) <;> simp
 have hd:(ed m=false/\stB n m=!(fK m))\/(ed m=true/\(m.since+n.limit<=m.at_)=True/\stB n m=false)\/(ed m=true/\(m.since+n.limit<=m.at_)=False/\stB n m=!(fK m)):=by
  rw[stB_eq];cases ed m <;> rcases qg (m.since+n.limit<=m.at_)with h | h <;> simp[h]
 rcases hc with⟨g1,g2⟩ | ⟨g1,g2⟩ <;> rcases hd with⟨d1,d2⟩ | ⟨d1,d3,d2⟩ | ⟨d1,d3,d2⟩
 . simp (maxSteps:=9^7) only[drR,xO,xn,stR,xG,xH,wQ,br,gJ,fe,chO,phC,opP,msD,phX,phO,eg,ee,xq,eX,np,tM,xM,ei,xj,xg,g1,d1,aE,ap,ag,av,aU,bqT,bqF,Bool.not_true,Bool.not_false,InR,WU,Ent.of1,Ent.of2,V,W3,seval];refine⟨rfl,dC [] 600 ?_⟩;simp (maxSteps:=9^7) only[E2.rv113,WU,V,W3,seval];rw[g2,d2]at hEn;simp only[zr,qi,yC]at hEn;rw[hEn];by_cases h0:E=0
   . obtain⟨rfl,rfl⟩:=hok h0;rw[qa (fun q=>q h0)];simp (maxSteps:=9^7) only[phY,phC,opP,V,W3,seval]
   . obtain⟨rfl,rfl⟩:=her h0;rw[qb h0];simp (maxSteps:=9^7) only[V,W3,seval]
 . simp (maxSteps:=9^7) only[drR,xO,xn,stR,xG,xH,wQ,br,gJ,fe,chO,phC,opP,msD,phX,phO,eg,ee,xq,eX,np,tM,xM,ei,xj,xg,g1,d1,d3,aE,ap,ag,av,aU,bqT,bqF,Bool.not_true,Bool.not_false,InR,WU,Ent.of1,Ent.of2,V,W3,seval];refine⟨rfl,dC [] 600 ?_⟩;simp (maxSteps:=9^7) only[E2.rv113,WU,V,W3,seval];rw[g2,d2]at hEn;simp only[zr,qi,yC]at hEn;rw[hEn];by_cases h0:E=0
   . obtain⟨rfl,rfl⟩:=hok h0;rw[qa (fun q=>q h0)];simp (maxSteps:=9^7) only[phY,phC,opP,V,W3,seval]
   . obtain⟨rfl,rfl⟩:=her h0;rw[qb h0];simp (maxSteps:=9^7) only[V,W3,seval]
 . simp (maxSteps:=9^7) only[drR,xO,xn,stR,xG,xH,wQ,br,gJ,fe,chO,phC,opP,msD,phX,phO,eg,ee,xq,eX,np,tM,xM,ei,xj,xg,g1,d1,d3,aE,ap,ag,av,aU,bqT,bqF,Bool.not_true,Bool.not_false,InR,WU,Ent.of1,Ent.of2,V,W3,seval];refine⟨rfl,dC [] 600 ?_⟩;simp (maxSteps:=9^7) only[E2.rv113,WU,V,W3,seval];rw[g2,d2]at hEn;simp only[zr,qi,yC]at hEn;rw[hEn];by_cases h0:E=0
   . obtain⟨rfl,rfl⟩:=hok h0;rw[qa (fun q=>q h0)];simp (maxSteps:=9^7) only[phY,phC,opP,V,W3,seval]
   . obtain⟨rfl,rfl⟩:=her h0;rw[qb h0];simp (maxSteps:=9^7) only[V,W3,seval]
 . simp (maxSteps:=9^7) only[drR,xO,xn,stR,xG,xH,wQ,br,gJ,fe,chO,phC,opP,msD,phX,phO,eg,ee,xq,eX,np,tM,xM,ei,xj,xg,g1,d1,aE,ap,ag,av,aU,bqT,bqF,Bool.not_true,Bool.not_false,InR,WU,Ent.of1,Ent.of2,V,W3,seval];refine⟨rfl,dC [] 600 ?_⟩;simp (maxSteps:=9^7) only[E2.rv113,WU,V,W3,seval];rw[g2,d2]at hEn;simp only[zr,qi,yC]at hEn;rw[hEn];by_cases h0:E=0
   . obtain⟨rfl,rfl⟩:=hok h0;rw[qa (fun q=>q h0)];simp (maxSteps:=9^7) only[phY,phC,opP,V,W3,seval]
   . obtain⟨rfl,rfl⟩:=her h0;rw[qb h0];simp (maxSteps:=9^7) only[V,W3,seval]
 . simp (maxSteps:=9^7) only[drR,xO,xn,stR,xG,xH,wQ,br,gJ,fe,chO,phC,opP,msD,phX,phO,eg,ee,xq,eX,np,tM,xM,ei,xj,xg,g1,d1,d3,aE,ap,ag,av,aU,bqT,bqF,Bool.not_true,Bool.not_false,InR,WU,Ent.of1,Ent.of2,V,W3,seval];refine⟨rfl,dC [] 600 ?_⟩;simp (maxSteps:=9^7) only[E2.rv113,WU,V,W3,seval];rw[g2,d2]at hEn;simp only[zr,qi,yC]at hEn;rw[hEn];by_cases h0:E=0
   . obtain⟨rfl,rfl⟩:=hok h0;rw[qa (fun q=>q h0)];simp (maxSteps:=9^7) only[phY,phC,opP,V,W3,seval]
   . obtain⟨rfl,rfl⟩:=her h0;rw[qb h0];simp (maxSteps:=9^7) only[V,W3,seval]
 . simp (maxSteps:=9^7) only[drR,xO,xn,stR,xG,xH,wQ,br,gJ,fe,chO,phC,opP,msD,phX,phO,eg,ee,xq,eX,np,tM,xM,ei,xj,xg,g1,d1,d3,aE,ap,ag,av,aU,bqT,bqF,Bool.not_true,Bool.not_false,InR,WU,Ent.of1,Ent.of2,V,W3,seval];refine⟨rfl,dC [] 600 ?_⟩;simp (maxSteps:=9^7) only[E2.rv113,WU,V,W3,seval];rw[g2,d2]at hEn;simp only[zr,qi,yC]at hEn;rw[hEn];by_cases h0:E=0
   . obtain⟨rfl,rfl⟩:=hok h0;rw[qa (fun q=>q h0)];simp (maxSteps:=9^7) only[phY,phC,opP,V,W3,seval]
   . obtain⟨rfl,rfl⟩:=her h0;rw[qb h0];simp (maxSteps:=9^7) only[V,W3,seval]
theorem EC (n:Nw) (m:Ms) (hn:NwS n) (hm:MsB m) (E:Int) (hE:opE n m=E) (r:C) (ch:Chs)
 (hok:E=0->r=.tup [.ptr 30 0,enc (0:Int)]/\ch=phY n (opP m) 30 1030)
 (her:E≠0->r=.tup [.s (.pointer none),enc E]/\ch=[])
 (hn1:ap (ag ch)) (hkd:aC [] ch):FC Tryz.prog 113 [enc n,enc m] [] r ch:=by
 have hdn:=jd n;have hdm:=ww m;have hb:=hn.c;have hml:=hm.l;have hF:dS [(gO n).2,if (m.buf.length:Int)=(n.cells.length:Int)then 0 else 10]=if (gO n).2≠0 then (gO n).2 else if m.buf.length≠n.cells.length then 10 else 0:=by
  by_cases h1:(gO n).2=0 <;> by_cases h2:m.buf.length=n.cells.length
  . simp[dS,h1,h2]
  . have h2':¬ (m.buf.length:Int)=(n.cells.length:Int):=by omega
    simp[dS,h1,h2,h2']
  . simp[dS,h1,h2]
  . simp[dS,h1,h2]
 have key:E=(if (gO n).2≠0 then (gO n).2 else if m.buf.length≠n.cells.length then 10 else 0)/\E≠0\/(dS [(gO n).2,if (m.buf.length:Int)=(n.cells.length:Int)then 0 else 10]=0/\(gO n).2=0/\m.buf.length=n.cells.length):=by
  unfold opE rstE at hE;by_cases h1:(gO n).2=0
  . by_cases h2:m.buf.length=n.cells.length
    . right;rw[hF,qa (by simp[h1]),qa (by simp[h2])];exact⟨rfl,h1,h2⟩
    . left;rw[qa (by simp[h1]),qb h2]at hE;rw[qa (by simp[h1]),qb h2];subst hE;exact⟨rfl,by decide⟩
  . left;rw[qb h1]at hE;rw[qb h1];subst hE;exact⟨rfl,h1⟩
 refine dD [1030] E2.is113 (by simp) (by simp[bn]) (by simp[ap,ag]) hn1 hkd (fun cx _ hl _=>dC [nj,gi,eg,ee] 1500 ?_);rcases key with⟨hE1,h0⟩ | ⟨h0,h1,h2⟩
 . rw[<- hF]at hE1;obtain⟨rfl,rfl⟩:=her h0;delta E2.c113 oO oN oA oM oT oG oQ oS oK oF oL oV oC oW oY oI oX oP oB oE oJ o1 o4 o5 o6 o7;simp (maxSteps:=9^7) only[E2.rv113,eO,qT,hdn,hn,nj,gi,eg,ee,InR,qc,qd,WU,Ent.of1,Ent.of2,Ent.of3,V,W3,seval];rw[<- hE1,qb h0]
 unfold opE rstE at hE;rw[qa (by simp[h1]),qa (by simp[h2])]at hE;delta E2.c113 oO oN oA oM oT oG oQ oS oK oF oL oV oC oW oY oI oX oP oB oE oJ o1 o4 o5 o6 o7;simp (maxSteps:=9^7) only[E2.rv113,eO,qT,hdn,hn,nj,gi,eg,ee,InR,qc,qd,WU,Ent.of1,Ent.of2,Ent.of3,V,W3,seval];rw[h0,qa (fun q=>q rfl)];obtain⟨p0,hp0⟩:∃ p0,gk n 0=p0:=⟨_,rfl⟩;refine pW [tJ n 0 p0 hn hp0] 1500 ?_;simp (maxSteps:=9^7) only[E2.rv113,tJ,eO,phY,phC,WU,V,W3,seval];refine tc 1030 30 9 (c0:=.deep 1 3 24 none []) (by decide) (by decide) rfl rfl rfl ?_;refine fH m.buf.length (fun i=>[(42,.s (.int .i64 (i:Int)))]) (fun i=>[(1030,.deep 1 3 24 none (fB (m.buf.take i)))]) (fun _=>True) trivial ?_ (fun i hi _=>?_)
 . simp (maxSteps:=9^7) only[nO,V,W3,seval]
   all_goals rfl
 . by_cases hlt:i < m.buf.length
   . have hi2:(i:Int) < (m.buf.length:Int):=by omega
     have hi0:(0:Int)<=i:=by omega
     have hgx:List.getD (m.buf.map Dat.cells) i [C.sl 0 []]=[C.sl 1 ((m.buf.getD i []).map Dat.cells)]:=by
      rw[zb,zb,zh,ze hlt];rfl
     have hx:=hm.r _ (yy hlt);have hgd:m.buf.getD i []=m.buf[i]:=by rw[zb,ze hlt];rfl
     have hap:fB (m.buf.take i)++[(m.buf.getD i []).map Dat.cells]=fB (m.buf.take (i+1)):=by
      rw[hgd,yI hlt,fB,fB,yg];rfl
     have hlen:(m.buf.take i).length=i:=by rw[qp];omega
     rw[<- hgd]at hx;refine dC [] 800 ?_;delta E2.c113l1 oO oN oA oM oT oR oS oK oF oL oC oX oB o0 o6;simp (maxSteps:=9^7) only[nO,hi0,hi2,hlt,hgx,InR,WU,V,W3,seval];refine qC [Dk (m.buf.getD i []) (by omega)] 800 ?_;simp (maxSteps:=9^7) only[gB,mFin2,lP,ot,ops2,ja,reM2,nR,p9,qr,l6,finM,kd,gP,g9,fX,ff,fN,fN.fixBs,fL,ndE2,ap,ag,av,aU,aE,ke,eL,a6,bF,Dk,wO,eo,hlen,InR,WU,V,W3,seval];refine⟨rfl,⟨by omega,by omega⟩,dC [] 600 ?_⟩;simp (maxSteps:=9^7) only[hap,WU,V,W3,seval];refine⟨by simp only[InR];omega,hlt,by omega⟩
   . have hi2:¬ (i:Int) < (m.buf.length:Int):=by omega
     have htk:m.buf.take i=m.buf:=qo (by omega);have e0:p0=⟨eM n 0,[],[⟨0,0,0⟩],-1,0⟩:=hp0.symm;subst e0;have ht:gc m.at_=decide (0<=m.at_/\m.at_<=1000000000):=rfl;refine dC [lv,gi] 800 ?_;have hgo:(0<=m.vP/\m.vP<=3)->rgB m=true->msB n m=true->fmB m=true->SG Tryz.prog cx (cz [RV.tmp 4,RV.tmp 5] [1030] r ch) [It.c E2.c113k2.cut] ⟨[(3,.ptr 3 0),(7,.ptr 7 0),(13,.fn (.func 147) [] [.ptr 7 0])],chO n m⟩:=fun p1 p2 p3 p4=>by
      rw[qa (fun q=>q p1),qa (by simp[p2]),qa (by simp[p3]),qa (by simp[p4])]at hE;exact open_2 n m hn hm (rm h1) h2 cx E r ch p2 p3 hE hok her
     have hop:=open_1 n m hn hm cx E r ch hE her hgo;have hc:((0<=m.at_/\m.at_<=1000000000)=False/\rgB m=false)\/((0<=m.at_/\m.at_<=1000000000)=True/\(0<=m.since/\m.since<=m.at_)=False/\rgB m=false)\/((0<=m.at_/\m.at_<=1000000000)=True/\(0<=m.since/\m.since<=m.at_)=True/\(0<=m.fresh/\m.fresh<=1000000)=False/\rgB m=false)\/((0<=m.at_/\m.at_<=1000000000)=True/\(0<=m.since/\m.since<=m.at_)=True/\(0<=m.fresh/\m.fresh<=1000000)=True/\rgB m=decide (0<=m.got/\m.got<=m.fresh)):=by
      rcases qg (0<=m.at_/\m.at_<=1000000000)with g1 | g1 <;> rcases qg (0<=m.since/\m.since<=m.at_)with g2 | g2 <;> rcases qg (0<=m.fresh/\m.fresh<=1000000)with g3 | g3 <;> simp[rgB,g1,g2,g3]
     rcases hc with⟨g1,g4⟩ | ⟨g1,g2,g4⟩ | ⟨g1,g2,g3,g4⟩ | ⟨g1,g2,g3,g4⟩
     . rw[g4]at hop;delta E2.c113l1 oO oN oA oM oT oR oS oK oF oL oC oX oB o0 o6;simp (maxSteps:=9^7) only[E2.rv113,nO,hi2,htk,lv,gi,ht,g1,WU,Ent.of1,Ent.of3,V,W3,seval];exact hop
     . rw[g4]at hop;delta E2.c113l1 oO oN oA oM oT oR oS oK oF oL oC oX oB o0 o6;simp (maxSteps:=9^7) only[E2.rv113,nO,hi2,htk,lv,gi,ht,g1,g2,WU,Ent.of1,Ent.of3,V,W3,seval];exact hop
     . rw[g4]at hop;delta E2.c113l1 oO oN oA oM oT oR oS oK oF oL oC oX oB o0 o6;simp (maxSteps:=9^7) only[E2.rv113,nO,hi2,htk,lv,gi,ht,g1,g2,g3,WU,Ent.of1,Ent.of3,V,W3,seval];exact hop
     . rw[g4]at hop;delta E2.c113l1 oO oN oA oM oT oR oS oK oF oL oC oX oB o0 o6;simp (maxSteps:=9^7) only[E2.rv113,nO,hi2,htk,lv,gi,ht,g1,g2,g3,WU,Ent.of1,Ent.of3,V,W3,seval];exact hop
theorem open_ok (n:Nw) (m:Ms) (hn:NwS n) (hm:MsB m) (h:opE n m=0):FC Tryz.prog 113 [enc n,enc m] [] (.tup [.ptr 30 0,enc (0:Int)]) (phY n (opP m) 30 1030):=
 EC n m hn hm 0 h _ _ (fun _=>⟨rfl,rfl⟩) (fun q=>absurd rfl q) (by simp[phY,ap,ag,av]) (by simp[phY,aC,lk])
theorem open_no (n:Nw) (m:Ms) (hn:NwS n) (hm:MsB m) (h:opE n m≠0):FC Tryz.prog 113 [enc n,enc m] [] (.tup [.s (.pointer none),enc (opE n m)]) []:=
 EC n m hn hm _ rfl _ _ (fun q=>absurd q h) (fun _=>⟨rfl,rfl⟩) (by simp[ap,ag]) (by simp[aC])
def yQ (n:Nw) (m:Ms) (hn:NwS n) (hm:MsB m) (h:opE n m=0):Ent Tryz.prog:=.mk3 113 (fun args chs=>some (args=[enc n,enc m]/\chs=[],.tup [.ptr 30 0,enc (0:Int)],phY n (opP m) 30 1030,[30,1030])) (by
 intro args chs pp r chs' nk hs hq;simp only[zn,zf]at hs;obtain⟨rfl,rfl,rfl,rfl⟩:=hs;obtain⟨rfl,rfl⟩:=hq;refine⟨open_ok n m hn hm h,⟨fun k c hm=>.inl ?_,fun k cs hm=>(by simp at hm),?_,fun k c hm=>?_⟩⟩
 . simp only[phY,zl,zA,qk,zf]at hm ⊢;rcases hm with⟨rfl,rfl⟩ | ⟨rfl,rfl⟩
   . exact .inl rfl
   . exact .inr rfl
 . simp only[phY,zt,zR,dG,dG.keysIns];exact⟨by simp,trivial,trivial⟩
 . simp only[phY,zl,zA,qk,zf]at hm;rcases hm with⟨rfl,rfl⟩ | ⟨rfl,rfl⟩
   . simp[phY,gd,phC,dG,dG.keysIns]
   . simp[gd])
def An (n:Nw) (m:Ms) (e:Int) (hn:NwS n) (hm:MsB m) (h:e≠0) (hp:opE n m=e):Ent Tryz.prog:=.mk3 113 (fun args chs=>some (args=[enc n,enc m]/\chs=[],.tup [.s (.pointer none),enc e],[],[])) (by
 intro args chs pp r chs' nk hs hq;simp only[zn,zf]at hs;obtain⟨rfl,rfl,rfl,rfl⟩:=hs;obtain⟨rfl,rfl⟩:=hq;have:=open_no n m hn hm (by rw[hp];exact h);rw[hp]at this
 exact⟨this,⟨fun k c hm=>(by simp at hm),fun k cs hm=>(by simp at hm),⟨trivial,trivial,trivial⟩,fun k c hm=>(by simp at hm)⟩⟩)
theorem Ce (n:Nw) (m:Ms) (hn:NwS n) (hm:MsB m):FC Tryz.prog 64 [enc n,enc m] [] (enc (opE n m)) []:=by
 by_cases h:opE n m=0
 . rw[h];refine dD [] is64 (by simp) (by simp[bn]) (by simp[ap,ag]) (by simp[ap,ag]) (by simp[aC]) (fun cx _ hl _=>dC [yQ n m hn hm h] 1500 ?_);delta c64 oO oM oV oC oX o5 o7 o8;simp only[rv64,yQ,eO,qT,phY,phC,opP,WU,V,W3,seval]
 . obtain⟨e,he⟩:∃ e,opE n m=e:=⟨_,rfl⟩;rw[he];refine dD [] is64 (by simp) (by simp[bn]) (by simp[ap,ag]) (by simp[ap,ag]) (by simp[aC]) (fun cx _ hl _=>dC [An n m e hn hm (he ▸ h) he] 1500 ?_);delta c64 oO oM oV oC oX o5 o7 o8;simp only[rv64,An,eO,qT,WU,V,W3,seval]
theorem EB {n:Nw} {m:Ms} (h:opE n m=0):NetOk n/\dN n m:=by
 unfold opE at h;obtain⟨h1,h2⟩:=CH h;exact⟨rm h1,Fo h2⟩
def apE (n:Nw) (m:Ms) (e:T3):Int:=if opE n m≠0 then opE n m else fY n m e
def apS (n:Nw) (m:Ms) (e:T3):Ms:=if apE n m e≠0 then ms0 else qE n m e
theorem PhK.op (m:Ms):PhK 0 (opP m):=⟨by simp[opP],by simp[opP],by simp[opP],by simp[opP]⟩
theorem AI (n:Nw) (m:Ms) (e:T3) (hn:NwS n) (hm:MsB m):FC Tryz.prog 69 [enc n,enc m,enc e] [] (.tup [enc (apS n m e),enc (apE n m e)]) []:=by
 by_cases h:opE n m=0
 . obtain⟨net,g⟩:=EB h;obtain⟨q,hq,hq2⟩:=apply_c n (opP m) e 0 hn net g (PhK.op m) (by omega);have hE:fY n (opP m).m e=apE n m e:=by unfold apE;rw[qa (by simp[h])];rfl
   rw[hE]at hq hq2;refine dD [] is69 (by simp) (by simp[bn]) (by simp[ap,ag]) (by simp[ap,ag]) (by simp[aC]) (fun cx _ hl _=>dC [yQ n m hn hm h,ei 118 n (opP m) q [.ptr 100000 0,enc e] (enc (apE n m e)) trivial hq] 1500 ?_);unfold apS;generalize apE n m e=E at *;by_cases h0:E=0
   . subst h0;have hS:qE n m e=q.m:=by rw[hq2 rfl,qD];rfl
     rw[qa (fun q=>q rfl),hS];delta c69 oO oN oA oM oR oS oK oF oV oC oW oI oX oB oZ o5 o6 o7 o8;simp only[rv69,yQ,ei,eO,qT,dV,phX,phY,phC,opP,qc,qd,WU,V,W3,seval];rw[fB,zT];rfl
   . rw[qb h0];delta c69 oO oN oA oM oR oS oK oF oV oC oW oI oX oB oZ o5 o6 o7 o8;simp only[rv69,yQ,ei,eO,qT,dV,phX,phY,phC,opP,ms0,h0,qc,qd,WU,V,W3,seval]
 . obtain⟨E,he⟩:∃ e,opE n m=e:=⟨_,rfl⟩;have he1:apE n m e=E:=by unfold apE;rw[qb h];exact he
   unfold apS;rw[he]at h;rw[he1,qb h];refine dD [] is69 (by simp) (by simp[bn]) (by simp[ap,ag]) (by simp[ap,ag]) (by simp[aC]) (fun cx _ hl _=>dC [An n m E hn hm h he] 1500 ?_);delta c69 oO oN oA oM oR oS oK oF oV oC oW oI oX oB oZ o5 o6 o7 o8;simp only[rv69,An,eO,qT,dV,ms0,h,qc,qd,WU,V,W3,seval]
def smB (m:Ms):Bool:=decide (m.buf.length<=8) && m.buf.all fun x=>decide (x.length<=64)
theorem MsB.bs {m:Ms} (h:MsB m):BufS m.buf:=⟨h.l,fun x hx=>by have:=h.r x hx;omega⟩
theorem C9 (m:Ms) (h:BufS m.buf):FC Tryz.prog 65 [enc m] [] (enc m) []:=by
 refine dD [] is65 (by simp) (by simp[bn]) (by simp[ap,ag]) (by simp[ap,ag]) (by simp[aC]) (fun cx _ hl _=>dC [ent60] 800 ?_);delta c65 oO oA oF oL oC oW oX oZ o5 o7;simp only[rv65,ent60,qT,h,WU,Ent.of1,V,W3,seval]
def Aq : Ent Tryz.prog:=.of1 65 (fun m:Ms=>BufS m.buf) (fun m=>enc m) (fun m=>by simp[qT,dG,dG.keysIns]) (fun m h=>C9 m h)
theorem Ci {n:Nw} {m:Ms} {e:T3} (h:opE n m=0):apE n m e=fY n m e/\apS n m e=wU n m e:=by
 have h1:apE n m e=fY n m e:=by unfold apE;rw[qa (by simp[h])]
 exact⟨h1,by unfold apS wU;rw[h1]⟩
theorem BS {n:Nw} {c:Int} {l:List T3} (h:(gH n c l).2=0):(gO n).2=0/\isC n c=true/\(iG n (eM n c) l 0).2=0:=by
 unfold gH at h;by_cases h1:fZ n c l=0
 . rw[qa (fun q=>q h1)]at h;have hc:=(vm (n:=n) (c:=c) (log:=l) (by rw[pt];exact h1)).1;refine⟨?_,hc,h⟩;rw[<- pt]at h1;unfold dS at h1;by_cases h2:(gO n).2=0
   . exact h2
   . rw[qb h2]at h1;exact h1
 . rw[qb h1]at h;exact absurd h h1
theorem AQ {n:Nw} {m:Ms} (net:NetOk n) (g:dN n m):MsB m:=by
 have h1:=net.len;have h2:m.buf.length=n.cells.length:=g.len;have h3:m.buf.flatten.length<=60:=g.large;have h4:0<=m.fresh/\m.fresh<=1000000:=g.fresh;refine⟨by omega,fun x hx=>?_,fun x hx=>?_⟩
 . have:=(List.sublist_flatten_of_mem hx).length_le;omega
 . have:=g.rng x hx;simp only[InR];omega
theorem CE {n:Nw} {m:Ms} (h:(gO n).2=0) (g:dN n m):opE n m=0:=by
 unfold opE;rw[qa (by simp[h])];exact E6 g
def wz (F:T3->Int) (at_:Int) (k:Nat):Nat->List T3
 | 0=>[]
 | c+1=>wz F at_ k c++(if F ⟨(k:Int),at_,(c:Int)⟩=0 then [⟨(k:Int),at_,(c:Int)⟩]else [])
def wD (F:T3->Int) (at_:Int) (w:Nat->Nat):Nat->List T3
 | 0=>[]
 | k+1=>wD F at_ w k++wz F at_ k (w k)
theorem Bl (F:T3->Int) (at_:Int) (k c:Nat) (h:F ⟨(k:Int),at_,(c:Int)⟩=0) (p:List T3):(p++wz F at_ k c).map Dat.cells++[[C.s (.int .i64 (k:Int)),C.s (.int .i64 at_),C.s (.int .i64 (c:Int))]]=(p++wz F at_ k (c+1)).map Dat.cells:=by
 rw[wz,qb h,<- ye,yg (l₂:=[_])];rfl
theorem Ah (F:T3->Int) (at_:Int) (k c:Nat) (h:F ⟨(k:Int),at_,(c:Int)⟩≠0):wz F at_ k (c+1)=wz F at_ k c:=by
 rw[wz,qa h,z4]
theorem y4 (F:T3->Int) (at_:Int) (k:Nat):∀ c,(wz F at_ k c).length<=c
 | 0=>by simp[wz]
 | c+1=>by
  have:=y4 F at_ k c;rw[wz,zK];split <;> simp <;> omega
theorem AT (F:T3->Int) (at_:Int) (w:Nat->Nat) (b:Nat) (hw:∀ k,w k<=b):∀ k,(wD F at_ w k).length<=b*k
 | 0=>by simp[wD]
 | k+1=>by
  have:=AT F at_ w b hw k;have h1:=y4 F at_ k (w k);have h2:=hw k;rw[wD,zK,Nat.mul_succ];omega
theorem CT (F:T3->Int) (at_:Int) (k:Nat) (h:∀ c:Nat,1<=c->F ⟨(k:Int),at_,(c:Int)⟩≠0):∀ c,1<=c->wz F at_ k c=wz F at_ k 1
 | 0,h1=>by omega
 | 1,_=>rfl
 | c+2,_=>by
  rw[Ah F at_ k (c+1) (h (c+1) (by omega))];exact CT F at_ k h (c+1) (by omega)
theorem Dv (F:T3->Int) (at_:Int) {w w':Nat->Nat}:∀ k,(∀ i,i < k->wz F at_ i (w i)=wz F at_ i (w' i))->wD F at_ w k=wD F at_ w' k
 | 0,_=>rfl
 | k+1,h=>by
  rw[wD,wD,Dv F at_ k (fun i hi=>h i (by omega)),h k (by omega)]
def wM (n:Nw) (k:Nat):Nat:=if k=3\/k=10 then n.cells.length else 1
def posL (n:Nw) (m:Ms) (at_:Int):List T3:=wD (fY n m) at_ (fun _=>n.cells.length) 12
theorem pos_wid {n:Nw} (net:NetOk n) (m:Ms) (at_:Int):wD (fY n m) at_ (wM n) 12=posL n m at_:=by
 refine Dv _ _ 12 (fun i hi=>?_);unfold wM;by_cases h:i=3\/i=10
 . rw[qb h]
 . rw[qa h];refine (CT _ _ i (fun c hc=>?_) _ (by have:=net.len;omega)).symm;have hev:evE n ⟨(i:Int),at_,(c:Int)⟩≠0:=by
    unfold evE;simp only;rw[qa (by simp;omega)];by_cases ht:gc at_=false
    . rw[qb ht];decide
    . rw[qa ht,qa (by simp[iy];omega),qa (by omega)];decide
   unfold fY;rw[qb hev];exact hev
def Ai (n:Nw) (m:Ms) (at_:Int):Int:=dS [opE n m,if gc at_ then 0 else 2,if m.at_<=at_ then 0 else 9]
theorem Eu : ∀ i,i < 12->∃ w f,(jf.drop (i*3)).take 3=[.s (.string w),.s (.bool (decide (i=3\/i=10))),.s (.func (.func f) #[] #[])]
 | 0,_=>⟨_,_,rfl⟩
 | 1,_=>⟨_,_,rfl⟩
 | 2,_=>⟨_,_,rfl⟩
 | 3,_=>⟨_,_,rfl⟩
 | 4,_=>⟨_,_,rfl⟩
 | 5,_=>⟨_,_,rfl⟩
 | 6,_=>⟨_,_,rfl⟩
 | 7,_=>⟨_,_,rfl⟩
 | 8,_=>⟨_,_,rfl⟩
 | 9,_=>⟨_,_,rfl⟩
 | 10,_=>⟨_,_,rfl⟩
 | 11,_=>⟨_,_,rfl⟩
 | n+12,h=>absurd h (by omega)
theorem kSw (m:List (Nat×Sb)):ah.subCs m jf=jf:=rfl
theorem kLw : bL jf jf:=BN jf
def possR (n:Nw) (m:Ms) (at_:Int):C:=.tup (if Ai n m at_≠0 then [enc ([]:List T3),enc (Ai n m at_)]else [enc (posL n m at_),enc (0:Int)])
theorem DB (n:Nw) (m:Ms) (at_:Int) (hn:NwS n) (hm:MsB m):FC Tryz.prog 76 [enc n,enc m,enc at_] [] (possR n m at_) []:=by
 have h64:=Ce n m hn hm;have hF:dS [opE n m,if gc at_ then 0 else 2,if m.at_<=at_ then 0 else 9]=Ai n m at_:=rfl;unfold possR;by_cases h0:Ai n m at_=0
 rotate_left
 . generalize Ai n m at_=E at *;rw[qb h0];generalize opE n m=O at *;refine dD [] is76 (by simp) (by simp[bn]) (by simp[ap,ag]) (by simp[ap,ag]) (by simp[aC]) (fun cx _ hl _=>dC [wu 64 _ _ h64 trivial,lv,eg,ee] 1500 ?_);delta c76 oO oN oA oM oT oQ oS oK oF oL oV oC oI oX oB o1 o5 o7;simp only[xU,wu,lv,eg,ee,eO,qT,hF,h0,qc,qd,WU,Ent.of1,Ent.of2,V,W3,seval]
 have hO:opE n m=0:=by
  unfold Ai dS at h0;by_cases q:opE n m=0
  . exact q
  . rw[qb q]at h0;exact absurd h0 q
 obtain⟨net,g⟩:=EB hO;rw[qa (by simp[h0]),<- pos_wid net];rw[hO]at h64 hF;rw[h0]at hF;have hL:=net.len;have hg0:=g.at_;have glq:=glk;unfold Glob.gl at glq;have hkl:jf.length=36:=rfl;have hkt:List.take 36 jf=jf:=rfl;have hE:∀ e,apE n m e=fY n m e:=fun e=>(Ci hO).1
 have hw:∀ k,wM n k<=6:=fun k=>by unfold wM;split <;> omega
 refine dD [] is76 (by simp) (by simp[bn]) (by simp[ap,ag]) (by simp[ap,ag]) (by simp[aC]) (fun cx _ hl _=>dC [wu 64 _ _ h64 trivial,lv,eg,ee] 1500 ?_);delta c76 oO oN oA oM oT oQ oS oK oF oL oV oC oI oX oB o1 o5 o7;simp only[xU,wu,lv,eg,ee,eO,qT,hF,glq,hkt,qc,qd,WU,Ent.of1,Ent.of2,V,W3,seval];refine⟨by rw[hkl];decide,?_⟩;refine fH 12 (fun i=>[(34,.s (.int .i64 (i:Int)))]) (fun i=>[(9,.row 3 83 ((wD (fY n m) at_ (wM n) i).map Dat.cells))]) (fun _=>True) trivial ?_ (fun i hi _=>dC [] 800 ?_)
 . simp only[wD,V,W3,seval];exact kLw
 . by_cases h:i < 12
   . have hi2:=eq_true (show (i:Int) < 12 by omega);obtain⟨w,f,hk⟩:=Eu i h;delta c76l2 oO oN oA oM oR oS oK oF oL oV oW oI oX oB o4;simp only[xU,hi2,WU,V,W3,seval];refine oh rfl (OpM.arrIx (e:=169) (sz:=3) (n:=(i:Int)) (k:=.i64) (len:=12) (cs:=jf) (by kernel_rfl) (by kernel_rfl) (by kernel_rfl) rfl rfl ⟨by omega,by omega⟩ (by rw[hkl];omega)) (fun ef he=>?_);subst he;rw[z5,hk];refine pW [] 800 ?_;by_cases hc:i=3\/i=10
     . simp only[hc,decide_true]at hk;have hwd:wM n i=n.cells.length:=by unfold wM;rw[qb hc]
       have hrl:=AT (fY n m) at_ (wM n) 6 hw i;simp only[hk,hc,zy,qc,qd,InR,WU,V,W3,seval];refine fH (n.cells.length) (fun j=>[(44,.s (.int .i64 (j:Int)))]) (fun j=>[(9,.row 3 83 ((wD (fY n m) at_ (wM n) i++wz (fY n m) at_ i j).map Dat.cells))]) (fun _=>True) trivial ?_ (fun j hj _=>?_)
       . simp only[wz,z4,V,W3,seval]
         all_goals exact kLw
       . by_cases hjl:j < n.cells.length
         . have hj2:=eq_true (show (j:Int) < (n.cells.length:Int) by omega);have h69:=AI n m ⟨(i:Int),at_,(j:Int)⟩ hn hm;rw[hE]at h69;have hal:=y4 (fY n m) at_ i j;have hll:(wD (fY n m) at_ (wM n) i++wz (fY n m) at_ i j).length<=100:=by rw[zK];omega
           have happ:=Bl (fY n m) at_ i j;have hskp:=Ah (fY n m) at_ i j;generalize apS n m ⟨(i:Int),at_,(j:Int)⟩=S at *;generalize hA:fY n m ⟨(i:Int),at_,(j:Int)⟩=A at *;refine dC [wu 69 _ _ h69 ⟨by simp[qT,dG,dG.keysIns],trivial,trivial⟩] 800 ?_;by_cases hz:A=0
           . subst hz;have hap:=happ rfl (wD (fY n m) at_ (wM n) i);delta yU oO oN oA oM oR oS oK oC oW oI oX oB o3 oZ o5 o8;simp only[xU,wu,eO,qT,dV,hj2,hap,InR,qc,qd,WU,V,W3,seval];simp only[kSw];exact⟨⟨by omega,by omega⟩,⟨by omega,by omega⟩,hjl,kLw,by omega⟩
           . have hsk:=hskp hz;delta yU oO oN oA oM oR oS oK oC oW oI oX oB o3 oZ o5 o8;simp only[xU,wu,eO,qT,dV,hj2,hz,InR,qc,qd,WU,V,W3,seval];simp only[kSw];rw[hsk];exact⟨⟨by omega,by omega⟩,hjl,⟨kLw,by omega⟩,rfl⟩
         . have hje:j=n.cells.length:=by omega
           have hj2:=eq_false (show ¬ (j:Int) < (n.cells.length:Int) by omega);have hpe:wD (fY n m) at_ (wM n) i++wz (fY n m) at_ i j=wD (fY n m) at_ (wM n) (i+1):=by rw[wD,hwd,hje]
           refine dC [] 800 ?_;delta yU oO oN oA oM oR oS oK oC oW oI oX oB o3 oZ o5 o8;simp only[xU,hj2,hpe,InR,WU,V,W3,seval];rw[kSw];exact⟨⟨by omega,by omega⟩,h,kLw,by omega⟩
     . simp only[hc,decide_false]at hk;have hwd:wM n i=1:=by unfold wM;rw[qa hc]
       have hrl:=AT (fY n m) at_ (wM n) 6 hw i;simp only[hk,hc,qc,qd,InR,WU,V,W3,seval];refine fH (1) (fun j=>[(44,.s (.int .i64 (j:Int)))]) (fun j=>[(9,.row 3 83 ((wD (fY n m) at_ (wM n) i++wz (fY n m) at_ i j).map Dat.cells))]) (fun _=>True) trivial ?_ (fun j hj _=>?_)
       . simp only[wz,z4,V,W3,seval]
         all_goals exact kLw
       . by_cases hjl:j < 1
         . have hj2:=eq_true (show (j:Int) < 1 by omega);have h69:=AI n m ⟨(i:Int),at_,(j:Int)⟩ hn hm;rw[hE]at h69;have hal:=y4 (fY n m) at_ i j;have hll:(wD (fY n m) at_ (wM n) i++wz (fY n m) at_ i j).length<=100:=by rw[zK];omega
           have happ:=Bl (fY n m) at_ i j;have hskp:=Ah (fY n m) at_ i j;generalize apS n m ⟨(i:Int),at_,(j:Int)⟩=S at *;generalize hA:fY n m ⟨(i:Int),at_,(j:Int)⟩=A at *;refine dC [wu 69 _ _ h69 ⟨by simp[qT,dG,dG.keysIns],trivial,trivial⟩] 800 ?_;by_cases hz:A=0
           . subst hz;have hap:=happ rfl (wD (fY n m) at_ (wM n) i);delta yU oO oN oA oM oR oS oK oC oW oI oX oB o3 oZ o5 o8;simp only[xU,wu,eO,qT,dV,hj2,hap,InR,qc,qd,WU,V,W3,seval];simp only[kSw];exact⟨⟨by omega,by omega⟩,⟨by omega,by omega⟩,hjl,kLw,by omega⟩
           . have hsk:=hskp hz;delta yU oO oN oA oM oR oS oK oC oW oI oX oB o3 oZ o5 o8;simp only[xU,wu,eO,qT,dV,hj2,hz,InR,qc,qd,WU,V,W3,seval];simp only[kSw];rw[hsk];exact⟨⟨by omega,by omega⟩,hjl,⟨kLw,by omega⟩,rfl⟩
         . have hje:j=1:=by omega
           have hj2:=eq_false (show ¬ (j:Int) < 1 by omega);have hpe:wD (fY n m) at_ (wM n) i++wz (fY n m) at_ i j=wD (fY n m) at_ (wM n) (i+1):=by rw[wD,hwd,hje]
           refine dC [] 800 ?_;delta yU oO oN oA oM oR oS oK oC oW oI oX oB o3 oZ o5 o8;simp only[xU,hj2,hpe,InR,WU,V,W3,seval];rw[kSw];exact⟨⟨by omega,by omega⟩,h,kLw,by omega⟩
   . have hie:i=12:=by omega
     subst hie;delta c76l2 oO oN oA oM oR oS oK oF oL oV oW oI oX oB o4;simp only[xU,qx,WU,V,W3,seval]
theorem moved_c : FC Tryz.prog 87 [] [] (enc true) []:=by
 refine dD [] is87 (by simp) (by simp[bn]) (by simp[ap,ag]) (by simp[ap,ag]) (by simp[aC]) (fun cx _ hl _=>dC [ent89,ent90,ent30,wu 39 _ _ law_recv_c ⟨trivial,trivial,trivial⟩,wu 36 _ _ law_rep_c ⟨by rw[qT];simp[dG,dG.keysIns],trivial,trivial,trivial⟩,wu 80 _ _ law_fmt_c trivial] 2500 ?_);delta c87 oO oN oA oM oG oC oW oX oP oB oD o1 oZ o8 o9;simp only[rv87,ent89,ent90,ent30,wu,lawRule,gV,jg,eO,enc_rul,qT,qx,qJ,zt,zR,uX,yD,List.take_zero,yB,qc,WU,Ent.of0,Ent.of2,V,W3,seval]
def xY : Ent Tryz.prog:=wu 87 [] (enc true) moved_c trivial
theorem syn_ok {U:Nat->Prop} {w:World} (hg:eT Tryz.prog U w.heap):∃ tp p,w.var? Tryz.prog "strconv.ErrSyntax" = some #[.iface tp p]:=by
 obtain⟨_,⟨tp,p,ty,fz,_,h⟩,_⟩:=hg.2
 have hn:Tryz.prog.globalNamed "strconv.ErrSyntax" = some 5:=by kernel_rfl
 exact⟨tp,p,by simp only[World.var?,hn,Option.bind_some,h]⟩
theorem rng_ok {U:Nat->Prop} {w:World} (hg:eT Tryz.prog U w.heap):∃ tp p,w.var? Tryz.prog "strconv.ErrRange" = some #[.iface tp p]:=by
 obtain⟨_,_,⟨tp,p,ty,fz,_,h⟩⟩:=hg.2
 have hn:Tryz.prog.globalNamed "strconv.ErrRange" = some 6:=by kernel_rfl
 exact⟨tp,p,by simp only[World.var?,hn,Option.bind_some,h]⟩
def Av (s p:ByteArray):ByteArray:=⟨(Lib.trimPrefix s.data.toList p.data.toList).toArray⟩
theorem Dg (s:ByteArray) (c:UInt8):FC Tryz.prog 178 [enc s,enc (⟨#[c]⟩:ByteArray)] [] (enc (Lib.indexByte s.data.toList c)) []:=by
 refine FC.scal (vs:=[.string s,.string ⟨#[c]⟩]) ⟨_,Tryz.func178,by kernel_rfl,by kernel_rfl⟩ (fun U w hg hU=>?_);refine (Any.strings_Index_one Tryz.lays143 s c w).mono ?_
 rintro e w' ⟨rfl,rfl⟩
 exact⟨_,rfl,fun E U h=>.d (.s _),.refl _ _⟩
end Go.Proofs.YtcbabnbiinkafaaGreatDoor
end
