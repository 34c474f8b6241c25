/- Part 2 of the proof of: MoveTexts returns true for every input and never panics: the texts of an event and of a state, and the event and the state with any text, are as specified, or the errors, and right ones are read back; conditions: those of the given statement, that the package variables it lists hold what their initialisers lay. -/
import Derived.Lib.ItoaLen
import Derived.WalkKit
import Derived.BigCall
import Derived.Lib.QuietBelow
import Derived.Test.YtcbabnbiinkafaaGreatDoorMoveTexts1
set_option linter.all false
section
open Go Go.Am
open Go.Am.Dat (cells)
namespace Go.Proofs.YtcbabnbiinkafaaGreatDoor
set_option maxHeartbeats 4000000
set_option maxRecDepth 100000
theorem goodT (r:Rul) (s n:List Int) (hl:n.length=s.length) (ht:0<=r.trig) (hh:0<=r.hyst):∀ (m t:Nat) (armed:Bool) (prev:Option Int),s.length - t=m ->
 (∀ u,prev=some u->u < (t:Int)/\(armed=true->∃ k:Nat,u<=(k:Int)/\(k:Int) < t/\ovk r s n k=true))->GoodT r s n prev (trg r (s.drop t) (n.drop t) t (cnt (btr r s n) t) armed)
 | 0,t,armed,prev,hm,hp=>by
  rw[zv (by omega:s.length<=t),td];trivial
 | m+1,t,armed,prev,hm,hp=>by
  have h1:t < s.length:=by omega
  have h2:t < n.length:=by omega
  rw[eg 0 h1,eg 0 h2,trg];have hc:(if nG r (s.getD t 0) (n.getD t 0)then (cnt (btr r s n) t:Int)+1 else 0)=(cnt (btr r s n) (t+1):Int):=(B4 (btr r s n) t).symm;simp only[hc];by_cases hg:((armed || over r (s.getD t 0) (n.getD t 0)) && decide (r.trig < (cnt (btr r s n) (t+1):Int)))=true
  . rw[if_pos hg];simp only[zm,zV,decide_eq_true_eq]at hg;obtain⟨g1,g2⟩:=hg;obtain⟨g3,g4⟩:=cnt_gt ht rfl g2;have g5:=g4 t (by omega) (by omega);refine⟨⟨g3,by omega⟩,g4,fun u hu=>?_,goodT r s n hl ht hh m (t+1) false (some t) (by omega) (fun u hu=>?_)⟩
    . obtain⟨q1,q2⟩:=hp u hu;refine⟨q1,?_⟩;rcases g1 with g1 | g1
      . exact q2 g1
      . exfalso
        simp only[btr,nG,decide_eq_true_eq]at g5;simp only[over,decide_eq_true_eq]at g1;omega
    . cases hu;exact⟨by omega,fun h=>by cases h⟩
  . rw[if_neg hg];refine goodT r s n hl ht hh m (t+1) _ prev (by omega) (fun u hu=>?_);obtain⟨q1,q2⟩:=hp u hu;refine⟨by omega,fun ha=>?_⟩;simp only[zV]at ha;rcases ha with ha | ha
    . obtain⟨k,k1,k2,k3⟩:=q2 ha;exact⟨k,k1,by omega,k3⟩
    . exact⟨t,by omega,by omega,ha⟩
theorem goodT0 {r:Rul} {s n:List Int} (h:TrgOk r s n):GoodT r s n none (iv r s n):=by
 have h2:=h.hr;simp only[j4,zm,decide_eq_true_eq]at h2;have:=goodT r s n h.hln h2.2.1 h2.1.2.1 s.length 0 true none (by omega) (fun u hu=>by cases hu);simpa[cnt,iv]using this
theorem BK (r:Rul) (s n:List Int) (hl:n.length=s.length):∀ (m t v:Nat),s.length - t=m->t<=v->v < s.length->r.trig < (cnt (btr r s n) (v+1):Int) ->
 ∃ u l,trg r (s.drop t) (n.drop t) t (cnt (btr r s n) t) true=u :: l/\u<=(v:Int)
 | 0,t,v,hm,h1,h2,h3=>by omega
 | m+1,t,v,hm,h1,h2,h3=>by
  have g1:t < s.length:=by omega
  have g2:t < n.length:=by omega
  rw[eg 0 g1,eg 0 g2,trg];have hc:(if nG r (s.getD t 0) (n.getD t 0)then (cnt (btr r s n) t:Int)+1 else 0)=(cnt (btr r s n) (t+1):Int):=(B4 (btr r s n) t).symm;simp only[hc,yz,zY,decide_eq_true_eq];by_cases hg:r.trig < (cnt (btr r s n) (t+1):Int)
  . rw[if_pos hg];exact⟨_,_,rfl,by omega⟩
  . rw[if_neg hg];have:t≠v:=fun e=>hg (e ▸ h3)
    exact BK r s n hl m (t+1) v (by omega) (by omega) h2 h3
theorem B3 {p q:Nat->Bool} (h:∀ k,p k=true->q k=true):∀ t,cnt p t<=cnt q t
 | 0=>zw _
 | t+1=>by
  have:=B3 h t;rw[cnt,cnt];cases hp:p t with
  | false=>simp
  | true=>rw[h t hp];simp;omega
theorem later {r r':Rul} {s n:List Int} (h:TrgOk r s n) (h':TrgOk r' s n) (h1:r.trig<=r'.trig) (h2:r.off<=r'.off) (h3:r.hyst=r'.hyst) (hne:iv r' s n≠[]) :
 iv r s n≠[]/\(iv r s n).getD 0 0<=(iv r' s n).getD 0 0:=by
 cases hL:iv r' s n with
 | nil=>exact absurd hL hne
 | cons v l=>
  have hg:=goodT0 h';rw[hL]at hg;obtain⟨⟨g1,g2⟩,g3,_,_⟩:=hg;have hr':=h'.hr;simp only[j4,zm,decide_eq_true_eq]at hr';obtain⟨V,rfl⟩:∃ V:Nat,v=(V:Int):=⟨v.toNat,by omega⟩;obtain⟨T,hT⟩:∃ T:Nat,r'.trig=(T:Int):=⟨r'.trig.toNat,by omega⟩;have hc':T < cnt (btr r' s n) (V+1):=by
   rw[AX];exact⟨by omega,fun k q1 q2=>g3 k (by omega) (by omega)⟩
  have hm:=B3 (p:=btr r' s n) (q:=btr r s n) (fun k hk=>by
   simp only[btr,nG,decide_eq_true_eq]at hk ⊢
   omega) (V+1)
  obtain⟨u,l',e1,e2⟩:=BK r s n h.hln s.length 0 V (by omega) (by omega) (by omega) (by omega);have e3:iv r s n=u :: l':=by simpa[cnt,iv]using e1
  rw[e3];exact⟨by simp,by simpa using e2⟩
theorem Ae (m:Ms):fy (.agg [C.s (.int .i64 m.at_),.s (.int .i64 m.phase),.s (.int .i64 m.since),.s (.int .i64 m.serving),.s (.int .i64 m.target),.s (.int .i64 m.source),.s (.int .i64 m.path),.s (.int .i64 m.fresh),.s (.int .i64 m.got),.sl 1 (m.buf.map Dat.cells)])=some m:=by
 unfold fy;have:Dat.dec (α:=Ms) [C.s (.int .i64 m.at_),.s (.int .i64 m.phase),.s (.int .i64 m.since),.s (.int .i64 m.serving),.s (.int .i64 m.target),.s (.int .i64 m.source),.s (.int .i64 m.path),.s (.int .i64 m.fresh),.s (.int .i64 m.got),.sl 1 (m.buf.map Dat.cells)]=(fh (m.buf.map Dat.cells)).map fun r'=>(⟨m.at_,m.phase,m.since,m.serving,m.target,m.source,m.path,m.fresh,m.got,r'⟩:Ms):=rfl
 simp only[this,fq];rw[if_pos (show (Dat.agg Ms)=true from rfl)];rfl
theorem Has_c (l:List Int) (v:Int):FC Tryz.prog 75 [enc l,enc v] [] (enc (l.any fun x=>decide (x=v))) []:=by
 refine eh is75 (by simp) (fun cx hl=>dC [] 800 ?_);simp only[V,W3,↓reduceIte,seval,reduceCtorEq]at hl;have hl1:=hl.list;generalize hB:(l.any fun x=>decide (x=v))=B;delta c75 oS oK oV oX o9;simp (maxSteps:=9^7) -implicitDefEqProofs only[rv75,Ent.of0,Ent.of1,Ent.of2,Ent.of3,Ent.of4,V,W3,↓reduceIte,seval,reduceCtorEq];refine eN l.length (fun i=>[(5,.s (.int .i64 (i:Int)))]) (fun _=>[]) (fun i=>B=(l.drop i).any fun x=>decide (x=v)) (by simp[hB]) ?_ (fun i hi hv=>dC [] 800 ?_)
 . simp (maxSteps:=9^7) -implicitDefEqProofs only[Ent.of0,Ent.of1,Ent.of2,Ent.of3,Ent.of4,V,W3,↓reduceIte,seval,reduceCtorEq]
   all_goals simp
 . by_cases h:i < l.length
   . have hi2:(i:Int) < (l.length:Int):=by omega
     rw[eg 0 h,List.any_cons]at hv;generalize hg:l.getD i 0=g at hv;cases hx:decide (g=v)
     all_goals
      rw[hx]at hv;have hx2:=hx;simp only[decide_eq_true_eq,decide_eq_false_iff_not]at hx2;delta c75l1 oO oN oA oM oR oS oK oL oI oX oB o1 o4 o9;simp (maxSteps:=9^7) -implicitDefEqProofs only[rv75,hi2,h,hg,hx2,InR,WU,Ent.of0,Ent.of1,Ent.of2,Ent.of3,Ent.of4,V,W3,↓reduceIte,seval,reduceCtorEq];simp at hv;simp[hv]
      try omega
   . have hi2:¬ (i:Int) < (l.length:Int):=by omega
     rw[zv (by omega)]at hv;delta c75l1 oO oN oA oM oR oS oK oL oI oX oB o1 o4 o9;simp (maxSteps:=9^7) -implicitDefEqProofs only[rv75,hi2,WU,Ent.of0,Ent.of1,Ent.of2,Ent.of3,Ent.of4,V,W3,↓reduceIte,seval,reduceCtorEq];simp[hv]
def ent75 : Ent Tryz.prog:=.of2 75 (fun _ _=>True) (fun (l:List Int) (v:Int)=>enc (l.any fun x=>decide (x=v))) (fun _ _=>trivial) (fun l v _=>Has_c l v)
theorem De (m:Ms) (h1:m.buf.length<=1000000) (h2:fj m.buf<=1000000000):FC Tryz.prog 116 [enc m] [] (enc (fj m.buf)) []:=by
 refine dD [] is116 (by simp) trivial trivial trivial trivial (fun cx _ hl _=>dC [] 800 ?_);generalize hT:fj m.buf=T at *;delta c116 oM oS oK oV oX o7;simp (maxSteps:=9^7) -implicitDefEqProofs only[BR,kN,WU,Ent.of0,Ent.of1,Ent.of2,Ent.of3,Ent.of4,V,W3,↓reduceIte,seval,reduceCtorEq];refine eN m.buf.length (fun i=>[(3,.s (.int .i64 (T - fj (m.buf.drop i)))),(4,.s (.int .i64 (i:Int)))]) (fun _=>[]) (fun i=>0<=T - fj (m.buf.drop i)) (by simp[hT]) ?_ (fun i hi hv=>dC [] 800 ?_)
 . simp (maxSteps:=9^7) -implicitDefEqProofs only[Ent.of0,Ent.of1,Ent.of2,Ent.of3,Ent.of4,V,W3,↓reduceIte,seval,reduceCtorEq]
   all_goals simp[hT]
 . by_cases h:i < m.buf.length
   . have hi2:(i:Int) < (m.buf.length:Int):=by omega
     have hi0:(0:Int)<=i:=by omega
     have hgx:List.getD (m.buf.map Dat.cells) i [C.sl 0 []]=[C.sl 1 ((m.buf.getD i []).map Dat.cells)]:=by
      rw[zb,zb,zh,ze h];rfl
     have hd:=eg (d:=[]) h;have hnn:=s6 (m.buf.drop (i+1));rw[hd,fj]at hv;generalize m.buf.getD i []=p at *;delta BZ oO oN oA oM oR oS oK oF oL oX oB o0 o4;simp (maxSteps:=9^7) -implicitDefEqProofs only[BR,hi0,hi2,h,hgx,hd,fj,InR,WU,Ent.of0,Ent.of1,Ent.of2,Ent.of3,Ent.of4,V,W3,↓reduceIte,seval,reduceCtorEq];omega
   . have hi2:¬ (i:Int) < (m.buf.length:Int):=by omega
     have hd:m.buf.drop i=[]:=zv (by omega);delta BZ oO oN oA oM oR oS oK oF oL oX oB o0 o4;simp (maxSteps:=9^7) -implicitDefEqProofs only[BR,hi2,hd,fj,WU,Ent.of0,Ent.of1,Ent.of2,Ent.of3,Ent.of4,V,W3,↓reduceIte,seval,reduceCtorEq];omega
def B6 : Ent Tryz.prog:=.of1 116 (fun m:Ms=>m.buf.length<=1000000/\fj m.buf<=1000000000) (fun m=>enc (fj m.buf)) (fun _=>trivial) (fun m h=>De m h.1 h.2)
def xF (v:Int):Nat->List (List Int)->Int
 |_,[]=>-1
 | i,r :: l=>if (r.any fun x=>decide (x=v))=true then (i:Int)else xF v (i+1) l
theorem where_c (m:Ms) (k:Nat) (v:Int) (h1:m.buf.length<=1000000) (h2:k<=m.buf.length):FC Tryz.prog 117 [enc m,.s (.int .i64 (k:Int)),enc v] [] (enc (xF v 0 (m.buf.take k))) []:=by
 refine dD [] is117 (by simp) trivial trivial trivial trivial (fun cx _ hl _=>dC [] 800 ?_);have hLl:(m.buf.take k).length=k:=by rw[List.length_take];omega
 have hLg:∀ i,i < k->(m.buf.take k).getD i []=m.buf.getD i []:=fun i hi=>by
  rw[zb,zb,ya,if_pos hi]
 generalize hT:xF v 0 (m.buf.take k)=T at *;generalize m.buf.take k=L at *;delta c117 oS oK oV oX o7;simp (maxSteps:=9^7) -implicitDefEqProofs only[BS,kN,WU,Ent.of0,Ent.of1,Ent.of2,Ent.of3,Ent.of4,V,W3,↓reduceIte,seval,reduceCtorEq];refine eN k (fun i=>[(7,.s (.int .i64 (i:Int)))]) (fun _=>[]) (fun i=>T=xF v i (L.drop i)) (by simp[hT]) ?_ (fun i hi hv=>dC [ent75] 800 ?_)
 . simp (maxSteps:=9^7) -implicitDefEqProofs only[Ent.of0,Ent.of1,Ent.of2,Ent.of3,Ent.of4,V,W3,↓reduceIte,seval,reduceCtorEq]
   all_goals simp
 . by_cases h:i < k
   . have hi2:(i:Int) < (k:Int):=by omega
     have hi3:(i:Int) < (m.buf.length:Int):=by omega
     have h':i < m.buf.length:=by omega
     have hi0:(0:Int)<=i:=by omega
     have hgx:List.getD (m.buf.map Dat.cells) i [C.sl 0 []]=[C.sl 1 ((m.buf.getD i []).map Dat.cells)]:=by
      rw[zb,zb,zh,ze h'];rfl
     have hd:=eg (d:=[]) (show i < L.length by omega);rw[hd,hLg i h,xF]at hv;generalize m.buf.getD i []=p at *;cases hx:p.any fun x=>decide (x=v)
     all_goals
      rw[hx]at hv;simp only[if_true,if_false,zr]at hv;delta B0 oO oN oA oM oR oS oK oF oL oC oI oX oB o0;simp (maxSteps:=9^7) -implicitDefEqProofs only[BS,ent75,hi0,hi2,hi3,h,h',hgx,hx,InR,WU,Ent.of0,Ent.of1,Ent.of2,Ent.of3,Ent.of4,V,W3,↓reduceIte,seval,reduceCtorEq]
      first | exact hv.symm | exact⟨by omega,h,hv,by omega⟩ | exact⟨by omega,hv,by omega⟩
   . have hi2:¬ (i:Int) < (k:Int):=by omega
     have hd:L.drop i=[]:=zv (by omega);rw[hd,xF]at hv;delta B0 oO oN oA oM oR oS oK oF oL oC oI oX oB o0;simp (maxSteps:=9^7) -implicitDefEqProofs only[BS,ent75,hi2,WU,Ent.of0,Ent.of1,Ent.of2,Ent.of3,Ent.of4,V,W3,↓reduceIte,seval,reduceCtorEq];exact hv.symm
def yX : Ent Tryz.prog:=.of1 80 Prt (fun m=>enc (fmtS m)) (fun _=>trivial) (fun m h=>qy m h)
structure Rw where
 m:Ms
 st:List T3
 ouw:List Gs
def maxL (l:List Gs):Int:=l.foldl (fun a o=>max a (o.im - o.re)) 0
structure RwOk (n:Nw) (p:Ph) (w:Rw):Prop where
 m:w.m=p.m
 st:w.st=p.stays
 no:ej p.m=false->p.out=-1/\maxL w.ouw=p.longest
 yes:ej p.m=true->p.out=p.m.since/\∃ l,w.ouw=l++[⟨p.out,0⟩]/\maxL l=p.longest
 lim:p.longest<=n.limit
 nnw:0<=p.longest
abbrev t0 : T3:=⟨0,0,0⟩
structure Chn (n:Nw) (l:List T3) (c t:Int):Prop where
 ne:0 < l.length
 last:(l.getD (l.length - 1) t0).x=c/\(l.getD (l.length - 1) t0).y<=t
 cell:∀ i,i < l.length->isC n (l.getD i t0).x=true/\0<=(l.getD i t0).y/\(l.getD i t0).y<=t
 nxw:∀ i,i+1 < l.length->(l.getD i t0).y<=(l.getD i t0).z/\(l.getD i t0).z=(l.getD (i+1) t0).y/\(l.getD (i+1) t0).x≠(l.getD i t0).x
theorem Chn.later {n:Nw} {l:List T3} {c t u:Int} (h:Chn n l c t) (hu:t<=u):Chn n l c u:=
 ⟨h.ne,⟨h.last.1,by have:=h.last.2;omega⟩,fun i hi=>by have:=h.cell i hi;exact⟨this.1,this.2.1,by omega⟩,h.nxw⟩
structure All (n:Nw) (p:Ph) (w:Rw):Prop where
 g:dP n p.m
 r:RwOk n p w
 c:Chn n p.stays p.m.serving p.m.at_
def entN (f:FuncId) (as0:List C) (r:C) (k:Nat) (c:Ch) (hr:dF [k] r) (hc:gm [k] c) (h:FC Tryz.prog f as0 [] r [(k,c)]):Ent Tryz.prog:=.mk3 f (fun args chs=>some (args=as0/\chs=[],r,[(k,c)],[k])) (by
 intro args chs pp r' chs' nk hs hq;simp only[zn,zf]at hs;obtain⟨rfl,rfl,rfl,rfl⟩:=hs;obtain⟨rfl,rfl⟩:=hq;refine⟨h,⟨fun k' c' hm=>.inl ?_,fun k cs hm=>(by simp at hm),hr,fun k' c' hm=>?_⟩⟩
 . simp only[zg,zf]at hm ⊢;exact hm.1
 . simp only[zg,zf]at hm;obtain⟨rfl,rfl⟩:=hm
   exact hc)
theorem CA (l:List Int) (h:l.length<=1000000):FC Tryz.prog 24 [enc l] [] (.own 3) [(3,.row 1 3 (l.map Dat.cells))]:=by
 refine dD [3] is24 (by simp) (by simp[bk]) (by simp[an,ag]) (by simp[an,ag,av]) (by simp[aB,lk]) (fun cx _ hl _=>dC [] 800 ?_);delta c24 oO oA oM oX o1;simp (maxSteps:=9^7) -implicitDefEqProofs only[rv24,InR,WU,V,W3,↓reduceIte,seval,reduceCtorEq];omega
def CW (l:List Int) (h:l.length<=1000000):Ent Tryz.prog:=entN 24 [enc l] (.own 3) 3 (.row 1 3 (l.map Dat.cells)) (by simp[dF]) (by simp[gm]) (CA l h)
structure BufS (b:List (List Int)):Prop where
 l:b.length<=1000000
 r:∀ x∈b,x.length<=1000000
theorem Co (b:List (List Int)) (h:BufS b):FC Tryz.prog 60 [enc b] [] (.own 3) [(3,.deep 1 3 24 none (fP b))]:=by
 have h1:=h.l;refine dD [3] D7.is60 (by simp) (by simp[bk]) (by simp[an,ag]) (by simp[an,ag,av]) (by simp[aB,lk]) (fun cx _ hl _=>dC [] 800 ?_);delta D7.c60 oA oM oS oK oV oX;simp (maxSteps:=9^7) -implicitDefEqProofs only[D7.rv60,InR,WU,V,W3,↓reduceIte,seval,reduceCtorEq];refine⟨by simp,?_⟩;refine eN b.length (fun i=>[(4,.s (.int .i64 (i:Int)))]) (fun i=>[(3,.deep 1 3 24 none (fP (b.take i)))]) (fun _=>True) trivial ?_ (fun i hi _=>?_)
 . simp (maxSteps:=9^7) -implicitDefEqProofs only[V,W3,↓reduceIte,seval,reduceCtorEq]
   all_goals rfl
 . by_cases hlt:i < b.length
   . have hi2:(i:Int) < (b.length:Int):=by omega
     have hi0:(0:Int)<=i:=by omega
     have hgx:List.getD (b.map Dat.cells) i [C.sl 0 []]=[C.sl 1 ((b.getD i []).map Dat.cells)]:=by
      rw[zb,zb,zh,ze hlt];rfl
     have hx:=h.r _ (yy hlt);have hgd:b.getD i []=b[i]:=by rw[zb,ze hlt];rfl
     have hap:fP (b.take i)++[(b.getD i []).map Dat.cells]=fP (b.take (i+1)):=by
      rw[hgd,yI hlt,fP,fP,yg];rfl
     have hlen:(b.take i).length=i:=by rw[List.length_take];omega
     rw[<- hgd]at hx;refine dC [CW (b.getD i []) hx] 800 ?_;delta D7.c60l1 oO oN oA oM oR oS oK oL oC oX oB o0 o4;simp (maxSteps:=9^7) -implicitDefEqProofs only[CW,entN,hi0,hi2,hlt,hgx,hap,eu,hlen,InR,WU,V,W3,↓reduceIte,seval,reduceCtorEq];omega
   . have hi2:¬ (i:Int) < (b.length:Int):=by omega
     have htk:b.take i=b:=List.take_of_length_le (by omega);refine dC [] 800 ?_;delta D7.c60l1 oO oN oA oM oR oS oK oL oC oX oB o0 o4;simp (maxSteps:=9^7) -implicitDefEqProofs only[D7.rv60,hi2,htk,WU,V,W3,↓reduceIte,seval,reduceCtorEq]
theorem Raway_c (m:Ms):FC Tryz.prog 112 [enc m] [] (enc (ej m)) []:=by
 refine dD [] is112 (by simp) trivial trivial trivial trivial (fun cx _ hl _=>dC [] 800 ?_);by_cases h1:m.phase=2 <;> by_cases h2:m.phase=3
 all_goals
  delta c112 oO oN oM oG oF oL oX oH oB oE oJ o7 o9;simp (maxSteps:=9^7) -implicitDefEqProofs only[rv112,kN,ej,h1,h2,WU,V,W3,↓reduceIte,seval,reduceCtorEq]
def xu : Ent Tryz.prog:=.of1 112 (fun _=>True) (fun m:Ms=>enc (ej m)) (fun _=>trivial) (fun m _=>Raway_c m)
structure MsS (m:Ms):Prop where
 b:BufS m.buf
 f:m.buf.flatten.length<=1000000
theorem FC.post {f:FuncId} {as0:List C} {r r':C} (hfc:FC Tryz.prog f as0 [] r []) (hp:∀ E U h v,Rep E U h r v->Rep E U h r' v):FC Tryz.prog f as0 [] r' []:=
 ⟨hfc.1,fun E U vs w hg ha hi=>(hfc.2 E U vs w hg ha hi).mono fun e w' ⟨v,E',U',he,hr,hc⟩=>⟨v,E',U',he,hp _ _ _ _ hr,hc⟩⟩
structure Bst where
 f:Bool
 t:Int
 c:Int
 v:Int
def x4 (l:List Int) (k:Int) (b:Bst) (t:Int):Bst:=if b.f=false\/t < b.t\/(t=b.t/\b.v < l.getD t.toNat 0)then ⟨true,t,k,l.getD t.toNat 0⟩else b
def sgT (r:Rul) (L:List (List Int)) (s:Int) (k:Nat):List Int:=iv r (L.getD s.toNat []) (L.getD k [])
def Dh (r:Rul) (L:List (List Int)) (s:Int) (b:Bst) (k:Nat):Bst:=if (k:Int)=s then b else (sgT r L s k).foldl (x4 (L.getD k []) k) b
def xK (r:Rul) (L:List (List Int)) (s t:Int):Nat->Int
 | 0=>-1
 | k+1=>if (k:Int)≠s/\t∈sgT r L s k/\(xK r L s t k < 0\/(L.getD (xK r L s t k).toNat []).getD t.toNat 0 < (L.getD k []).getD t.toNat 0)then (k:Int)else xK r L s t k
def Asc (n:Int):List Int->Prop
 |[]=>True
 | t :: l=>(0<=t/\t < n/\∀ u∈l,t < u)/\Asc n l
theorem DC (l:List Int) (k:Int) (b:Bst) (t:Int):(x4 l k b t).f=true/\(x4 l k b t).t<=t:=by
 unfold x4;split
 . exact⟨rfl,Int.le_refl _⟩
 . rename_i h;cases hb:b.f with
   | false=>exact absurd (.inl hb) h
   | true=>
    refine⟨rfl,?_⟩;rcases Int.lt_or_le t b.t with q | q
    . exact absurd (.inr (.inl q)) h
    . exact q
theorem BJ (l:List Int) (k:Int):∀ (T:List Int) (b:Bst),b.f=true->(∀ u∈T,b.t < u)->T.foldl (x4 l k) b=b
 |[],b,_,_=>rfl
 | t :: T,b,hf,hb=>by
  have h1:=hb t (by simp);have e:x4 l k b t=b:=by
   unfold x4;rw[if_neg]
   rintro (q | q | ⟨q,_⟩)
   . rw[hf]at q;cases q
   . omega
   . omega
  rw[List.foldl_cons,e];exact BJ l k T b hf (fun u hu=>hb u (by simp[hu]))
theorem sgFold {n:Int} (l:List Int) (k:Int) (t:Int) (T:List Int) (b:Bst) (h:Asc n (t :: T)):(t :: T).foldl (x4 l k) b=x4 l k b t:=by
 rw[List.foldl_cons];obtain⟨h1,h2⟩:=DC l k b t;exact BJ l k T _ h1 (fun u hu=>by have:=h.1.2.2 u hu;omega)
structure SgInv (r:Rul) (L:List (List Int)) (s:Int) (k:Nat) (b:Bst):Prop where
 no:b.f=false->∀ t,xK r L s t k=-1
 yes:b.f=true->xK r L s b.t k=b.c/\(0<=b.c/\b.c < k)/\b.v=(L.getD b.c.toNat []).getD b.t.toNat 0/\(∀ t,t < b.t->xK r L s t k=-1)/\0<=b.t/\b.t < (L.getD s.toNat []).length
theorem SgInv.step {r:Rul} {L:List (List Int)} {s:Int} {k:Nat} {b:Bst} (h:SgInv r L s k b) (ha:(k:Int)≠s->Asc (L.getD s.toNat []).length (sgT r L s k)):SgInv r L s (k+1) (Dh r L s b k):=by
 unfold Dh;by_cases hs:(k:Int)=s
 . rw[if_pos hs];have e:∀ t,xK r L s t (k+1)=xK r L s t k:=fun t=>by rw[xK,if_neg (fun q=>q.1 hs)]
   refine⟨fun q t=>by rw[e];exact h.no q t,fun q=>?_⟩;obtain⟨y1,y2,y3,y4,y5⟩:=h.yes q;exact⟨by rw[e];exact y1,⟨y2.1,by push_cast;omega⟩,y3,fun t ht=>by rw[e];exact y4 t ht,y5⟩
 . rw[if_neg hs];have hA:=ha hs;cases hT:sgT r L s k with
   | nil=>
    show SgInv r L s (k+1) b
    have e:∀ t,xK r L s t (k+1)=xK r L s t k:=fun t=>by rw[xK,if_neg (fun q=>by rw[hT]at q;exact absurd q.2.1 (by simp))]
    refine⟨fun q t=>by rw[e];exact h.no q t,fun q=>?_⟩;obtain⟨y1,y2,y3,y4,y5⟩:=h.yes q;exact⟨by rw[e];exact y1,⟨y2.1,by push_cast;omega⟩,y3,fun t ht=>by rw[e];exact y4 t ht,y5⟩
   | cons t0 T=>
    rw[hT]at hA;rw[sgFold _ _ t0 T b hA];obtain⟨⟨a1,a2,a3⟩,_⟩:=hA;have hmem:∀ t,t < t0->t∉sgT r L s k:=fun t ht q=>by
     rw[hT]at q;rcases zl.1 q with q | q
     . omega
     . have:=a3 t q;omega
    have hlow:∀ t,t < t0->xK r L s t (k+1)=xK r L s t k:=fun t ht=>by rw[xK,if_neg (fun q=>hmem t ht q.2.1)]
    have h0:t0∈sgT r L s k:=by rw[hT];simp
    unfold x4;by_cases hc:b.f=false\/t0 < b.t\/(t0=b.t/\b.v < (L.getD k []).getD t0.toNat 0)
    . rw[if_pos hc];refine⟨fun q=>(by cases q),fun _=>⟨?_,⟨Int.natCast_nonneg k,by push_cast;omega⟩,by simp,fun t ht=>?_,a1,a2⟩⟩
      . show xK r L s t0 (k+1)=k
        rw[xK,if_pos];refine⟨hs,h0,?_⟩;cases hb:b.f with
        | false=>left;rw[h.no hb];decide
        | true=>
         obtain⟨y1,y2,y3,y4,y5⟩:=h.yes hb;rcases hc with q | q | ⟨q,q2⟩
         . rw[hb]at q;cases q
         . left;rw[y4 t0 q];decide
         . right;subst q;rw[y1,<- y3];exact q2
      . show xK r L s t (k+1)=-1
        rw[hlow t ht];cases hb:b.f with
        | false=>exact h.no hb t
        | true=>
         obtain⟨y1,y2,y3,y4,y5⟩:=h.yes hb;have ht':t < t0:=ht;rcases hc with q | q | ⟨q,q2⟩
         . rw[hb]at q;cases q
         . exact y4 t (by omega)
         . exact y4 t (by omega)
    . rw[if_neg hc];have hb:b.f=true:=by
       cases hb:b.f with
       | false=>exact absurd (.inl hb) hc
       | true=>rfl
      obtain⟨y1,y2,y3,y4,y5⟩:=h.yes hb;have hle:b.t<=t0:=by
       rcases Int.lt_or_le t0 b.t with q | q
       . exact absurd (.inr (.inl q)) hc
       . exact q
      refine⟨fun q=>(by rw[hb]at q;cases q),fun _=>⟨?_,⟨y2.1,by push_cast;omega⟩,y3,fun t ht=>by rw[hlow t (by omega)];exact y4 t ht,y5⟩⟩;rw[xK,if_neg]
      . exact y1
      . rintro⟨q1,q2,q3⟩
        rw[hT]at q2;rcases zl.1 q2 with q | q
        . rw[y1]at q3;rcases q3 with q3 | q3
          . omega
          . rw[<- y3]at q3;exact hc (.inr (.inr ⟨q.symm,by rw[<- q];exact q3⟩))
        . have:=a3 _ q;omega
theorem Cn (b:List (List Int)) (h:BufS b):FC Tryz.prog 60 [enc b] [] (enc b) []:=by
 have:=FC.frz (Co b h) (x:=.sl 1 (b.map Dat.cells)) (by simp[bz,fP];intro a _;rfl);exact this
def ent60 : Ent Tryz.prog:=.of1 60 BufS (fun b:List (List Int)=>enc b) (fun _=>trivial) (fun b h=>Cn b h)
def x6 (f:Int) (seen:List Int):Int->List Int->Int
 |_,[]=>0
 | p,x :: l=>if ¬ (0<=x/\x < f)then 2 else if x<=p then 9 else if x∈seen then 26 else x6 f seen x l
def pkL (f:Int):List Int->List (List Int)->Int
 |_,[]=>0
 | seen,b :: bs=>if x6 f seen (-1) b≠0 then x6 f seen (-1) b else pkL f (seen++b) bs
def rgB (m:Ms):Bool:=decide (0<=m.at_/\m.at_<=1000000000) && decide (0<=m.since/\m.since<=m.at_) && decide (0<=m.fresh/\m.fresh<=1000000) && decide (0<=m.got/\m.got<=m.fresh)
def msB (n:Nw) (m:Ms):Bool:=isC n m.serving && isC n m.path && (decide (m.target=-1) || isC n m.target) && (decide (m.source=-1) || isC n m.source)
def bsyB (m:Ms):Bool:=decide (m.phase=1) || decide (m.phase=2)
def fmB (m:Ms):Bool:=
 !((!decide (m.target=-1) && decide (m.phase=0)) || (decide (m.target=-1) && bsyB m) || (!decide (m.source=-1) && (bsyB m || !decide (m.target=-1))) || (!decide (m.path=m.serving) && (decide (m.source=-1) || !decide (m.path=m.source))))
def clB (n:Nw) (m:Ms):Bool:=(decide (m.target=-1) || nbr n m.target m.serving) && (decide (m.source=-1) || nbr n m.source m.serving)
def stB (n:Nw) (m:Ms):Bool:=!(ej m && decide (m.since+n.limit<=m.at_)) && !(!decide (m.source=-1) && decide (m.path=m.serving) && (dQ m m.source).isEmpty)
def x7 (m:Ms) (i:Nat):Bool:=(m.buf.getD i []).isEmpty || decide ((i:Int)=m.serving) || decide ((i:Int)=m.source) || (ej m && decide ((i:Int)=m.target))
def Al (m:Ms):Bool:=(List.range m.buf.length).all (x7 m)
def Av (l:List Int):Nat->Int->Bool
 | 0,_=>true
 | k+1,a=>decide (a∈l) && Av l k (a+1)
def gapB (m:Ms):Bool:=decide (m.fresh - m.got<=60) && Av m.buf.flatten (m.fresh - m.got).toNat m.got
def pkE (m:Ms):Int:=if 60 < m.buf.flatten.length then 8 else if pkL m.fresh [] m.buf≠0 then pkL m.fresh [] m.buf else if Al m=false then 23 else if gapB m=false then 14 else 0
def rstE (n:Nw) (m:Ms):Int:=
 if m.buf.length≠n.cells.length then 10
 else if ¬ (0<=m.phase/\m.phase<=3)then 15
 else if rgB m=false then 2
 else if msB n m=false then 6
 else if fmB m=false then 3
 else if clB n m=false then 13
 else if stB n m=false then 22
 else pkE m
theorem xS {c:Prop} [Decidable c] {a b:Int} (ha:a≠0) (h:(if c then a else b)=0):¬ c/\b=0:=by
 by_cases hc:c
 . rw[if_pos hc]at h;exact absurd h ha
 . rw[if_neg hc]at h;exact⟨hc,h⟩
theorem C0 {a b:Int} (h:(if a≠0 then a else b)=0):a=0/\b=0:=by
 by_cases hc:a=0
 . rw[if_neg (by simp[hc])]at h;exact⟨hc,h⟩
 . rw[if_pos hc]at h;exact absurd h hc
theorem Ag {f:Int} {seen:List Int}:∀ (l:List Int) (p:Int),x6 f seen p l=0↔(∀ x∈l,(0<=x/\x < f)/\p < x/\x∉seen)/\l.Pairwise (· < ·)
 |[],p=>by simp[x6]
 | x :: l,p=>by
  rw[x6];constructor
  . intro h;obtain⟨h1,h⟩:=xS (by decide) h;obtain⟨h2,h⟩:=xS (by decide) h;obtain⟨h3,h⟩:=xS (by decide) h;obtain⟨g1,g2⟩:=(Ag l x).1 h;refine⟨fun y hy=>?_,yK.2 ⟨fun y hy=>(g1 y hy).2.1,g2⟩⟩;rcases zl.1 hy with rfl | hy
    . exact⟨by omega,by omega,h3⟩
    . have:=g1 y hy;exact⟨this.1,by omega,this.2.2⟩
  . rintro⟨h1,h2⟩
    obtain⟨q1,q2,q3⟩:=h1 x (by simp);rw[yK]at h2;rw[if_neg (fun q=>q q1),if_neg (by omega),if_neg q3];exact (Ag l x).2 ⟨fun y hy=>⟨(h1 y (by simp[hy])).1,h2.1 y hy,(h1 y (by simp[hy])).2.2⟩,h2.2⟩
theorem Ba {f:Int}:∀ (bs:List (List Int)) (seen:List Int),pkL f seen bs=0↔(∀ x∈bs.flatten,(0<=x/\x < f)/\x∉seen)/\(∀ b∈bs,b.Pairwise (· < ·))/\bs.flatten.Nodup
 |[],seen=>by simp[pkL]
 | b :: bs,seen=>by
  rw[pkL];constructor
  . intro h;obtain⟨h1,h⟩:=C0 h;obtain⟨g1,g2⟩:=(Ag b _).1 h1;obtain⟨k1,k2,k3⟩:=(Ba bs _).1 h;refine⟨fun x hx=>?_,fun c hc=>?_,?_⟩
    . rw[List.flatten_cons,zW]at hx;rcases hx with hx | hx
      . exact⟨(g1 x hx).1,(g1 x hx).2.2⟩
      . exact⟨(k1 x hx).1,fun q=>(k1 x hx).2 (List.mem_append_left _ q)⟩
    . rcases zl.1 hc with rfl | hc
      . exact g2
      . exact k2 c hc
    . rw[List.flatten_cons,List.nodup_append];exact⟨r9 g2,k3,fun x hx y hy e=>(k1 y hy).2 (List.mem_append_right _ (e ▸ hx))⟩
  . rintro⟨h1,h2,h3⟩
    rw[List.flatten_cons,List.nodup_append]at h3
    have e:x6 f seen (-1) b=0:=(Ag b _).2 ⟨fun x hx=>by
     have:=h1 x (by rw[List.flatten_cons];exact List.mem_append_left _ hx)
     exact⟨this.1,by omega,this.2⟩,h2 b (by simp)⟩
    rw[if_neg (by simp[e])];refine (Ba bs _).2 ⟨fun x hx=>?_,fun c hc=>h2 c (by simp[hc]),h3.2.1⟩;have:=h1 x (by rw[List.flatten_cons];exact List.mem_append_right _ hx);refine⟨this.1,fun q=>?_⟩;rcases zW.1 q with q | q
    . exact this.2 q
    . exact h3.2.2 x q x hx rfl
theorem B9 {l:List Int}:∀ (k:Nat) (a:Int),Av l k a=true↔∀ x,a<=x->x < a+k->x∈l
 | 0,a=>by simp[Av];intro x h1 h2;omega
 | k+1,a=>by
  rw[Av,zm,B9 k,decide_eq_true_eq];constructor
  . rintro⟨h1,h2⟩ x q1 q2
    rcases Int.lt_or_eq_of_le q1 with q | q
    . exact h2 x (by omega) (by push_cast at q2;omega)
    . exact q ▸ h1
  . exact fun h=>⟨h a (Int.le_refl _) (by push_cast;omega),fun x q1 q2=>h x (by omega) (by push_cast;omega)⟩
theorem Dx {m:Ms}:Al m=true↔∀ i:Nat,m.buf.getD i []≠[]->(i:Int)=m.serving\/(i:Int)=m.source\/(ej m=true/\(i:Int)=m.target):=by
 rw[Al,zx];constructor
 . intro h i hi;have hl:i < m.buf.length:=by
    rcases yu i m.buf.length with q | q
    . exact q
    . rw[zb,List.getElem?_eq_none q]at hi;exact absurd rfl hi
   have:=h i (zE.2 hl);simp only[x7,zV,zm,decide_eq_true_eq,List.isEmpty_iff]at this;rcases this with ((q | q) | q) | q
   . exact absurd q hi
   . exact .inl q
   . exact .inr (.inl q)
   . exact .inr (.inr q)
 . intro h i _;simp only[x7,zV,zm,decide_eq_true_eq,List.isEmpty_iff];rcases Classical.em (m.buf.getD i []=[])with q | q
   . exact .inl (.inl (.inl q))
   . rcases h i q with q | q | q
     . exact .inl (.inl (.inr q))
     . exact .inl (.inr q)
     . exact .inr q
theorem Cl {n:Nw} {m:Ms} (h:rstE n m=0):dP n m:=by
 unfold rstE at h;obtain⟨h1,h⟩:=xS (by decide) h;obtain⟨h2,h⟩:=xS (by decide) h;obtain⟨h3,h⟩:=xS (by decide) h;obtain⟨h4,h⟩:=xS (by decide) h;obtain⟨h5,h⟩:=xS (by decide) h;obtain⟨h6,h⟩:=xS (by decide) h;obtain⟨h7,h⟩:=xS (by decide) h;unfold pkE at h;obtain⟨h8,h⟩:=xS (by decide) h;obtain⟨h9,h⟩:=C0 h;obtain⟨h10,h⟩:=xS (by decide) h;obtain⟨h11,h⟩:=xS (by decide) h;clear h;obtain⟨p1,p2,p3⟩:=(Ba _ _).1 h9;have h1':m.buf.length=n.cells.length:=Classical.not_not.1 h1;have h2':0<=m.phase/\m.phase<=3:=Classical.not_not.1 h2;replace h3:rgB m=true:=by simpa using h3
 simp only[rgB,zm,decide_eq_true_eq]at h3;replace h4:msB n m=true:=by simpa using h4
 simp only[msB,zm,zV,decide_eq_true_eq]at h4;replace h5:fmB m=true:=by simpa using h5
 simp only[fmB,bsyB,yC,zm,zV,Bool.and_eq_false_iff,Bool.or_eq_false_iff,Bool.not_eq_false',decide_eq_true_eq,decide_eq_false_iff_not]at h5;replace h6:clB n m=true:=by simpa using h6
 simp only[clB,zm,zV,decide_eq_true_eq]at h6;replace h7:stB n m=true:=by simpa using h7
 simp only[stB,yC,zm,Bool.and_eq_false_iff,Bool.not_eq_false',decide_eq_true_eq,decide_eq_false_iff_not,List.isEmpty_eq_false_iff]at h7;have h10':=Dx.1 (by simpa using h10);have h11':gapB m=true:=by simpa using h11
 simp only[gapB,zm,decide_eq_true_eq,B9]at h11';obtain⟨⟨⟨a1,a2⟩,a3⟩,a4⟩:=h3;obtain⟨⟨⟨b1,b2⟩,b3⟩,b4⟩:=h4;obtain⟨⟨⟨c1,c2⟩,c3⟩,c4⟩:=h5;refine⟨⟨h1',h2',a1,a2,a3,a4,b1,b2,fun q=>?_,fun q=>?_,fun q=>?_,fun q=>?_,fun q=>?_,fun q=>?_,fun q=>?_,fun q=>?_,fun q=>?_,by omega,fun x hx=>(p1 x hx).1,p2,p3,h10',fun x q1 q2=>h11'.2 x q1 (by omega)⟩,fun q1 q2=>?_⟩
 . rcases b3 with r | r
   . exact absurd r q
   . exact r
 . rcases b4 with r | r
   . exact absurd r q
   . exact r
 . rcases c1 with r | r
   . exact absurd r q
   . exact r
 . rcases c2 with r | r
   . exact absurd q r
   . exact r
 . rcases c3 with r | r
   . exact absurd r q
   . exact⟨r.1.1,r.1.2,r.2⟩
 . rcases c4 with r | r
   . exact absurd r q
   . exact r
 . rcases h6.1 with r | r
   . exact absurd r q
   . exact r
 . rcases h6.2 with r | r
   . exact absurd r q
   . exact r
 . rcases h7.1 with r | r
   . rw[q]at r;cases r
   . omega
 . rcases h7.2 with (r | r) | r
   . exact absurd r q1
   . exact absurd q2 r
   . exact r
theorem Cs {α:Type} (d:α) {l:List α} {i:Nat} (h:i < l.length):l.take (i+1)=l.take i++[l.getD i d]:=by
 rw[yI h,zb,ze h];rfl
theorem CX {bs:List (List Int)} {i:Nat} (h:i < bs.length):(bs.take (i+1)).flatten=(bs.take i).flatten++bs.getD i []:=by
 rw[Cs [] h,List.flatten_append,List.flatten_cons,List.flatten_nil,z4]
theorem CN {f:Int} {seen:List Int} {p:Int} {l:List Int} {k:Nat} (h:k < l.length):x6 f seen p (l.drop k)=if ¬ (0<=l.getD k 0/\l.getD k 0 < f)then 2 else if l.getD k 0<=p then 9 else if l.getD k 0∈seen then 26 else x6 f seen (l.getD k 0) (l.drop (k+1)):=by
 rw[eg 0 h,x6]
structure MsB (m:Ms):Prop where
 l:m.buf.length<=1000000
 r:∀ x∈m.buf,x.length<=1000
 i:∀ x∈m.buf.flatten,InR .i64 x
def msD (m:Ms):List C:=[.s (.int .i64 m.at_),.s (.int .i64 m.phase),.s (.int .i64 m.since),.s (.int .i64 m.serving),.s (.int .i64 m.target),.s (.int .i64 m.source),.s (.int .i64 m.path),.s (.int .i64 m.fresh),.s (.int .i64 m.got),.sl 1 (m.buf.map Dat.cells)]
theorem Cv : ∀ (bs:List (List Int)) (k:Nat),(∀ x∈bs,x.length<=k)->bs.flatten.length<=bs.length*k
 |[],k,h=>by simp
 | b :: bs,k,h=>by
  have h1:=Cv bs k (fun x hx=>h x (by simp[hx]));have h2:=h b (by simp);rw[List.flatten_cons,zK,zQ,zP];omega
theorem Bb : ∀ (l:List (List Int)) (v:Int) (i:Nat),(0<=xF v i l)↔v∈l.flatten
 |[],v,i=>by simp[xF]
 | r :: l,v,i=>by
  rw[xF,List.flatten_cons,zW];by_cases h:(r.any fun x=>decide (x=v))=true
  . rw[if_pos h];simp only[List.any_eq_true,decide_eq_true_eq]at h;obtain⟨x,hx,rfl⟩:=h;exact⟨fun _=>.inl hx,fun _=>Int.natCast_nonneg _⟩
  . rw[if_neg h,Bb l v (i+1)];simp only[List.any_eq_true,decide_eq_true_eq]at h;exact⟨fun q=>.inr q,fun q=>q.resolve_left fun q=>h ⟨v,q,rfl⟩⟩
theorem where_k (m:Ms) (k v:Int) (h1:m.buf.length<=1000000) (h2:0<=k) (h3:k<=m.buf.length):FC Tryz.prog 117 [enc m,enc k,enc v] [] (enc (xF v 0 (m.buf.take k.toNat))) []:=by
 obtain⟨j,rfl⟩:=Int.eq_ofNat_of_zero_le h2;exact where_c m j v h1 (by omega)
def y8 : Ent Tryz.prog:=.of3 117 (fun (m:Ms) (k _:Int)=>m.buf.length<=1000000/\0<=k/\k<=m.buf.length) (fun (m:Ms) (k v:Int)=>enc (xF v 0 (m.buf.take k.toNat))) (fun _ _ _=>trivial) (fun m k v h=>where_k m k v h.1 h.2.1 h.2.2)
def chR (n:Nw) (m:Ms):Chs:=[(3,.box (msD m)),(2,.box [.sl 1 (n.cells.map Dat.cells),.sl 2 (n.nb.map Dat.cells),.s (.int .i64 n.limit)])]
theorem rst_5 (n:Nw) (m:Ms) (hm:MsB m) (hf:0<=m.fresh/\m.fresh<=1000000) (hg:0<=m.got/\m.got<=m.fresh) (cx:Cx) (E:Int) (hE:(if gapB m=false then 14 else 0)=E):SG Tryz.prog cx (cB [RV.tmp 4] [] (enc E) []) [It.c E4.c67k5.cut] ⟨[(3,.ptr 3 0)],chR n m⟩:=by
 have hml:=hm.l;have hdm:=Ae m;refine iw (dC [] 500 ?_);obtain⟨K,hK⟩:∃ K,(m.fresh - m.got).toNat=K:=⟨_,rfl⟩;unfold gapB at hE;rw[hK]at hE;by_cases h60:m.fresh - m.got<=60
 . have h60':¬ (m.fresh - m.got > 60):=by omega
   delta E4.c67k5 oO oN oM oS oK oF oL oV oI oX oB;simp (maxSteps:=9^7) -implicitDefEqProofs only[E4.rv67,chR,msD,h60',not_true_eq_false,not_false_eq_true,InR,WU,V,W3,↓reduceIte,seval,reduceCtorEq];refine⟨by omega,?_⟩;simp only[h60,decide_true,zY]at hE;refine eN K (fun i=>[(12,.s (.int .i64 (m.got+(i:Int))))]) (fun _=>[]) (fun i=>Av m.buf.flatten K m.got=Av m.buf.flatten (K - i) (m.got+i)) (by simp) ?_ (fun i hi hv=>dC [y8] 800 ?_)
   . simp (maxSteps:=9^7) -implicitDefEqProofs only[V,W3,↓reduceIte,seval,reduceCtorEq]
     all_goals simp
   . by_cases h:i < K
     . have hi2:m.got+(i:Int) < m.fresh:=by omega
       have hk1:K - i=(K - (i+1))+1:=by omega
       rw[hk1,Av]at hv;have hw:=Bb m.buf (m.got+(i:Int)) 0;have htk:m.buf.take m.buf.length=m.buf:=yo;have hle:=eq_true (Int.le_refl (m.buf.length:Int));have hl0:(0:Int)<=(m.buf.length:Int):=by omega
       by_cases hx:(m.got+(i:Int))∈m.buf.flatten
       . have hw2:¬ (xF (m.got+(i:Int)) 0 m.buf < 0):=by have:=hw.2 hx;omega
         simp only[hx,decide_true,zY]at hv;delta E4.c67l4 oO oN oM oR oS oK oF oL oV oC oI oX oB o4 o5;simp (maxSteps:=9^7) -implicitDefEqProofs only[E4.rv67,y8,kN,hdm,hi2,hml,htk,hl0,hle,hw2,not_true_eq_false,not_false_eq_true,InR,WU,Ent.of3,V,W3,↓reduceIte,seval,reduceCtorEq];exact⟨⟨by omega,by omega⟩,h,by rw[hv,show ((i+1:Nat):Int)=(i:Int)+1 by omega,<- Int.add_assoc],by omega⟩
       . have hw2:xF (m.got+(i:Int)) 0 m.buf < 0:=by
          have:¬ (0<=xF (m.got+(i:Int)) 0 m.buf):=fun q=>hx (hw.1 q)
          omega
         simp only[hx,decide_false,z7]at hv;rw[hv]at hE;subst hE;delta E4.c67l4 oO oN oM oR oS oK oF oL oV oC oI oX oB o4 o5;simp (maxSteps:=9^7) -implicitDefEqProofs only[E4.rv67,y8,kN,hdm,hi2,hml,htk,hl0,hle,hw2,not_true_eq_false,not_false_eq_true,InR,WU,Ent.of3,V,W3,↓reduceIte,seval,reduceCtorEq]
     . have hie:i=K:=by omega
       subst hie;have hi2:¬ m.got+(i:Int) < m.fresh:=by omega
       rw[show i - i=0 by omega,Av]at hv;rw[hv]at hE;subst hE;delta E4.c67l4 oO oN oM oR oS oK oF oL oV oC oI oX oB o4 o5;simp (maxSteps:=9^7) -implicitDefEqProofs only[E4.rv67,hi2,InR,WU,V,W3,↓reduceIte,seval,reduceCtorEq]
 . have h60':m.fresh - m.got > 60:=by omega
   simp only[h60,decide_false,z7]at hE;subst hE;delta E4.c67k5 oO oN oM oS oK oF oL oV oI oX oB;simp (maxSteps:=9^7) -implicitDefEqProofs only[E4.rv67,chR,msD,h60',not_true_eq_false,not_false_eq_true,InR,WU,V,W3,↓reduceIte,seval,reduceCtorEq];omega
theorem rst_6 (n:Nw) (m:Ms) (hm:MsB m) (hf:0<=m.fresh/\m.fresh<=1000000) (hg:0<=m.got/\m.got<=m.fresh) (cx:Cx) (E:Int) (tgw srw:Bool) (htg:tgw=!decide (m.target=-1)) (hsr:srw=!decide (m.source=-1)) (hE:(if Al m=false then 23 else if gapB m=false then 14 else 0)=E):SG Tryz.prog cx (cB [RV.tmp 4] [] (enc E) []) [It.c E4.c67k6.cut] ⟨[(3,.ptr 3 0),(5,.s (.bool tgw)),(6,.s (.bool srw))],chR n m⟩:=by
 have hml:=hm.l;have hdm:=Ae m;refine iw (dC [] 500 ?_);delta E4.c67k6 oS oK oV oX;simp (maxSteps:=9^7) -implicitDefEqProofs only[E4.rv67,chR,msD,InR,WU,V,W3,↓reduceIte,seval,reduceCtorEq];refine eN m.buf.length (fun i=>[(11,.s (.int .i64 (i:Int)))]) (fun _=>[]) (fun i=>∀ j,j < i->x7 m j=true) (fun j hj=>absurd hj (by omega)) ?_ (fun i hi hv=>dC [xu] 800 ?_)
 . simp (maxSteps:=9^7) -implicitDefEqProofs only[V,W3,↓reduceIte,seval,reduceCtorEq]
   all_goals simp
 . by_cases h:i < m.buf.length
   . have hi2:(i:Int) < (m.buf.length:Int):=by omega
     have hi0:(0:Int)<=i:=by omega
     have hgx:List.getD (m.buf.map Dat.cells) i [C.sl 0 []]=[C.sl 1 ((m.buf.getD i []).map Dat.cells)]:=by
      rw[zb,zb,zh,ze h];rfl
     have hopn:x7 m i=((m.buf.getD i []).isEmpty || decide ((i:Int)=m.serving) || decide ((i:Int)=m.source) || (ej m && decide ((i:Int)=m.target))):=rfl;have hnx:x7 m i=true->∀ j,j < i+1->x7 m j=true:=fun q j hj=>by
      rcases Nat.lt_or_eq_of_le (Nat.lt_succ_iff.1 hj)with q2 | q2
      . exact hv j q2
      . rw[q2];exact q
     have hbad:x7 m i=false->E=23:=fun q=>by
      have:Al m=false:=by
       cases h2:Al m with
       | false=>rfl
       | true=>
        rw[Al,zx]at h2;rw[h2 i (zE.2 h)]at q;cases q
      rw[this]at hE;exact hE.symm
     generalize m.buf.getD i []=q at *;have hc:(q=[]/\x7 m i=true)\/((0 < (q.length:Int))=True/\(((i:Int)=m.serving)=True/\x7 m i=true\/(((i:Int)=m.serving)=False/\((srw=true/\((i:Int)=m.source)=True/\x7 m i=true)\/(((srw=true/\((i:Int)=m.source)=False)\/srw=false)/\((tgw=false/\x7 m i=false)\/(tgw=true/\ej m=false/\x7 m i=false)\/(tgw=true/\ej m=true/\((i:Int)=m.target)=True/\x7 m i=true)\/(tgw=true/\ej m=true/\((i:Int)=m.target)=False/\x7 m i=false))))))):=by
      rw[hopn];cases q with
      | nil=>left;simp
      | cons a l=>
       right;refine⟨by simp,?_⟩;rcases Classical.propComplete ((i:Int)=m.serving)with g1 | g1
       . left;simp[g1]
       . right;refine⟨g1,?_⟩;have s1:srw=false->((i:Int)=m.source)=False:=fun q=>by
          rw[q]at hsr;have:m.source=-1:=by simpa using hsr
          exact eq_false (by omega)
         have s2:tgw=false->((i:Int)=m.target)=False:=fun q=>by
          rw[q]at htg;have:m.target=-1:=by simpa using htg
          exact eq_false (by omega)
         cases srw
         . right;refine⟨.inr rfl,?_⟩;have g2:=s1 rfl;cases tgw
           . left;simp[g1,g2,s2 rfl]
           . right;rcases Classical.propComplete ((i:Int)=m.target)with g3 | g3 <;> cases ej m <;> simp[g1,g2,g3]
         . rcases Classical.propComplete ((i:Int)=m.source)with g2 | g2
           . left;simp[g1,g2]
           . right;refine⟨.inl ⟨rfl,g2⟩,?_⟩;cases tgw
             . left;simp[g1,g2,s2 rfl]
             . right;rcases Classical.propComplete ((i:Int)=m.target)with g3 | g3 <;> cases ej m <;> simp[g1,g2,g3]
     clear hopn;rcases hc with⟨rfl,ho⟩ | ⟨a1,⟨a2,ho⟩ | ⟨a2,⟨rfl,a3,ho⟩ | ⟨⟨rfl,a3⟩ | rfl,⟨rfl,ho⟩ | ⟨rfl,a4,ho⟩ | ⟨rfl,a4,a5,ho⟩ | ⟨rfl,a4,a5,ho⟩⟩⟩⟩
     . delta E4.c67l3 oO oN oA oM oG oR oS oK oF oL oV oI oX oP oB oD oE oJ o0 o4;simp (maxSteps:=9^7) -implicitDefEqProofs only[E4.rv67,hi0,hi2,h,hgx,zR,InR,WU,V,W3,↓reduceIte,seval,reduceCtorEq];exact⟨⟨by omega,by omega⟩,hnx ho,by omega⟩
     . delta E4.c67l3 oO oN oA oM oG oR oS oK oF oL oV oI oX oP oB oD oE oJ o0 o4;simp (maxSteps:=9^7) -implicitDefEqProofs only[E4.rv67,xu,kN,hdm,hi0,hi2,h,hgx,zy,a1,a2,InR,WU,Ent.of1,V,W3,↓reduceIte,seval,reduceCtorEq];exact⟨⟨by omega,by omega⟩,hnx ho,by omega⟩
     . delta E4.c67l3 oO oN oA oM oG oR oS oK oF oL oV oI oX oP oB oD oE oJ o0 o4;simp (maxSteps:=9^7) -implicitDefEqProofs only[E4.rv67,xu,kN,hdm,hi0,hi2,h,hgx,zy,a1,a2,a3,InR,WU,Ent.of1,V,W3,↓reduceIte,seval,reduceCtorEq];exact⟨⟨by omega,by omega⟩,hnx ho,by omega⟩
     . delta E4.c67l3 oO oN oA oM oG oR oS oK oF oL oV oI oX oP oB oD oE oJ o0 o4;simp (maxSteps:=9^7) -implicitDefEqProofs only[E4.rv67,xu,kN,hdm,hi0,hi2,h,hgx,zy,a1,a2,a3,InR,WU,Ent.of1,V,W3,↓reduceIte,seval,reduceCtorEq];exact (hbad ho).symm
     . delta E4.c67l3 oO oN oA oM oG oR oS oK oF oL oV oI oX oP oB oD oE oJ o0 o4;simp (maxSteps:=9^7) -implicitDefEqProofs only[E4.rv67,xu,kN,hdm,hi0,hi2,h,hgx,zy,a1,a2,a3,a4,InR,WU,Ent.of1,V,W3,↓reduceIte,seval,reduceCtorEq];exact (hbad ho).symm
     . delta E4.c67l3 oO oN oA oM oG oR oS oK oF oL oV oI oX oP oB oD oE oJ o0 o4;simp (maxSteps:=9^7) -implicitDefEqProofs only[E4.rv67,xu,kN,hdm,hi0,hi2,h,hgx,zy,a1,a2,a3,a4,a5,InR,WU,Ent.of1,V,W3,↓reduceIte,seval,reduceCtorEq];exact⟨⟨by omega,by omega⟩,hnx ho,by omega⟩
     . delta E4.c67l3 oO oN oA oM oG oR oS oK oF oL oV oI oX oP oB oD oE oJ o0 o4;simp (maxSteps:=9^7) -implicitDefEqProofs only[E4.rv67,xu,kN,hdm,hi0,hi2,h,hgx,zy,a1,a2,a3,a4,a5,InR,WU,Ent.of1,V,W3,↓reduceIte,seval,reduceCtorEq];exact (hbad ho).symm
     . delta E4.c67l3 oO oN oA oM oG oR oS oK oF oL oV oI oX oP oB oD oE oJ o0 o4;simp (maxSteps:=9^7) -implicitDefEqProofs only[E4.rv67,xu,kN,hdm,hi0,hi2,h,hgx,zy,a1,a2,InR,WU,Ent.of1,V,W3,↓reduceIte,seval,reduceCtorEq];exact (hbad ho).symm
     . delta E4.c67l3 oO oN oA oM oG oR oS oK oF oL oV oI oX oP oB oD oE oJ o0 o4;simp (maxSteps:=9^7) -implicitDefEqProofs only[E4.rv67,xu,kN,hdm,hi0,hi2,h,hgx,zy,a1,a2,a4,InR,WU,Ent.of1,V,W3,↓reduceIte,seval,reduceCtorEq];exact (hbad ho).symm
     . delta E4.c67l3 oO oN oA oM oG oR oS oK oF oL oV oI oX oP oB oD oE oJ o0 o4;simp (maxSteps:=9^7) -implicitDefEqProofs only[E4.rv67,xu,kN,hdm,hi0,hi2,h,hgx,zy,a1,a2,a4,a5,InR,WU,Ent.of1,V,W3,↓reduceIte,seval,reduceCtorEq];exact⟨⟨by omega,by omega⟩,hnx ho,by omega⟩
     . delta E4.c67l3 oO oN oA oM oG oR oS oK oF oL oV oI oX oP oB oD oE oJ o0 o4;simp (maxSteps:=9^7) -implicitDefEqProofs only[E4.rv67,xu,kN,hdm,hi0,hi2,h,hgx,zy,a1,a2,a4,a5,InR,WU,Ent.of1,V,W3,↓reduceIte,seval,reduceCtorEq];exact (hbad ho).symm
   . have hi2:¬ (i:Int) < (m.buf.length:Int):=by omega
     have hop:Al m=true:=by
      rw[Al,zx];exact fun j hj=>hv j (by have:=zE.1 hj;omega)
     rw[hop]at hE;delta E4.c67l3 oO oN oA oM oG oR oS oK oF oL oV oI oX oP oB oD oE oJ o0 o4;simp (maxSteps:=9^7) -implicitDefEqProofs only[E4.rv67,hi2,InR,WU,V,W3,↓reduceIte,seval,reduceCtorEq];exact rst_5 n m hm hf hg cx E hE
theorem rst_7 (n:Nw) (m:Ms) (hm:MsB m) (hf:0<=m.fresh/\m.fresh<=1000000) (hg:0<=m.got/\m.got<=m.fresh) (cx:Cx) (E:Int) (tgw srw:Bool) (htg:tgw=!decide (m.target=-1)) (hsr:srw=!decide (m.source=-1)) (hE:(if pkL m.fresh [] m.buf≠0 then pkL m.fresh [] m.buf else if Al m=false then 23 else if gapB m=false then 14 else 0)=E):SG Tryz.prog cx (cB [RV.tmp 4] [] (enc E) []) [It.c E4.c67k7.cut] ⟨[(3,.ptr 3 0),(5,.s (.bool tgw)),(6,.s (.bool srw))],chR n m⟩:=by
 have hml:=hm.l;have hdm:=Ae m;refine iw (dC [] 500 ?_);delta E4.c67k7 oS oK oV oX;simp (maxSteps:=9^7) -implicitDefEqProofs only[E4.rv67,chR,msD,InR,WU,V,W3,↓reduceIte,seval,reduceCtorEq];refine eN m.buf.length (fun i=>[(8,.s (.int .i64 (i:Int)))]) (fun _=>[]) (fun i=>pkL m.fresh [] m.buf=pkL m.fresh (m.buf.take i).flatten (m.buf.drop i)) rfl ?_ (fun i hi hv=>dC [] 800 ?_)
 . simp (maxSteps:=9^7) -implicitDefEqProofs only[V,W3,↓reduceIte,seval,reduceCtorEq]
   all_goals simp
 . by_cases h:i < m.buf.length
   . have hi2:(i:Int) < (m.buf.length:Int):=by omega
     have hi0:(0:Int)<=i:=by omega
     have hile:=eq_true (show (i:Int)<=(m.buf.length:Int) by omega);have hgx:List.getD (m.buf.map Dat.cells) i [C.sl 0 []]=[C.sl 1 ((m.buf.getD i []).map Dat.cells)]:=by
      rw[zb,zb,zh,ze h];rfl
     have hfs:=CX h;rw[eg [] h,pkL]at hv;rw[<- hfs]at hv;have hll:(m.buf.getD i []).length<=1000:=by
      rw[zb,ze h];exact hm.r _ (yy h)
     have hwh:=fun v=>Bb (m.buf.take i) v 0
     generalize m.buf.getD i []=l at *;delta E4.c67l2 oO oN oA oM oR oS oK oF oL oV oX oB o0 o4;simp (maxSteps:=9^7) -implicitDefEqProofs only[E4.rv67,hi0,hi2,h,hgx,zy,InR,WU,V,W3,↓reduceIte,seval,reduceCtorEq];generalize hS:(m.buf.take i).flatten=seen at *;refine eN l.length (fun k=>[(10,.s (.int .i64 (k:Int)))]) (fun _=>[]) (fun k=>x6 m.fresh seen (-1) l=x6 m.fresh seen (if k=0 then -1 else l.getD (k - 1) 0) (l.drop k)) rfl ?_ (fun k hk hw=>dC [oa,y8] 800 ?_)
     . simp (maxSteps:=9^7) -implicitDefEqProofs only[V,W3,↓reduceIte,seval,reduceCtorEq]
       all_goals simp
     . by_cases hkl:k < l.length
       . have hk2:(k:Int) < (l.length:Int):=by omega
         have hk0:(0:Int)<=k:=by omega
         rw[CN hkl]at hw;obtain⟨u,hu⟩:∃ u,l.getD k 0=u:=⟨_,rfl⟩;rw[hu]at hw;have hgl:List.getD (l.map Dat.cells) k [C.s (.int .i64 0)]=[C.s (.int .i64 u)]:=by
          rw[zb,zh,ze hkl,<- hu,zb,ze hkl];rfl
         have hgp:∀ j,j < l.length->List.getD (l.map Dat.cells) j [C.s (.int .i64 0)]=[C.s (.int .i64 (l.getD j 0))]:=fun j hj=>by
          rw[zb,zh,ze hj,zb,ze hj];rfl
         by_cases hr:0<=u/\u < m.fresh
         rotate_left
         . rw[if_pos hr]at hw;rw[hw,if_pos (by decide)]at hv;rw[hv,if_pos (by decide)]at hE;subst hE;have hwi:=eq_false (show ¬ (0<=u/\u<=m.fresh - 1) by omega);delta E4.c67l1 oO oN oA oM oT oG oR oQ oS oK oF oL oV oI oX oB oD oJ o1 o4 o5;simp (maxSteps:=9^7) -implicitDefEqProofs only[E4.rv67,oa,hwi,h,hi0,hi2,hk0,hk2,hkl,hgl,hgx,zy,InR,not_true_eq_false,not_false_eq_true,WU,Ent.of3,V,W3,↓reduceIte,seval,reduceCtorEq];omega
         rw[if_neg (fun q=>q hr)]at hw;have hwi:=eq_true (show (0<=u/\u<=m.fresh - 1) by omega);by_cases ho:u<=(if k=0 then -1 else l.getD (k - 1) 0)
         . have hk00:¬ k=0:=fun q=>by
            rw[if_pos q]at ho;omega
           rw[if_pos ho]at hw;rw[hw,if_pos (by decide)]at hv;rw[hv,if_pos (by decide)]at hE;subst hE;rw[if_neg hk00]at ho;have hgt:=eq_true ho;have hkI:=eq_true (show (0:Int) < (k:Int) by omega);have e1:(k:Int) - 1=((k - 1:Nat):Int):=by omega
           have e2:(0:Int)<=((k - 1:Nat):Int):=by omega
           have e3:((k - 1:Nat):Int) < (l.length:Int):=by omega
           have e4:k - 1 < l.length:=by omega
           have hgl1:=hgp (k - 1) e4;delta E4.c67l1 oO oN oA oM oT oG oR oQ oS oK oF oL oV oI oX oB oD oJ o1 o4 o5;simp (maxSteps:=9^7) -implicitDefEqProofs only[E4.rv67,oa,hwi,hgt,hkI,e1,e2,e3,e4,hgl1,h,hi0,hi2,hk0,hk2,hkl,hgl,hgx,zy,InR,not_true_eq_false,not_false_eq_true,WU,Ent.of3,V,W3,↓reduceIte,seval,reduceCtorEq];exact⟨by omega,by omega⟩
         rw[if_neg ho]at hw;have hord:k=0\/(¬ k=0/\(u<=l.getD (k - 1) 0)=False):=by
          by_cases q:k=0
          . exact .inl q
          . rw[if_neg q]at ho;exact .inr ⟨q,eq_false ho⟩
         by_cases hsn:u∈seen
         . rw[if_pos hsn]at hw;rw[hw,if_pos (by decide)]at hv;rw[hv,if_pos (by decide)]at hE;subst hE;have hwn:=eq_true ((hwh u).2 hsn);rcases hord with hk00 | ⟨hk00,hgt⟩
           . have hkI:=eq_false (show ¬ (0:Int) < (k:Int) by omega);delta E4.c67l1 oO oN oA oM oT oG oR oQ oS oK oF oL oV oI oX oB oD oJ o1 o4 o5;simp (maxSteps:=9^7) -implicitDefEqProofs only[E4.rv67,oa,y8,kN,hdm,hml,hile,hwi,hkI,hwn,h,hi0,hi2,hk0,hk2,hkl,hgl,hgx,zy,InR,not_true_eq_false,not_false_eq_true,WU,Ent.of3,V,W3,↓reduceIte,seval,reduceCtorEq];omega
           . have hkI:=eq_true (show (0:Int) < (k:Int) by omega);have e1:(k:Int) - 1=((k - 1:Nat):Int):=by omega
             have e2:(0:Int)<=((k - 1:Nat):Int):=by omega
             have e3:((k - 1:Nat):Int) < (l.length:Int):=by omega
             have e4:k - 1 < l.length:=by omega
             have hgl1:=hgp (k - 1) e4;delta E4.c67l1 oO oN oA oM oT oG oR oQ oS oK oF oL oV oI oX oB oD oJ o1 o4 o5;simp (maxSteps:=9^7) -implicitDefEqProofs only[E4.rv67,oa,y8,kN,hdm,hml,hile,hwi,hkI,hwn,hgt,e1,e2,e3,e4,hgl1,h,hi0,hi2,hk0,hk2,hkl,hgl,hgx,zy,InR,not_true_eq_false,not_false_eq_true,WU,Ent.of3,V,W3,↓reduceIte,seval,reduceCtorEq];exact⟨by omega,by omega⟩
         . rw[if_neg hsn]at hw;have hwn:=eq_false (fun q=>hsn ((hwh u).1 q));have hnx:x6 m.fresh seen (-1) l=x6 m.fresh seen (if k+1=0 then -1 else l.getD (k+1 - 1) 0) (l.drop (k+1)):=by
            rw[if_neg (by omega),Nat.add_sub_cancel,hu];exact hw
           rcases hord with hk00 | ⟨hk00,hgt⟩
           . have hkI:=eq_false (show ¬ (0:Int) < (k:Int) by omega);delta E4.c67l1 oO oN oA oM oT oG oR oQ oS oK oF oL oV oI oX oB oD oJ o1 o4 o5;simp (maxSteps:=9^7) -implicitDefEqProofs only[E4.rv67,oa,y8,kN,hdm,hml,hile,hwi,hkI,hwn,h,hi0,hi2,hk0,hk2,hkl,hgl,hgx,zy,InR,not_true_eq_false,not_false_eq_true,WU,Ent.of3,V,W3,↓reduceIte,seval,reduceCtorEq];exact⟨by omega,by omega,hu ▸ hw,by omega⟩
           . have hkI:=eq_true (show (0:Int) < (k:Int) by omega);have e1:(k:Int) - 1=((k - 1:Nat):Int):=by omega
             have e2:(0:Int)<=((k - 1:Nat):Int):=by omega
             have e3:((k - 1:Nat):Int) < (l.length:Int):=by omega
             have e4:k - 1 < l.length:=by omega
             have hgl1:=hgp (k - 1) e4;delta E4.c67l1 oO oN oA oM oT oG oR oQ oS oK oF oL oV oI oX oB oD oJ o1 o4 o5;simp (maxSteps:=9^7) -implicitDefEqProofs only[E4.rv67,oa,y8,kN,hdm,hml,hile,hwi,hkI,hwn,hgt,e1,e2,e3,e4,hgl1,h,hi0,hi2,hk0,hk2,hkl,hgl,hgx,zy,InR,not_true_eq_false,not_false_eq_true,WU,Ent.of3,V,W3,↓reduceIte,seval,reduceCtorEq];exact⟨by omega,by omega,by omega,hu ▸ hw,by omega⟩
       . have hke:k=l.length:=by omega
         subst hke;have hk2:¬ ((l.length:Nat):Int) < (l.length:Int):=by omega
         rw[List.drop_length,x6]at hw;rw[hw,if_neg (fun q=>q rfl)]at hv;delta E4.c67l1 oO oN oA oM oT oG oR oQ oS oK oF oL oV oI oX oB oD oJ o1 o4 o5;simp (maxSteps:=9^7) -implicitDefEqProofs only[E4.rv67,hk2,InR,WU,V,W3,↓reduceIte,seval,reduceCtorEq];exact⟨by omega,h,hv,by omega⟩
   . have hi2:¬ (i:Int) < (m.buf.length:Int):=by omega
     have hie:i=m.buf.length:=by omega
     rw[hie,List.drop_length,pkL]at hv;rw[hv,if_neg (fun q=>q rfl)]at hE;delta E4.c67l2 oO oN oA oM oR oS oK oF oL oV oX oB o0 o4;simp (maxSteps:=9^7) -implicitDefEqProofs only[E4.rv67,hi2,InR,WU,V,W3,↓reduceIte,seval,reduceCtorEq];exact rst_6 n m hm hf hg cx E tgw srw htg hsr hE
theorem rst_8 (n:Nw) (m:Ms) (hm:MsB m) (hf:0<=m.fresh/\m.fresh<=1000000) (hg:0<=m.got/\m.got<=m.fresh) (hp:fj m.buf<=1000000000) (cx:Cx) (E:Int) (tgw srw:Bool) (htg:tgw=!decide (m.target=-1)) (hsr:srw=!decide (m.source=-1)) (hE:pkE m=E):SG Tryz.prog cx (cB [RV.tmp 4] [] (enc E) []) [It.c E4.c67k8.cut] ⟨[(3,.ptr 3 0),(5,.s (.bool tgw)),(6,.s (.bool srw))],chR n m⟩:=by
 have hml:=hm.l;have hdm:=Ae m;unfold pkE at hE;have hpk:=nr m.buf;refine iw (dC [B6] 500 ?_);by_cases h60:60 < m.buf.flatten.length
 . rw[if_pos h60]at hE;subst hE;have h60':=eq_true (show fj m.buf > 60 by omega);delta E4.c67k8 oO oN oS oK oV oC oI oX oB o5;simp (maxSteps:=9^7) -implicitDefEqProofs only[E4.rv67,B6,kN,hdm,hml,hp,chR,msD,h60',not_true_eq_false,not_false_eq_true,WU,Ent.of1,V,W3,↓reduceIte,seval,reduceCtorEq]
 . rw[if_neg h60]at hE;have h60':=eq_false (show ¬ fj m.buf > 60 by omega);delta E4.c67k8 oO oN oS oK oV oC oI oX oB o5;simp (maxSteps:=9^7) -implicitDefEqProofs only[E4.rv67,B6,kN,hdm,hml,hp,chR,msD,h60',not_true_eq_false,not_false_eq_true,WU,Ent.of1,V,W3,↓reduceIte,seval,reduceCtorEq];exact rst_7 n m hm hf hg cx E tgw srw htg hsr hE
theorem rst_9 (n:Nw) (m:Ms) (hm:MsB m) (net:NetOk n) (hlen:m.buf.length=n.cells.length) (q2:rgB m=true) (q3:msB n m=true) (cx:Cx) (E:Int) (tgw srw:Bool) (htg:tgw=!decide (m.target=-1)) (hsr:srw=!decide (m.source=-1)) (hE:(if stB n m=false then 22 else pkE m)=E):SG Tryz.prog cx (cB [RV.tmp 4] [] (enc E) []) [It.c E4.c67k9.cut] ⟨[(2,.ptr 2 0),(3,.ptr 3 0),(5,.s (.bool tgw)),(6,.s (.bool srw))],chR n m⟩:=by
 have hml:=hm.l;have hdm:=Ae m;have q2':=q2;simp only[rgB,zm,decide_eq_true_eq]at q2';obtain⟨⟨⟨r1,r2⟩,r3⟩,r4⟩:=q2';have hlim:=net.lim;have hI:(-9223372036854775808<=m.since+n.limit/\m.since+n.limit<=9223372036854775807):=by omega
 simp only[msB,zm,zV,decide_eq_true_eq]at q3;have hso:srw=true->0<=m.source/\m.source < (m.buf.length:Int)/\m.source.toNat < m.buf.length:=fun h=>by
  rcases q3.2 with h2 | h2
  . rw[h2]at hsr;rw[hsr]at h;cases h
  . have:=fS h2;rw[hlen];omega
 have hpk:fj m.buf<=1000000000:=by
  rw[nr];have h1:=Cv m.buf 1000 hm.r;have h2:=net.len;have:m.buf.length*1000<=6*1000:=zB _ (by omega);omega
 have hgo:=rst_8 n m hm r3 r4 hpk cx E tgw srw htg hsr;have hst:stB n m=(!(ej m && decide (m.since+n.limit<=m.at_)) && !(srw && decide (m.path=m.serving) && (dQ m m.source).isEmpty)):=by rw[hsr];rfl
 refine iw (dC [xu] 500 ?_);have hc:(ej m=true/\(m.since+n.limit<=m.at_)=True/\stB n m=false)\/((ej m=false\/(ej m=true/\(m.since+n.limit<=m.at_)=False))/\stB n m=!(srw && decide (m.path=m.serving) && (dQ m m.source).isEmpty)):=by
  rw[hst];cases ej m <;> rcases Classical.propComplete (m.since+n.limit<=m.at_)with h | h <;> simp[h]
 rcases hc with⟨a1,a2,a3⟩ | ⟨a0,a3⟩
 . rw[if_pos a3]at hE;subst hE;delta E4.c67k9 oO oN oM oG oS oK oV oC oI oX oP oH oD oE oJ o0 o5;simp (maxSteps:=9^7) -implicitDefEqProofs only[E4.rv67,xu,kN,hdm,hI,chR,msD,a1,a2,InR,not_true_eq_false,not_false_eq_true,WU,Ent.of1,V,W3,↓reduceIte,seval,reduceCtorEq]
 . cases hs:srw
   . subst hs;have h1:stB n m=true:=by rw[a3];rfl
     rw[if_neg (by simp[h1])]at hE;rcases a0 with a1 | ⟨a1,a2⟩
     . delta E4.c67k9 oO oN oM oG oS oK oV oC oI oX oP oH oD oE oJ o0 o5;simp (maxSteps:=9^7) -implicitDefEqProofs only[E4.rv67,xu,kN,hdm,hI,chR,msD,a1,InR,not_true_eq_false,not_false_eq_true,WU,Ent.of1,V,W3,↓reduceIte,seval,reduceCtorEq];exact hgo hE
     . delta E4.c67k9 oO oN oM oG oS oK oV oC oI oX oP oH oD oE oJ o0 o5;simp (maxSteps:=9^7) -implicitDefEqProofs only[E4.rv67,xu,kN,hdm,hI,chR,msD,a1,a2,InR,not_true_eq_false,not_false_eq_true,WU,Ent.of1,V,W3,↓reduceIte,seval,reduceCtorEq];exact hgo hE
   . subst hs;obtain⟨i0,i2,i3⟩:=hso rfl;have hgx:List.getD (m.buf.map Dat.cells) m.source.toNat [C.sl 0 []]=[C.sl 1 ((dQ m m.source).map Dat.cells)]:=by
      rw[dQ,zb,zb,zh,ze i3];rfl
     have hb:(((dQ m m.source).length:Int)=0)=((dQ m m.source).isEmpty=true):=by
      cases dQ m m.source <;> simp <;> omega
     have hc2:((dQ m m.source).isEmpty=false/\stB n m=true)\/((dQ m m.source).isEmpty=true/\(m.path=m.serving)=True/\stB n m=false)\/((dQ m m.source).isEmpty=true/\(m.path=m.serving)=False/\stB n m=true):=by
      rw[a3];cases (dQ m m.source).isEmpty <;> rcases Classical.propComplete (m.path=m.serving)with h | h <;> simp[h]
     clear hst a3;generalize dQ m m.source=B at *;rcases hc2 with⟨b1,b3⟩ | ⟨b1,b2,b3⟩ | ⟨b1,b2,b3⟩
     . rw[if_neg (by simp[b3])]at hE;rcases a0 with a1 | ⟨a1,a2⟩
       . delta E4.c67k9 oO oN oM oG oS oK oV oC oI oX oP oH oD oE oJ o0 o5;simp (maxSteps:=9^7) -implicitDefEqProofs only[E4.rv67,xu,kN,hdm,hI,chR,msD,a1,i0,i2,i3,hgx,hb,b1,zy,InR,not_true_eq_false,not_false_eq_true,WU,Ent.of1,V,W3,↓reduceIte,seval,reduceCtorEq];exact hgo hE
       . delta E4.c67k9 oO oN oM oG oS oK oV oC oI oX oP oH oD oE oJ o0 o5;simp (maxSteps:=9^7) -implicitDefEqProofs only[E4.rv67,xu,kN,hdm,hI,chR,msD,a1,a2,i0,i2,i3,hgx,hb,b1,zy,InR,not_true_eq_false,not_false_eq_true,WU,Ent.of1,V,W3,↓reduceIte,seval,reduceCtorEq];exact hgo hE
     . rw[if_pos b3]at hE;subst hE;rcases a0 with a1 | ⟨a1,a2⟩
       . delta E4.c67k9 oO oN oM oG oS oK oV oC oI oX oP oH oD oE oJ o0 o5;simp (maxSteps:=9^7) -implicitDefEqProofs only[E4.rv67,xu,kN,hdm,hI,chR,msD,a1,i0,i2,i3,hgx,hb,b1,b2,zy,InR,not_true_eq_false,not_false_eq_true,WU,Ent.of1,V,W3,↓reduceIte,seval,reduceCtorEq]
       . delta E4.c67k9 oO oN oM oG oS oK oV oC oI oX oP oH oD oE oJ o0 o5;simp (maxSteps:=9^7) -implicitDefEqProofs only[E4.rv67,xu,kN,hdm,hI,chR,msD,a1,a2,i0,i2,i3,hgx,hb,b1,b2,zy,InR,not_true_eq_false,not_false_eq_true,WU,Ent.of1,V,W3,↓reduceIte,seval,reduceCtorEq]
     . rw[if_neg (by simp[b3])]at hE;rcases a0 with a1 | ⟨a1,a2⟩
       . delta E4.c67k9 oO oN oM oG oS oK oV oC oI oX oP oH oD oE oJ o0 o5;simp (maxSteps:=9^7) -implicitDefEqProofs only[E4.rv67,xu,kN,hdm,hI,chR,msD,a1,i0,i2,i3,hgx,hb,b1,b2,zy,InR,not_true_eq_false,not_false_eq_true,WU,Ent.of1,V,W3,↓reduceIte,seval,reduceCtorEq];exact hgo hE
       . delta E4.c67k9 oO oN oM oG oS oK oV oC oI oX oP oH oD oE oJ o0 o5;simp (maxSteps:=9^7) -implicitDefEqProofs only[E4.rv67,xu,kN,hdm,hI,chR,msD,a1,a2,i0,i2,i3,hgx,hb,b1,b2,zy,InR,not_true_eq_false,not_false_eq_true,WU,Ent.of1,V,W3,↓reduceIte,seval,reduceCtorEq];exact hgo hE
theorem rst_10 (n:Nw) (m:Ms) (hn:NwS n) (hm:MsB m) (net:NetOk n) (hlen:m.buf.length=n.cells.length) (q2:rgB m=true) (q3:msB n m=true) (cx:Cx) (E:Int) (tgw srw:Bool) (htg:tgw=!decide (m.target=-1)) (hsr:srw=!decide (m.source=-1)) (hE:(if clB n m=false then 13 else if stB n m=false then 22 else pkE m)=E):SG Tryz.prog cx (cB [RV.tmp 4] [] (enc E) []) [It.c E4.c67k10.cut] ⟨[(2,.ptr 2 0),(3,.ptr 3 0),(5,.s (.bool tgw)),(6,.s (.bool srw))],chR n m⟩:=by
 have hdn:=gO n;have hgo:=rst_9 n m hm net hlen q2 q3 cx E tgw srw htg hsr;refine iw (dC [y7] 500 ?_);have hcl:clB n m=((!tgw || nbr n m.target m.serving) && (!srw || nbr n m.source m.serving)):=by rw[htg,hsr];simp[clB]
 have hc:(tgw=true/\nbr n m.target m.serving=false/\clB n m=false)\/((tgw=false\/(tgw=true/\nbr n m.target m.serving=true))/\((srw=false/\clB n m=true)\/(srw=true/\nbr n m.source m.serving=false/\clB n m=false)\/(srw=true/\nbr n m.source m.serving=true/\clB n m=true))):=by
  rw[hcl];cases tgw <;> cases srw <;> cases nbr n m.target m.serving <;> cases nbr n m.source m.serving <;> simp
 clear hcl;rcases hc with⟨rfl,a2,a3⟩ | ⟨rfl | ⟨rfl,a2⟩,⟨rfl,a3⟩ | ⟨rfl,a4,a3⟩ | ⟨rfl,a4,a3⟩⟩
 . rw[if_pos a3]at hE;subst hE;delta E4.c67k10 oO oM oG oS oK oV oI oX oP oH oD oE oJ;simp (maxSteps:=9^7) -implicitDefEqProofs only[E4.rv67,y7,ed,hdn,hn,chR,msD,a2,not_true_eq_false,not_false_eq_true,WU,Ent.of3,V,W3,↓reduceIte,seval,reduceCtorEq]
 . rw[if_neg (by simp[a3])]at hE;delta E4.c67k10 oO oM oG oS oK oV oI oX oP oH oD oE oJ;simp (maxSteps:=9^7) -implicitDefEqProofs only[E4.rv67,y7,ed,hdn,hn,chR,msD,not_true_eq_false,not_false_eq_true,WU,Ent.of3,V,W3,↓reduceIte,seval,reduceCtorEq];exact hgo hE
 . rw[if_pos a3]at hE;subst hE;delta E4.c67k10 oO oM oG oS oK oV oI oX oP oH oD oE oJ;simp (maxSteps:=9^7) -implicitDefEqProofs only[E4.rv67,y7,ed,hdn,hn,chR,msD,a4,not_true_eq_false,not_false_eq_true,WU,Ent.of3,V,W3,↓reduceIte,seval,reduceCtorEq]
 . rw[if_neg (by simp[a3])]at hE;delta E4.c67k10 oO oM oG oS oK oV oI oX oP oH oD oE oJ;simp (maxSteps:=9^7) -implicitDefEqProofs only[E4.rv67,y7,ed,hdn,hn,chR,msD,a4,not_true_eq_false,not_false_eq_true,WU,Ent.of3,V,W3,↓reduceIte,seval,reduceCtorEq];exact hgo hE
 . rw[if_neg (by simp[a3])]at hE;delta E4.c67k10 oO oM oG oS oK oV oI oX oP oH oD oE oJ;simp (maxSteps:=9^7) -implicitDefEqProofs only[E4.rv67,y7,ed,hdn,hn,chR,msD,a2,not_true_eq_false,not_false_eq_true,WU,Ent.of3,V,W3,↓reduceIte,seval,reduceCtorEq];exact hgo hE
 . rw[if_pos a3]at hE;subst hE;delta E4.c67k10 oO oM oG oS oK oV oI oX oP oH oD oE oJ;simp (maxSteps:=9^7) -implicitDefEqProofs only[E4.rv67,y7,ed,hdn,hn,chR,msD,a2,a4,not_true_eq_false,not_false_eq_true,WU,Ent.of3,V,W3,↓reduceIte,seval,reduceCtorEq]
 . rw[if_neg (by simp[a3])]at hE;delta E4.c67k10 oO oM oG oS oK oV oI oX oP oH oD oE oJ;simp (maxSteps:=9^7) -implicitDefEqProofs only[E4.rv67,y7,ed,hdn,hn,chR,msD,a2,a4,not_true_eq_false,not_false_eq_true,WU,Ent.of3,V,W3,↓reduceIte,seval,reduceCtorEq];exact hgo hE
theorem rst_11 (n:Nw) (m:Ms) (hn:NwS n) (hm:MsB m) (net:NetOk n) (hlen:m.buf.length=n.cells.length) (q2:rgB m=true) (q3:msB n m=true) (cx:Cx) (E:Int) (tgw srw:Bool) (htg:tgw=!decide (m.target=-1)) (hsr:srw=!decide (m.source=-1)) (hE:(if fmB m=false then 3 else if clB n m=false then 13 else if stB n m=false then 22 else pkE m)=E):SG Tryz.prog cx (cB [RV.tmp 4] [] (enc E) []) [It.c E4.c67k11.cut] ⟨[(2,.ptr 2 0),(3,.ptr 3 0),(5,.s (.bool tgw)),(6,.s (.bool srw))],chR n m⟩:=by
 have hgo:=rst_10 n m hn hm net hlen q2 q3 cx E tgw srw htg hsr;refine iw (dC [] 800 ?_);have hfm:fmB m=!((tgw && decide (m.phase=0)) || (!tgw && (decide (m.phase=1) || decide (m.phase=2))) || (srw && ((decide (m.phase=1) || decide (m.phase=2)) || tgw)) || (!decide (m.path=m.serving) && (!srw || !decide (m.path=m.source)))):=by
  rw[htg,hsr];simp[fmB,bsyB]
 have hc:(tgw=true/\(m.phase=0)=True/\(m.phase=1)=False/\(m.phase=2)=False/\fmB m=false)\/(tgw=true/\(m.phase=0)=False/\((m.phase=1)=True\/((m.phase=1)=False/\(m.phase=2)=True)\/((m.phase=1)=False/\(m.phase=2)=False))/\((srw=true/\fmB m=false)\/(srw=false/\(((m.path=m.serving)=True/\fmB m=true)\/((m.path=m.serving)=False/\fmB m=false)))))\/(tgw=false/\((((m.phase=1)=True\/((m.phase=1)=False/\(m.phase=2)=True))/\fmB m=false)\/((m.phase=1)=False/\(m.phase=2)=False/\((srw=true/\(((m.path=m.serving)=True/\fmB m=true)\/((m.path=m.serving)=False/\(m.path=m.source)=True/\fmB m=true)\/((m.path=m.serving)=False/\(m.path=m.source)=False/\fmB m=false)))\/(srw=false/\(((m.path=m.serving)=True/\fmB m=true)\/((m.path=m.serving)=False/\fmB m=false))))))):=by
  rw[hfm];by_cases h0:m.phase=0
  . rcases Classical.propComplete (m.path=m.serving)with s1 | s1 <;> rcases Classical.propComplete (m.path=m.source)with s2 | s2 <;> cases tgw <;> cases srw <;> simp[h0,s1,s2]
  . rcases Classical.propComplete (m.phase=1)with h1 | h1 <;> rcases Classical.propComplete (m.phase=2)with h2 | h2 <;> rcases Classical.propComplete (m.path=m.serving)with s1 | s1 <;> rcases Classical.propComplete (m.path=m.source)with s2 | s2 <;> cases tgw <;> cases srw <;> simp[h0,h1,h2,s1,s2]
 clear hfm;rcases hc with⟨rfl,p0,p1,p2,b⟩ | ⟨rfl,p0,p1 | ⟨p1,p2⟩ | ⟨p1,p2⟩,⟨rfl,b⟩ | ⟨rfl,⟨s1,b⟩ | ⟨s1,b⟩⟩⟩ | ⟨rfl,⟨p1 | ⟨p1,p2⟩,b⟩ | ⟨p1,p2,⟨rfl,⟨s1,b⟩ | ⟨s1,s2,b⟩ | ⟨s1,s2,b⟩⟩ | ⟨rfl,⟨s1,b⟩ | ⟨s1,b⟩⟩⟩⟩
 . simp only[b,if_true,if_false,ym]at hE;delta E4.c67k11 oO oN oM oG oS oK oF oL oV oI oX oP oH oB oD oE oJ;simp (maxSteps:=9^7) -implicitDefEqProofs only[E4.rv67,chR,msD,p0,p1,p2,not_true_eq_false,not_false_eq_true,WU,V,W3,↓reduceIte,seval,reduceCtorEq];exact hE
 . simp only[b,if_true,if_false,ym]at hE;delta E4.c67k11 oO oN oM oG oS oK oF oL oV oI oX oP oH oB oD oE oJ;simp (maxSteps:=9^7) -implicitDefEqProofs only[E4.rv67,chR,msD,p0,p1,not_true_eq_false,not_false_eq_true,WU,V,W3,↓reduceIte,seval,reduceCtorEq];exact hE
 . simp only[b,if_true,if_false,ym]at hE;delta E4.c67k11 oO oN oM oG oS oK oF oL oV oI oX oP oH oB oD oE oJ;simp (maxSteps:=9^7) -implicitDefEqProofs only[E4.rv67,chR,msD,p0,p1,s1,not_true_eq_false,not_false_eq_true,WU,V,W3,↓reduceIte,seval,reduceCtorEq];exact hgo hE
 . simp only[b,if_true,if_false,ym]at hE;delta E4.c67k11 oO oN oM oG oS oK oF oL oV oI oX oP oH oB oD oE oJ;simp (maxSteps:=9^7) -implicitDefEqProofs only[E4.rv67,chR,msD,p0,p1,s1,not_true_eq_false,not_false_eq_true,WU,V,W3,↓reduceIte,seval,reduceCtorEq];exact hE
 . simp only[b,if_true,if_false,ym]at hE;delta E4.c67k11 oO oN oM oG oS oK oF oL oV oI oX oP oH oB oD oE oJ;simp (maxSteps:=9^7) -implicitDefEqProofs only[E4.rv67,chR,msD,p0,p1,p2,not_true_eq_false,not_false_eq_true,WU,V,W3,↓reduceIte,seval,reduceCtorEq];exact hE
 . simp only[b,if_true,if_false,ym]at hE;delta E4.c67k11 oO oN oM oG oS oK oF oL oV oI oX oP oH oB oD oE oJ;simp (maxSteps:=9^7) -implicitDefEqProofs only[E4.rv67,chR,msD,p0,p1,p2,s1,not_true_eq_false,not_false_eq_true,WU,V,W3,↓reduceIte,seval,reduceCtorEq];exact hgo hE
 . simp only[b,if_true,if_false,ym]at hE;delta E4.c67k11 oO oN oM oG oS oK oF oL oV oI oX oP oH oB oD oE oJ;simp (maxSteps:=9^7) -implicitDefEqProofs only[E4.rv67,chR,msD,p0,p1,p2,s1,not_true_eq_false,not_false_eq_true,WU,V,W3,↓reduceIte,seval,reduceCtorEq];exact hE
 . simp only[b,if_true,if_false,ym]at hE;delta E4.c67k11 oO oN oM oG oS oK oF oL oV oI oX oP oH oB oD oE oJ;simp (maxSteps:=9^7) -implicitDefEqProofs only[E4.rv67,chR,msD,p0,p1,p2,not_true_eq_false,not_false_eq_true,WU,V,W3,↓reduceIte,seval,reduceCtorEq];exact hE
 . simp only[b,if_true,if_false,ym]at hE;delta E4.c67k11 oO oN oM oG oS oK oF oL oV oI oX oP oH oB oD oE oJ;simp (maxSteps:=9^7) -implicitDefEqProofs only[E4.rv67,chR,msD,p0,p1,p2,s1,not_true_eq_false,not_false_eq_true,WU,V,W3,↓reduceIte,seval,reduceCtorEq];exact hgo hE
 . simp only[b,if_true,if_false,ym]at hE;delta E4.c67k11 oO oN oM oG oS oK oF oL oV oI oX oP oH oB oD oE oJ;simp (maxSteps:=9^7) -implicitDefEqProofs only[E4.rv67,chR,msD,p0,p1,p2,s1,not_true_eq_false,not_false_eq_true,WU,V,W3,↓reduceIte,seval,reduceCtorEq];exact hE
 . simp only[b,if_true,if_false,ym]at hE;delta E4.c67k11 oO oN oM oG oS oK oF oL oV oI oX oP oH oB oD oE oJ;simp (maxSteps:=9^7) -implicitDefEqProofs only[E4.rv67,chR,msD,p1,not_true_eq_false,not_false_eq_true,WU,V,W3,↓reduceIte,seval,reduceCtorEq];exact hE
 . simp only[b,if_true,if_false,ym]at hE;delta E4.c67k11 oO oN oM oG oS oK oF oL oV oI oX oP oH oB oD oE oJ;simp (maxSteps:=9^7) -implicitDefEqProofs only[E4.rv67,chR,msD,p1,p2,not_true_eq_false,not_false_eq_true,WU,V,W3,↓reduceIte,seval,reduceCtorEq];exact hE
 . simp only[b,if_true,if_false,ym]at hE;delta E4.c67k11 oO oN oM oG oS oK oF oL oV oI oX oP oH oB oD oE oJ;simp (maxSteps:=9^7) -implicitDefEqProofs only[E4.rv67,chR,msD,p1,p2,s1,not_true_eq_false,not_false_eq_true,WU,V,W3,↓reduceIte,seval,reduceCtorEq];exact hgo hE
 . simp only[b,if_true,if_false,ym]at hE;delta E4.c67k11 oO oN oM oG oS oK oF oL oV oI oX oP oH oB oD oE oJ;simp (maxSteps:=9^7) -implicitDefEqProofs only[E4.rv67,chR,msD,p1,p2,s1,s2,not_true_eq_false,not_false_eq_true,WU,V,W3,↓reduceIte,seval,reduceCtorEq];exact hgo hE
 . simp only[b,if_true,if_false,ym]at hE;delta E4.c67k11 oO oN oM oG oS oK oF oL oV oI oX oP oH oB oD oE oJ;simp (maxSteps:=9^7) -implicitDefEqProofs only[E4.rv67,chR,msD,p1,p2,s1,s2,not_true_eq_false,not_false_eq_true,WU,V,W3,↓reduceIte,seval,reduceCtorEq];exact hE
 . simp only[b,if_true,if_false,ym]at hE;delta E4.c67k11 oO oN oM oG oS oK oF oL oV oI oX oP oH oB oD oE oJ;simp (maxSteps:=9^7) -implicitDefEqProofs only[E4.rv67,chR,msD,p1,p2,s1,not_true_eq_false,not_false_eq_true,WU,V,W3,↓reduceIte,seval,reduceCtorEq];exact hgo hE
 . simp only[b,if_true,if_false,ym]at hE;delta E4.c67k11 oO oN oM oG oS oK oF oL oV oI oX oP oH oB oD oE oJ;simp (maxSteps:=9^7) -implicitDefEqProofs only[E4.rv67,chR,msD,p1,p2,s1,not_true_eq_false,not_false_eq_true,WU,V,W3,↓reduceIte,seval,reduceCtorEq];exact hE
theorem rst_12 (n:Nw) (m:Ms) (hn:NwS n) (hm:MsB m) (net:NetOk n) (hlen:m.buf.length=n.cells.length) (q2:rgB m=true) (cx:Cx) (E:Int) (hE:(if msB n m=false then 6 else if fmB m=false then 3 else if clB n m=false then 13 else if stB n m=false then 22 else pkE m)=E):SG Tryz.prog cx (cB [RV.tmp 4] [] (enc E) []) [It.c E4.c67k12.cut] ⟨[(2,.ptr 2 0),(3,.ptr 3 0)],chR n m⟩:=by
 have hdn:=gO n;have hgo:=fun q3 tgw srw htg hsr=>rst_11 n m hn hm net hlen q2 q3 cx E tgw srw htg hsr
 refine iw (dC [my] 800 ?_);have hms:msB n m=(isC n m.serving && isC n m.path && (decide (m.target=-1) || isC n m.target) && (decide (m.source=-1) || isC n m.source)):=rfl;have hc:(isC n m.serving=false/\msB n m=false)\/(isC n m.serving=true/\isC n m.path=false/\msB n m=false)\/(isC n m.serving=true/\isC n m.path=true/\((((m.target=-1)=False/\isC n m.target=false)/\msB n m=false)\/(((m.target=-1)=True\/((m.target=-1)=False/\isC n m.target=true))/\(((m.source=-1)=True/\msB n m=true)\/((m.source=-1)=False/\isC n m.source=false/\msB n m=false)\/((m.source=-1)=False/\isC n m.source=true/\msB n m=true))))):=by
  rw[hms];rcases Classical.propComplete (m.target=-1)with h1 | h1 <;> rcases Classical.propComplete (m.source=-1)with h2 | h2 <;> cases isC n m.serving <;> cases isC n m.path <;> cases isC n m.target <;> cases isC n m.source <;> simp[h1,h2]
 clear hms;rcases hc with⟨a1,b⟩ | ⟨a1,a2,b⟩ | ⟨a1,a2,⟨⟨a3,a4⟩,b⟩ | ⟨a3 | ⟨a3,a4⟩,⟨a5,b⟩ | ⟨a5,a6w,b⟩ | ⟨a5,a6w,b⟩⟩⟩
 . simp only[b,if_true,if_false,ym]at hE;delta E4.c67k12 oO oN oA oM oT oG oQ oS oK oF oL oV oC oI oX oH oB oD oE oJ o5;simp (maxSteps:=9^7) -implicitDefEqProofs only[E4.rv67,my,ed,hdn,hn,chR,msD,a1,not_true_eq_false,not_false_eq_true,WU,Ent.of2,V,W3,↓reduceIte,seval,reduceCtorEq];exact hE
 . simp only[b,if_true,if_false,ym]at hE;delta E4.c67k12 oO oN oA oM oT oG oQ oS oK oF oL oV oC oI oX oH oB oD oE oJ o5;simp (maxSteps:=9^7) -implicitDefEqProofs only[E4.rv67,my,ed,hdn,hn,chR,msD,a1,a2,not_true_eq_false,not_false_eq_true,WU,Ent.of2,V,W3,↓reduceIte,seval,reduceCtorEq];exact hE
 . simp only[b,if_true,if_false,ym]at hE;delta E4.c67k12 oO oN oA oM oT oG oQ oS oK oF oL oV oC oI oX oH oB oD oE oJ o5;simp (maxSteps:=9^7) -implicitDefEqProofs only[E4.rv67,my,ed,hdn,hn,chR,msD,a1,a2,a3,a4,not_true_eq_false,not_false_eq_true,WU,Ent.of2,V,W3,↓reduceIte,seval,reduceCtorEq];exact hE
 . simp only[b,if_true,if_false,ym]at hE;delta E4.c67k12 oO oN oA oM oT oG oQ oS oK oF oL oV oC oI oX oH oB oD oE oJ o5;simp (maxSteps:=9^7) -implicitDefEqProofs only[E4.rv67,my,ed,hdn,hn,chR,msD,a1,a2,a3,a5,not_true_eq_false,not_false_eq_true,WU,Ent.of2,V,W3,↓reduceIte,seval,reduceCtorEq];exact hgo b _ _ (by simp[a3]) (by simp[a5]) hE
 . simp only[b,if_true,if_false,ym]at hE;delta E4.c67k12 oO oN oA oM oT oG oQ oS oK oF oL oV oC oI oX oH oB oD oE oJ o5;simp (maxSteps:=9^7) -implicitDefEqProofs only[E4.rv67,my,ed,hdn,hn,chR,msD,a1,a2,a3,a5,a6w,not_true_eq_false,not_false_eq_true,WU,Ent.of2,V,W3,↓reduceIte,seval,reduceCtorEq];exact hE
 . simp only[b,if_true,if_false,ym]at hE;delta E4.c67k12 oO oN oA oM oT oG oQ oS oK oF oL oV oC oI oX oH oB oD oE oJ o5;simp (maxSteps:=9^7) -implicitDefEqProofs only[E4.rv67,my,ed,hdn,hn,chR,msD,a1,a2,a3,a5,a6w,not_true_eq_false,not_false_eq_true,WU,Ent.of2,V,W3,↓reduceIte,seval,reduceCtorEq];exact hgo b _ _ (by simp[a3]) (by simp[a5]) hE
 . simp only[b,if_true,if_false,ym]at hE;delta E4.c67k12 oO oN oA oM oT oG oQ oS oK oF oL oV oC oI oX oH oB oD oE oJ o5;simp (maxSteps:=9^7) -implicitDefEqProofs only[E4.rv67,my,ed,hdn,hn,chR,msD,a1,a2,a3,a4,a5,not_true_eq_false,not_false_eq_true,WU,Ent.of2,V,W3,↓reduceIte,seval,reduceCtorEq];exact hgo b _ _ (by simp[a3]) (by simp[a5]) hE
 . simp only[b,if_true,if_false,ym]at hE;delta E4.c67k12 oO oN oA oM oT oG oQ oS oK oF oL oV oC oI oX oH oB oD oE oJ o5;simp (maxSteps:=9^7) -implicitDefEqProofs only[E4.rv67,my,ed,hdn,hn,chR,msD,a1,a2,a3,a4,a5,a6w,not_true_eq_false,not_false_eq_true,WU,Ent.of2,V,W3,↓reduceIte,seval,reduceCtorEq];exact hE
 . simp only[b,if_true,if_false,ym]at hE;delta E4.c67k12 oO oN oA oM oT oG oQ oS oK oF oL oV oC oI oX oH oB oD oE oJ o5;simp (maxSteps:=9^7) -implicitDefEqProofs only[E4.rv67,my,ed,hdn,hn,chR,msD,a1,a2,a3,a4,a5,a6w,not_true_eq_false,not_false_eq_true,WU,Ent.of2,V,W3,↓reduceIte,seval,reduceCtorEq];exact hgo b _ _ (by simp[a3]) (by simp[a5]) hE
theorem CE (n:Nw) (m:Ms) (hn:NwS n) (hm:MsB m) (net:NetOk n):FC Tryz.prog 67 [enc n,enc m] [] (enc (rstE n m)) []:=by
 obtain⟨E,hE⟩:∃ E,rstE n m=E:=⟨_,rfl⟩;rw[hE];unfold rstE at hE;refine dD [] E4.is67 (by simp) (by simp[bk]) (by simp[an,ag]) (by simp[an,ag]) (by simp[aB]) (fun cx _ hl _=>dC [oa] 1500 ?_);by_cases h2:m.buf.length=n.cells.length
 rotate_left
 . rw[if_pos h2]at hE;have h2':=eq_false (show ¬ (m.buf.length:Int)=(n.cells.length:Int) by omega);delta E4.c67 oO oN oA oM oG oS oK oF oL oV oC oI oX oH oB oE oJ o4 o7;simp (maxSteps:=9^7) -implicitDefEqProofs only[E4.rv67,ed,kN,h2',InR,not_true_eq_false,not_false_eq_true,WU,V,W3,↓reduceIte,seval,reduceCtorEq];exact hE
 rw[if_neg (by simp[h2])]at hE;have h2':=eq_true (show (m.buf.length:Int)=(n.cells.length:Int) by omega);by_cases h3:0<=m.phase/\m.phase<=3
 rotate_left
 . rw[if_pos h3]at hE;have h3':=eq_false h3;delta E4.c67 oO oN oA oM oG oS oK oF oL oV oC oI oX oH oB oE oJ o4 o7;simp (maxSteps:=9^7) -implicitDefEqProofs only[E4.rv67,oa,ed,kN,h2',h3',InR,not_true_eq_false,not_false_eq_true,WU,Ent.of3,V,W3,↓reduceIte,seval,reduceCtorEq];exact hE
 rw[if_neg (fun q=>q h3)]at hE;have h3':=eq_true h3;have hc:((0<=m.at_/\m.at_<=1000000000)=False/\rgB m=false)\/((0<=m.at_/\m.at_<=1000000000)=True/\(0<=m.since/\m.since<=m.at_)=False/\rgB m=false)\/((0<=m.at_/\m.at_<=1000000000)=True/\(0<=m.since/\m.since<=m.at_)=True/\(0<=m.fresh/\m.fresh<=1000000)=False/\rgB m=false)\/((0<=m.at_/\m.at_<=1000000000)=True/\(0<=m.since/\m.since<=m.at_)=True/\(0<=m.fresh/\m.fresh<=1000000)=True/\(0<=m.got/\m.got<=m.fresh)=False/\rgB m=false)\/((0<=m.at_/\m.at_<=1000000000)=True/\(0<=m.since/\m.since<=m.at_)=True/\(0<=m.fresh/\m.fresh<=1000000)=True/\(0<=m.got/\m.got<=m.fresh)=True/\rgB m=true):=by
  rcases Classical.propComplete (0<=m.at_/\m.at_<=1000000000)with g1 | g1 <;> rcases Classical.propComplete (0<=m.since/\m.since<=m.at_)with g2 | g2 <;> rcases Classical.propComplete (0<=m.fresh/\m.fresh<=1000000)with g3 | g3 <;> rcases Classical.propComplete (0<=m.got/\m.got<=m.fresh)with g4 | g4 <;> simp[rgB,g1,g2,g3,g4]
 rcases hc with⟨g1,b⟩ | ⟨g1,g2,b⟩ | ⟨g1,g2,g3,b⟩ | ⟨g1,g2,g3,g4,b⟩ | ⟨g1,g2,g3,g4,b⟩
 . simp only[b,if_true,if_false,ym]at hE;delta E4.c67 oO oN oA oM oG oS oK oF oL oV oC oI oX oH oB oE oJ o4 o7;simp (maxSteps:=9^7) -implicitDefEqProofs only[E4.rv67,oa,ed,kN,h2',h3',g1,InR,not_true_eq_false,not_false_eq_true,WU,Ent.of3,V,W3,↓reduceIte,seval,reduceCtorEq];exact hE
 . simp only[b,if_true,if_false,ym]at hE;delta E4.c67 oO oN oA oM oG oS oK oF oL oV oC oI oX oH oB oE oJ o4 o7;simp (maxSteps:=9^7) -implicitDefEqProofs only[E4.rv67,oa,ed,kN,h2',h3',g1,g2,InR,not_true_eq_false,not_false_eq_true,WU,Ent.of3,V,W3,↓reduceIte,seval,reduceCtorEq];exact hE
 . simp only[b,if_true,if_false,ym]at hE;delta E4.c67 oO oN oA oM oG oS oK oF oL oV oC oI oX oH oB oE oJ o4 o7;simp (maxSteps:=9^7) -implicitDefEqProofs only[E4.rv67,oa,ed,kN,h2',h3',g1,g2,g3,InR,not_true_eq_false,not_false_eq_true,WU,Ent.of3,V,W3,↓reduceIte,seval,reduceCtorEq];exact hE
 . simp only[b,if_true,if_false,ym]at hE;delta E4.c67 oO oN oA oM oG oS oK oF oL oV oC oI oX oH oB oE oJ o4 o7;simp (maxSteps:=9^7) -implicitDefEqProofs only[E4.rv67,oa,ed,kN,h2',h3',g1,g2,g3,g4,InR,not_true_eq_false,not_false_eq_true,WU,Ent.of3,V,W3,↓reduceIte,seval,reduceCtorEq];exact hE
 . simp only[b,if_true,if_false,ym]at hE;delta E4.c67 oO oN oA oM oG oS oK oF oL oV oC oI oX oH oB oE oJ o4 o7;simp (maxSteps:=9^7) -implicitDefEqProofs only[E4.rv67,oa,ed,kN,h2',h3',g1,g2,g3,g4,InR,not_true_eq_false,not_false_eq_true,WU,Ent.of3,V,W3,↓reduceIte,seval,reduceCtorEq];exact rst_12 n m hn hm net h2 b cx E hE
def smB (m:Ms):Bool:=decide (m.buf.length<=8) && m.buf.all fun x=>decide (x.length<=64)
theorem Small_c (m:Ms):FC Tryz.prog 63 [enc m] [] (enc (smB m)) []:=by
 obtain⟨B,hB⟩:∃ B,smB m=B:=⟨_,rfl⟩;rw[hB];unfold smB at hB;refine dD [] is63 (by simp) (by simp[bk]) (by simp[an,ag]) (by simp[an,ag]) (by simp[aB]) (fun cx _ hl _=>dC [] 800 ?_);by_cases h8:m.buf.length<=8
 rotate_left
 . have h8':¬ (m.buf.length:Int)<=8:=by omega
   have h9':(m.buf.length:Int) > 8:=by omega
   simp only[h8,decide_false,z7]at hB;subst hB;delta c63 oN oS oK oF oL oV oI oX oB o4 o7 o9;simp (maxSteps:=9^7) -implicitDefEqProofs only[rv63,kN,h9',not_true_eq_false,not_false_eq_true,WU,V,W3,↓reduceIte,seval,reduceCtorEq]
 have h9':¬ (m.buf.length:Int) > 8:=by omega
 simp only[h8,decide_true,zY]at hB;delta c63 oN oS oK oF oL oV oI oX oB o4 o7 o9;simp (maxSteps:=9^7) -implicitDefEqProofs only[rv63,kN,h9',not_true_eq_false,not_false_eq_true,WU,V,W3,↓reduceIte,seval,reduceCtorEq];refine eN m.buf.length (fun i=>[(3,.s (.int .i64 (i:Int)))]) (fun _=>[]) (fun i=>B=(m.buf.drop i).all fun x=>decide (x.length<=64)) (by rw[<- hB];rfl) ?_ (fun i hi hv=>dC [] 800 ?_)
 . simp (maxSteps:=9^7) -implicitDefEqProofs only[V,W3,↓reduceIte,seval,reduceCtorEq]
   all_goals simp
 . by_cases h:i < m.buf.length
   . have hi2:(i:Int) < (m.buf.length:Int):=by omega
     have hi0:(0:Int)<=i:=by omega
     have hgx:List.getD (m.buf.map Dat.cells) i [C.sl 0 []]=[C.sl 1 ((m.buf.getD i []).map Dat.cells)]:=by
      rw[zb,zb,zh,ze h];rfl
     rw[eg [] h,List.all_cons]at hv;generalize m.buf.getD i []=q at *;by_cases hq:q.length<=64
     . have hq':¬ (q.length:Int) > 64:=by omega
       simp only[hq,decide_true,zY]at hv;delta BP oO oN oA oM oR oS oK oF oL oI oX oB o0 o4 o9;simp (maxSteps:=9^7) -implicitDefEqProofs only[rv63,hi0,hi2,h,hgx,hq',zy,InR,not_true_eq_false,not_false_eq_true,WU,V,W3,↓reduceIte,seval,reduceCtorEq];exact⟨⟨by omega,by omega⟩,hv,by omega⟩
     . have hq':(q.length:Int) > 64:=by omega
       simp only[hq,decide_false,z7]at hv;subst hv;delta BP oO oN oA oM oR oS oK oF oL oI oX oB o0 o4 o9;simp (maxSteps:=9^7) -implicitDefEqProofs only[rv63,hi0,hi2,h,hgx,hq',zy,InR,not_true_eq_false,not_false_eq_true,WU,V,W3,↓reduceIte,seval,reduceCtorEq]
   . have hi2:¬ (i:Int) < (m.buf.length:Int):=by omega
     have hd:m.buf.drop i=[]:=zv (by omega);rw[hd,List.all_nil]at hv;subst hv;delta BP oO oN oA oM oR oS oK oF oL oI oX oB o0 o4 o9;simp (maxSteps:=9^7) -implicitDefEqProofs only[rv63,hi2,InR,WU,V,W3,↓reduceIte,seval,reduceCtorEq]
def xO : Ent Tryz.prog:=.of1 63 (fun _=>True) (fun m:Ms=>enc (smB m)) (fun _=>trivial) (fun m _=>Small_c m)
theorem sm_msB {m:Ms} (h:smB m=true) (hI:∀ a∈m.buf,∀ b∈a,-9223372036854775808<=b/\b<=9223372036854775807):MsB m:=by
 simp only[smB,zm,decide_eq_true_eq,zx]at h;refine⟨by omega,fun x hx=>by have:=h.2 x hx;omega,fun x hx=>?_⟩;obtain⟨a,ha,hx⟩:=List.mem_flatten.1 hx;have:=hI a ha x hx;exact⟨this.1,this.2⟩
theorem MsB.bs {m:Ms} (h:MsB m):BufS m.buf:=⟨h.l,fun x hx=>by have:=h.r x hx;omega⟩
theorem Cp (m:Ms) (h:BufS m.buf):FC Tryz.prog 65 [enc m] [] (enc m) []:=by
 refine dD [] is65 (by simp) (by simp[bk]) (by simp[an,ag]) (by simp[an,ag]) (by simp[aB]) (fun cx _ hl _=>dC [ent60] 800 ?_);delta c65 oO oA oF oL oC oW oX oZ o5 o7;simp (maxSteps:=9^7) -implicitDefEqProofs only[rv65,ent60,kN,h,WU,Ent.of1,V,W3,↓reduceIte,seval,reduceCtorEq]
def yV : Ent Tryz.prog:=.of1 65 (fun m:Ms=>BufS m.buf) (fun m=>enc m) (fun m=>by simp[kN,dF,dF.keysIns]) (fun m h=>Cp m h)
theorem CB (n:Nw) (e:T3) (hn:NwS n):FC Tryz.prog 68 [enc n,enc e] [] (enc (evE n e)) []:=by
 have hdn:=gO n;obtain⟨ex,ey,ezw⟩:=e;obtain⟨E,hE⟩:∃ E,evE n ⟨ex,ey,ezw⟩=E:=⟨_,rfl⟩;rw[hE];simp only[evE,eM,iN]at hE;have hc:((0<=ex/\ex<=11)=False)\/((0<=ex/\ex<=11)=True/\(0<=ey/\ey<=1000000000)=False)\/((0<=ex/\ex<=11)=True/\(0<=ey/\ey<=1000000000)=True/\((((ex=3)=True\/((ex=3)=False/\(ex=10)=True))/\(isC n ezw=true\/isC n ezw=false))\/((ex=3)=False/\(ex=10)=False/\((ezw=0)=True\/(ezw=0)=False)))):=by
  rcases Classical.propComplete (0<=ex/\ex<=11)with h1 | h1 <;> rcases Classical.propComplete (0<=ey/\ey<=1000000000)with h2 | h2 <;> rcases Classical.propComplete (ex=3)with h3 | h3 <;> rcases Classical.propComplete (ex=10)with h4 | h4 <;> rcases Classical.propComplete (ezw=0)with h5 | h5 <;> cases isC n ezw <;> simp[h1,h2,h3,h4,h5]
 refine dD [] is68 (by simp) (by simp[bk]) (by simp[an,ag]) (by simp[an,ag]) (by simp[aB]) (fun cx _ hl _=>dC [oa,my] 800 ?_);rcases hc with h1 | ⟨h1,h2⟩ | ⟨h1,h2,⟨h3 | ⟨h3,h4⟩,h5 | h5⟩ | ⟨h3,h4,h5 | h5⟩⟩
 . simp[h1]at hE;delta c68 oO oN oA oM oG oS oK oF oL oV oC oI oX oH oB oE oJ o5 o7;simp (maxSteps:=9^7) -implicitDefEqProofs only[AD,oa,my,ed,dY,hdn,hn,h1,not_true_eq_false,not_false_eq_true,WU,Ent.of2,Ent.of3,V,W3,↓reduceIte,seval,reduceCtorEq];exact hE
 . simp[h1,h2]at hE;delta c68 oO oN oA oM oG oS oK oF oL oV oC oI oX oH oB oE oJ o5 o7;simp (maxSteps:=9^7) -implicitDefEqProofs only[AD,oa,my,ed,dY,hdn,hn,h1,h2,not_true_eq_false,not_false_eq_true,WU,Ent.of2,Ent.of3,V,W3,↓reduceIte,seval,reduceCtorEq];exact hE
 . simp[h1,h2,h3,h5]at hE;delta c68 oO oN oA oM oG oS oK oF oL oV oC oI oX oH oB oE oJ o5 o7;simp (maxSteps:=9^7) -implicitDefEqProofs only[AD,oa,my,ed,dY,hdn,hn,h1,h2,h3,h5,not_true_eq_false,not_false_eq_true,WU,Ent.of2,Ent.of3,V,W3,↓reduceIte,seval,reduceCtorEq];exact hE
 . simp[h1,h2,h3,h5]at hE;delta c68 oO oN oA oM oG oS oK oF oL oV oC oI oX oH oB oE oJ o5 o7;simp (maxSteps:=9^7) -implicitDefEqProofs only[AD,oa,my,ed,dY,hdn,hn,h1,h2,h3,h5,not_true_eq_false,not_false_eq_true,WU,Ent.of2,Ent.of3,V,W3,↓reduceIte,seval,reduceCtorEq];exact hE
 . simp[h1,h2,h3,h4,h5]at hE;delta c68 oO oN oA oM oG oS oK oF oL oV oC oI oX oH oB oE oJ o5 o7;simp (maxSteps:=9^7) -implicitDefEqProofs only[AD,oa,my,ed,dY,hdn,hn,h1,h2,h3,h4,h5,not_true_eq_false,not_false_eq_true,WU,Ent.of2,Ent.of3,V,W3,↓reduceIte,seval,reduceCtorEq];exact hE
 . simp[h1,h2,h3,h4,h5]at hE;delta c68 oO oN oA oM oG oS oK oF oL oV oC oI oX oH oB oE oJ o5 o7;simp (maxSteps:=9^7) -implicitDefEqProofs only[AD,oa,my,ed,dY,hdn,hn,h1,h2,h3,h4,h5,not_true_eq_false,not_false_eq_true,WU,Ent.of2,Ent.of3,V,W3,↓reduceIte,seval,reduceCtorEq];exact hE
 . simp[h1,h2,h3,h4,h5]at hE;delta c68 oO oN oA oM oG oS oK oF oL oV oC oI oX oH oB oE oJ o5 o7;simp (maxSteps:=9^7) -implicitDefEqProofs only[AD,oa,my,ed,dY,hdn,hn,h1,h2,h3,h4,h5,not_true_eq_false,not_false_eq_true,WU,Ent.of2,Ent.of3,V,W3,↓reduceIte,seval,reduceCtorEq];exact hE
 . simp[h1,h2,h3,h4,h5]at hE;delta c68 oO oN oA oM oG oS oK oF oL oV oC oI oX oH oB oE oJ o5 o7;simp (maxSteps:=9^7) -implicitDefEqProofs only[AD,oa,my,ed,dY,hdn,hn,h1,h2,h3,h4,h5,not_true_eq_false,not_false_eq_true,WU,Ent.of2,Ent.of3,V,W3,↓reduceIte,seval,reduceCtorEq];exact hE
theorem syn_ok {U:Nat->Prop} {w:World} (hg:eX Tryz.prog U w.heap):∃ tp p,w.var? Tryz.prog "strconv.ErrSyntax" = some #[.iface tp p]:=by
 obtain⟨_,⟨tp,p,ty,fz,_,h⟩,_⟩:=hg.2
 have hn:Tryz.prog.globalNamed "strconv.ErrSyntax" = some 5:=by kernel_rfl
 exact⟨tp,p,by simp only[World.var?,hn,Option.bind_some,h]⟩
theorem rng_ok {U:Nat->Prop} {w:World} (hg:eX Tryz.prog U w.heap):∃ tp p,w.var? Tryz.prog "strconv.ErrRange" = some #[.iface tp p]:=by
 obtain⟨_,_,⟨tp,p,ty,fz,_,h⟩⟩:=hg.2
 have hn:Tryz.prog.globalNamed "strconv.ErrRange" = some 6:=by kernel_rfl
 exact⟨tp,p,by simp only[World.var?,hn,Option.bind_some,h]⟩
def AR (s p:ByteArray):ByteArray:=⟨(Lib.trimPrefix s.data.toList p.data.toList).toArray⟩
theorem Cu (s:ByteArray) (c:UInt8):FC Tryz.prog 178 [enc s,enc (⟨#[c]⟩:ByteArray)] [] (enc (Lib.indexByte s.data.toList c)) []:=by
 refine FC.scal (vs:=[.string s,.string ⟨#[c]⟩]) ⟨_,Tryz.func178,by kernel_rfl,by kernel_rfl⟩ (fun U w hg hU=>?_);refine (Any.strings_Index_one Tryz.lays143 s c w).mono ?_
 rintro e w' ⟨rfl,rfl⟩
 exact⟨_,rfl,fun E U h=>.d (.s _),.refl _ _⟩
theorem Dk (s:ByteArray) (c:UInt8):FC Tryz.prog 172 [enc s,enc (⟨#[c]⟩:ByteArray)] [] (enc (Lib.indexByte s.data.toList c)) []:=by
 refine FC.scal (vs:=[.string s,.string ⟨#[c]⟩]) ⟨_,Tryz.func172,by kernel_rfl,by kernel_rfl⟩ (fun U w hg hU=>?_);refine (Any.stringslite_Index_one Tryz.lays219 s c w).mono ?_
 rintro e w' ⟨rfl,rfl⟩
 exact⟨_,rfl,fun E U h=>.d (.s _),.refl _ _⟩
end Go.Proofs.YtcbabnbiinkafaaGreatDoor
end
section
open Go Go.Am
open Go.Am.Dat (cells)
namespace Go.Proofs.YtcbabnbiinkafaaGreatDoor
set_option maxHeartbeats 4000000
set_option maxRecDepth 100000
section
open Go.Shelf Go.RowKit
def Aq : ByteArray:=⟨#[45]⟩
theorem AS {B:Nat} (w:World) (hB:B<=w.heap.size) (k:Nat) (os:Array Obj):Below B w (Go.Sort.grow (w.drewN k) os):=
 ⟨rfl,rfl,rfl,by simp[Go.Sort.grow],fun b hb=>by simp[Go.Sort.grow,yx,yJ hb hB]⟩
theorem num_ok (s:ByteArray) (n:Int) (hs:s.size<=1000000) (h:Lib.atoiAll s.data.toList=.ok n) (hn:-9223372036854775808<=n/\n<=9223372036854775807) (w:World) (htab:∀ w',Below w.heap.size w w'->∀ nm,Tryz.prog.globalNamed nm=some 2->Lib.TabIs Tryz.prog w' nm .u64 Lib.pow10Tab) :
 Calls Tryz.prog 160 #[.string s] w fun e w'=>e=.returned (.tuple #[.int .i64 n,.bool (decide (jh n=s) && decide ((AR s Aq).size<=10))])/\Below w.heap.size w w':=by
 have hb0:∀ w1,(w1=w\/∃ t,w1=Lib.bytesWorld w (Tryz.laysC172_ren.t 5) t)->Below w.heap.size w w1:=by
  rintro w1 (rfl | ⟨t,rfl⟩)
  . exact .refl _ _
  . exact Lib.bytesWorld_below _ _ _
 go_enter Tryz.func160,Tryz.ntmps160
 go_wp2_with (first
  | (go_at_call 174;refine (Any.strconv_Atoi_ok Tryz.laysC172 s (by omega) n h _).mono ?_;rintro e w1 ⟨rfl,hw⟩;have hb1:=hb0 _ hw;clear hw)
  | (go_at_call 154;refine (Any.strconv_Itoa Tryz.laysM171 n hn.1 hn.2 _ (htab _ hb1 _ (by kernel_rfl))).mono ?_;rintro e w2 ⟨rfl,k,os,rfl⟩)
  | (go_at_call 175;refine (Any.strings_TrimPrefix Tryz.lays101 s ⟨#[45]⟩ _).mono ?_;rintro e w' ⟨rfl,rfl⟩))
 . go_ret2
   rename_i h1;have e1:jh n=s:=ByteArray.ext (by simp[jh,h1,Go.ByteArray.toList_eq]);have e2:(AR s Aq).size=(Lib.trimPrefix s.data.toList [45]).length:=by rw[AR,Lib.size_eq];simp[Aq]
   refine⟨?_,hb1.trans (AS w1 hb1.size k os)⟩;rw[show decide ((AR s Aq).size<=10)=decide (((Lib.trimPrefix s.data.toList [45]).length:Int)<=10)from decide_eq_decide.2 (by rw[e2];omega)];simp only[e1,decide_true,zY];rfl
 . go_ret2
   rename_i h1;have e1:¬ jh n=s:=fun h=>h1 (by rw[<- h];simp[jh,Go.ByteArray.toList_eq])
   refine⟨?_,hb1.trans (AS w1 hb1.size k os)⟩;simp only[e1,decide_false,z7];rfl
theorem num_syn (s:ByteArray) (hs:s.size<=1000000) (h:Lib.atoiAll s.data.toList=Lib.NumEnd.ofOption none) (tp:TypeId) (p:Value) (w:World) (hv:w.var? Tryz.prog "strconv.ErrSyntax" = some #[.iface tp p]) :
 Calls Tryz.prog 160 #[.string s] w fun e w'=>e=.returned (.tuple #[.int .i64 0,.bool false])/\Below w.heap.size w w':=by
 go_enter Tryz.func160,Tryz.ntmps160
 go_wp2_with (go_at_call 174;refine (Any.strconv_Atoi_syntax_var Tryz.laysC172 s (by omega) h tp p _ hv).mono ?_;rintro e w1 ⟨N,rfl,-,-,hb⟩)
 all_goals go_ret2
 all_goals exact⟨rfl,hb⟩
theorem num_rng (s:ByteArray) (hs:s.size<=1000000) (h:Lib.atoiAll s.data.toList=.range) (tp:TypeId) (p:Value) (w:World) (hv:w.var? Tryz.prog "strconv.ErrRange" = some #[.iface tp p]) :
 Calls Tryz.prog 160 #[.string s] w fun e w'=>e=.returned (.tuple #[.int .i64 (Lib.atoiSat s.data.toList),.bool false])/\Below w.heap.size w w':=by
 go_enter Tryz.func160,Tryz.ntmps160
 go_wp2_with (go_at_call 174;refine (Any.strconv_Atoi_range_var Tryz.laysC172 s (by omega) h tp p _ hv).mono ?_;rintro e w1 ⟨N,rfl,-,-,hb⟩)
 all_goals go_ret2
 all_goals exact⟨rfl,hb⟩
end
end Go.Proofs.YtcbabnbiinkafaaGreatDoor
end
section
open Go Go.Am
open Go.Am.Dat (cells)
namespace Go.Proofs.YtcbabnbiinkafaaGreatDoor
set_option maxHeartbeats 4000000
set_option maxRecDepth 100000
def mkB (l:List UInt8):ByteArray:=⟨l.toArray⟩
theorem xi (l:List UInt8):(mkB l).data.toList=l:=rfl
theorem xo (l:List UInt8):(mkB l).size=l.length:=by simp[mkB,ByteArray.size]
theorem Cd (s:ByteArray):mkB s.data.toList=s:=rfl
theorem xm (s:ByteArray):s.data.toList.length=s.size:=by rw[Array.length_toList];rfl
theorem xD (s:ByteArray) (a b:Nat) (h:b<=s.size):s.extract a b=mkB ((s.data.toList.drop a).take (b - a)):=by
 refine ByteArray.ext ?_;rw[ByteArray.data_extract];refine Array.toList_inj.1 ?_;simp[mkB,List.drop_take]
def xg (c:UInt8):List UInt8->List (List UInt8)
 |[]=>[[]]
 | b :: l=>if b=c then [] :: xg c l else match xg c l with
  | p :: ps=>(b :: p) :: ps
  |[]=>[[b]]
theorem xP {c:UInt8}:∀ {l:List UInt8},(∀ b∈l,b≠c)->xg c l=[l]
 |[],_=>rfl
 | b :: l,h=>by rw[xg,if_neg (h b zq),xP (fun x hx=>h x (zo _ hx))]
end Go.Proofs.YtcbabnbiinkafaaGreatDoor
end
