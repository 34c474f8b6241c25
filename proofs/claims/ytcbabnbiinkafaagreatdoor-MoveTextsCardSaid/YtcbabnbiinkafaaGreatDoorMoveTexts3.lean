/- Part 3 of the proof of: MoveTexts returns true for every input and never panics: the texts of an event and of a state, and the event and the state with any text, are as specified, or the errors, and right ones are read back; conditions: those of the given statement, that the package variables it lists hold what their initialisers lay. -/
import Derived.Lib.AtoiTie
import Derived.Lib.AtoiAllCases
import Derived.Shelf.Strings.Count
import Derived.Test.YtcbabnbiinkafaaGreatDoorMoveTexts2
set_option linter.all false
section
open Go Go.Am
open Go.Am.Dat (cells)
namespace Go.Proofs.YtcbabnbiinkafaaGreatDoor
set_option maxHeartbeats 4000000
set_option maxRecDepth 100000
theorem xM {c:UInt8} {r:List UInt8}:∀ {a:List UInt8},(∀ b∈a,b≠c)->xg c (a++c :: r)=a :: xg c r
 |[],_=>by show xg c (c :: r)=_;rw[xg,if_pos rfl]
 | b :: l,h=>by
  show xg c (b :: (l++c :: r))=_
  rw[xg,if_neg (h b zq),xM (fun x hx=>h x (zo _ hx))]
theorem xV (c:UInt8) (l:List UInt8):xg c l≠[]:=by
 cases l with
 | nil=>simp[xg]
 | cons b l=>
  rw[xg];split
  . simp
  . split <;> simp
theorem xA {l:List UInt8} {c:UInt8} {f i:Nat} (hf:f<=i) (hi:i < l.length) (hc:l.getD i 0=c):l.drop f=(l.drop f).take (i - f)++c :: l.drop (i+1):=by
 rw[zb,ze hi]at hc;have hc:l[i]=c:=hc;have h1:=List.take_append_drop (i - f) (l.drop f);rw[List.drop_drop,show f+(i - f)=i by omega,z9 hi,hc]at h1;exact h1.symm
theorem xU {l:List UInt8} {c:UInt8} {f n:Nat} (h:∀ k,f<=k->k < f+n->l.getD k 0≠c):∀ b∈(l.drop f).take n,b≠c:=by
 intro b hb;obtain⟨j,hj,rfl⟩:=List.getElem_of_mem hb;simp only[List.length_take,List.length_drop]at hj;have:=h (f+j) (by omega) (by omega);rw[zb,ze (by omega)]at this;simpa using this
def yT (c:UInt8) (s:ByteArray):List ByteArray:=(xg c s.data.toList).map mkB
structure CutAt (c:UInt8) (l:List UInt8) (f i:Nat) (o:List ByteArray):Prop where
 fiw:f<=i
 ilw:i<=l.length
 olw:o.length<=f
 eqw:(xg c l).map mkB=o++(xg c (l.drop f)).map mkB
 no:∀ k,f<=k->k < i->l.getD k 0≠c
theorem CutAt.skip {c:UInt8} {l:List UInt8} {f i:Nat} {o:List ByteArray} (h:CutAt c l f i o) (hi:i < l.length) (hc:l.getD i 0≠c):CutAt c l f (i+1) o:=
 ⟨by have:=h.fiw;omega,hi,h.olw,h.eqw,fun k h1 h2=>if e:k=i then e ▸ hc else h.no k h1 (by omega)⟩
theorem CutAt.hit {c:UInt8} {l:List UInt8} {f i:Nat} {o:List ByteArray} (h:CutAt c l f i o) (hi:i < l.length) (hc:l.getD i 0=c):CutAt c l (i+1) (i+1) (o++[mkB ((l.drop f).take (i - f))]):=by
 have h1:=xA h.fiw hi hc;have h2:=xU (l:=l) (c:=c) (f:=f) (n:=i - f) (fun k a b=>h.no k a (by have:=h.fiw;omega));refine⟨zw _,hi,by have:=h.olw;have:=h.fiw;simp;omega,?_,fun k a b=>by omega⟩;rw[h.eqw,h1,xM h2,zt,ye];rw[<- h1];rfl
theorem CutAt.fin {c:UInt8} {l:List UInt8} {f:Nat} {o:List ByteArray} (h:CutAt c l f l.length o):(xg c l).map mkB=o++[mkB (l.drop f)]:=by
 have h2:=xU (l:=l) (c:=c) (f:=f) (n:=l.length - f) (fun k a b=>h.no k a (by have:=h.fiw;omega));rw[List.take_of_length_le (by simp)]at h2;rw[h.eqw,xP h2];rfl
theorem Cut_c (s:ByteArray) (c:UInt8) (hs:s.size<=1000000):FC Tryz.prog 129 [enc s,.s (.int .u8 (c.toNat:Int))] [] (enc (yT c s)) []:=by
 refine eh is129 (by simp) (fun cx hl=>dC [] 800 ?_);delta c129 oO oA oM oS oK oV oX;simp (maxSteps:=9^7) -implicitDefEqProofs only[Br,V,W3,↓reduceIte,seval,reduceCtorEq];refine sK (α:=Nat×Nat×List ByteArray) (fun v=>[(6,.s (.int .i64 (v.1:Int))),(7,.s (.int .i64 (v.2.1:Int)))]) (fun v=>[(5,.row 1 9 (v.2.2.map cells))]) (fun v=>CutAt c s.data.toList v.1 v.2.1 v.2.2) (fun v=>s.size - v.2.1) (0,0,[]) ⟨zw _,yF _,zw _,rfl,fun k a (b:k < 0)=>by omega⟩ ?_ (fun v hv=>dC [] 800 ?_)
 . simp (maxSteps:=9^7) -implicitDefEqProofs only[V,W3,↓reduceIte,seval,reduceCtorEq]
   all_goals simp
 . obtain⟨f,i,o⟩:=v;have hfi:=hv.fiw;have hil:=hv.ilw;have hol:=hv.olw;rw[xm]at hil;simp only at hfi hil hol hv;have hone:((1:Nat):Int)=1:=rfl;by_cases h:i < s.size
   . have hi2:(i:Int) < (s.size:Int):=by omega
     have hex:=xD s f i (by omega);by_cases hc:s.data.toList.getD i 0=c
     . have hc2:((s.data.toList.getD i 0).toNat:Int)=(c.toNat:Int):=by rw[hc]
       have hh:=hv.hit (by rw[xm];exact h) hc;have hap:o.map cells++[[C.s (.string (s.extract f i))]]=(o++[mkB ((s.data.toList.drop f).take (i - f))]).map cells:=by rw[yg,hex];rfl
       delta Bg oO oN oA oM oR oS oK oI oX oB;simp (maxSteps:=9^7) -implicitDefEqProofs only[Br,hi2,hc2,hap,InR,V,W3,↓reduceIte,seval,reduceCtorEq];refine⟨by omega,by omega,by omega,by omega,by omega,(i+1,i+1,_),hh,?_,⟨rfl,rfl⟩,rfl⟩;show s.size - (i+1) < s.size - i
       omega
     . have hc2:¬ ((s.data.toList.getD i 0).toNat:Int)=(c.toNat:Int):=fun h=>hc (UInt8.toNat_inj.1 (by omega))
       have hh:=hv.skip (by rw[xm];exact h) hc;delta Bg oO oN oA oM oR oS oK oI oX oB;simp (maxSteps:=9^7) -implicitDefEqProofs only[Br,hi2,hc2,InR,V,W3,↓reduceIte,seval,reduceCtorEq];exact⟨by omega,by omega,(f,i+1,o),hh,(show s.size - (i+1) < s.size - i by omega),⟨rfl,rfl⟩,rfl⟩
   . have hi2:¬ (i:Int) < (s.size:Int):=by omega
     have hie:i=s.data.toList.length:=by rw[xm];omega
     subst hie;have hh:=hv.fin;have hex:=xD s f s.size (zw _);rw[List.take_of_length_le (by rw[List.length_drop,xm];omega)]at hex;have hap:o.map cells++[[C.s (.string (s.extract f s.size))]]=(yT c s).map cells:=by rw[yT,hh,yg,hex];rfl
     delta Bg oO oN oA oM oR oS oK oI oX oB;simp (maxSteps:=9^7) -implicitDefEqProofs only[Br,hi2,hap,InR,V,W3,↓reduceIte,seval,reduceCtorEq];rw[xm]at hfi;omega
def yO : Ent Tryz.prog:=.mk3 129 (fun args chs=>match args,chs with
 |[.s (.string s),.s (.int .u8 c)],[]=>some (0<=c/\c < 256/\s.size<=1000000,enc (yT (UInt8.ofNat c.toNat) s),[],[])
 |_,_=>none) (by
 intro args chs p r chs' nk hs hp;split at hs
 . simp only[zn,zf]at hs;obtain⟨rfl,rfl,rfl,rfl⟩:=hs;obtain⟨h1,h2,h3⟩:=hp;rename_i s c;have:=Cut_c s (UInt8.ofNat c.toNat) h3;have e:((UInt8.ofNat c.toNat).toNat:Int)=c:=by simp[UInt8.toNat_ofNat'];omega
   rw[e]at this;exact⟨this,.plain trivial⟩
 . cases hs)
theorem Size_c (n:Int) (h:InR .i64 (-n)):FC Tryz.prog 162 [enc n] [] (enc (if -n > n then -n else n)) []:=by
 refine eh is162 (by simp) (fun cx hl=>dC [] 800 ?_);delta c162 oO oA oM oV oX;simp (maxSteps:=9^7) -implicitDefEqProofs only[rv162,h,V,W3,↓reduceIte,seval,reduceCtorEq]
def CT : Ent Tryz.prog:=.of1 162 (fun n=>InR .i64 (-n)) (fun n:Int=>enc (if -n > n then -n else n)) (fun _=>trivial) (fun n h=>Size_c n h)
theorem Aa (l:List UInt8) (c:UInt8):(Lib.indexByte l c=-1/\∀ b∈l,b≠c)\/∃ j:Nat,Lib.indexByte l c=(j:Int)/\j < l.length/\l.getD j 0=c/\∀ k,k < j->l.getD k 0≠c:=by
 induction l with
 | nil=>exact .inl ⟨rfl,fun b h=>by cases h⟩
 | cons b l ih=>
  by_cases hb:b=c
  . refine .inr ⟨0,by simp[Lib.indexByte,hb],by simp,by simpa using hb,fun k hk=>by omega⟩
  . have e:(b == c)=false:=by simpa using hb
    rcases ih with⟨h1,h2⟩ | ⟨j,h1,h2,h3,h4⟩
    . exact .inl ⟨by simp[Lib.indexByte,e,h1],fun x hx=>by rcases zl.1 hx with rfl | hx;exact hb;exact h2 x hx⟩
    . have hj:¬ (j:Int)=-1:=by omega
      refine .inr ⟨j+1,by simp[Lib.indexByte,e,h1,hj],by simpa using h2,by simpa using h3,fun k hk=>?_⟩;cases k with
      | zero=>simpa using hb
      | succ k=>simpa using h4 k (by omega)
def xL : ByteArray:=⟨#[32]⟩
def B7 : Ent Tryz.prog:=.of2 172 (fun _ p=>p=xL) (fun (s p:ByteArray)=>enc (Lib.indexByte s.data.toList 32)) (fun _ _=>trivial) (fun s p h=>by subst h;exact Dk s 32)
def B8 : Ent Tryz.prog:=.of2 178 (fun _ p=>p=xL) (fun (s p:ByteArray)=>enc (Lib.indexByte s.data.toList 32)) (fun _ _=>trivial) (fun s p h=>by subst h;exact Cu s 32)
def xy (l:List UInt8):List UInt8×List UInt8:=if Lib.indexByte l 32=-1 then (l,[])else (l.take (Lib.indexByte l 32).toNat,l.drop ((Lib.indexByte l 32).toNat+1))
def x5 (l:List UInt8):Bool:=!decide (Lib.indexByte l 32=-1)
theorem LCut_c (s:ByteArray) (hs:s.size<=1000000):FC Tryz.prog 158 [enc s,enc xL] [] (.tup [enc (mkB (xy s.data.toList).1),enc (mkB (xy s.data.toList).2),enc (x5 s.data.toList)]) []:=by
 refine eh is158 (by simp) (fun cx hl=>dC [B7] 800 ?_);have hc1:xL.size=1:=rfl;have hone:((1:Nat):Int)=1:=rfl;rcases Aa s.data.toList 32 with⟨h1,h2⟩ | ⟨j,h1,h2,h3,h4⟩
 . delta c158 oO oN oA oM oT oQ oS oK oC oI oX oB o9;simp (maxSteps:=9^7) -implicitDefEqProofs only[rv158,B7,h1,Ent.of2,V,W3,↓reduceIte,seval,reduceCtorEq];simp[xy,x5,h1];exact⟨rfl,rfl⟩
 . rw[xm]at h2;have hj:¬ (j:Int)=-1:=by omega
   have hj0:(j:Int)>=0:=by omega
   have hj1:(0:Int)<=(j:Int):=by omega
   have e1:=xD s 0 j (by omega);have e2:=xD s (j+1) s.size (zw _);rw[List.take_of_length_le (by rw[List.length_drop,xm];omega)]at e2;have hj2:((j:Int)+1).toNat=j+1:=by omega
   delta c158 oO oN oA oM oT oQ oS oK oC oI oX oB o9;simp (maxSteps:=9^7) -implicitDefEqProofs only[rv158,B7,h1,hj0,hj1,hc1,hone,hj2,z5,InR,Ent.of2,V,W3,↓reduceIte,seval,reduceCtorEq];refine⟨by omega,by omega,by omega,?_⟩;simp[xy,x5,h1,hj,e1,e2]
theorem SCut_c (s:ByteArray) (hs:s.size<=1000000):FC Tryz.prog 124 [enc s,enc xL] [] (.tup [enc (mkB (xy s.data.toList).1),enc (mkB (xy s.data.toList).2),enc (x5 s.data.toList)]) []:=by
 refine eh is124 (by simp) (fun cx hl=>dC [.of2 158 (fun s p=>p=xL/\s.size<=1000000) (fun (s p:ByteArray)=>.tup [enc (mkB (xy s.data.toList).1),enc (mkB (xy s.data.toList).2),enc (x5 s.data.toList)]) (fun _ _=>⟨trivial,trivial,trivial,trivial⟩) (fun s p h=>by obtain⟨rfl,h2⟩:=h;exact LCut_c s h2)] 800 ?_);delta c124 oO oM oC oX o8 o9;simp (maxSteps:=9^7) -implicitDefEqProofs only[rv124,hs,Ent.of2,V,W3,↓reduceIte,seval,reduceCtorEq]
def CP : Ent Tryz.prog:=.of2 124 (fun s p=>p=xL/\s.size<=1000000) (fun (s p:ByteArray)=>.tup [enc (mkB (xy s.data.toList).1),enc (mkB (xy s.data.toList).2),enc (x5 s.data.toList)]) (fun _ _=>⟨trivial,trivial,trivial,trivial⟩) (fun s p h=>by obtain⟨rfl,h2⟩:=h;exact SCut_c s h2)
def xp (l:List UInt8):Nat->List UInt8
 | 0=>l
 | i+1=>(xp l i).drop ((Lib.indexByte (xp l i) 32).toNat+1)
def Ab (l:List UInt8) (i:Nat):List C:=[.s (.string (mkB ((xg 32 l).getD i [])))]
theorem Ck (l:List UInt8):∀ i,(xp l i).length<=l.length
 | 0=>zw _
 | i+1=>by have:=Ck l i;rw[xp,List.length_drop];omega
theorem Dz (l:List UInt8):∀ i,i < (xg 32 l).length->xg 32 (xp l i)=(xg 32 l).drop i /\
 ((i+1 < (xg 32 l).length/\∃ j:Nat,Lib.indexByte (xp l i) 32=(j:Int)/\j < (xp l i).length/\(xg 32 l).getD i []=(xp l i).take j/\xp l (i+1)=(xp l i).drop (j+1)) \/
  (i+1=(xg 32 l).length/\Lib.indexByte (xp l i) 32=-1/\(xg 32 l).getD i []=xp l i)):=by
 intro i
 induction i with
 | zero=>
  intro h0;refine⟨rfl,?_⟩;rcases Aa l 32 with⟨h1,h2⟩ | ⟨j,h1,h2,h3,h4⟩
  . have e:=xP h2;exact .inr ⟨by rw[e];rfl,h1,by rw[e];rfl⟩
  . have hm:=xU (l:=l) (c:=32) (f:=0) (n:=j) (fun k _ b=>h4 k (by omega));have e0:=xA (l:=l) (c:=32) (f:=0) (i:=j) (yF _) h2 h3;simp only[yB,Nat.sub_zero]at hm e0;have e:xg 32 l=l.take j :: xg 32 (l.drop (j+1)):=(congrArg _ e0).trans (xM hm);have hp:0 < (xg 32 (l.drop (j+1))).length:=List.length_pos_iff.2 (xV _ _);refine .inl ⟨by rw[e,zQ];omega,j,h1,h2,by rw[e];rfl,?_⟩;show (xp l 0).drop ((Lib.indexByte (xp l 0) 32).toNat+1)=l.drop (j+1)
    rw[show xp l 0=l from rfl,h1,z5]
 | succ i ih=>
  intro h0;obtain⟨g1,g2⟩:=ih (by omega);rcases g2 with⟨_,j,q1,q2,q3,q4⟩ | ⟨q1,_,_⟩
  rotate_left
  . omega
  generalize hR:xp l i=R at *;rcases Aa R 32 with⟨k1,k2⟩ | ⟨j',k1,k2,k3,k4⟩
  . rw[k1]at q1;omega
  have hjj:j'=j:=by rw[k1]at q1;omega
  subst hjj;have hm:=xU (l:=R) (c:=32) (f:=0) (n:=j') (fun k _ b=>k4 k (by omega));have e0:=xA (l:=R) (c:=32) (f:=0) (i:=j') (yF _) k2 k3;simp only[yB,Nat.sub_zero]at hm e0;have e:xg 32 R=R.take j' :: xg 32 (R.drop (j'+1)):=(congrArg _ e0).trans (xM hm);have hR1:xg 32 (xp l (i+1))=(xg 32 l).drop (i+1):=by
   have:(xg 32 l).drop (i+1)=((xg 32 l).drop i).drop 1:=by rw[List.drop_drop]
   rw[this,<- g1,e,q4];rfl
  refine⟨hR1,?_⟩;have hg:(xg 32 l).getD (i+1) []=(xg 32 (xp l (i+1))).getD 0 []:=by
   rw[hR1,zb,zb,zO]
  have hlen:(xg 32 (xp l (i+1))).length=(xg 32 l).length - (i+1):=by rw[hR1,List.length_drop]
  rw[hg];clear hg g1 q1 q3 k1 k2 k3 k4 hm e0 e;generalize hS:xp l (i+1)=S at *;rcases Aa S 32 with⟨h1,h2⟩ | ⟨j,h1,h2,h3,h4⟩
  . have e:=xP h2;rw[e]at hlen ⊢;exact .inr ⟨by simp at hlen;omega,h1,rfl⟩
  . have hm:=xU (l:=S) (c:=32) (f:=0) (n:=j) (fun k _ b=>h4 k (by omega));have e0:=xA (l:=S) (c:=32) (f:=0) (i:=j) (yF _) h2 h3;simp only[yB,Nat.sub_zero]at hm e0;have e:xg 32 S=S.take j :: xg 32 (S.drop (j+1)):=(congrArg _ e0).trans (xM hm);have hp:0 < (xg 32 (S.drop (j+1))).length:=List.length_pos_iff.2 (xV _ _);rw[e]at hlen ⊢;refine .inl ⟨by simp at hlen;omega,j,h1,h2,rfl,?_⟩;show (xp l (i+1)).drop ((Lib.indexByte (xp l (i+1)) 32).toNat+1)=_
    rw[hS,h1,z5]
theorem split_c (l:List UInt8) (hl:l.length<=1000000) (N:Nat) (fin:Bool) (hN:0 < N) (hM:N<=(xg 32 l).length) (hf:fin=true->N=(xg 32 l).length) :
 ItC Tryz.prog 192 [] [.ptr 201011 0,.ptr 200011 0,.ptr 202011 0] [(200011,.box [.s (.string (mkB l))]),(201011,.box [.s (.string xL)]),(202011,.box [.s (.int .i64 0)])] 100000 (Ab l) N fin:=by
 intro yl R Rf hy;have hsz:xL.size=1:=rfl
 refine lX [] is192 (by simp) (by
  intro o ho;simp only[zl]at ho;rcases ho with rfl | ho
  . simp
  . split at ho <;> simp at ho;subst ho;simp) (fun o ho k cs hm=>by
  simp only[zl]at ho;rcases ho with rfl | ho
  . simp at hm
  . split at ho <;> simp at ho;subst ho;simp at hm) (fun cx _ _ _=>dC [] 800 ?_)
 have h10:¬ ((1:Nat):Int)=0:=by decide
 delta c192 oO oN oA oM oR oS oK oL oI oX oB;simp (maxSteps:=9^7) -implicitDefEqProofs only[Ai,z4,hsz,h10,V,W3,↓reduceIte,seval,reduceCtorEq];refine sK (α:=Nat) (fun i=>[]) (fun i=>[(200011,.box [.s (.string (mkB (xp l i)))]),(201011,.box [.s (.string xL)]),(202011,.box [.s (.int .i64 0)]),(100000,.res (R i))]) (fun i=>i < N) (fun i=>N - i) 0 hN ?_ (fun i hi=>dC [B8] 800 ?_)
 . simp (maxSteps:=9^7) -implicitDefEqProofs only[xp,V,W3,↓reduceIte,seval,reduceCtorEq]
 . obtain⟨g1,g2⟩:=Dz l i (by omega);have hrl:=Ck l i;have hone:((1:Nat):Int)=1:=rfl;rcases g2 with⟨q0,j,q1,q2,q3,q4⟩ | ⟨q0,q1,q2⟩
   . have hj0:¬ (j:Int) < 0:=by omega
     have e1:=xD (mkB (xp l i)) 0 j (by rw[xo];omega);have e2:=xD (mkB (xp l i)) (j+1) (mkB (xp l i)).size (zw _);rw[xo,xi]at e2;rw[xi]at e1;rw[List.take_of_length_le (by rw[List.length_drop];omega),<- q4]at e2;rw[yB,Nat.sub_zero,<- q3]at e1;have hj2:((j:Int)+1).toNat=j+1:=by omega
     have hj3:(j:Int)+0=(j:Int):=by omega
     delta B2 oO oN oA oM oR oS oK oL oC oW oI oX oB;simp (maxSteps:=9^7) -implicitDefEqProofs only[Ai,B8,xi,xo,q1,hj0,hj3,e1,z5,InR,Ent.of2,V,W3,↓reduceIte,seval,reduceCtorEq];refine⟨by omega,by omega,?_⟩;refine t7 rfl (OpM.yield (l:=yl) (kr:=100000) (xs:=Ab l i) (R:=R i) rfl rfl rfl (hy i hi)) (fun ef hef=>?_);have hno:ef=cq [(100000,.res (R i)),(200011,.box [.s (.string (mkB (xp l i)))]),(201011,.box [.s (.string xL)]),(202011,.box [.s (.int .i64 0)])] 100000 false Rf \/
      (i+1 < N/\ef=cq [(100000,.res (R i)),(200011,.box [.s (.string (mkB (xp l i)))]),(201011,.box [.s (.string xL)]),(202011,.box [.s (.int .i64 0)])] 100000 true (R (i+1))):=by
      simp only[ce]at hef;split at hef
      . rename_i hh;split at hh
        . rename_i h2;cases hh;simp only[zl,zA,or_false]at hef;rcases hef with h | h
          . refine .inr ⟨?_,h⟩;rcases h2 with h2 | h2
            . exact h2
            . rw[hf h2];exact q0
          . exact .inl h
        . cases hh
      . simp only[zl,zA,or_false]at hef;exact .inl hef
     rcases hno with rfl | ⟨h2,rfl⟩
     . refine nz [] 800 ?_;simp (maxSteps:=9^7) -implicitDefEqProofs only[Ai,V,W3,↓reduceIte,seval,reduceCtorEq];exact⟨_,zq,trivial,rfl,trivial⟩
     . refine nz [] 800 ?_;simp (maxSteps:=9^7) -implicitDefEqProofs only[Ai,hsz,hone,hj2,e2,xo,InR,V,W3,↓reduceIte,seval,reduceCtorEq];exact⟨by omega,by omega,i+1,h2,by omega,rfl,rfl⟩
   . have hNi:N=i+1:=by omega
     delta B2 oO oN oA oM oR oS oK oL oC oW oI oX oB;simp (maxSteps:=9^7) -implicitDefEqProofs only[Ai,B8,xi,xo,q1,InR,Ent.of2,V,W3,↓reduceIte,seval,reduceCtorEq];have hxs:Ab l i=[C.s (.string (mkB (xp l i)))]:=by simp only[Ab,q2]
     refine t7 rfl (OpM.yield (l:=yl) (kr:=100000) (xs:=Ab l i) (R:=R i) rfl (by rw[hxs];rfl) rfl (hy i hi)) (fun ef hef=>?_);have hno:ef=cq [(100000,.res (R i)),(200011,.box [.s (.string (mkB (xp l i)))]),(201011,.box [.s (.string xL)]),(202011,.box [.s (.int .i64 0)])] 100000 false Rf \/
      (fin=true/\ef=cq [(100000,.res (R i)),(200011,.box [.s (.string (mkB (xp l i)))]),(201011,.box [.s (.string xL)]),(202011,.box [.s (.int .i64 0)])] 100000 true (R (i+1))):=by
      simp only[ce]at hef;split at hef
      . rename_i hh;split at hh
        . rename_i h2;cases hh;simp only[zl,zA,or_false]at hef;rcases hef with h | h
          . refine .inr ⟨?_,h⟩;rcases h2 with h2 | h2
            . omega
            . exact h2
          . exact .inl h
        . cases hh
      . simp only[zl,zA,or_false]at hef;exact .inl hef
     rcases hno with rfl | ⟨h2,rfl⟩
     . refine nz [] 800 ?_;simp (maxSteps:=9^7) -implicitDefEqProofs only[Ai,V,W3,↓reduceIte,seval,reduceCtorEq];exact⟨_,zq,trivial,rfl,trivial⟩
     . refine nz [] 800 ?_;simp (maxSteps:=9^7) -implicitDefEqProofs only[Ai,h2,V,W3,↓reduceIte,seval,reduceCtorEq];subst hNi;exact⟨_,zo _ zq,trivial,rfl,trivial⟩
theorem CJ (s p:ByteArray):FC Tryz.prog 173 [enc s,enc p,enc (0:Int)] [] (.fn (.func 192) [] [.ptr 4 0,.ptr 3 0,.ptr 5 0]) [(3,.box [enc s]),(4,.box [enc p]),(5,.box [enc (0:Int)])]:=by
 refine dD [] is173 (by simp) (by simp[bk]) (by simp[an,ag,av]) (by simp[an,ag,av]) (by simp[aB,lk]) (fun cx _ _ _=>dC [] 800 ?_);delta c173 oO oA oM oX o7;simp (maxSteps:=9^7) -implicitDefEqProofs only[rv173,V,W3,↓reduceIte,seval,reduceCtorEq]
def CU : Ent Tryz.prog where
 id:=173
 sp:=fun args chs=>match args,chs with
  |[.s (.string s),.s (.string p),.s (.int .i64 n)],[]=>some (n=0,.fn (.func 192) [] [.ptr 4 0,.ptr 3 0,.ptr 5 0],[(3,.box [.s (.string s)]),(4,.box [.s (.string p)]),(5,.box [.s (.int .i64 n)])],[3,4,5])
  |_,_=>none
 ok:=by
  intro args chs p r chs' nk hs hp;split at hs
  . simp only[zn,zf]at hs;obtain⟨rfl,rfl,rfl,rfl⟩:=hs;cases hp;refine⟨CJ _ _,⟨fun k c h=>?_,fun k cs h=>by simp at h,?_,fun k c h=>?_⟩⟩
    . simp only[zl,zf,zA,or_false]at h;left;rcases h with h | h | h <;> rw[h.1] <;> simp
    . exact⟨trivial,by simp[dF.keysIns,dF]⟩
    . simp only[zl,zf,zA,or_false]at h;rcases h with h | h | h <;> rw[h.2] <;> exact⟨trivial,trivial⟩
  . cases hs
theorem CD (s p:ByteArray):FC Tryz.prog 159 [enc s,enc p] [] (.fn (.func 192) [] [.ptr 1007 0,.ptr 7 0,.ptr 2007 0]) [(7,.box [enc s]),(1007,.box [enc p]),(2007,.box [enc (0:Int)])]:=by
 refine dD [] is159 (by simp) (by simp[bk]) (by simp[an,ag,av]) (by simp[an,ag,av]) (by simp[aB,lk]) (fun cx _ _ _=>dC [CU] 800 ?_);delta c159 oO oN oA oM oC oX;simp (maxSteps:=9^7) -implicitDefEqProofs only[rv159,CU,V,W3,↓reduceIte,seval,reduceCtorEq]
def CQ : Ent Tryz.prog where
 id:=159
 sp:=fun args chs=>match args,chs with
  |[.s (.string s),.s (.string p)],[]=>some (True,.fn (.func 192) [] [.ptr 1007 0,.ptr 7 0,.ptr 2007 0],[(7,.box [.s (.string s)]),(1007,.box [.s (.string p)]),(2007,.box [.s (.int .i64 0)])],[7,1007,2007])
  |_,_=>none
 ok:=by
  intro args chs p r chs' nk hs hp;split at hs
  . simp only[zn,zf]at hs;obtain⟨rfl,rfl,rfl,rfl⟩:=hs;refine⟨CD _ _,⟨fun k c h=>?_,fun k cs h=>by simp at h,?_,fun k c h=>?_⟩⟩
    . simp only[zl,zf,zA,or_false]at h;left;rcases h with h | h | h <;> rw[h.1] <;> simp
    . exact⟨trivial,by simp[dF.keysIns,dF]⟩
    . simp only[zl,zf,zA,or_false]at h;rcases h with h | h | h <;> rw[h.2] <;> exact⟨trivial,trivial⟩
  . cases hs
theorem Ac : ∀ (k u:Nat),u < 10 ^ (k+1)->(Lib.decDigits u).length<=k+1
 | 0,u,h=>by rw[Lib.decDigits,dif_pos (by omega)];simp
 | k+1,u,h=>by
  rw[Lib.decDigits];split
  . simp
  . have:=Ac k (u / 10) (by rw[Nat.pow_succ]at h;omega);rw[zK];simp;omega
theorem BW (a b:List UInt8):mkB a++mkB b=mkB (a++b):=by
 refine ByteArray.ext ?_;rw[ByteArray.data_append];simp[mkB]
theorem str1 (n:Int):strOfNums [n]=mkB [UInt8.ofNat n.toNat]:=rfl
structure DecAt (n m:Int) (t:List UInt8):Prop where
 le:m.natAbs<=n.natAbs
 z:m=0->t=Lib.decDigits n.natAbs
 nzw:m≠0->Lib.decDigits m.natAbs++t=Lib.decDigits n.natAbs
theorem DecAt.step {n m:Int} {t:List UInt8} (h:DecAt n m t) (hm:m≠0):DecAt n (m.tdiv 10) (UInt8.ofNat (48+m.natAbs % 10) :: t):=by
 have hq:(m.tdiv 10).natAbs=m.natAbs / 10:=by rw[Int.natAbs_tdiv];rfl
 have hnz:=h.nzw hm;refine⟨by rw[hq];have:=h.le;omega,fun h0=>?_,fun h0=>?_⟩
 . have:m.natAbs / 10=0:=by rw[<- hq,h0];rfl
   rw[Lib.decDigits,dif_pos (by omega)]at hnz;rw[<- hnz,Nat.mod_eq_of_lt (by omega)];rfl
 . have h1:m.natAbs / 10≠0:=by rw[<- hq];omega
   rw[Lib.decDigits,dif_neg (by omega)]at hnz;rw[<- hnz,hq,ye];rfl
theorem DecAt.len {n m:Int} {t:List UInt8} (h:DecAt n m t) (hn:n.natAbs < 10 ^ 20):t.length<=20:=by
 have h1:=Ac 19 n.natAbs hn;by_cases hm:m=0
 . rw[h.z hm];exact h1
 . have:=congrArg List.length (h.nzw hm);rw[zK]at this;omega
theorem CM (n:Int) (h:InR .i64 n):FC Tryz.prog 134 [enc n] [] (enc (jh n)) []:=by
 have h:-9223372036854775808<=n/\n<=9223372036854775807:=by simpa[InR]using h
 refine eh is134 (by simp) (fun cx hl=>dC [] 800 ?_);by_cases h0:n=0
 . subst h0;have e:jh 0=⟨#[48]⟩:=by rw[jh,Lib.itoa,if_neg (by omega)];rw[show (0:Int).toNat=0 from rfl,Lib.decDigits,dif_pos (by omega)];rfl
   delta c134 oO oN oM oR oS oK oI oX oB;simp (maxSteps:=9^7) -implicitDefEqProofs only[AA,e,V,W3,↓reduceIte,seval,reduceCtorEq]
 have key:∀ (sgw:ByteArray),sgw++mkB (Lib.decDigits n.natAbs)=jh n->sgw.size<=1->SG Tryz.prog cx (cB AA [] (enc (jh n)) []) [.c (.loop Bi),.blk 0,.c (.keep [3,4] (.seq (.region false [⟨some 24,none,.mv (.tmp 4),false⟩,⟨some 25,none,.mv (.tmp 3),false⟩,⟨some 26,none,.bin .add 9 (.tmp 24) (.tmp 25),false⟩,⟨some 2,none,.mv (.tmp 26),false⟩]) (.keep [2] (.ret))))] ⟨[(0,.s (.int .i64 n)),(3,.s (.string ⟨#[]⟩)),(4,.s (.string sgw))],[]⟩:=fun sgw hsg hs1=>by
  refine sK (α:=Int×List UInt8) (fun v=>[(0,.s (.int .i64 v.1)),(3,.s (.string (mkB v.2)))]) (fun _=>[]) (fun v=>DecAt n v.1 v.2) (fun v=>v.1.natAbs) (n,[]) ⟨zw _,fun e=>absurd e h0,fun _=>by simp⟩ ?_ (fun v hv=>dC [CT] 800 ?_)
  . simp (maxSteps:=9^7) -implicitDefEqProofs only[V,W3,↓reduceIte,seval,reduceCtorEq];rfl
  . obtain⟨m,t⟩:=v;simp only at hv;have hln:=hv.len (by omega);have hle:=hv.le;by_cases hm:m=0
    . subst hm;have ht:=hv.z rfl;rw[ht]at hln;delta Bi oO oN oA oM oR oS oK oC oX oB;simp (maxSteps:=9^7) -implicitDefEqProofs only[AA,ht,hsg,xo,InR,V,W3,↓reduceIte,seval,reduceCtorEq];omega
    . have hq:(m.tdiv 10).natAbs=m.natAbs / 10:=by rw[Int.natAbs_tdiv];rfl
      have hr:(m.tmod 10).natAbs=m.natAbs % 10:=by rw[Int.natAbs_tmod];rfl
      have hst:=hv.step hm;have hd:(if -(m.tmod 10) > m.tmod 10 then -(m.tmod 10)else m.tmod 10)=((m.natAbs % 10:Nat):Int):=by split <;> omega
      have hb:((48:Int)+((m.natAbs % 10:Nat):Int)).toNat=48+m.natAbs % 10:=by omega
      have hap:strOfNums [(48:Int)+((m.natAbs % 10:Nat):Int)]++mkB t=mkB (UInt8.ofNat (48+m.natAbs % 10) :: t):=by rw[str1,hb,BW];rfl
      have hs2:(strOfNums [(48:Int)+((m.natAbs % 10:Nat):Int)]).size=1:=rfl;delta Bi oO oN oA oM oR oS oK oC oX oB;simp (maxSteps:=9^7) -implicitDefEqProofs only[AA,hm,CT,hd,nI,hap,hs2,xo,InR,Ent.of1,V,W3,↓reduceIte,seval,reduceCtorEq];exact⟨by omega,by omega,by omega,by omega,by omega,(m.tdiv 10,_),hst,(by show (m.tdiv 10).natAbs < m.natAbs;omega),rfl,rfl⟩
 by_cases hn:n < 0
 . delta c134 oO oN oM oR oS oK oI oX oB;simp (maxSteps:=9^7) -implicitDefEqProofs only[AA,h0,hn,V,W3,↓reduceIte,seval,reduceCtorEq];refine key ⟨#[45]⟩ ?_ (zw _);rw[jh,Lib.itoa,if_pos hn];exact BW [45] _
 . delta c134 oO oN oM oR oS oK oI oX oB;simp (maxSteps:=9^7) -implicitDefEqProofs only[AA,h0,hn,V,W3,↓reduceIte,seval,reduceCtorEq];refine key ⟨#[]⟩ ?_ (yF _);rw[jh,Lib.itoa,if_neg hn,show n.toNat=n.natAbs by omega];exact BW [] _
def Ap : Ent Tryz.prog:=.of1 134 (fun n=>InR .i64 n) (fun n:Int=>enc (jh n)) (fun _=>trivial) (fun n h=>CM n h)
def xt (b:UInt8):Bool:=decide (48<=b.toNat/\b.toNat<=57)
def xq (a:Nat) (l:List UInt8):Nat:=l.foldl (fun a b=>10*a+(b.toNat - 48)) a
def xj (l:List UInt8):List UInt8:=if l.head? = some 45 then l.drop 1 else l
def xh (l:List UInt8):Option Int:=
 if xj l=[]\/10 < (xj l).length\/((xj l).head? = some 48/\1 < l.length)then none
 else if (xj l).all xt=true then some (if l.head? = some 45 then -(xq 0 (xj l):Int)else (xq 0 (xj l):Int))else none
theorem BD : ∀ (l:List UInt8) (a k:Nat),l.all xt=true->a < 10 ^ k->xq a l < 10 ^ (k+l.length)
 |[],a,k,_,h=>h
 | b :: l,a,k,hd,h=>by
  simp only[List.all_cons,zm]at hd;have h1:48<=b.toNat/\b.toNat<=57:=by simpa[xt]using hd.1
  have:=BD l (10*a+(b.toNat - 48)) (k+1) hd.2 (by rw[Nat.pow_succ];omega);rw[zQ,show k+(l.length+1)=k+1+l.length by omega];exact this
theorem AN (a:Nat) (l:List UInt8) (b:UInt8):xq a (l++[b])=10*xq a l+(b.toNat - 48):=by simp[xq]
theorem BO {ds:List UInt8} {k:Nat} (hk:k < ds.length) (h:(ds.take k).all xt=true) (hc:xt (ds.getD k 0)=true):(ds.take (k+1)).all xt=true:=by
 rw[zb,ze hk]at hc;rw[<- List.take_append_getElem hk,List.all_append,h];simpa using hc
theorem all_not {ds:List UInt8} {k:Nat} (hk:k < ds.length) (hc:xt (ds.getD k 0)=false):ds.all xt=false:=by
 rw[zb,ze hk]at hc;rw[Bool.eq_false_iff];intro h;have:=zx.1 h _ (yy hk);simp only[zN]at hc;rw[hc]at this;cases this
theorem BC (cx:Cx) (s:ByteArray) (hs:s.size<=1000000) (a:Nat) (ha:a=0\/a=1) (ds:List UInt8) (hds:s.data.toList.drop a=ds) (hl:s.size=a+ds.length) (h9:ds.length<=10)
 (hall:ds.all xt=true->xh s.data.toList=some (if a=1 then -(xq 0 ds:Int)else (xq 0 ds:Int))) (hbad:ds.all xt=false->xh s.data.toList=none) :
 SG Tryz.prog cx (cB xH [] (.tup [enc ((xh s.data.toList).getD 0),enc (xh s.data.toList).isSome]) []) [.c (.loop Ad),.blk 0,.c (.keep [6,7] (.seq (.seq (.region false [⟨some 65,none,.mv (.tmp 6),false⟩,⟨some 66,none,.bin .eql 3 (.tmp 65) (.const (.int .i64 1)),false⟩]) (.keep [7,66] (.cond (.tmp 66) (.region false [⟨some 67,none,.mv (.tmp 7),false⟩,⟨some 68,none,.un .neg (.tmp 67),false⟩,⟨some 7,none,.mv (.tmp 68),false⟩]) (.skip)))) (.keep [7] (.seq (.region false [⟨some 69,none,.mv (.tmp 7),false⟩,⟨some 4,none,.mv (.tmp 69),false⟩,⟨some 5,none,.mv (.const (.bool true)),false⟩]) (.keep [4,5] (.ret))))))]
  ⟨[(0,.s (.string s)),(6,.s (.int .i64 (a:Int))),(7,.s (.int .i64 0)),(8,.s (.int .i64 (a:Int)))],[]⟩:=by
 refine eN ds.length (fun k=>[(7,.s (.int .i64 (xq 0 (ds.take k):Int))),(8,.s (.int .i64 ((a+k:Nat):Int)))]) (fun _=>[]) (fun k=>(ds.take k).all xt=true) rfl ?_ (fun k hk hv=>dC [] 800 ?_)
 . simp (maxSteps:=9^7) -implicitDefEqProofs only[xq,V,W3,↓reduceIte,seval,reduceCtorEq]
   all_goals simp[xq]
 . by_cases h:k < ds.length
   . have hi2:((a+k:Nat):Int) < (s.size:Int):=by omega
     have hg:s.data.toList.getD (a+k) 0=ds.getD k 0:=by rw[<- hds,zb,zb,zO]
     have hsn:ds.take (k+1)=ds.take k++[ds.getD k 0]:=by
      rw[zb,ze h];exact (List.take_append_getElem h).symm
     have hvn:xq 0 (ds.take (k+1))=10*xq 0 (ds.take k)+((ds.getD k 0).toNat - 48):=by rw[hsn,AN]
     have hvb:=BD (ds.take k) 0 0 hv (by decide);rw[List.length_take,Nat.min_eq_left (by omega),zz]at hvb;have hvb:xq 0 (ds.take k) < 10 ^ 9:=yJ hvb (Nat.pow_le_pow_right (by decide) (by omega));have hcb:=(ds.getD k 0).toNat_lt;generalize hcd:ds.getD k 0=ch at *;by_cases hc:48<=ch.toNat/\ch.toNat<=57
     . have hc1:¬ ((ch.toNat:Nat):Int) < 48:=by omega
       have hc2:¬ ((ch.toNat:Nat):Int) > 57:=by omega
       have hc3:¬ 57 < ((ch.toNat:Nat):Int):=by omega
       have hnx:=BO h hv (by rw[hcd];simpa[xt]using hc);delta Ad oO oN oA oM oG oR oS oK oV oI oX oH oB oD o9;simp (maxSteps:=9^7) -implicitDefEqProofs only[xH,hi2,hg,hc1,hc2,hc3,z5,InR,V,W3,↓reduceIte,seval,reduceCtorEq];generalize xq 0 (ds.take k)=V at *;refine⟨by omega,by omega,by omega,by omega,by omega,by omega,by omega,by omega,h,hnx,?_⟩;rw[hvn];refine⟨?_,?_⟩ <;> push_cast <;> omega
     . have hnd:xh s.data.toList=none:=hbad (all_not h (by rw[hcd];simpa[xt]using hc));by_cases hc1:((ch.toNat:Nat):Int) < 48
       . delta Ad oO oN oA oM oG oR oS oK oV oI oX oH oB oD o9;simp (maxSteps:=9^7) -implicitDefEqProofs only[xH,hi2,hg,hc1,hnd,z5,InR,V,W3,↓reduceIte,seval,reduceCtorEq];omega
       . have hc2:((ch.toNat:Nat):Int) > 57:=by omega
         have hc3:57 < ((ch.toNat:Nat):Int):=by omega
         delta Ad oO oN oA oM oG oR oS oK oV oI oX oH oB oD o9;simp (maxSteps:=9^7) -implicitDefEqProofs only[xH,hi2,hg,hc1,hc2,hc3,hnd,z5,InR,V,W3,↓reduceIte,seval,reduceCtorEq];omega
   . have hi2:¬ ((a+k:Nat):Int) < (s.size:Int):=by omega
     have hke:k=ds.length:=by omega
     subst hke;rw[yo]at hv;have hr:=hall hv;have hvb:=BD ds 0 0 hv (by decide);have hvb:xq 0 ds < 10 ^ 10:=yJ hvb (Nat.pow_le_pow_right (by decide) (by omega));rcases ha with rfl | rfl
     . have h01:¬ ((0:Nat):Int)=1:=by decide
       have hi3:¬ ((ds.length:Nat):Int) < (s.size:Int):=by omega
       delta Ad oO oN oA oM oG oR oS oK oV oI oX oH oB oD o9;simp (maxSteps:=9^7) -implicitDefEqProofs only[xH,hi2,hi3,h01,hr,yo,InR,V,W3,↓reduceIte,seval,reduceCtorEq]
     . have h01:((1:Nat):Int)=1:=rfl;delta Ad oO oN oA oM oG oR oS oK oV oI oX oH oB oD o9;simp (maxSteps:=9^7) -implicitDefEqProofs only[xH,hi2,h01,hr,yo,InR,V,W3,↓reduceIte,seval,reduceCtorEq];omega
theorem Dl (s:ByteArray) (hs:s.size<=1000000):FC Tryz.prog 132 [enc s,enc (10:Int)] [] (.tup [enc ((xh s.data.toList).getD 0),enc (xh s.data.toList).isSome]) []:=by
 refine eh is132 (by simp) (fun cx hl=>dC [] 800 ?_);have h1n:(1:Int).toNat=1:=rfl;by_cases h0:s.size=0
 . have hz:s.data.toList=[]:=List.eq_nil_of_length_eq_zero (by rw[xm];exact h0);have hz0:¬ ((s.size:Nat):Int) > 0:=by omega
   have hz1:¬ (0:Int) < ((s.size:Nat):Int):=by omega
   have hz2:((s.size:Nat):Int)=0:=by omega
   delta Aj oO oN oA oM oG oR oS oK oV oI oX oP oH oB oD o9;simp (maxSteps:=9^7) -implicitDefEqProofs only[xH,hz0,hz1,hz2,V,W3,↓reduceIte,seval,reduceCtorEq];rw[hz];exact⟨rfl,rfl⟩
 have hp0:((s.size:Nat):Int) > 0:=by omega
 have hp1:(0:Int) < ((s.size:Nat):Int):=by omega
 have hp2:¬ ((s.size:Nat):Int)=0:=by omega
 have hhd:s.data.toList.head? = some (s.data.toList.getD 0 0):=by
  cases hq:s.data.toList with
  | nil=>have:=xm s;rw[hq]at this;simp at this;omega
  | cons b r=>rfl
 have hlen:=xm s;by_cases hb:((s.data.toList.getD 0 0).toNat:Int)=45
 . have hb':s.data.toList.head? = some 45:=by rw[hhd];congr 1;exact UInt8.toNat_inj.1 (by simpa using (by omega:(s.data.toList.getD 0 0).toNat=45))
   have hds:xj s.data.toList=s.data.toList.drop 1:=by rw[xj,if_pos hb']
   have hdl:(s.data.toList.drop 1).length=s.size - 1:=by rw[List.length_drop,hlen]
   by_cases q1:((s.size:Nat):Int)=1
   . have hn:xh s.data.toList=none:=by rw[xh,if_pos (.inl (by rw[hds];exact List.eq_nil_of_length_eq_zero (by omega)))]
     delta Aj oO oN oA oM oG oR oS oK oV oI oX oP oH oB oD o9;simp (maxSteps:=9^7) -implicitDefEqProofs only[xH,hp0,hp1,hp2,hb,q1,h1n,hn,WU,V,W3,↓reduceIte,seval,reduceCtorEq]
   by_cases q2:((s.size:Nat):Int) - 1 > 10
   . have hn:xh s.data.toList=none:=by rw[xh,if_pos (.inr (.inl (by rw[hds];omega)))]
     delta Aj oO oN oA oM oG oR oS oK oV oI oX oP oH oB oD o9;simp (maxSteps:=9^7) -implicitDefEqProofs only[xH,hp0,hp1,hp2,hb,q1,q2,h1n,hn,InR,WU,V,W3,↓reduceIte,seval,reduceCtorEq];omega
   have hg1:(s.data.toList.drop 1).head? = some (s.data.toList.getD 1 0):=by
    rw[List.head?_drop,zb,ze (by omega)];rfl
   have q5:(1:Int) < ((s.size:Nat):Int):=by omega
   have q6:((s.size:Nat):Int) > 1:=by omega
   by_cases q3:((s.data.toList.getD 1 0).toNat:Int)=48
   . have hn:xh s.data.toList=none:=by
      have hx:(xj s.data.toList).head? = some 48:=by
       have t48:(s.data.toList.getD 1 0).toNat=48:=by omega
       rw[hds,hg1,show s.data.toList.getD 1 0=48 from UInt8.toNat_inj.1 (by rw[t48];rfl)]
      rw[xh,if_pos (.inr (.inr ⟨hx,by omega⟩))]
     delta Aj oO oN oA oM oG oR oS oK oV oI oX oP oH oB oD o9;simp (maxSteps:=9^7) -implicitDefEqProofs only[xH,hp0,hp1,hp2,hb,q1,q2,q3,q5,q6,h1n,hn,InR,WU,V,W3,↓reduceIte,seval,reduceCtorEq];omega
   have hnn:¬ (xj s.data.toList=[]\/10 < (xj s.data.toList).length\/(xj s.data.toList).head? = some 48/\1 < s.data.toList.length):=by
    rw[hds]
    rintro (h | h | ⟨h,_⟩)
    . rw[h]at hdl;simp at hdl;omega
    . omega
    . rw[hg1]at h;exact q3 (by rw[Option.some.inj h];decide)
   have hk:=BC cx s hs 1 (.inr rfl) _ rfl (by omega) (by omega) (fun h=>by rw[xh,if_neg hnn,hds,if_pos h,if_pos hb',if_pos rfl]) (fun h=>by rw[xh,if_neg hnn,hds,if_neg (by rw[h];decide)]);delta Aj oO oN oA oM oG oR oS oK oV oI oX oP oH oB oD o9;simp (maxSteps:=9^7) -implicitDefEqProofs only[xH,hp0,hp1,hp2,hb,q1,q2,q3,h1n,InR,WU,V,W3,↓reduceIte,seval,reduceCtorEq];exact⟨by omega,by omega,hk⟩
 . have hb':¬ s.data.toList.head? = some 45:=by rw[hhd];intro h;exact hb (by rw[Option.some.inj h];decide)
   have hds:xj s.data.toList=s.data.toList:=by rw[xj,if_neg hb']
   have hdr:s.data.toList.drop 0=s.data.toList:=rfl;by_cases q2:((s.size:Nat):Int) - 0 > 10
   . have hn:xh s.data.toList=none:=by rw[xh,if_pos (.inr (.inl (by rw[hds];omega)))]
     have q2':(10:Int) < ((s.size:Nat):Int):=by omega
     have q2'':((s.size:Nat):Int) > 10:=by omega
     delta Aj oO oN oA oM oG oR oS oK oV oI oX oP oH oB oD o9;simp (maxSteps:=9^7) -implicitDefEqProofs only[xH,hp0,hp1,hp2,hb,q2,q2',q2'',Int.sub_zero,h1n,hn,InR,WU,V,W3,↓reduceIte,seval,reduceCtorEq];omega
   have q2':¬ (10:Int) < ((s.size:Nat):Int):=by omega
   have q2'':¬ ((s.size:Nat):Int) > 10:=by omega
   by_cases q3:((s.data.toList.getD 0 0).toNat:Int)=48
   . by_cases q5:(1:Int) < ((s.size:Nat):Int)
     . have q6:((s.size:Nat):Int) > 1:=by omega
       have hn:xh s.data.toList=none:=by
        have hx:(xj s.data.toList).head? = some 48:=by
         have t48:(s.data.toList.getD 0 0).toNat=48:=by omega
         rw[hds,hhd,show s.data.toList.getD 0 0=48 from UInt8.toNat_inj.1 (by rw[t48];rfl)]
        rw[xh,if_pos (.inr (.inr ⟨hx,by omega⟩))]
       delta Aj oO oN oA oM oG oR oS oK oV oI oX oP oH oB oD o9;simp (maxSteps:=9^7) -implicitDefEqProofs only[xH,hp0,hp1,hp2,hb,q2,q2',q2'',q3,q5,q6,Int.sub_zero,h1n,hn,InR,WU,V,W3,↓reduceIte,seval,reduceCtorEq];omega
     . have q6:¬ ((s.size:Nat):Int) > 1:=by omega
       have hnn:¬ (xj s.data.toList=[]\/10 < (xj s.data.toList).length\/(xj s.data.toList).head? = some 48/\1 < s.data.toList.length):=by
        rw[hds]
        rintro (h | h | ⟨_,h⟩)
        . rw[h]at hlen;simp at hlen;omega
        . omega
        . omega
       have hk:=BC cx s hs 0 (.inl rfl) _ rfl (by rw[yB];omega) (by rw[yB];omega) (fun h=>by rw[yB]at h ⊢;rw[xh,if_neg hnn,hds,if_pos h,if_neg hb',if_neg (by decide)]) (fun h=>by rw[yB]at h;rw[xh,if_neg hnn,hds,if_neg (by rw[h];decide)]);delta Aj oO oN oA oM oG oR oS oK oV oI oX oP oH oB oD o9;simp (maxSteps:=9^7) -implicitDefEqProofs only[xH,hp0,hp1,hp2,hb,q2,q2',q2'',q3,q5,q6,Int.sub_zero,h1n,InR,WU,V,W3,↓reduceIte,seval,reduceCtorEq];exact⟨by omega,hk⟩
   . have hnn:¬ (xj s.data.toList=[]\/10 < (xj s.data.toList).length\/(xj s.data.toList).head? = some 48/\1 < s.data.toList.length):=by
      rw[hds]
      rintro (h | h | ⟨h,_⟩)
      . rw[h]at hlen;simp at hlen;omega
      . omega
      . rw[hhd]at h;exact q3 (by rw[Option.some.inj h];decide)
     have hk:=BC cx s hs 0 (.inl rfl) _ rfl (by rw[yB];omega) (by rw[yB];omega) (fun h=>by rw[yB]at h ⊢;rw[xh,if_neg hnn,hds,if_pos h,if_neg hb',if_neg (by decide)]) (fun h=>by rw[yB]at h;rw[xh,if_neg hnn,hds,if_neg (by rw[h];decide)]);delta Aj oO oN oA oM oG oR oS oK oV oI oX oP oH oB oD o9;simp (maxSteps:=9^7) -implicitDefEqProofs only[xH,hp0,hp1,hp2,hb,q2,q2',q2'',q3,Int.sub_zero,h1n,InR,WU,V,W3,↓reduceIte,seval,reduceCtorEq];exact⟨by omega,hk⟩
def xW : Ent Tryz.prog:=.of2 132 (fun s k=>s.size<=1000000/\k=10) (fun (s:ByteArray) (k:Int)=>.tup [enc ((xh s.data.toList).getD 0),enc (xh s.data.toList).isSome]) (fun _ _=>⟨trivial,trivial,trivial⟩) (fun s k h=>by obtain⟨h1,rfl⟩:=h;exact Dl s h1)
theorem AG (k:Nat) (hk:k < 10):xt (UInt8.ofNat (48+k))=true/\(UInt8.ofNat (48+k)).toNat=48+k:=by
 have h:(UInt8.ofNat (48+k)).toNat=48+k:=by rw[UInt8.toNat_ofNat'];omega
 refine⟨?_,h⟩;simp only[xt,h,decide_eq_true_eq];omega
theorem Ca {a b:List UInt8} (h:a≠[]):(a++b).head? = a.head?:=by
 cases a with
 | nil=>exact absurd rfl h
 | cons x r=>rfl
theorem Ao (u:Nat):Lib.decDigits u≠[]:=by
 rw[Lib.decDigits];split <;> simp
theorem An : ∀ (n u:Nat),u<=n->(Lib.decDigits u).all xt=true
 | n,u,h=>by
  rw[Lib.decDigits];split
  . rw[List.all_cons,(AG u (by omega)).1];rfl
  . have:=(AG (u % 10) (by omega)).1;rw[List.all_append,An (n - 1) (u / 10) (by omega)];simpa using this
termination_by n=>n
decreasing_by omega
theorem AY : ∀ (n u:Nat),u<=n->(Lib.decDigits u).head? = some 48->u=0
 | n,u,h=>by
  rw[Lib.decDigits];split
  . intro h1;have h1:UInt8.ofNat (48+u)=48:=by simpa using h1
    have:=(AG u (by omega)).2;rw[h1]at this;have h48:(48:UInt8).toNat=48:=rfl;omega
  . intro h1;rw[Ca (Ao _)]at h1;have:=AY (n - 1) (u / 10) (by omega) h1;omega
termination_by n=>n
decreasing_by omega
theorem Bw : ∀ (n u:Nat),u<=n->xq 0 (Lib.decDigits u)=u
 | n,u,h=>by
  rw[Lib.decDigits];split
  . simp only[xq,List.foldl_cons,List.foldl_nil,(AG u (by omega)).2];omega
  . rw[AN,Bw (n - 1) (u / 10) (by omega),(AG (u % 10) (by omega)).2];omega
termination_by n=>n
decreasing_by omega
theorem BX {b:UInt8} (h:xt b=true):UInt8.ofNat (48+(b.toNat - 48))=b:=by
 have h:48<=b.toNat/\b.toNat<=57:=by simpa[xt]using h
 refine UInt8.toNat_inj.1 ?_;rw[UInt8.toNat_ofNat'];omega
theorem BE : ∀ (n:Nat) (ds:List UInt8),ds.length=n+1->ds.all xt=true->((ds.head? = some 48)->n=0)->Lib.decDigits (xq 0 ds)=ds/\(0 < n->10 ^ n<=xq 0 ds)
 | 0,ds,hl,hd,_=>by
  match ds,hl with
  |[b],_=>
   simp only[List.all_cons,List.all_nil,zZ]at hd;have h:48<=b.toNat/\b.toNat<=57:=by simpa[xt]using hd
   refine⟨?_,fun h=>by omega⟩;have e:xq 0 [b]=b.toNat - 48:=by simp[xq]
   rw[e,Lib.decDigits,dif_pos (by omega),BX hd]
 | n+1,ds,hl,hd,hh=>by
  obtain⟨b,hb⟩:∃ b,ds=ds.take (n+1)++[b]:=⟨ds.getD (n+1) 0,by
   have h1:=List.take_append_drop (n+1) ds;rw[zb,ze (by omega),zN]
   rw[List.take_append_getElem,List.take_of_length_le (by omega)]⟩
  generalize hp:ds.take (n+1)=p at hb;have hpl:p.length=n+1:=by rw[<- hp,List.length_take];omega
  rw[hb,List.all_append,zm]at hd;have hd2:xt b=true:=by simpa using hd.2
  have hbd:48<=b.toNat/\b.toNat<=57:=by simpa[xt]using hd2
  have hhp:p.head?≠some 48:=fun h=>by
   have:ds.head? = some 48:=by rw[hb,Ca (by intro e;rw[e]at hpl;simp at hpl)];exact h
   have:=hh this;omega
  obtain⟨g1,g2⟩:=BE n p hpl hd.1 (fun h=>absurd h hhp);have hv:10 ^ n<=xq 0 p:=by
   rcases Nat.eq_zero_or_pos n with e | e
   . subst e;rcases Nat.eq_zero_or_pos (xq 0 p)with e2 | e2
     . exfalso
       rw[e2]at g1;exact hhp (by rw[<- g1,Lib.decDigits,dif_pos (by omega)];rfl)
     . rw[Nat.pow_zero];exact e2
   . exact g2 e
  have hpos:1<=10 ^ n:=Nat.pow_pos (by decide);have e:xq 0 ds=10*xq 0 p+(b.toNat - 48):=by rw[hb,AN]
  refine⟨?_,fun _=>by rw[e,Nat.pow_succ];omega⟩;rw[e,Lib.decDigits,dif_neg (by omega),show (10*xq 0 p+(b.toNat - 48)) / 10=xq 0 p by omega,show (10*xq 0 p+(b.toNat - 48)) % 10=b.toNat - 48 by omega,g1,BX hd2];exact hb.symm
theorem AZ {l:List UInt8} {v:Int} (h:xh l=some v):Lib.itoa v=l/\(xj l).length<=10/\(xj l).all xt=true/\xj l≠[]/\v=(if l.head? = some 45 then -(xq 0 (xj l):Int)else (xq 0 (xj l):Int)):=by
 unfold xh at h;split at h
 . cases h
 . rename_i h1;split at h
   . rename_i h2;have hv:=Option.some.inj h;have hne:xj l≠[]:=fun e=>h1 (.inl e)
     have hlen:¬ 10 < (xj l).length:=fun e=>h1 (.inr (.inl e))
     have hh:(xj l).head? = some 48->¬ 1 < l.length:=fun e f=>h1 (.inr (.inr ⟨e,f⟩))
     refine⟨?_,by omega,h2,hne,hv.symm⟩;obtain⟨n,hn⟩:∃ n,(xj l).length=n+1:=⟨(xj l).length - 1,by have:=List.length_pos_iff.2 hne;omega⟩;by_cases h45:l.head? = some 45
     . rw[if_pos h45]at hv;have hd:xj l=l.drop 1:=by rw[xj,if_pos h45]
       have hl:l=45 :: xj l:=by
        cases l with
        | nil=>cases h45
        | cons b r=>rw[hd];cases h45;rfl
       have hl1:l.length=(xj l).length+1:=by have:=congrArg List.length hl;simpa using this
       have hnh:(xj l).head?≠some 48:=fun e=>hh e (by omega)
       obtain⟨g1,_⟩:=BE n _ hn h2 (fun e=>absurd e hnh);have hpos:0 < xq 0 (xj l):=by
        rcases Nat.eq_zero_or_pos (xq 0 (xj l))with e | e
        . exfalso
          rw[e]at g1;exact hnh (by rw[<- g1,Lib.decDigits,dif_pos (by omega)];rfl)
        . exact e
       rw[Lib.itoa,if_pos (by omega),<- hv,Int.natAbs_neg,Int.natAbs_natCast,g1];exact hl.symm
     . rw[if_neg h45]at hv;have hd:xj l=l:=by rw[xj,if_neg h45]
       obtain⟨g1,_⟩:=BE n _ hn h2 (fun e=>by have:=hh e;rw[hd]at hn;omega);rw[Lib.itoa,if_neg (by omega),<- hv,z5,g1,hd]
   . cases h
theorem Cb {v:Int} (h9:(xj (Lib.itoa v)).length<=10):xh (Lib.itoa v)=some v:=by
 by_cases hv:v < 0
 . have hi:Lib.itoa v=45 :: Lib.decDigits v.natAbs:=by rw[Lib.itoa,if_pos hv]
   have h45:(Lib.itoa v).head? = some 45:=by rw[hi];rfl
   have hd:xj (Lib.itoa v)=Lib.decDigits v.natAbs:=by rw[xj,if_pos h45,hi];rfl
   rw[hd]at h9;unfold xh;rw[hd,if_neg,if_pos (An _ _ (zw _)),if_pos h45,Bw _ _ (zw _)]
   . congr 1;omega
   . rintro (e | e | ⟨e,_⟩)
     . exact Ao _ e
     . omega
     . have:=AY _ _ (zw _) e;omega
 . have hi:Lib.itoa v=Lib.decDigits v.toNat:=by rw[Lib.itoa,if_neg hv]
   have hdg:=An _ _ (zw v.toNat);have h45:¬ (Lib.itoa v).head? = some 45:=by
    rw[hi];intro e;cases hq:Lib.decDigits v.toNat with
    | nil=>exact Ao _ hq
    | cons b r=>
     rw[hq]at e hdg;have e:b=45:=by simpa using e
     subst e;simp[xt]at hdg
   have hd:xj (Lib.itoa v)=Lib.decDigits v.toNat:=by rw[xj,if_neg h45,hi]
   rw[hd]at h9;unfold xh;rw[hd,if_neg,if_pos hdg,if_neg h45,Bw _ _ (zw _)]
   . congr 1;omega
   . rintro (e | e | ⟨e,e2⟩)
     . exact Ao _ e
     . omega
     . have:=AY _ _ (zw _) e;rw[hi,this,Lib.decDigits,dif_pos (by omega)]at e2;simp at e2
theorem AT : ∀ (ds:List UInt8) (a:Nat),ds.all xt=true->Lib.decFrom a ds=some (xq a ds)
 |[],a,_=>rfl
 | b :: ds,a,h=>by
  simp only[List.all_cons,zm]at h;have hb:48<=b.toNat/\b.toNat<=57:=by simpa[xt]using h.1
  have hd:Lib.digitVal b=some (b.toNat - 48):=by simp[Lib.digitVal,hb]
  simp only[Lib.decFrom,hd];have:=AT ds (a*10+(b.toNat - 48)) h.2;rw[show xq a (b :: ds)=xq (10*a+(b.toNat - 48)) ds from rfl,Nat.mul_comm 10 a];simpa using this
theorem Ax {l:List UInt8} {v:Int} (h:xh l=some v):Lib.atoiAll l=.ok v:=by
 obtain⟨h1,h2,h3,h4,h5⟩:=AZ h;have hdn:Lib.decNat (xj l)=some (xq 0 (xj l)):=by
  rw[Lib.decNat,if_neg (by simpa using h4),AT _ _ h3]
 by_cases h45:l.head? = some 45
 . have hd:xj l=l.drop 1:=by rw[xj,if_pos h45]
   have hl:l=45 :: xj l:=by
    cases l with
    | nil=>cases h45
    | cons b r=>rw[hd];cases h45;rfl
   rw[if_pos h45]at h5;rw[Lib.atoiAll_short l (by rw[hl];simp;omega),hl,Lib.atoi,if_pos (by decide),hdn,h5];rfl
 . have hd:xj l=l:=by rw[xj,if_neg h45]
   rw[if_neg h45]at h5;rw[hd]at hdn h2 h3 h4;rw[Lib.atoiAll_short l (by omega)];cases hq:l with
   | nil=>exact absurd hq h4
   | cons b r=>
    rw[hq]at h3 hdn h5;simp only[List.all_cons,zm]at h3;have hb:48<=b.toNat/\b.toNat<=57:=by simpa[xt]using h3.1
    have n1:(b == 45)=false:=by rw[beq_eq_false_iff_ne];intro e;rw[e]at hb;exact absurd hb.1 (by decide)
    have n2:(b == 43)=false:=by rw[beq_eq_false_iff_ne];intro e;rw[e]at hb;exact absurd hb.1 (by decide)
    rw[Lib.atoi,if_neg (by simp[n1]),if_neg (by simp[n2]),hdn,h5,<- hq,hd];rfl
theorem Di (l:List UInt8):Lib.trimPrefix l [45]=xj l:=by
 unfold Lib.trimPrefix Lib.hasPrefix xj;cases l with
 | nil=>rfl
 | cons b r=>
  by_cases hb:b=45
  . subst hb;rfl
  . have h1:¬ (b :: r).head? = some 45:=by simpa using hb
    have h2:¬ ([45]:List UInt8).isPrefixOf (b :: r)=true:=by simp[List.isPrefixOf];exact fun e=>hb e.symm
    rw[if_neg h1,if_neg h2]
def Aw (l:List UInt8):Int:=match Lib.atoiAll l with
 |.ok v=>v
 |.range=>Lib.atoiSat l
 |_=>0
theorem Dc {l:List UInt8} {v:Int} (h:xh l=some v):Aw l=v:=by rw[Aw,Ax h]
theorem num_c (s:ByteArray) (hs:s.size<=1000000):FC Tryz.prog 160 [enc s] [] (.tup [enc (Aw s.data.toList),enc (xh s.data.toList).isSome]) []:=by
 refine FC.scal (vs:=[.string s]) ⟨_,Tryz.func160,by kernel_rfl,by kernel_rfl⟩ (fun U w hg hU=>?_);have fin:∀ (n:Int) (b:Bool),Aw s.data.toList=n->(xh s.data.toList).isSome=b->∀ e w',(e=Ending.returned (.tuple #[.int .i64 n,.bool b])/\RowKit.Below w.heap.size w w') ->
  ∃ v,e=.returned v/\(∀ E U h,Rep E U h (.tup [enc (Aw s.data.toList),enc (xh s.data.toList).isSome]) v)/\RowKit.Below w.heap.size w w':=by
  rintro n b rfl rfl e w' ⟨rfl,hb⟩
  refine⟨_,rfl,fun E U h=>.tup _ _ rfl (fun j c hj=>?_),hb⟩
  match j,hj with
  | 0,hj=>cases hj;exact .d (.s _)
  | 1,hj=>cases hj;exact .d (.s _)
 cases ha:Lib.atoiAll s.data.toList with
 | ok v=>
  refine (num_ok s v hs ha (Lib.atoiAll_bounds ha) w (fun w' hb=>tab_ok (hg.mono (h':=w'.heap) (fun b h=>⟨h,hb.block b (hU b h)⟩)))).mono (fin v _ (by rw[Aw,ha]) ?_);have e2:(AR s Aq).size=(xj s.data.toList).length:=by rw[AR,Lib.size_eq,<- Di];simp[Aq]
  rw[e2];by_cases h1:Lib.itoa v=s.data.toList
  . have e1:jh v=s:=by rw[jh,h1]
    by_cases h2:(xj s.data.toList).length<=10
    . have:=Cb (v:=v) (by rw[h1];exact h2);rw[h1]at this;simp[e1,h2,this]
    . have hn:xh s.data.toList=none:=by
       cases hq:xh s.data.toList with
       | none=>rfl
       | some w=>exact absurd (AZ hq).2.1 h2
      simp[h2,hn]
  . have e1:¬ jh v=s:=fun e=>h1 (by rw[<- e];simp[jh])
    have hn:xh s.data.toList=none:=by
     cases hq:xh s.data.toList with
     | none=>rfl
     | some w=>
      have h3:=Ax hq;rw[ha]at h3;cases h3;exact absurd (AZ hq).1 h1
    simp[e1,hn]
 | range=>
  obtain⟨tp,p,hv⟩:=rng_ok hg;refine (num_rng s hs ha tp p w hv).mono (fin _ false (by rw[Aw,ha]) ?_);cases hq:xh s.data.toList with
  | none=>rfl
  | some w=>have:=Ax hq;rw[ha]at this;cases this
 |_=>
  obtain⟨tp,p,hv⟩:=syn_ok hg;refine (num_syn s hs ha tp p w hv).mono (fin 0 false (by rw[Aw,ha]) ?_);cases hq:xh s.data.toList with
  | none=>rfl
  | some w=>have:=Ax hq;rw[ha]at this;cases this
def Bm : Ent Tryz.prog:=.of1 160 (fun s=>s.size<=1000000) (fun s:ByteArray=>.tup [enc (Aw s.data.toList),enc (xh s.data.toList).isSome]) (fun _=>⟨trivial,trivial,trivial⟩) (fun s h=>num_c s h)
def xN : List (List UInt8)->Option (List Int)
 |[]=>some []
 | w :: ws=>(xh w).bind fun g=>(xN ws).map (g :: ·)
def xl (l:List UInt8):Option (List Int):=if l=[]then some []else xN (xg 32 l)
theorem x8 (c:UInt8):∀ (l:List UInt8),(xg c l).length<=l.length+1/\∀ w∈xg c l,w.length<=l.length
 |[]=>⟨zw _,fun w h=>by simp[xg]at h;subst h;exact zw _⟩
 | b :: l=>by
  obtain⟨h1,h2⟩:=x8 c l;rw[xg];split
  . refine⟨by simp;omega,fun w h=>?_⟩;rcases zl.1 h with rfl | h
    . exact yF _
    . have:=h2 w h;simp;omega
  . split
    . rename_i p ps hq;rw[hq]at h1 h2;refine⟨by simp at *;omega,fun w h=>?_⟩;rcases zl.1 h with rfl | h
      . have:=h2 p zq;simp;omega
      . have:=h2 w (zo _ h);simp;omega
    . refine⟨by simp,fun w h=>?_⟩;simp only[zg]at h;subst h;simp
theorem AE : ∀ {ws:List (List UInt8)} {i:Nat},i < ws.length->xh (ws.getD i [])=none->xN ws=none
 | w :: ws,0,_,h=>by
  have h:xh w=none:=by simpa using h
  rw[xN,h];rfl
 | w :: ws,i+1,hi,h=>by
  have:=AE (ws:=ws) (i:=i) (by simpa using hi) (by simpa using h);rw[xN,this];cases xh w <;> rfl
theorem AF : ∀ {ws:List (List UInt8)},(∀ i,i < ws.length->(xh (ws.getD i [])).isSome=true)->xN ws=some (ws.map fun w=>(xh w).getD 0)
 |[],_=>rfl
 | w :: ws,h=>by
  have h0:=h 0 (by simp);have ih:=AF (ws:=ws) (fun i hi=>by have:=h (i+1) (by simpa using hi);simpa using this);have h0:(xh w).isSome=true:=by simpa using h0
  cases hq:xh w with
  | none=>rw[hq]at h0;cases h0
  | some g=>rw[xN,hq,ih];simp[hq]
def xz (ws:List (List UInt8)) (i:Nat):List Int:=(ws.take i).map fun w=>(xh w).getD 0
theorem AM {ws:List (List UInt8)} {i:Nat} (h:i<=ws.length):(xz ws i).length=i:=by rw[xz,zy,List.length_take];omega
theorem Bp {ws:List (List UInt8)} {i:Nat} (h:i < ws.length):xz ws (i+1)=xz ws i++[(xh (ws.getD i [])).getD 0]:=by
 rw[xz,xz,zb,ze h,zN,<- List.take_append_getElem h,yg];rfl
theorem DD (ws:List (List UInt8)) (i:Nat):(ws.map mkB).getD i ⟨#[]⟩=mkB (ws.getD i []):=by
 rw[zb,zh,zb];cases ws[i]? <;> rfl
theorem Dg (ws:List (List UInt8)) (h0:ws≠[]):∃ (N:Nat) (fin:Bool),0 < N/\N<=ws.length/\(fin=true->N=ws.length)/\(fin=true->∀ i,i < ws.length->(xh (ws.getD i [])).isSome=true) /\
 (∀ i,i < N->xh (ws.getD i [])≠none->i+1 < N\/fin=true):=by
 by_cases h:∀ i,i < ws.length->(xh (ws.getD i [])).isSome=true
 . exact⟨ws.length,true,List.length_pos_iff.2 h0,zw _,fun _=>rfl,fun _=>h,fun _ _ _=>.inr rfl⟩
 . have h':∃ i,i < ws.length/\xh (ws.getD i [])=none:=by
    refine Classical.byContradiction fun hc=>h fun i hi=>?_
    cases hq:xh (ws.getD i [])with
    | none=>exact absurd ⟨i,hi,hq⟩ hc
    | some g=>rfl
   obtain⟨m,hm,hn⟩:=h';refine⟨m+1,false,by omega,by omega,fun h=>(by cases h),fun h=>(by cases h),fun i hi hne=>?_⟩;rcases Nat.lt_succ_iff_lt_or_eq.1 hi with h | rfl
   . exact .inl (by omega)
   . exact absurd hn hne
theorem AQ {s:ByteArray}:(s=⟨#[]⟩)=(s.data.toList=[]):=by
 refine propext ⟨fun h=>by rw[h],fun h=>?_⟩;have:=Cd s;rw[<- this,h];rfl
def xw (s:ByteArray):C:=.tup [enc ((xl s.data.toList).getD []),enc (xl s.data.toList).isSome]
theorem Dd (s:ByteArray) (hs:s.size<=100000):FC Tryz.prog 127 [enc s] [] (xw s) []:=by
 unfold xw;by_cases h0:s.data.toList=[]
 . have h0':(s=⟨#[]⟩)=True:=by rw[AQ];exact eq_true h0
   have hn:xl s.data.toList=some []:=by rw[xl,if_pos h0]
   rw[hn];refine dD [] is127 (by simp) trivial trivial trivial trivial (fun cx hcx hl _=>dC [] 800 ?_);delta c127 oO oA oM oR oS oK oL oW oY oI oX o0;simp (maxSteps:=9^7) -implicitDefEqProofs only[Az,h0',zN,Option.isSome_some,V,W3,↓reduceIte,seval,reduceCtorEq]
 have h0':(s=⟨#[]⟩)=False:=by rw[AQ];exact eq_false h0
 refine dD [] is127 (by simp) trivial trivial trivial trivial (fun cx hcx hl _=>dC [CQ] 800 ?_);delta c127 oO oA oM oR oS oK oL oW oY oI oX o0;simp (maxSteps:=9^7) -implicitDefEqProofs only[Az,CQ,h0',V,W3,↓reduceIte,seval,reduceCtorEq];obtain⟨c1,c2⟩:=x8 32 s.data.toList;have hne:=xV 32 s.data.toList;rw[xm]at c1 c2;obtain⟨N,fin,n1,n2,n3,n4,n5w⟩:=Dg _ hne;have hit:ItC Tryz.prog 192 [] [.ptr 201011 0,.ptr 200011 0,.ptr 202011 0] [(200011,.box [.s (.string s)]),(201011,.box [.s (.string ⟨#[32]⟩)]),(202011,.box [.s (.int .i64 0)])] 100000 (Ab s.data.toList) N fin:=
  split_c s.data.toList (by rw[xm];omega) N fin n1 n2 n3
 have hpv:∀ i,Ab s.data.toList i=[.s (.string (mkB ((xg 32 s.data.toList).getD i [])))]:=fun i=>rfl
 have hR:xl s.data.toList=xN (xg 32 s.data.toList):=by rw[xl,if_neg h0]
 rw[hR];generalize Ab s.data.toList=pvw at *;generalize xg 32 s.data.toList=ws at *;refine S_sh 200000 (by rw[hcx.2.2];exact zw _) (by rfl) ?_;simp (maxSteps:=9^7) -implicitDefEqProofs only[V,W3,↓reduceIte,seval,reduceCtorEq];refine mL (f:=192) (first:=[]) (caps:=[.ptr 201011 0,.ptr 200011 0,.ptr 202011 0]) (ich:=[(200011,.box [.s (.string s)]),(201011,.box [.s (.string ⟨#[32]⟩)]),(202011,.box [.s (.int .i64 0)])]) (kr:=100000) (vals:=pvw) (N:=N) (fin:=fin) [200002,200003,200004]
  (fun i=>[(200002,.box [.s (.slice none 0 0)]),(200003,.box [.s (.bool false)]),(200004,.box [if i=0 then .s (.slice none 0 0)else .isl 1 3 ((xz ws i).map cells)])])
  hcx.2.1 rfl hit ⟨?_,?_⟩ ⟨fun c hc=>?_,fun k c hc=>?_⟩ ?_ (fun i hi=>?_) (fun k hk=>?_) (fun i hi=>?_) (fun i hi cx' _ hcx'=>dC [] 800 ?_) (fun hfin=>?_)
 . simp (maxSteps:=9^7) -implicitDefEqProofs only[V,W3,↓reduceIte,seval,reduceCtorEq]
 . simp (maxSteps:=9^7) -implicitDefEqProofs only[V,W3,↓reduceIte,seval,reduceCtorEq]
 . simp only[yb,zl,zA,or_false]at hc;rcases hc with rfl | rfl | rfl <;> simp[dF,ag]
 . simp only[zl,zf,zA,or_false]at hc;rcases hc with⟨rfl,rfl⟩ | ⟨rfl,rfl⟩ | ⟨rfl,rfl⟩ <;> exact⟨trivial,trivial⟩
 . simp (maxSteps:=9^7) -implicitDefEqProofs only[V,W3,↓reduceIte,seval,reduceCtorEq]
 . simp (maxSteps:=9^7) -implicitDefEqProofs only[V,W3,↓reduceIte,seval,reduceCtorEq];simp
 . rw[hcx.2.2];simp only[zl,zA,or_false]at hk;omega
 . rw[hpv];refine⟨rfl,fun c hc=>?_⟩;simp only[zg]at hc;subst hc;trivial
 . simp (maxSteps:=9^7) -implicitDefEqProofs only[hpv,V,W3,↓reduceIte,seval,reduceCtorEq];intro cx'' _ _;refine dC [Bm] 800 ?_;have hiw:i < ws.length:=by omega
   have hwl:=c2 (ws.getD i []) (by rw[zb,ze hiw];exact yy hiw);have hos:=Bp hiw;have hol:=AM (Nat.le_of_lt hiw);have hbad:=AE hiw;have hnx:=n5w i hi;generalize hww:ws.getD i []=w at *;have hws:(mkB w).size<=1000000:=by rw[xo];omega
   cases hA:xh w with
   | none=>
    have hn:=hbad hA;rw[hn];delta Bf oO oA oM oR oS oK oL oC oY oI oX o1 o8;simp (maxSteps:=9^7) -implicitDefEqProofs only[Az,Bm,hws,hA,xi,Option.isSome_none,Option.getD_none,InR,Ent.of1,V,W3,↓reduceIte,seval,reduceCtorEq];exact .inr trivial
   | some x=>
    have hx:=Dc hA;have hnx2:=hnx (by rw[hA];simp);cases i with
    | zero=>
     have h1:[[C.s (.int .i64 x)]]=(xz ws 1).map cells:=by rw[hos,hA];rfl
     delta Bf oO oA oM oR oS oK oL oC oY oI oX o1 o8;simp (maxSteps:=9^7) -implicitDefEqProofs only[Az,Bm,hws,hA,hx,h1,xi,Option.isSome_none,Option.isSome_some,InR,Ent.of1,V,W3,↓reduceIte,seval,reduceCtorEq];have hol1:=AM (ws:=ws) (i:=1) (by omega);exact⟨⟨by omega,by omega⟩,by decide,hnx2⟩
    | succ i=>
     have h1:(xz ws (i+1)).map cells++[[C.s (.int .i64 x)]]=(xz ws (i+1+1)).map cells:=by rw[hos,hA,yg];rfl
     delta Bf oO oA oM oR oS oK oL oC oY oI oX o1 o8;simp (maxSteps:=9^7) -implicitDefEqProofs only[Az,Bm,hws,hA,hx,h1,hol,Nat.succ_ne_zero,xi,Option.isSome_none,Option.isSome_some,InR,Ent.of1,V,W3,↓reduceIte,seval,reduceCtorEq];exact⟨⟨by decide,by omega,by omega⟩,by decide,hnx2⟩
 . have hall:=AF (n4 hfin);have hNl:=n3 hfin;have ho:xz ws ws.length=ws.map fun w=>(xh w).getD 0:=by rw[xz,yo]
   rw[hall,<- ho];rw[if_neg (by omega:¬ N=0),hNl];refine S_fzb 200004 rfl (dC [] 800 ?_);simp (maxSteps:=9^7) -implicitDefEqProofs only[Az,Option.isSome_some,zN,InR,V,W3,↓reduceIte,seval,reduceCtorEq]
def xI : Ent Tryz.prog:=.of1 127 (fun s=>s.size<=100000) (fun s:ByteArray=>xw s) (fun _=>⟨trivial,trivial,trivial⟩) (fun s h=>Dd s h)
theorem read_c (s:ByteArray) (hs:s.size<=100000):FC Tryz.prog 133 [enc s] [] (xw s) []:=by
 unfold xw;by_cases h0:s.data.toList=[]
 . have h0':(s=⟨#[]⟩)=True:=by rw[AQ];exact eq_true h0
   have hn:xl s.data.toList=some []:=by rw[xl,if_pos h0]
   rw[hn];refine eh is133 (by simp) (fun cx hl=>dC [] 800 ?_);delta c133 oO oA oM oS oK oV oC oI oX o9;simp (maxSteps:=9^7) -implicitDefEqProofs only[AP,h0',zN,Option.isSome_some,WU,V,W3,↓reduceIte,seval,reduceCtorEq]
 have h0':(s=⟨#[]⟩)=False:=by rw[AQ];exact eq_false h0
 refine eh is133 (by simp) (fun cx hl=>dC [yO] 800 ?_);have h32:UInt8.ofNat 32=32:=rfl;have hs6:s.size<=1000000:=by omega
 obtain⟨c1,c2⟩:=x8 32 s.data.toList;rw[xm]at c1 c2;have hcb:yT 32 s=(xg 32 s.data.toList).map mkB:=rfl;have hR:xl s.data.toList=xN (xg 32 s.data.toList):=by rw[xl,if_neg h0]
 rw[hR];delta c133 oO oA oM oS oK oV oC oI oX o9;simp (maxSteps:=9^7) -implicitDefEqProofs only[AP,yO,h0',h32,hs6,hcb,WU,V,W3,↓reduceIte,seval,reduceCtorEq];generalize xg 32 s.data.toList=ws at *;refine eN ws.length (fun i=>[(6,.s (.int .i64 (i:Int)))]) (fun i=>[(5,.row 1 3 ((xz ws i).map cells))]) (fun i=>∀ j,j < i->(xh (ws.getD j [])).isSome=true) (fun j hj=>by omega) ?_ (fun i hi hv=>dC [xW] 800 ?_)
 . simp (maxSteps:=9^7) -implicitDefEqProofs only[xz,V,W3,↓reduceIte,seval,reduceCtorEq]
   all_goals simp
 . by_cases h:i < ws.length
   . have hi2:(i:Int) < (ws.length:Int):=by omega
     have hi0:(0:Int)<=i:=by omega
     have hwl:=c2 (ws.getD i []) (by rw[zb,ze h];exact yy h);have hg:=DD ws i;have hws:(mkB (ws.getD i [])).size<=1000000:=by rw[xo];omega
     have hos:=Bp h;have hol:=AM hi;have hbad:=AE h;generalize hww:ws.getD i []=w at *;cases hA:xh w with
     | none=>
      have hn:=hbad hA;rw[hn];delta Bh oO oN oA oM oR oS oK oL oC oI oX oB o1 o4 o8 o9;simp (maxSteps:=9^7) -implicitDefEqProofs only[AP,hi2,hi0,h,hg,hww,xW,hws,hA,xi,Option.isSome_none,Option.getD_none,InR,WU,Ent.of2,V,W3,↓reduceIte,seval,reduceCtorEq]
     | some x=>
      have hap:(xz ws i).map cells++[[C.s (.int .i64 x)]]=(xz ws (i+1)).map cells:=by rw[hos,hA,yg];rfl
      delta Bh oO oN oA oM oR oS oK oL oC oI oX oB o1 o4 o8 o9;simp (maxSteps:=9^7) -implicitDefEqProofs only[AP,hi2,hi0,h,hg,hww,xW,hws,hA,hap,hol,xi,Option.isSome_some,zN,InR,WU,Ent.of2,V,W3,↓reduceIte,seval,reduceCtorEq];exact⟨⟨by omega,by omega⟩,⟨by omega,by omega⟩,fun j hj=>(by rcases Nat.lt_succ_iff_lt_or_eq.1 hj with h | rfl;exact hv j h;rw[hww,hA];rfl),by omega⟩
   . have hi2:¬ (i:Int) < (ws.length:Int):=by omega
     have hie:i=ws.length:=by omega
     subst hie;have hall:=AF hv;have ho:xz ws ws.length=ws.map fun w=>(xh w).getD 0:=by rw[xz,yo]
     rw[hall,<- ho];delta Bh oO oN oA oM oR oS oK oL oC oI oX oB o1 o4 o8 o9;simp (maxSteps:=9^7) -implicitDefEqProofs only[AP,hi2,Option.isSome_some,zN,InR,WU,V,W3,↓reduceIte,seval,reduceCtorEq]
def yP : Ent Tryz.prog:=.of1 133 (fun s=>s.size<=100000) (fun s:ByteArray=>xw s) (fun _=>⟨trivial,trivial,trivial⟩) (fun s h=>read_c s h)
theorem Cw (l:List Int) (i:Nat) (h:i < l.length):List.getD (l.map Dat.cells) i [C.s (.int .i64 0)]=[C.s (.int .i64 (l.getD i 0))]:=by
 rw[zb,zb,zh,ze h];rfl
theorem xR (a b:ByteArray):(a++b).size=a.size+b.size:=by simp
theorem C9 {xs:List (List UInt8)} (h:xs≠[]) (y sep:List UInt8):Lib.join (xs++[y]) sep=Lib.join xs sep++sep++y:=by
 cases xs with
 | nil=>exact absurd rfl h
 | cons x r=>
  rw[yq,Lib.join_cons,Lib.join_cons];simp[Lib.joinTail]
theorem yR (l:List ByteArray) (g sep:ByteArray):mA (l++[g]) sep=(if l.length=0 then g else mA l sep++sep++g):=by
 cases l with
 | nil=>
  show (⟨(Lib.join [g.data.toList] sep.data.toList).toArray⟩:ByteArray)=g
  rw[Lib.join_one]
 | cons x r=>
  rw[if_neg (by simp)];unfold mA;rw[yg];show (⟨(Lib.join ((List.map (fun x=>x.data.toList) (x :: r))++[g.data.toList]) sep.data.toList).toArray⟩:ByteArray)=_
  rw[C9 (by simp)];refine ByteArray.ext ?_;rw[ByteArray.data_append,ByteArray.data_append];simp
theorem AK {n:Int} (h:InR .i64 n):(jh n).size<=21:=by
 have h:-9223372036854775808<=n/\n<=9223372036854775807:=by simpa[InR]using h
 rw[<- xm];exact Lib.itoa_length_le n h.1 h.2
theorem xE (l:List Int) (h:∀ x∈l,InR .i64 x):(ki l).size<=l.length*22:=by
 rw[<- xm];exact nj l h
theorem CC (l:List Int) (h1:l.length<=1000) (h2:∀ x∈l,InR .i64 x):FC Tryz.prog 135 [enc l] [] (enc (ki l)) []:=by
 refine eh is135 (by simp) (fun cx hl=>dC [] 800 ?_);delta c135 oM oS oK oV oX;simp (maxSteps:=9^7) -implicitDefEqProofs only[Bs,WU,V,W3,↓reduceIte,seval,reduceCtorEq];refine eN l.length (fun i=>[(4,.s (.int .i64 (i:Int))),(3,.s (.string (ki (l.take i))))]) (fun i=>[]) (fun _=>True) trivial ?_ (fun i hi _=>dC [Ap] 800 ?_)
 . simp (maxSteps:=9^7) -implicitDefEqProofs only[V,W3,↓reduceIte,seval,reduceCtorEq]
   all_goals rfl
 . have hc32:(⟨#[32]⟩:ByteArray).size=1:=rfl;have hfs:=xE (l.take i) (fun x hx=>h2 x (List.mem_of_mem_take hx));have htl:=List.length_take_le i l;by_cases h:i < l.length
   . have hi2:(i:Int) < (l.length:Int):=by omega
     have hi0:(0:Int)<=i:=by omega
     have hsn:ki (l.take (i+1))=(if i=0 then jh (l.getD i 0)else ki (l.take i)++pq++jh (l.getD i 0)):=by
      have:=yR ((l.take i).map jh) (jh (l.getD i 0)) pq;rw[zy,List.length_take,Nat.min_eq_left hi]at this;rw[ki,yI h,yg,zt,zR];rw[zb,ze h]at this ⊢;exact this
     have hx:InR .i64 (l.getD i 0):=by
      rw[zb,ze h];exact h2 _ (yy h)
     have hgd:List.getD (l.map Dat.cells) i [C.s (.int .i64 0)]=[C.s (.int .i64 (l.getD i 0))]:=Cw l i h;have hz:=AK hx;generalize l.getD i 0=g at *;cases i with
     | zero=>
      have hz0:ki (l.take 0)=⟨#[]⟩:=rfl;have hn0:¬ ((0:Nat):Int) > 0:=by decide
      have hap:(⟨#[]⟩:ByteArray)++jh g=ki (l.take (0+1)):=by rw[hsn,if_pos rfl];exact ByteArray.ext (by simp)
      have hz1:(⟨#[]⟩:ByteArray).size=0:=rfl;rw[hz0];delta Bj oO oN oA oM oR oS oK oL oC oI oX oB o1 o4;simp (maxSteps:=9^7) -implicitDefEqProofs only[Bs,hi2,hi0,h,hgd,hx,hn0,hz1,hap,Ap,hc32,xR,InR,WU,Ent.of1,V,W3,↓reduceIte,seval,reduceCtorEq];have hx':-9223372036854775808<=g/\g<=9223372036854775807:=by simpa[InR]using hx
      rw[if_pos (by omega)];exact⟨by omega,hx',by omega⟩
     | succ i=>
      rw[if_neg (by omega)]at hsn;have hn0:((i+1:Nat):Int) > 0:=by omega
      have hsp:pq=⟨#[32]⟩:=rfl;rw[hsp]at hsn;have hap:=hsn.symm;delta Bj oO oN oA oM oR oS oK oL oC oI oX oB o1 o4;simp (maxSteps:=9^7) -implicitDefEqProofs only[Bs,hi2,hi0,h,hgd,hx,hn0,hap,Ap,hc32,xR,InR,WU,Ent.of1,V,W3,↓reduceIte,seval,reduceCtorEq];have hx':-9223372036854775808<=g/\g<=9223372036854775807:=by simpa[InR]using hx
      exact⟨by omega,hx',by omega,⟨by omega,by omega⟩,by omega⟩
   . have hi2:¬ (i:Int) < (l.length:Int):=by omega
     have hie:i=l.length:=by omega
     subst hie;delta Bj oO oN oA oM oR oS oK oL oC oI oX oB o1 o4;simp (maxSteps:=9^7) -implicitDefEqProofs only[Bs,hi2,yo,InR,WU,V,W3,↓reduceIte,seval,reduceCtorEq]
def Bl : Ent Tryz.prog:=.of1 135 (fun l=>l.length<=1000/\∀ x∈l,InR .i64 x) (fun l:List Int=>enc (ki l)) (fun _=>trivial) (fun l h=>CC l h.1 h.2)
def xn : List (List UInt8):=[[100,97,116,97],[115,101,110,100],[97,99,107],[112,114,101,112,97,114,101],[99,97,110,99,101,108],[99,111,109,109,97,110,100],[99,111,109,112,108,101,116,101],[102,111,114,119,97,114,100],[115,119,105,116,99,104],[102,97,105,108],[114,101,99,111,118,101,114],[112,97,115,115]]
def xC (e:T3):List Int:=if iN e.x=true then [e.y,e.z]else [e.y]
def xJ (e:T3):ByteArray:=if 0<=e.x/\e.x<=11 then mkB (xn.getD e.x.toNat [])++⟨#[32]⟩++ki (xC e)else ⟨#[]⟩
theorem sz3 (a b c:Nat) (h:a+b<=100) (hc:c<=50):((a+b+c:Nat):Int)<=9223372036854775807:=by omega
theorem BL (e:T3) (hy:InR .i64 e.y) (hz:InR .i64 e.z):FC Tryz.prog 79 [enc e] [] (enc (xJ e)) []:=by
 obtain⟨x,y,z⟩:=e;simp only at hy hz;refine dD [] E7.is79 (by simp) trivial trivial trivial trivial (fun cx _ hl _=>dC [eZ,nX] 1500 ?_);by_cases hx:0<=x/\x<=11
 rotate_left
 . have he:xJ ⟨x,y,z⟩=⟨#[]⟩:=by rw[xJ,if_neg hx]
   rw[he];delta E7.c79 oO oN oA oM oT oR oQ oS oK oF oL oC oW oI oX o1 o5 o7;simp (maxSteps:=9^7) -implicitDefEqProofs only[E7.rv79,dY,eZ,hx,not_true_eq_false,not_false_eq_true,WU,Ent.of3,V,W3,↓reduceIte,seval,reduceCtorEq]
 have hn1:(ki [y]).size<=22:=xE [y] (fun v hv=>by simp only[zg]at hv;subst hv;exact hy);have hn2:(ki [y,z]).size<=44:=xE [y,z] (fun v hv=>by simp only[zl,zA,or_false]at hv;rcases hv with rfl | rfl;exact hy;exact hz);have glq:=glk;unfold Glob.gl at glq;have he:xJ ⟨x,y,z⟩=mkB (xn.getD x.toNat [])++⟨#[32]⟩++ki (xC ⟨x,y,z⟩):=by rw[xJ,if_pos hx]
 rw[he];have h1:([y]:List Int).length<=1000:=by simp
 have hm1:(∀ v∈[y],InR .i64 v):=fun v hv=>by simp only[zg]at hv;subst hv;exact hy
 have hm2:(∀ v∈[y,z],InR .i64 v):=fun v hv=>by simp only[zl,zA,or_false]at hv;rcases hv with rfl | rfl;exact hy;exact hz
 rcases oq hx with k | k | k | k | k | k | k | k | k | k | k | k <;> subst k
 all_goals
  delta E7.c79 oO oN oA oM oT oR oQ oS oK oF oL oC oW oI oX o1 o5 o7;simp (maxSteps:=9^7) -implicitDefEqProofs only[E7.rv79,dY,eZ,nX,glq,jt,hm1,hm2,yw,yB,yc,xR,InR,not_true_eq_false,not_false_eq_true,WU,Ent.of1,Ent.of3,V,W3,↓reduceIte,seval,reduceCtorEq]
 all_goals
  first
  | exact⟨by decide,fun x hx=>(by simpa[InR]using hm1 x hx),sz3 _ _ _ (by decide) (by omega),rfl⟩
  | exact⟨by decide,fun x hx=>(by simpa[InR]using hm2 x hx),sz3 _ _ _ (by decide) (by omega),rfl⟩
  | trace_state
def yW : Ent Tryz.prog:=.of1 79 (fun e:T3=>InR .i64 e.y/\InR .i64 e.z) (fun e=>enc (xJ e)) (fun _=>trivial) (fun e h=>BL e h.1 h.2)
def Ar : List ByteArray:=xn.map mkB
theorem words_c : FC Tryz.prog 130 [] [] (enc Ar) []:=by
 refine eh is130 (by simp) (fun cx hl=>dC [] 800 ?_);delta c130 oA oM oX;simp (maxSteps:=9^7) -implicitDefEqProofs only[rv130,WU,V,W3,↓reduceIte,seval,reduceCtorEq];rfl
def y9 : Ent Tryz.prog:=.of0 130 (enc Ar) trivial words_c
theorem hasC_c (k:Int):FC Tryz.prog 131 [enc k] [] (enc (iN k)) []:=by
 refine eh is131 (by simp) (fun cx hl=>dC [] 800 ?_);unfold iN;by_cases h3:k=3
 . delta c131 oO oN oM oG oX oH oB oD o9;simp (maxSteps:=9^7) -implicitDefEqProofs only[rv131,h3,decide_true,yz,WU,V,W3,↓reduceIte,seval,reduceCtorEq]
 . delta c131 oO oN oM oG oX oH oB oD o9;simp (maxSteps:=9^7) -implicitDefEqProofs only[rv131,h3,decide_false,zF,WU,V,W3,↓reduceIte,seval,reduceCtorEq]
def xB : Ent Tryz.prog:=.of1 131 (fun _=>True) (fun k:Int=>enc (iN k)) (fun _=>trivial) (fun k _=>hasC_c k)
theorem Cf (y:Int):ki [y]=jh y:=by
 have:=yR [] (jh y) pq;exact this
theorem Dw (y z:Int):ki [y,z]=jh y++⟨#[32]⟩++jh z:=by
 have:=yR [jh y] (jh z) pq;have h2:=Cf y;rw[if_neg (by simp)]at this;unfold ki at h2 ⊢;simp only[zt,zR]at h2 ⊢;rw[h2]at this;exact this
theorem Cm : ∀ k,k < 12->(mkB (xn.getD k [])).size<=8:=by
 intro k hk;rw[xo];have:∀ k:Fin 12,(xn.getD k.1 []).length<=8:=by decide
 exact this ⟨k,hk⟩
theorem Cz {k:Nat} (h:k < 12) (d:List C):List.getD (Ar.map cells) k d=[C.s (.string (mkB (xn.getD k [])))]:=by
 have hl:k < xn.length:=h;rw[Ar,zT,zb,zb,zh,ze hl];rfl
theorem Bu (e:T3) (hy:InR .i64 e.y) (hz:InR .i64 e.z):FC Tryz.prog 85 [enc e] [] (enc (xJ e)) []:=by
 obtain⟨x,y,z⟩:=e;simp only at hy hz;refine dD [] is85 (by simp) trivial trivial trivial trivial (fun cx _ hl _=>dC [oa,y9,xB,Ap] 1500 ?_);by_cases hx:0<=x/\x<=11
 rotate_left
 . have he:xJ ⟨x,y,z⟩=⟨#[]⟩:=by rw[xJ,if_neg hx]
   rw[he];delta c85 oO oN oA oM oT oR oQ oS oK oF oL oC oI oX oB o7;simp (maxSteps:=9^7) -implicitDefEqProofs only[rv85,dY,oa,hx,not_true_eq_false,not_false_eq_true,WU,Ent.of3,V,W3,↓reduceIte,seval,reduceCtorEq]
 have he:xJ ⟨x,y,z⟩=mkB (xn.getD x.toNat [])++⟨#[32]⟩++ki (xC ⟨x,y,z⟩):=by rw[xJ,if_pos hx]
 rw[he];obtain⟨k,hk⟩:∃ k:Nat,x=(k:Int):=⟨x.toNat,by omega⟩;subst hk;have hk12:k < 12:=by omega
 have hk2:(k:Int) < 12:=by omega
 have hk0:(0:Int)<=k:=by omega
 have hwl:=Cm k hk12;have hwa:=Cz hk12 [C.s (.string ⟨#[]⟩)];have hwn:Ar.length=12:=rfl;have i1:=AK hy;have i2:=AK hz;have hs1:(⟨#[32]⟩:ByteArray).size=1:=rfl;rw[z5];have hy':-9223372036854775808<=y/\y<=9223372036854775807:=by simpa[InR]using hy
 have hz':-9223372036854775808<=z/\z<=9223372036854775807:=by simpa[InR]using hz
 cases hc:iN (k:Int)
 . have hev:ki (xC ⟨(k:Int),y,z⟩)=jh y:=by rw[xC,if_neg (by simp[hc])];exact Cf y
   rw[hev];generalize mkB (xn.getD k [])=W at *;delta c85 oO oN oA oM oT oR oQ oS oK oF oL oC oI oX oB o7;simp (maxSteps:=9^7) -implicitDefEqProofs only[rv85,dY,oa,y9,xB,Ap,hx,hk2,hk0,hk12,hwa,hwn,hy,hz,hc,hs1,zy,xR,InR,not_true_eq_false,not_false_eq_true,WU,Ent.of0,Ent.of1,Ent.of3,V,W3,↓reduceIte,seval,reduceCtorEq];exact⟨by omega,hy',by omega⟩
 . have hev:ki (xC ⟨(k:Int),y,z⟩)=jh y++⟨#[32]⟩++jh z:=by rw[xC,if_pos hc];exact Dw y z
   rw[hev];generalize mkB (xn.getD k [])=W at *;delta c85 oO oN oA oM oT oR oQ oS oK oF oL oC oI oX oB o7;simp (maxSteps:=9^7) -implicitDefEqProofs only[rv85,dY,oa,y9,xB,Ap,hx,hk2,hk0,hk12,hwa,hwn,hy,hz,hc,hs1,zy,xR,InR,not_true_eq_false,not_false_eq_true,WU,Ent.of0,Ent.of1,Ent.of3,V,W3,↓reduceIte,seval,reduceCtorEq];refine⟨by omega,hy',by omega,by omega,hz',by omega,?_⟩;exact ByteArray.ext (by simp)
def yY : Ent Tryz.prog:=.of1 85 (fun e:T3=>InR .i64 e.y/\InR .i64 e.z) (fun e=>enc (xJ e)) (fun _=>trivial) (fun e h=>Bu e h.1 h.2)
theorem CZ (m:Ms) (h:Prt m) (i:Nat) (hi:i<=m.buf.length):(mA ((fk m).take (i+1)) barB).size<=22001*(i+1):=by
 have h9:=xE (mC m) h.n;have e9w:(mC m).length=9:=rfl
 have:=sT 22000 (((fk m).take (i+1)).map (·.data.toList)) barB.data.toList (fun y hy=>by
  obtain⟨s,hs,rfl⟩:=zu.1 hy;have hs:=List.mem_of_mem_take hs;simp only[fk,zl,zu]at hs;rw[xm];rcases hs with rfl | ⟨l,hl,rfl⟩
  . omega
  . have h2:=h.r l hl;have:=xE l h2.2
    omega)
 rw[zy,List.length_take]at this;have e2:barB.data.toList.length=1:=rfl;rw[e2]at this;rw[<- xm];show (Lib.join _ _).length<=_
 have h3:min (i+1) (fk m).length<=i+1:=Nat.min_le_left _ _;have h4:=zB (22000+1) h3;omega
theorem Bv (m:Ms) (hm:Prt m):FC Tryz.prog 86 [enc m] [] (enc (fmtS m)) []:=by
 have h9:=hm.n;have hb:=hm.b;have hr:=hm.r;refine dD [] is86 (by simp) (by simp[bk]) (by simp[an,ag]) (by simp[an,ag]) (by simp[aB]) (fun cx _ hl _=>dC [Bl] 1200 ?_);delta c86 oO oA oM oS oK oF oL oV oC oX o1 o7;simp (maxSteps:=9^7) -implicitDefEqProofs only[rv86,kN,Bl,WU,Ent.of1,V,W3,↓reduceIte,seval,reduceCtorEq];refine⟨h9,?_⟩;have hlen:(fk m).length=m.buf.length+1:=by simp[fk]
 have hL0:mA ((fk m).take 1) barB=ki [m.at_,m.phase,m.since,m.serving,m.target,m.source,m.path,m.fresh,m.got]:=by
  have:=yR [] (ki (mC m)) barB;exact this
 refine eN m.buf.length (fun i=>[(4,.s (.int .i64 (i:Int))),(3,.s (.string (mA ((fk m).take (i+1)) barB)))]) (fun i=>[]) (fun _=>True) trivial ?_ (fun i hi _=>?_)
 . simp (maxSteps:=9^7) -implicitDefEqProofs only[hL0,V,W3,↓reduceIte,seval,reduceCtorEq]
   all_goals exact⟨rfl,rfl⟩
 . have hsz:=CZ m hm i hi;have hs1:(⟨#[124]⟩:ByteArray).size=1:=rfl;by_cases h:i < m.buf.length
   . have hi2:(i:Int) < (m.buf.length:Int):=by omega
     have hi0:(0:Int)<=i:=by omega
     have hgx:List.getD (m.buf.map Dat.cells) i [C.sl 0 []]=[C.sl 1 ((m.buf.getD i []).map Dat.cells)]:=by
      rw[zb,zb,zh,ze h];rfl
     have hx:=hr (m.buf.getD i []) (by rw[zb,ze h];exact yy h);have hnx:mA ((fk m).take (i+1)) barB++⟨#[124]⟩++ki (m.buf.getD i [])=mA ((fk m).take (i+1+1)) barB:=by
      have:=yR ((fk m).take (i+1)) (ki (m.buf.getD i [])) barB;rw[if_neg (by rw[List.length_take];omega)]at this;rw[yI (by omega:i+1 < (fk m).length)];have e:(fk m)[i+1]=ki (m.buf.getD i []):=by
       simp[fk,zb,ze h]
      rw[e,this];rfl
     have hq:=xE (m.buf.getD i []) hx.2;obtain⟨hx1,hx2⟩:=hx;generalize m.buf.getD i []=q at *;refine dC [Bl] 800 ?_;delta c86l1 oO oN oA oM oR oS oK oF oL oC oX oB o0 o4;simp (maxSteps:=9^7) -implicitDefEqProofs only[rv86,Bl,hi0,hi2,h,hgx,hx1,hx2,hnx,hs1,xR,fq,zy,InR,WU,Ent.of1,V,W3,↓reduceIte,seval,reduceCtorEq];exact⟨by omega,fun x hx=>(by simpa[InR]using hx2 x hx),by omega,⟨by omega,by omega⟩,by omega⟩
   . have hil:i=m.buf.length:=by omega
     subst hil;have hi2:¬ ((m.buf.length:Nat):Int) < (m.buf.length:Int):=by omega
     have htk:(fk m).take (m.buf.length+1)=fk m:=by rw[<- hlen,yo]
     refine dC [] 800 ?_;delta c86l1 oO oN oA oM oR oS oK oF oL oC oX oB o0 o4;simp (maxSteps:=9^7) -implicitDefEqProofs only[rv86,hi2,htk,zy,WU,V,W3,↓reduceIte,seval,reduceCtorEq];rfl
def yZ : Ent Tryz.prog:=.of1 86 Prt (fun m=>enc (fmtS m)) (fun _=>trivial) (fun m h=>Bv m h)
def xv (c:UInt8) (l:List UInt8):Nat->List UInt8
 | 0=>l
 | i+1=>(xv c l i).drop ((Lib.indexByte (xv c l i) c).toNat+1)
theorem BI (c:UInt8) (l:List UInt8):∀ i,(xv c l i).length<=l.length
 | 0=>zw _
 | i+1=>by have:=BI c l i;rw[xv,List.length_drop];omega
theorem Df (c:UInt8) (l:List UInt8):∀ i,i < (xg c l).length->xg c (xv c l i)=(xg c l).drop i /\
 ((i+1 < (xg c l).length/\∃ j:Nat,Lib.indexByte (xv c l i) c=(j:Int)/\j < (xv c l i).length/\(xg c l).getD i []=(xv c l i).take j/\xv c l (i+1)=(xv c l i).drop (j+1)) \/
  (i+1=(xg c l).length/\Lib.indexByte (xv c l i) c=-1/\(xg c l).getD i []=xv c l i)):=by
 intro i
 induction i with
 | zero=>
  intro h0;refine⟨rfl,?_⟩;rcases Aa l c with⟨h1,h2⟩ | ⟨j,h1,h2,h3,h4⟩
  . have e:=xP h2;exact .inr ⟨by rw[e];rfl,h1,by rw[e];rfl⟩
  . have hm:=xU (l:=l) (c:=c) (f:=0) (n:=j) (fun k _ b=>h4 k (by omega));have e0:=xA (l:=l) (c:=c) (f:=0) (i:=j) (yF _) h2 h3;simp only[yB,Nat.sub_zero]at hm e0;have e:xg c l=l.take j :: xg c (l.drop (j+1)):=(congrArg _ e0).trans (xM hm);have hp:0 < (xg c (l.drop (j+1))).length:=List.length_pos_iff.2 (xV _ _);refine .inl ⟨by rw[e,zQ];omega,j,h1,h2,by rw[e];rfl,?_⟩;show (xv c l 0).drop ((Lib.indexByte (xv c l 0) c).toNat+1)=l.drop (j+1)
    rw[show xv c l 0=l from rfl,h1,z5]
 | succ i ih=>
  intro h0;obtain⟨g1,g2⟩:=ih (by omega);rcases g2 with⟨_,j,q1,q2,q3,q4⟩ | ⟨q1,_,_⟩
  rotate_left
  . omega
  generalize hR:xv c l i=R at *;rcases Aa R c with⟨k1,k2⟩ | ⟨j',k1,k2,k3,k4⟩
  . rw[k1]at q1;omega
  have hjj:j'=j:=by rw[k1]at q1;omega
  subst hjj;have hm:=xU (l:=R) (c:=c) (f:=0) (n:=j') (fun k _ b=>k4 k (by omega));have e0:=xA (l:=R) (c:=c) (f:=0) (i:=j') (yF _) k2 k3;simp only[yB,Nat.sub_zero]at hm e0;have e:xg c R=R.take j' :: xg c (R.drop (j'+1)):=(congrArg _ e0).trans (xM hm);have hR1:xg c (xv c l (i+1))=(xg c l).drop (i+1):=by
   have:(xg c l).drop (i+1)=((xg c l).drop i).drop 1:=by rw[List.drop_drop]
   rw[this,<- g1,e,q4];rfl
  refine⟨hR1,?_⟩;have hg:(xg c l).getD (i+1) []=(xg c (xv c l (i+1))).getD 0 []:=by
   rw[hR1,zb,zb,zO]
  have hlen:(xg c (xv c l (i+1))).length=(xg c l).length - (i+1):=by rw[hR1,List.length_drop]
  rw[hg];clear hg g1 q1 q3 k1 k2 k3 k4 hm e0 e;generalize hS:xv c l (i+1)=S at *;rcases Aa S c with⟨h1,h2⟩ | ⟨j,h1,h2,h3,h4⟩
  . have e:=xP h2;rw[e]at hlen ⊢;exact .inr ⟨by simp at hlen;omega,h1,rfl⟩
  . have hm:=xU (l:=S) (c:=c) (f:=0) (n:=j) (fun k _ b=>h4 k (by omega));have e0:=xA (l:=S) (c:=c) (f:=0) (i:=j) (yF _) h2 h3;simp only[yB,Nat.sub_zero]at hm e0;have e:xg c S=S.take j :: xg c (S.drop (j+1)):=(congrArg _ e0).trans (xM hm);have hp:0 < (xg c (S.drop (j+1))).length:=List.length_pos_iff.2 (xV _ _);rw[e]at hlen ⊢;refine .inl ⟨by simp at hlen;omega,j,h1,h2,rfl,?_⟩;show (xv c l (i+1)).drop ((Lib.indexByte (xv c l (i+1)) c).toNat+1)=_
    rw[hS,h1,z5]
theorem BG (c:UInt8):∀ l:List UInt8,(xg c l).length=Lib.countByte l c+1
 |[]=>rfl
 | b :: l=>by
  have ih:=BG c l;rw[xg];by_cases hb:b=c
  . rw[if_pos hb,zQ,ih];simp[Lib.countByte,hb]
  . rw[if_neg hb];have e:Lib.countByte (b :: l) c=Lib.countByte l c:=by simp[Lib.countByte,hb]
    rw[e];cases hq:xg c l with
    | nil=>exact absurd hq (xV _ _)
    | cons p ps=>rw[hq]at ih;exact ih
theorem Count_c (s:ByteArray) (c:UInt8):FC Tryz.prog 177 [enc s,enc (⟨#[c]⟩:ByteArray)] [] (enc ((Lib.countByte s.data.toList c:Nat):Int)) []:=by
 refine FC.scal (vs:=[.string s,.string ⟨#[c]⟩]) ⟨_,Tryz.func177,by kernel_rfl,by kernel_rfl⟩ (fun U w hg hU=>?_);refine (Any.strings_Count_one Tryz.lays138 s c w).mono ?_
 rintro e w' ⟨rfl,rfl⟩
 exact⟨_,rfl,fun E U h=>.d (.s _),.refl _ _⟩
def CV : Ent Tryz.prog:=.of2 177 (fun _ p=>p=barB) (fun (s p:ByteArray)=>enc ((Lib.countByte s.data.toList 124:Nat):Int)) (fun _ _=>trivial) (fun s p h=>by subst h;exact Count_c s 124)
def Bx : Ent Tryz.prog:=.of2 178 (fun _ p=>p=barB) (fun (s p:ByteArray)=>enc (Lib.indexByte s.data.toList 124)) (fun _ _=>trivial) (fun s p h=>by subst h;exact Cu s 124)
def yS (ws:List (List UInt8)) (k i:Nat):List ByteArray:=(ws.take i).map mkB++List.replicate (k - i) ⟨#[]⟩
theorem DA {ws:List (List UInt8)} {k i:Nat} (h:i<=ws.length) (hk:i<=k):(yS ws k i).length=k:=by
 rw[yS,zK,zy,List.length_take,List.length_replicate];omega
theorem DB {ws:List (List UInt8)} {k i:Nat} (h:i < ws.length) (hk:i < k):((yS ws k i).map cells).set i [C.s (.string (mkB (ws.getD i [])))]=(yS ws k (i+1)).map cells:=by
 have e:[C.s (.string (mkB (ws.getD i [])))]=cells (mkB (ws.getD i [])):=rfl;rw[e,<- List.map_set]
 congr 1
 have hl:((ws.take i).map mkB).length=i:=by rw[zy,List.length_take];omega
 rw[yS,List.set_append_right _ _ (by omega),hl,Nat.sub_self,yS,yI h,yg,ye]
 congr 1
 rw[show k - i=(k - (i+1))+1 by omega,List.replicate_succ,List.set_cons_zero,zb,ze h];rfl
theorem CH (s:ByteArray) (hs:s.size<=100000):FC Tryz.prog 161 [enc s,enc barB,enc (0:Int),enc (-1:Int)] [] (enc (yT 124 s)) []:=by
 refine dD [] E8.is161 (by simp) (by simp[bk]) (by simp[an,ag]) (by simp[an,ag]) (by simp[aB]) (fun cx _ hl _=>dC [CV] 1200 ?_);have hcc:=BG 124 s.data.toList;obtain⟨d1,d2⟩:=x8 124 s.data.toList;rw[xm]at d1 d2;have hcb:yT 124 s=(xg 124 s.data.toList).map mkB:=rfl;rw[hcb];generalize hN:Lib.countByte s.data.toList 124=N at *;have hb0:(barB=⟨#[]⟩)=False:=eq_false (by decide);have hmn:(if ((s.size:Int)+1) < ((N:Int)+1)then ((s.size:Int)+1)else ((N:Int)+1))=(N:Int)+1:=by split <;> omega
 have hn1:(N:Int)+1 - 1=(N:Int):=by omega
 have hn2:((N:Int)+1).toNat=N+1:=by omega
 delta E8.c161 oO oN oA oM oR oS oK oV oC oW oI oX oB;simp (maxSteps:=9^7) -implicitDefEqProofs only[E8.rv161,CV,hN,hb0,hmn,hn1,hn2,InR,not_true_eq_false,not_false_eq_true,WU,Ent.of2,V,W3,↓reduceIte,seval,reduceCtorEq];refine⟨by omega,by omega,by omega,by omega,?_⟩;have hrl:=BI 124 s.data.toList;have hrc:=Df 124 s.data.toList;rw[xm]at hrl;have h00:s=mkB (xv 124 s.data.toList 0):=(Cd s).symm;have hr0:∀ ws:List (List UInt8),([C.s (.string ⟨#[]⟩)] :: List.replicate N [C.s (.string ⟨#[]⟩)])=(yS ws (N+1) 0).map cells:=fun ws=>by
  rw[<- List.replicate_succ,yS,List.take_zero,zR,yb,Nat.sub_zero,List.map_replicate];rfl
 generalize xv 124 s.data.toList=R at *;generalize xg 124 s.data.toList=ws at *;have hbs:barB.size=1:=rfl;refine eN N (fun i=>[(10,.s (.int .i64 (i:Int))),(0,.s (.string (mkB (R i))))]) (fun i=>[(31,.row 1 9 ((yS ws (N+1) i).map cells))]) (fun _=>True) trivial ?_ (fun i hi _=>dC [Bx] 800 ?_)
 . rw[hr0 ws,<- h00];simp (maxSteps:=9^7) -implicitDefEqProofs only[V,W3,↓reduceIte,seval,reduceCtorEq]
   all_goals simp
 . obtain⟨g1,g2⟩:=hrc i (by omega);have hri:=hrl i;have hpl:(yS ws (N+1) i).length=N+1:=DA (by omega) (by omega);have hdp:List.drop 1 (List.getD ((yS ws (N+1) i).map cells) i [])=[]:=by
    rw[zb,zh];cases (yS ws (N+1) i)[i]? <;> rfl
   have hst:=DB (ws:=ws) (k:=N+1) (i:=i) (by omega) (by omega);by_cases hlt:i < N
   . have hi2:(i:Int) < (N:Int):=by omega
     have hi0:(0:Int)<=i:=by omega
     have hi3:(i:Int) < (N:Int)+1:=by omega
     have hi4:i < N+1:=by omega
     rcases g2 with⟨_,j,q1,q2,q3,q4⟩ | ⟨q1,_,_⟩
     rotate_left
     . omega
     have e1:=xD (mkB (R i)) 0 j (by rw[xo];omega);have e2:=xD (mkB (R i)) (j+1) (mkB (R i)).size (zw _);rw[xo,xi]at e2;rw[xi]at e1;rw[List.take_of_length_le (by rw[List.length_drop];omega),<- q4]at e2;rw[yB,Nat.sub_zero,<- q3]at e1;have hj0:¬ (j:Int) < 0:=by omega
     have hj1:(0:Int)<=(j:Int):=by omega
     have hj2:((j:Int)+1).toNat=j+1:=by omega
     have hj3:(j:Int)+0=j:=by omega
     have hone:((1:Nat):Int)=1:=rfl;delta E8.c161l1 oO oN oA oM oR oS oK oC oW oI oX oB;simp (maxSteps:=9^7) -implicitDefEqProofs only[E8.rv161,Bx,hi2,hi0,hi3,hi4,hpl,hdp,hst,xi,xo,q1,e1,e2,hj0,hj1,hj2,hj3,hbs,hone,z5,zy,InR,not_true_eq_false,not_false_eq_true,WU,Ent.of2,V,W3,↓reduceIte,seval,reduceCtorEq];exact⟨⟨by omega,by omega⟩,by omega,by omega,⟨by omega,by omega⟩,⟨by omega,by omega,by omega⟩,⟨by omega,by omega⟩,hlt,by omega⟩
   . have hie:i=N:=by omega
     subst hie;have hi2:¬ (i:Int) < (i:Int):=by omega
     rcases g2 with⟨q1,_⟩ | ⟨_,q1,q2⟩
     . omega
     rw[q2]at hst;have hpf:yS ws (i+1) (i+1)=ws.map mkB:=by
      rw[yS,Nat.sub_self,List.replicate_zero,z4,<- hcc,yo]
     rw[hpf]at hst;have hit:((i:Int)+1).toNat=i+1:=by omega
     have htk:List.take (i+1) ((ws.map mkB).map cells)=(ws.map mkB).map cells:=List.take_of_length_le (by rw[zy,zy];omega);have hwl:ws.length=i+1:=hcc;delta E8.c161l1 oO oN oA oM oR oS oK oC oW oI oX oB;simp (maxSteps:=9^7) -implicitDefEqProofs only[E8.rv161,Bx,hi2,hpl,hdp,hst,hit,htk,hwl,xi,q1,zy,InR,not_true_eq_false,not_false_eq_true,WU,Ent.of2,V,W3,↓reduceIte,seval,reduceCtorEq];exact⟨⟨by omega,by omega⟩,by omega,⟨by omega,by omega⟩,by omega,by omega⟩
def CS : Ent Tryz.prog:=.mk3 161 (fun args chs=>match args,chs with
 |[.s (.string s),.s (.string p),.s (.int .i64 a),.s (.int .i64 b)],[]=>some (s.size<=100000/\p=barB/\a=0/\b=-1,enc (yT 124 s),[],[])
 |_,_=>none) (by
 intro args chs p r chs' nk hs hp;split at hs
 . simp only[zn,zf]at hs;obtain⟨rfl,rfl,rfl,rfl⟩:=hs;obtain⟨h1,rfl,rfl,rfl⟩:=hp;exact⟨CH _ h1,.plain trivial⟩
 . cases hs)
theorem Split_c (s:ByteArray) (hs:s.size<=100000):FC Tryz.prog 128 [enc s,enc barB] [] (enc (yT 124 s)) []:=by
 refine dD [] is128 (by simp) (by simp[bk]) (by simp[an,ag]) (by simp[an,ag]) (by simp[aB]) (fun cx _ hl _=>dC [CS] 1200 ?_);delta c128 oO oN oA oM oC oX;simp (maxSteps:=9^7) -implicitDefEqProofs only[rv128,CS,hs,not_true_eq_false,not_false_eq_true,WU,V,W3,↓reduceIte,seval,reduceCtorEq]
def AH : Ent Tryz.prog:=.of2 128 (fun s p=>s.size<=100000/\p=barB) (fun (s p:ByteArray)=>enc (yT 124 s)) (fun _ _=>trivial) (fun s p h=>by obtain⟨h1,rfl⟩:=h;exact Split_c s h1)
def yN : List (List UInt8)->Option (List (List Int))
 |[]=>some []
 | w :: ws=>(xl w).bind fun g=>(yN ws).map (g :: ·)
theorem As : ∀ {ws:List (List UInt8)} {i:Nat},i < ws.length->xl (ws.getD i [])=none->yN ws=none
 | w :: ws,0,_,h=>by
  have h:xl w=none:=by simpa using h
  rw[yN,h];rfl
 | w :: ws,i+1,hi,h=>by
  have:=As (ws:=ws) (i:=i) (by simpa using hi) (by simpa using h);rw[yN,this];cases xl w <;> rfl
theorem At : ∀ {ws:List (List UInt8)},(∀ i,i < ws.length->(xl (ws.getD i [])).isSome=true)->yN ws=some (ws.map fun w=>(xl w).getD [])
 |[],_=>rfl
 | w :: ws,h=>by
  have h0:=h 0 (by simp);have ih:=At (ws:=ws) (fun i hi=>by have:=h (i+1) (by simpa using hi);simpa using this);have h0:(xl w).isSome=true:=by simpa using h0
  cases hq:xl w with
  | none=>rw[hq]at h0;cases h0
  | some g=>rw[yN,hq,ih];simp[hq]
def xx (ws:List (List UInt8)) (i:Nat):List (List Int):=(ws.take i).map fun w=>(xl w).getD []
theorem Ah {ws:List (List UInt8)} {i:Nat} (h:i<=ws.length):(xx ws i).length=i:=by rw[xx,zy,List.length_take];omega
theorem Bo {ws:List (List UInt8)} {i:Nat} (h:i < ws.length):xx ws (i+1)=xx ws i++[(xl (ws.getD i [])).getD []]:=by
 rw[xx,xx,zb,ze h,zN,<- List.take_append_getElem h,yg];rfl
def stOf (p:List Int) (bs:List (List Int)):Ms:=⟨p.getD 0 0,p.getD 1 0,p.getD 2 0,p.getD 3 0,p.getD 4 0,p.getD 5 0,p.getD 6 0,p.getD 7 0,p.getD 8 0,bs⟩
def psF (h:List UInt8) (r:List (List UInt8)):Option Ms:=match xl h with
 | none=>none
 | some p=>if p.length≠9\/r=[]then none else (yN r).map (stOf p)
def psO (l:List UInt8):Option Ms:=psF ((xg 124 l).headD []) (xg 124 l).tail
def psC (o:Option Ms):C:=.tup [enc (o.getD ms0),enc (if o.isSome=true then (0:Int)else 7)]
theorem AW : ∀ (ws:List (List UInt8)) (p:List Int),xN ws=some p->p.length=ws.length
 |[],p,h=>by simp[xN]at h;subst h;rfl
 | w :: ws,p,h=>by
  rw[xN]at h;cases hw:xh w with
  | none=>rw[hw]at h;cases h
  | some v=>
   cases hq:xN ws with
   | none=>rw[hw,hq]at h;cases h
   | some q=>
    rw[hw,hq]at h;simp at h;subst h;rw[zQ,zQ,AW ws q hq]
theorem BH {l:List UInt8} {p:List Int} (h:xl l=some p):p.length<=l.length+1:=by
 unfold xl at h;split at h
 . cases h;exact yF _
 . have:=AW _ _ h;have:=(x8 32 l).1;omega
theorem p9w (p:List Int) (h:p.length=9):∃ a b c d e f g i j,p=[a,b,c,d,e,f,g,i,j]:=by
 match p,h with
 |[a,b,c,d,e,f,g,i,j],_=>exact⟨a,b,c,d,e,f,g,i,j,rfl⟩
end Go.Proofs.YtcbabnbiinkafaaGreatDoor
end
