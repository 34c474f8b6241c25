/- Part 5 of the proof of: TopMoveTold returns true for every input and never panics: a right log told in texts, and in two halves with the state told between them, gives the same state, and what is possible there is the same and not nothing; conditions: those of the given statement, that the package variables it lists hold what their initialisers lay. -/
import Derived.Lib.AtoiTie
import Derived.Lib.AtoiAllCases
import Derived.Shelf.Strings.Count
import Derived.Test.YtcbabnbiinkafaaGreatDoorTopMoveTold4
set_option linter.all false
set_option maxHeartbeats 8000000
set_option maxRecDepth 100000
section
open Go Go.Am
open Go.Am.Dat (cells)
namespace Go.Proofs.YtcbabnbiinkafaaGreatDoor
theorem EO (s:ByteArray) (c:UInt8):FC Tryz.prog 172 [enc s,enc (⟨#[c]⟩:ByteArray)] [] (enc (Lib.indexByte s.data.toList c)) []:=by
 refine FC.scal (vs:=[.string s,.string ⟨#[c]⟩]) ⟨_,Tryz.func172,by kernel_rfl,by kernel_rfl⟩ (fun U w hg hU=>?_);refine (Any.stringslite_Index_one Tryz.lays219 s c w).mono ?_
 rintro e w' ⟨rfl,rfl⟩
 exact⟨_,rfl,fun E U h=>.d (.s _),.refl _ _⟩
end Go.Proofs.YtcbabnbiinkafaaGreatDoor
end
section
open Go Go.Am
open Go.Am.Dat (cells)
namespace Go.Proofs.YtcbabnbiinkafaaGreatDoor
section
open Go.Shelf Go.RowKit
def yT : ByteArray:=⟨#[45]⟩
theorem Ax {B:Nat} (w:World) (hB:B<=w.heap.size) (k:Nat) (os:Array Obj):Below B w (Go.Sort.grow (w.drewN k) os):=
 ⟨rfl,rfl,rfl,by simp[Go.Sort.grow],fun b hb=>by simp[Go.Sort.grow,yx,yJ hb hB]⟩
theorem num_ok (s:ByteArray) (n:Int) (hs:s.size<=1000000) (h:Lib.atoiAll s.data.toList=.ok n) (hn:-9223372036854775808<=n/\n<=9223372036854775807) (w:World) (htab:∀ w',Below w.heap.size w w'->∀ nm,Tryz.prog.globalNamed nm=some 2->Lib.TabIs Tryz.prog w' nm .u64 Lib.pow10Tab) :
 Calls Tryz.prog 160 #[.string s] w fun e w'=>e=.returned (.tuple #[.int .i64 n,.bool (decide (iV n=s) && decide ((Av s yT).size<=10))])/\Below w.heap.size w w':=by
 have hb0:∀ w1,(w1=w\/∃ t,w1=Lib.bytesWorld w (Tryz.laysC172_ren.t 5) t)->Below w.heap.size w w1:=by
  rintro w1 (rfl | ⟨t,rfl⟩)
  . exact .refl _ _
  . exact Lib.bytesWorld_below _ _ _
 go_enter Tryz.func160,Tryz.ntmps160
 go_wp2_with (first
  | (go_at_call 174;refine (Any.strconv_Atoi_ok Tryz.laysC172 s (by omega) n h _).mono ?_;rintro e w1 ⟨rfl,hw⟩;have hb1:=hb0 _ hw;clear hw)
  | (go_at_call 154;refine (Any.strconv_Itoa Tryz.laysM171 n hn.1 hn.2 _ (htab _ hb1 _ (by kernel_rfl))).mono ?_;rintro e w2 ⟨rfl,k,os,rfl⟩)
  | (go_at_call 175;refine (Any.strings_TrimPrefix Tryz.lays101 s ⟨#[45]⟩ _).mono ?_;rintro e w' ⟨rfl,rfl⟩))
 . go_ret2
   rename_i h1;have e1:iV n=s:=ByteArray.ext (by simp[iV,h1,Go.ByteArray.toList_eq]);have e2:(Av s yT).size=(Lib.trimPrefix s.data.toList [45]).length:=by rw[Av,Lib.size_eq];simp[yT]
   refine⟨?_,hb1.trans (Ax w1 hb1.size k os)⟩;rw[show decide ((Av s yT).size<=10)=decide (((Lib.trimPrefix s.data.toList [45]).length:Int)<=10)from decide_eq_decide.2 (by rw[e2];omega)];simp only[e1,decide_true,zY];rfl
 . go_ret2
   rename_i h1;have e1:¬ iV n=s:=fun h=>h1 (by rw[<- h];simp[iV,Go.ByteArray.toList_eq])
   refine⟨?_,hb1.trans (Ax w1 hb1.size k os)⟩;simp only[e1,decide_false,z7];rfl
theorem num_syn (s:ByteArray) (hs:s.size<=1000000) (h:Lib.atoiAll s.data.toList=Lib.NumEnd.ofOption none) (tp:TypeId) (p:Value) (w:World) (hv:w.var? Tryz.prog "strconv.ErrSyntax" = some #[.iface tp p]) :
 Calls Tryz.prog 160 #[.string s] w fun e w'=>e=.returned (.tuple #[.int .i64 0,.bool false])/\Below w.heap.size w w':=by
 go_enter Tryz.func160,Tryz.ntmps160
 go_wp2_with (go_at_call 174;refine (Any.strconv_Atoi_syntax_var Tryz.laysC172 s (by omega) h tp p _ hv).mono ?_;rintro e w1 ⟨N,rfl,-,-,hb⟩)
 all_goals go_ret2
 all_goals exact⟨rfl,hb⟩
theorem num_rng (s:ByteArray) (hs:s.size<=1000000) (h:Lib.atoiAll s.data.toList=.range) (tp:TypeId) (p:Value) (w:World) (hv:w.var? Tryz.prog "strconv.ErrRange" = some #[.iface tp p]) :
 Calls Tryz.prog 160 #[.string s] w fun e w'=>e=.returned (.tuple #[.int .i64 (Lib.atoiSat s.data.toList),.bool false])/\Below w.heap.size w w':=by
 go_enter Tryz.func160,Tryz.ntmps160
 go_wp2_with (go_at_call 174;refine (Any.strconv_Atoi_range_var Tryz.laysC172 s (by omega) h tp p _ hv).mono ?_;rintro e w1 ⟨N,rfl,-,-,hb⟩)
 all_goals go_ret2
 all_goals exact⟨rfl,hb⟩
end
end Go.Proofs.YtcbabnbiinkafaaGreatDoor
end
section
open Go Go.Am
open Go.Am.Dat (cells)
namespace Go.Proofs.YtcbabnbiinkafaaGreatDoor
def mkB (l:List UInt8):ByteArray:=⟨l.toArray⟩
theorem wi (l:List UInt8):(mkB l).data.toList=l:=rfl
theorem wy (l:List UInt8):(mkB l).size=l.length:=by simp[mkB,ByteArray.size]
theorem CL (s:ByteArray):mkB s.data.toList=s:=rfl
theorem wL (s:ByteArray):s.data.toList.length=s.size:=by rw[Array.length_toList];rfl
theorem xa (s:ByteArray) (a b:Nat) (h:b<=s.size):s.extract a b=mkB ((s.data.toList.drop a).take (b - a)):=by
 refine ByteArray.ext ?_;rw[ByteArray.data_extract];refine Array.toList_inj.1 ?_;simp[mkB,List.drop_take]
def wh (c:UInt8):List UInt8->List (List UInt8)
 |[]=>[[]]
 | b :: l=>if b=c then [] :: wh c l else match wh c l with
  | p :: ps=>(b :: p) :: ps
  |[]=>[[b]]
theorem wW {c:UInt8}:∀ {l:List UInt8},(∀ b∈l,b≠c)->wh c l=[l]
 |[],_=>rfl
 | b :: l,h=>by rw[wh,qa (h b zq),wW (fun x hx=>h x (zo _ hx))]
theorem wR {c:UInt8} {r:List UInt8}:∀ {a:List UInt8},(∀ b∈a,b≠c)->wh c (a++c :: r)=a :: wh c r
 |[],_=>by show wh c (c :: r)=_;rw[wh,qb rfl]
 | b :: l,h=>by
  show wh c (b :: (l++c :: r))=_
  rw[wh,qa (h b zq),wR (fun x hx=>h x (zo _ hx))]
theorem xz (c:UInt8) (l:List UInt8):wh c l≠[]:=by
 cases l with
 | nil=>simp[wh]
 | cons b l=>
  rw[wh];split
  . simp
  . split <;> simp
theorem wJ {l:List UInt8} {c:UInt8} {f i:Nat} (hf:f<=i) (hi:i < l.length) (hc:l.getD i 0=c):l.drop f=(l.drop f).take (i - f)++c :: l.drop (i+1):=by
 rw[zb,ze hi]at hc;have hc:l[i]=c:=hc;have h1:=List.take_append_drop (i - f) (l.drop f);rw[List.drop_drop,show f+(i - f)=i by omega,z9 hi,hc]at h1;exact h1.symm
theorem xc {l:List UInt8} {c:UInt8} {f n:Nat} (h:∀ k,f<=k->k < f+n->l.getD k 0≠c):∀ b∈(l.drop f).take n,b≠c:=by
 intro b hb;obtain⟨j,hj,rfl⟩:=List.getElem_of_mem hb;simp only[qp,List.length_drop]at hj;have:=h (f+j) (by omega) (by omega);rw[zb,ze (by omega)]at this;simpa using this
def cutB (c:UInt8) (s:ByteArray):List ByteArray:=(wh c s.data.toList).map mkB
structure CutAt (c:UInt8) (l:List UInt8) (f i:Nat) (o:List ByteArray):Prop where
 fiw:f<=i
 ilw:i<=l.length
 olw:o.length<=f
 eqw:(wh c l).map mkB=o++(wh c (l.drop f)).map mkB
 no:∀ k,f<=k->k < i->l.getD k 0≠c
theorem CutAt.skip {c:UInt8} {l:List UInt8} {f i:Nat} {o:List ByteArray} (h:CutAt c l f i o) (hi:i < l.length) (hc:l.getD i 0≠c):CutAt c l f (i+1) o:=
 ⟨by have:=h.fiw;omega,hi,h.olw,h.eqw,fun k h1 h2=>if e:k=i then e ▸ hc else h.no k h1 (by omega)⟩
theorem CutAt.hit {c:UInt8} {l:List UInt8} {f i:Nat} {o:List ByteArray} (h:CutAt c l f i o) (hi:i < l.length) (hc:l.getD i 0=c):CutAt c l (i+1) (i+1) (o++[mkB ((l.drop f).take (i - f))]):=by
 have h1:=wJ h.fiw hi hc;have h2:=xc (l:=l) (c:=c) (f:=f) (n:=i - f) (fun k a b=>h.no k a (by have:=h.fiw;omega));refine⟨zw _,hi,by have:=h.olw;have:=h.fiw;simp;omega,?_,fun k a b=>by omega⟩;rw[h.eqw,h1,wR h2,zt,ye];rw[<- h1];rfl
theorem CutAt.fin {c:UInt8} {l:List UInt8} {f:Nat} {o:List ByteArray} (h:CutAt c l f l.length o):(wh c l).map mkB=o++[mkB (l.drop f)]:=by
 have h2:=xc (l:=l) (c:=c) (f:=f) (n:=l.length - f) (fun k a b=>h.no k a (by have:=h.fiw;omega));rw[qo (by simp)]at h2;rw[h.eqw,wW h2];rfl
theorem xB (l:List UInt8) (c:UInt8):(Lib.indexByte l c=-1/\∀ b∈l,b≠c)\/∃ j:Nat,Lib.indexByte l c=(j:Int)/\j < l.length/\l.getD j 0=c/\∀ k,k < j->l.getD k 0≠c:=by
 induction l with
 | nil=>exact .inl ⟨rfl,fun b h=>by cases h⟩
 | cons b l ih=>
  by_cases hb:b=c
  . refine .inr ⟨0,by simp[Lib.indexByte,hb],by simp,by simpa using hb,fun k hk=>by omega⟩
  . have e:(b == c)=false:=by simpa using hb
    rcases ih with⟨h1,h2⟩ | ⟨j,h1,h2,h3,h4⟩
    . exact .inl ⟨by simp[Lib.indexByte,e,h1],fun x hx=>by rcases zl.1 hx with rfl | hx;exact hb;exact h2 x hx⟩
    . have hj:¬ (j:Int)=-1:=by omega
      refine .inr ⟨j+1,by simp[Lib.indexByte,e,h1,hj],by simpa using h2,by simpa using h3,fun k hk=>?_⟩;cases k with
      | zero=>simpa using hb
      | succ k=>simpa using h4 k (by omega)
def wP : ByteArray:=⟨#[32]⟩
def CA : Ent Tryz.prog:=.of2 172 (fun _ p=>p=wP) (fun (s p:ByteArray)=>enc (Lib.indexByte s.data.toList 32)) (fun _ _=>trivial) (fun s p h=>by subst h;exact EO s 32)
def CB : Ent Tryz.prog:=.of2 178 (fun _ p=>p=wP) (fun (s p:ByteArray)=>enc (Lib.indexByte s.data.toList 32)) (fun _ _=>trivial) (fun s p h=>by subst h;exact Dg s 32)
def wF (l:List UInt8):List UInt8×List UInt8:=if Lib.indexByte l 32=-1 then (l,[])else (l.take (Lib.indexByte l 32).toNat,l.drop ((Lib.indexByte l 32).toNat+1))
def xf (l:List UInt8):Bool:=!decide (Lib.indexByte l 32=-1)
theorem LCut_c (s:ByteArray) (hs:s.size<=1000000):FC Tryz.prog 158 [enc s,enc wP] [] (.tup [enc (mkB (wF s.data.toList).1),enc (mkB (wF s.data.toList).2),enc (xf s.data.toList)]) []:=by
 refine eP is158 (by simp) (fun cx hl=>dC [CA] 800 ?_);have hc1:wP.size=1:=rfl;have hone:((1:Nat):Int)=1:=rfl;rcases xB s.data.toList 32 with⟨h1,h2⟩ | ⟨j,h1,h2,h3,h4⟩
 . delta c158 oO oN oA oM oT oQ oS oK oC oI oX oB o9;simp only[rv158,CA,h1,Ent.of2,V,W3,seval];simp[wF,xf,h1];exact⟨rfl,rfl⟩
 . rw[wL]at h2;have hj:¬ (j:Int)=-1:=by omega
   have hj0:(j:Int)>=0:=by omega
   have hj1:(0:Int)<=(j:Int):=by omega
   have e1:=xa s 0 j (by omega);have e2:=xa s (j+1) s.size (zw _);rw[qo (by rw[List.length_drop,wL];omega)]at e2;have hj2:((j:Int)+1).toNat=j+1:=by omega
   delta c158 oO oN oA oM oT oQ oS oK oC oI oX oB o9;simp only[rv158,CA,h1,hj0,hj1,hc1,hone,hj2,z5,InR,Ent.of2,V,W3,seval];refine⟨by omega,by omega,by omega,?_⟩;simp[wF,xf,h1,hj,e1,e2]
theorem SCut_c (s:ByteArray) (hs:s.size<=1000000):FC Tryz.prog 124 [enc s,enc wP] [] (.tup [enc (mkB (wF s.data.toList).1),enc (mkB (wF s.data.toList).2),enc (xf s.data.toList)]) []:=by
 refine eP is124 (by simp) (fun cx hl=>dC [.of2 158 (fun s p=>p=wP/\s.size<=1000000) (fun (s p:ByteArray)=>.tup [enc (mkB (wF s.data.toList).1),enc (mkB (wF s.data.toList).2),enc (xf s.data.toList)]) (fun _ _=>⟨trivial,trivial,trivial,trivial⟩) (fun s p h=>by obtain⟨rfl,h2⟩:=h;exact LCut_c s h2)] 800 ?_);delta c124 oO oM oC oX o8 o9;simp only[rv124,hs,Ent.of2,V,W3,seval]
def Ef : Ent Tryz.prog:=.of2 124 (fun s p=>p=wP/\s.size<=1000000) (fun (s p:ByteArray)=>.tup [enc (mkB (wF s.data.toList).1),enc (mkB (wF s.data.toList).2),enc (xf s.data.toList)]) (fun _ _=>⟨trivial,trivial,trivial,trivial⟩) (fun s p h=>by obtain⟨rfl,h2⟩:=h;exact SCut_c s h2)
def wl (l:List UInt8):Nat->List UInt8
 | 0=>l
 | i+1=>(wl l i).drop ((Lib.indexByte (wl l i) 32).toNat+1)
def xC (l:List UInt8) (i:Nat):List C:=[.s (.string (mkB ((wh 32 l).getD i [])))]
theorem CU (l:List UInt8):∀ i,(wl l i).length<=l.length
 | 0=>zw _
 | i+1=>by have:=CU l i;rw[wl,List.length_drop];omega
theorem Fk (l:List UInt8):∀ i,i < (wh 32 l).length->wh 32 (wl l i)=(wh 32 l).drop i /\
 ((i+1 < (wh 32 l).length/\∃ j:Nat,Lib.indexByte (wl l i) 32=(j:Int)/\j < (wl l i).length/\(wh 32 l).getD i []=(wl l i).take j/\wl l (i+1)=(wl l i).drop (j+1)) \/
  (i+1=(wh 32 l).length/\Lib.indexByte (wl l i) 32=-1/\(wh 32 l).getD i []=wl l i)):=by
 intro i
 induction i with
 | zero=>
  intro h0;refine⟨rfl,?_⟩;rcases xB l 32 with⟨h1,h2⟩ | ⟨j,h1,h2,h3,h4⟩
  . have e:=wW h2;exact .inr ⟨by rw[e];rfl,h1,by rw[e];rfl⟩
  . have hm:=xc (l:=l) (c:=32) (f:=0) (n:=j) (fun k _ b=>h4 k (by omega));have e0:=wJ (l:=l) (c:=32) (f:=0) (i:=j) (yF _) h2 h3;simp only[yB,Nat.sub_zero]at hm e0;have e:wh 32 l=l.take j :: wh 32 (l.drop (j+1)):=(congrArg _ e0).trans (wR hm);have hp:0 < (wh 32 (l.drop (j+1))).length:=List.length_pos_iff.2 (xz _ _);refine .inl ⟨by rw[e,zQ];omega,j,h1,h2,by rw[e];rfl,?_⟩;show (wl l 0).drop ((Lib.indexByte (wl l 0) 32).toNat+1)=l.drop (j+1)
    rw[show wl l 0=l from rfl,h1,z5]
 | succ i ih=>
  intro h0;obtain⟨g1,g2⟩:=ih (by omega);rcases g2 with⟨_,j,q1,q2,q3,q4⟩ | ⟨q1,_,_⟩
  rotate_left
  . omega
  generalize hR:wl l i=R at *;rcases xB R 32 with⟨k1,k2⟩ | ⟨j',k1,k2,k3,k4⟩
  . rw[k1]at q1;omega
  have hjj:j'=j:=by rw[k1]at q1;omega
  subst hjj;have hm:=xc (l:=R) (c:=32) (f:=0) (n:=j') (fun k _ b=>k4 k (by omega));have e0:=wJ (l:=R) (c:=32) (f:=0) (i:=j') (yF _) k2 k3;simp only[yB,Nat.sub_zero]at hm e0;have e:wh 32 R=R.take j' :: wh 32 (R.drop (j'+1)):=(congrArg _ e0).trans (wR hm);have hR1:wh 32 (wl l (i+1))=(wh 32 l).drop (i+1):=by
   have:(wh 32 l).drop (i+1)=((wh 32 l).drop i).drop 1:=by rw[List.drop_drop]
   rw[this,<- g1,e,q4];rfl
  refine⟨hR1,?_⟩;have hg:(wh 32 l).getD (i+1) []=(wh 32 (wl l (i+1))).getD 0 []:=by
   rw[hR1,zb,zb,zO]
  have hlen:(wh 32 (wl l (i+1))).length=(wh 32 l).length - (i+1):=by rw[hR1,List.length_drop]
  rw[hg];clear hg g1 q1 q3 k1 k2 k3 k4 hm e0 e;generalize hS:wl l (i+1)=S at *;rcases xB S 32 with⟨h1,h2⟩ | ⟨j,h1,h2,h3,h4⟩
  . have e:=wW h2;rw[e]at hlen ⊢;exact .inr ⟨by simp at hlen;omega,h1,rfl⟩
  . have hm:=xc (l:=S) (c:=32) (f:=0) (n:=j) (fun k _ b=>h4 k (by omega));have e0:=wJ (l:=S) (c:=32) (f:=0) (i:=j) (yF _) h2 h3;simp only[yB,Nat.sub_zero]at hm e0;have e:wh 32 S=S.take j :: wh 32 (S.drop (j+1)):=(congrArg _ e0).trans (wR hm);have hp:0 < (wh 32 (S.drop (j+1))).length:=List.length_pos_iff.2 (xz _ _);rw[e]at hlen ⊢;refine .inl ⟨by simp at hlen;omega,j,h1,h2,rfl,?_⟩;show (wl l (i+1)).drop ((Lib.indexByte (wl l (i+1)) 32).toNat+1)=_
    rw[hS,h1,z5]
theorem split_c (l:List UInt8) (hl:l.length<=1000000) (N:Nat) (fin:Bool) (hN:0 < N) (hM:N<=(wh 32 l).length) (hf:fin=true->N=(wh 32 l).length) :
 ItC Tryz.prog 192 [] [.ptr 201011 0,.ptr 200011 0,.ptr 202011 0] [(200011,.box [.s (.string (mkB l))]),(201011,.box [.s (.string wP)]),(202011,.box [.s (.int .i64 0)])] 100000 (xC l) N fin:=by
 intro yl R Rf hy;have hsz:wP.size=1:=rfl
 refine pm [] is192 (by simp) (by
  intro o ho;simp only[zl]at ho;rcases ho with rfl | ho
  . simp
  . split at ho <;> simp at ho;subst ho;simp) (fun o ho k cs hm=>by
  simp only[zl]at ho;rcases ho with rfl | ho
  . simp at hm
  . split at ho <;> simp at ho;subst ho;simp at hm) (fun cx _ _ _=>dC [] 800 ?_)
 have h10:¬ ((1:Nat):Int)=0:=by decide
 delta c192 oO oN oA oM oR oS oK oL oI oX oB;simp only[x4,z4,hsz,h10,V,W3,seval];refine S_loopU (α:=Nat) (fun i=>[]) (fun i=>[(200011,.box [.s (.string (mkB (wl l i)))]),(201011,.box [.s (.string wP)]),(202011,.box [.s (.int .i64 0)]),(100000,.res (R i))]) (fun i=>i < N) (fun i=>N - i) 0 hN ?_ (fun i hi=>dC [CB] 800 ?_)
 . simp only[wl,V,W3,seval]
 . obtain⟨g1,g2⟩:=Fk l i (by omega);have hrl:=CU l i;have hone:((1:Nat):Int)=1:=rfl;rcases g2 with⟨q0,j,q1,q2,q3,q4⟩ | ⟨q0,q1,q2⟩
   . have hj0:¬ (j:Int) < 0:=by omega
     have e1:=xa (mkB (wl l i)) 0 j (by rw[wy];omega);have e2:=xa (mkB (wl l i)) (j+1) (mkB (wl l i)).size (zw _);rw[wy,wi]at e2;rw[wi]at e1;rw[qo (by rw[List.length_drop];omega),<- q4]at e2;rw[yB,Nat.sub_zero,<- q3]at e1;have hj2:((j:Int)+1).toNat=j+1:=by omega
     have hj3:(j:Int)+0=(j:Int):=by omega
     delta Cs oO oN oA oM oR oS oK oL oC oW oI oX oB;simp only[x4,CB,wi,wy,q1,hj0,hj3,e1,z5,InR,Ent.of2,V,W3,seval];refine⟨by omega,by omega,?_⟩;refine D_outs rfl (OpM.yield (l:=yl) (kr:=100000) (xs:=xC l i) (R:=R i) rfl rfl rfl (hy i hi)) (fun ef hef=>?_);have hno:ef=cu [(100000,.res (R i)),(200011,.box [.s (.string (mkB (wl l i)))]),(201011,.box [.s (.string wP)]),(202011,.box [.s (.int .i64 0)])] 100000 false Rf \/
      (i+1 < N/\ef=cu [(100000,.res (R i)),(200011,.box [.s (.string (mkB (wl l i)))]),(201011,.box [.s (.string wP)]),(202011,.box [.s (.int .i64 0)])] 100000 true (R (i+1))):=by
      simp only[cq]at hef;split at hef
      . rename_i hh;split at hh
        . rename_i h2;cases hh;simp only[zl,zA,qk]at hef;rcases hef with h | h
          . refine .inr ⟨?_,h⟩;rcases h2 with h2 | h2
            . exact h2
            . rw[hf h2];exact q0
          . exact .inl h
        . cases hh
      . simp only[zl,zA,qk]at hef;exact .inl hef
     rcases hno with rfl | ⟨h2,rfl⟩
     . refine pW [] 800 ?_;simp only[x4,V,W3,seval];exact⟨_,zq,trivial,rfl,trivial⟩
     . refine pW [] 800 ?_;simp only[x4,hsz,hone,hj2,e2,wy,InR,V,W3,seval];exact⟨by omega,by omega,i+1,h2,by omega,rfl,rfl⟩
   . have hNi:N=i+1:=by omega
     delta Cs oO oN oA oM oR oS oK oL oC oW oI oX oB;simp only[x4,CB,wi,wy,q1,InR,Ent.of2,V,W3,seval];have hxs:xC l i=[C.s (.string (mkB (wl l i)))]:=by simp only[xC,q2]
     refine D_outs rfl (OpM.yield (l:=yl) (kr:=100000) (xs:=xC l i) (R:=R i) rfl (by rw[hxs];rfl) rfl (hy i hi)) (fun ef hef=>?_);have hno:ef=cu [(100000,.res (R i)),(200011,.box [.s (.string (mkB (wl l i)))]),(201011,.box [.s (.string wP)]),(202011,.box [.s (.int .i64 0)])] 100000 false Rf \/
      (fin=true/\ef=cu [(100000,.res (R i)),(200011,.box [.s (.string (mkB (wl l i)))]),(201011,.box [.s (.string wP)]),(202011,.box [.s (.int .i64 0)])] 100000 true (R (i+1))):=by
      simp only[cq]at hef;split at hef
      . rename_i hh;split at hh
        . rename_i h2;cases hh;simp only[zl,zA,qk]at hef;rcases hef with h | h
          . refine .inr ⟨?_,h⟩;rcases h2 with h2 | h2
            . omega
            . exact h2
          . exact .inl h
        . cases hh
      . simp only[zl,zA,qk]at hef;exact .inl hef
     rcases hno with rfl | ⟨h2,rfl⟩
     . refine pW [] 800 ?_;simp only[x4,V,W3,seval];exact⟨_,zq,trivial,rfl,trivial⟩
     . refine pW [] 800 ?_;simp only[x4,h2,V,W3,seval];subst hNi;exact⟨_,zo _ zq,trivial,rfl,trivial⟩
theorem DO (s p:ByteArray):FC Tryz.prog 173 [enc s,enc p,enc (0:Int)] [] (.fn (.func 192) [] [.ptr 4 0,.ptr 3 0,.ptr 5 0]) [(3,.box [enc s]),(4,.box [enc p]),(5,.box [enc (0:Int)])]:=by
 refine dD [] is173 (by simp) (by simp[bn]) (by simp[ap,ag,av]) (by simp[ap,ag,av]) (by simp[aC,lk]) (fun cx _ _ _=>dC [] 800 ?_);delta c173 oO oA oM oX o7;simp only[rv173,V,W3,seval]
def Ej : Ent Tryz.prog where
 id:=173
 sp:=fun args chs=>match args,chs with
  |[.s (.string s),.s (.string p),.s (.int .i64 n)],[]=>some (n=0,.fn (.func 192) [] [.ptr 4 0,.ptr 3 0,.ptr 5 0],[(3,.box [.s (.string s)]),(4,.box [.s (.string p)]),(5,.box [.s (.int .i64 n)])],[3,4,5])
  |_,_=>none
 ok:=by
  intro args chs p r chs' nk hs hp;split at hs
  . simp only[zn,zf]at hs;obtain⟨rfl,rfl,rfl,rfl⟩:=hs;cases hp;refine⟨DO _ _,⟨fun k c h=>?_,fun k cs h=>by simp at h,?_,fun k c h=>?_⟩⟩
    . simp only[zl,zf,zA,qk]at h;left;rcases h with h | h | h <;> rw[h.1] <;> simp
    . exact⟨trivial,by simp[dG.keysIns,dG]⟩
    . simp only[zl,zf,zA,qk]at h;rcases h with h | h | h <;> rw[h.2] <;> exact⟨trivial,trivial⟩
  . cases hs
theorem DC (s p:ByteArray):FC Tryz.prog 159 [enc s,enc p] [] (.fn (.func 192) [] [.ptr 1007 0,.ptr 7 0,.ptr 2007 0]) [(7,.box [enc s]),(1007,.box [enc p]),(2007,.box [enc (0:Int)])]:=by
 refine dD [] is159 (by simp) (by simp[bn]) (by simp[ap,ag,av]) (by simp[ap,ag,av]) (by simp[aC,lk]) (fun cx _ _ _=>dC [Ej] 800 ?_);delta c159 oO oN oA oM oC oX;simp only[rv159,Ej,V,W3,seval]
def Eg : Ent Tryz.prog where
 id:=159
 sp:=fun args chs=>match args,chs with
  |[.s (.string s),.s (.string p)],[]=>some (True,.fn (.func 192) [] [.ptr 1007 0,.ptr 7 0,.ptr 2007 0],[(7,.box [.s (.string s)]),(1007,.box [.s (.string p)]),(2007,.box [.s (.int .i64 0)])],[7,1007,2007])
  |_,_=>none
 ok:=by
  intro args chs p r chs' nk hs hp;split at hs
  . simp only[zn,zf]at hs;obtain⟨rfl,rfl,rfl,rfl⟩:=hs;refine⟨DC _ _,⟨fun k c h=>?_,fun k cs h=>by simp at h,?_,fun k c h=>?_⟩⟩
    . simp only[zl,zf,zA,qk]at h;left;rcases h with h | h | h <;> rw[h.1] <;> simp
    . exact⟨trivial,by simp[dG.keysIns,dG]⟩
    . simp only[zl,zf,zA,qk]at h;rcases h with h | h | h <;> rw[h.2] <;> exact⟨trivial,trivial⟩
  . cases hs
theorem xE : ∀ (k u:Nat),u < 10 ^ (k+1)->(Lib.decDigits u).length<=k+1
 | 0,u,h=>by rw[Lib.decDigits,dif_pos (by omega)];simp
 | k+1,u,h=>by
  rw[Lib.decDigits];split
  . simp
  . have:=xE k (u / 10) (by rw[Nat.pow_succ]at h;omega);rw[zK];simp;omega
structure DecAt (n m:Int) (t:List UInt8):Prop where
 le:m.natAbs<=n.natAbs
 z:m=0->t=Lib.decDigits n.natAbs
 nzw:m≠0->Lib.decDigits m.natAbs++t=Lib.decDigits n.natAbs
theorem DecAt.len {n m:Int} {t:List UInt8} (h:DecAt n m t) (hn:n.natAbs < 10 ^ 20):t.length<=20:=by
 have h1:=xE 19 n.natAbs hn;by_cases hm:m=0
 . rw[h.z hm];exact h1
 . have:=congrArg List.length (h.nzw hm);rw[zK]at this;omega
def wK (b:UInt8):Bool:=decide (48<=b.toNat/\b.toNat<=57)
def wB (a:Nat) (l:List UInt8):Nat:=l.foldl (fun a b=>10*a+(b.toNat - 48)) a
def wj (l:List UInt8):List UInt8:=if l.head? = some 45 then l.drop 1 else l
def wk (l:List UInt8):Option Int:=
 if wj l=[]\/10 < (wj l).length\/((wj l).head? = some 48/\1 < l.length)then none
 else if (wj l).all wK=true then some (if l.head? = some 45 then -(wB 0 (wj l):Int)else (wB 0 (wj l):Int))else none
theorem B0 (a:Nat) (l:List UInt8) (b:UInt8):wB a (l++[b])=10*wB a l+(b.toNat - 48):=by simp[wB]
theorem y8 (k:Nat) (hk:k < 10):wK (UInt8.ofNat (48+k))=true/\(UInt8.ofNat (48+k)).toNat=48+k:=by
 have h:(UInt8.ofNat (48+k)).toNat=48+k:=by rw[UInt8.toNat_ofNat'];omega
 refine⟨?_,h⟩;simp only[wK,h,qf];omega
theorem CF {a b:List UInt8} (h:a≠[]):(a++b).head? = a.head?:=by
 cases a with
 | nil=>exact absurd rfl h
 | cons x r=>rfl
theorem yP (u:Nat):Lib.decDigits u≠[]:=by
 rw[Lib.decDigits];split <;> simp
theorem yO : ∀ (n u:Nat),u<=n->(Lib.decDigits u).all wK=true
 | n,u,h=>by
  rw[Lib.decDigits];split
  . rw[List.all_cons,(y8 u (by omega)).1];rfl
  . have:=(y8 (u % 10) (by omega)).1;rw[List.all_append,yO (n - 1) (u / 10) (by omega)];simpa using this
termination_by n=>n
decreasing_by omega
theorem AP : ∀ (n u:Nat),u<=n->(Lib.decDigits u).head? = some 48->u=0
 | n,u,h=>by
  rw[Lib.decDigits];split
  . intro h1;have h1:UInt8.ofNat (48+u)=48:=by simpa using h1
    have:=(y8 u (by omega)).2;rw[h1]at this;have h48:(48:UInt8).toNat=48:=rfl;omega
  . intro h1;rw[CF (yP _)]at h1;have:=AP (n - 1) (u / 10) (by omega) h1;omega
termination_by n=>n
decreasing_by omega
theorem Bv : ∀ (n u:Nat),u<=n->wB 0 (Lib.decDigits u)=u
 | n,u,h=>by
  rw[Lib.decDigits];split
  . simp only[wB,List.foldl_cons,List.foldl_nil,(y8 u (by omega)).2];omega
  . rw[B0,Bv (n - 1) (u / 10) (by omega),(y8 (u % 10) (by omega)).2];omega
termination_by n=>n
decreasing_by omega
theorem Ck {b:UInt8} (h:wK b=true):UInt8.ofNat (48+(b.toNat - 48))=b:=by
 have h:48<=b.toNat/\b.toNat<=57:=by simpa[wK]using h
 refine UInt8.toNat_inj.1 ?_;rw[UInt8.toNat_ofNat'];omega
theorem BC : ∀ (n:Nat) (ds:List UInt8),ds.length=n+1->ds.all wK=true->((ds.head? = some 48)->n=0)->Lib.decDigits (wB 0 ds)=ds/\(0 < n->10 ^ n<=wB 0 ds)
 | 0,ds,hl,hd,_=>by
  match ds,hl with
  |[b],_=>
   simp only[List.all_cons,List.all_nil,zZ]at hd;have h:48<=b.toNat/\b.toNat<=57:=by simpa[wK]using hd
   refine⟨?_,fun h=>by omega⟩;have e:wB 0 [b]=b.toNat - 48:=by simp[wB]
   rw[e,Lib.decDigits,dif_pos (by omega),Ck hd]
 | n+1,ds,hl,hd,hh=>by
  obtain⟨b,hb⟩:∃ b,ds=ds.take (n+1)++[b]:=⟨ds.getD (n+1) 0,by
   have h1:=List.take_append_drop (n+1) ds;rw[zb,ze (by omega),zN]
   rw[List.take_append_getElem,qo (by omega)]⟩
  generalize hp:ds.take (n+1)=p at hb;have hpl:p.length=n+1:=by rw[<- hp,qp];omega
  rw[hb,List.all_append,zm]at hd;have hd2:wK b=true:=by simpa using hd.2
  have hbd:48<=b.toNat/\b.toNat<=57:=by simpa[wK]using hd2
  have hhp:p.head?≠some 48:=fun h=>by
   have:ds.head? = some 48:=by rw[hb,CF (by intro e;rw[e]at hpl;simp at hpl)];exact h
   have:=hh this;omega
  obtain⟨g1,g2⟩:=BC n p hpl hd.1 (fun h=>absurd h hhp);have hv:10 ^ n<=wB 0 p:=by
   rcases Nat.eq_zero_or_pos n with e | e
   . subst e;rcases Nat.eq_zero_or_pos (wB 0 p)with e2 | e2
     . exfalso
       rw[e2]at g1;exact hhp (by rw[<- g1,Lib.decDigits,dif_pos (by omega)];rfl)
     . rw[Nat.pow_zero];exact e2
   . exact g2 e
  have hpos:1<=10 ^ n:=Nat.pow_pos (by decide);have e:wB 0 ds=10*wB 0 p+(b.toNat - 48):=by rw[hb,B0]
  refine⟨?_,fun _=>by rw[e,Nat.pow_succ];omega⟩;rw[e,Lib.decDigits,dif_neg (by omega),show (10*wB 0 p+(b.toNat - 48)) / 10=wB 0 p by omega,show (10*wB 0 p+(b.toNat - 48)) % 10=b.toNat - 48 by omega,g1,Ck hd2];exact hb.symm
theorem AS {l:List UInt8} {v:Int} (h:wk l=some v):Lib.itoa v=l/\(wj l).length<=10/\(wj l).all wK=true/\wj l≠[]/\v=(if l.head? = some 45 then -(wB 0 (wj l):Int)else (wB 0 (wj l):Int)):=by
 unfold wk at h;split at h
 . cases h
 . rename_i h1;split at h
   . rename_i h2;have hv:=Option.some.inj h;have hne:wj l≠[]:=fun e=>h1 (.inl e)
     have hlen:¬ 10 < (wj l).length:=fun e=>h1 (.inr (.inl e))
     have hh:(wj l).head? = some 48->¬ 1 < l.length:=fun e f=>h1 (.inr (.inr ⟨e,f⟩))
     refine⟨?_,by omega,h2,hne,hv.symm⟩;obtain⟨n,hn⟩:∃ n,(wj l).length=n+1:=⟨(wj l).length - 1,by have:=List.length_pos_iff.2 hne;omega⟩;by_cases h45:l.head? = some 45
     . rw[qb h45]at hv;have hd:wj l=l.drop 1:=by rw[wj,qb h45]
       have hl:l=45 :: wj l:=by
        cases l with
        | nil=>cases h45
        | cons b r=>rw[hd];cases h45;rfl
       have hl1:l.length=(wj l).length+1:=by have:=congrArg List.length hl;simpa using this
       have hnh:(wj l).head?≠some 48:=fun e=>hh e (by omega)
       obtain⟨g1,_⟩:=BC n _ hn h2 (fun e=>absurd e hnh);have hpos:0 < wB 0 (wj l):=by
        rcases Nat.eq_zero_or_pos (wB 0 (wj l))with e | e
        . exfalso
          rw[e]at g1;exact hnh (by rw[<- g1,Lib.decDigits,dif_pos (by omega)];rfl)
        . exact e
       rw[Lib.itoa,qb (by omega),<- hv,Int.natAbs_neg,Int.natAbs_natCast,g1];exact hl.symm
     . rw[qa h45]at hv;have hd:wj l=l:=by rw[wj,qa h45]
       obtain⟨g1,_⟩:=BC n _ hn h2 (fun e=>by have:=hh e;rw[hd]at hn;omega);rw[Lib.itoa,qa (by omega),<- hv,z5,g1,hd]
   . cases h
theorem CI {v:Int} (h9:(wj (Lib.itoa v)).length<=10):wk (Lib.itoa v)=some v:=by
 by_cases hv:v < 0
 . have hi:Lib.itoa v=45 :: Lib.decDigits v.natAbs:=by rw[Lib.itoa,qb hv]
   have h45:(Lib.itoa v).head? = some 45:=by rw[hi];rfl
   have hd:wj (Lib.itoa v)=Lib.decDigits v.natAbs:=by rw[wj,qb h45,hi];rfl
   rw[hd]at h9;unfold wk;rw[hd,qa,qb (yO _ _ (zw _)),qb h45,Bv _ _ (zw _)]
   . congr 1;omega
   . rintro (e | e | ⟨e,_⟩)
     . exact yP _ e
     . omega
     . have:=AP _ _ (zw _) e;omega
 . have hi:Lib.itoa v=Lib.decDigits v.toNat:=by rw[Lib.itoa,qa hv]
   have hdg:=yO _ _ (zw v.toNat);have h45:¬ (Lib.itoa v).head? = some 45:=by
    rw[hi];intro e;cases hq:Lib.decDigits v.toNat with
    | nil=>exact yP _ hq
    | cons b r=>
     rw[hq]at e hdg;have e:b=45:=by simpa using e
     subst e;simp[wK]at hdg
   have hd:wj (Lib.itoa v)=Lib.decDigits v.toNat:=by rw[wj,qa h45,hi]
   rw[hd]at h9;unfold wk;rw[hd,qa,qb hdg,qa h45,Bv _ _ (zw _)]
   . congr 1;omega
   . rintro (e | e | ⟨e,e2⟩)
     . exact yP _ e
     . omega
     . have:=AP _ _ (zw _) e;rw[hi,this,Lib.decDigits,dif_pos (by omega)]at e2;simp at e2
theorem Az : ∀ (ds:List UInt8) (a:Nat),ds.all wK=true->Lib.decFrom a ds=some (wB a ds)
 |[],a,_=>rfl
 | b :: ds,a,h=>by
  simp only[List.all_cons,zm]at h;have hb:48<=b.toNat/\b.toNat<=57:=by simpa[wK]using h.1
  have hd:Lib.digitVal b=some (b.toNat - 48):=by simp[Lib.digitVal,hb]
  simp only[Lib.decFrom,hd];have:=Az ds (a*10+(b.toNat - 48)) h.2;rw[show wB a (b :: ds)=wB (10*a+(b.toNat - 48)) ds from rfl,Nat.mul_comm 10 a];simpa using this
theorem yY {l:List UInt8} {v:Int} (h:wk l=some v):Lib.atoiAll l=.ok v:=by
 obtain⟨h1,h2,h3,h4,h5⟩:=AS h;have hdn:Lib.decNat (wj l)=some (wB 0 (wj l)):=by
  rw[Lib.decNat,qa (by simpa using h4),Az _ _ h3]
 by_cases h45:l.head? = some 45
 . have hd:wj l=l.drop 1:=by rw[wj,qb h45]
   have hl:l=45 :: wj l:=by
    cases l with
    | nil=>cases h45
    | cons b r=>rw[hd];cases h45;rfl
   rw[qb h45]at h5;rw[Lib.atoiAll_short l (by rw[hl];simp;omega),hl,Lib.atoi,qb (by decide),hdn,h5];rfl
 . have hd:wj l=l:=by rw[wj,qa h45]
   rw[qa h45]at h5;rw[hd]at hdn h2 h3 h4;rw[Lib.atoiAll_short l (by omega)];cases hq:l with
   | nil=>exact absurd hq h4
   | cons b r=>
    rw[hq]at h3 hdn h5;simp only[List.all_cons,zm]at h3;have hb:48<=b.toNat/\b.toNat<=57:=by simpa[wK]using h3.1
    have n1:(b == 45)=false:=by rw[beq_eq_false_iff_ne];intro e;rw[e]at hb;exact absurd hb.1 (by decide)
    have n2:(b == 43)=false:=by rw[beq_eq_false_iff_ne];intro e;rw[e]at hb;exact absurd hb.1 (by decide)
    rw[Lib.atoi,qa (by simp[n1]),qa (by simp[n2]),hdn,h5,<- hq,hd];rfl
theorem EM (l:List UInt8):Lib.trimPrefix l [45]=wj l:=by
 unfold Lib.trimPrefix Lib.hasPrefix wj;cases l with
 | nil=>rfl
 | cons b r=>
  by_cases hb:b=45
  . subst hb;rfl
  . have h1:¬ (b :: r).head? = some 45:=by simpa using hb
    have h2:¬ ([45]:List UInt8).isPrefixOf (b :: r)=true:=by simp[List.isPrefixOf];exact fun e=>hb e.symm
    rw[qa h1,qa h2]
def yX (l:List UInt8):Int:=match Lib.atoiAll l with
 |.ok v=>v
 |.range=>Lib.atoiSat l
 |_=>0
theorem Ex {l:List UInt8} {v:Int} (h:wk l=some v):yX l=v:=by rw[yX,yY h]
theorem num_c (s:ByteArray) (hs:s.size<=1000000):FC Tryz.prog 160 [enc s] [] (.tup [enc (yX s.data.toList),enc (wk s.data.toList).isSome]) []:=by
 refine FC.scal (vs:=[.string s]) ⟨_,Tryz.func160,by kernel_rfl,by kernel_rfl⟩ (fun U w hg hU=>?_);have fin:∀ (n:Int) (b:Bool),yX s.data.toList=n->(wk s.data.toList).isSome=b->∀ e w',(e=Ending.returned (.tuple #[.int .i64 n,.bool b])/\RowKit.Below w.heap.size w w') ->
  ∃ v,e=.returned v/\(∀ E U h,Rep E U h (.tup [enc (yX s.data.toList),enc (wk s.data.toList).isSome]) v)/\RowKit.Below w.heap.size w w':=by
  rintro n b rfl rfl e w' ⟨rfl,hb⟩
  refine⟨_,rfl,fun E U h=>.tup _ _ rfl (fun j c hj=>?_),hb⟩
  match j,hj with
  | 0,hj=>cases hj;exact .d (.s _)
  | 1,hj=>cases hj;exact .d (.s _)
 cases ha:Lib.atoiAll s.data.toList with
 | ok v=>
  refine (num_ok s v hs ha (Lib.atoiAll_bounds ha) w (fun w' hb=>tab_ok (hg.mono (h':=w'.heap) (fun b h=>⟨h,hb.block b (hU b h)⟩)))).mono (fin v _ (by rw[yX,ha]) ?_);have e2:(Av s yT).size=(wj s.data.toList).length:=by rw[Av,Lib.size_eq,<- EM];simp[yT]
  rw[e2];by_cases h1:Lib.itoa v=s.data.toList
  . have e1:iV v=s:=by rw[iV,h1]
    by_cases h2:(wj s.data.toList).length<=10
    . have:=CI (v:=v) (by rw[h1];exact h2);rw[h1]at this;simp[e1,h2,this]
    . have hn:wk s.data.toList=none:=by
       cases hq:wk s.data.toList with
       | none=>rfl
       | some w=>exact absurd (AS hq).2.1 h2
      simp[h2,hn]
  . have e1:¬ iV v=s:=fun e=>h1 (by rw[<- e];simp[iV])
    have hn:wk s.data.toList=none:=by
     cases hq:wk s.data.toList with
     | none=>rfl
     | some w=>
      have h3:=yY hq;rw[ha]at h3;cases h3;exact absurd (AS hq).1 h1
    simp[e1,hn]
 | range=>
  obtain⟨tp,p,hv⟩:=rng_ok hg;refine (num_rng s hs ha tp p w hv).mono (fin _ false (by rw[yX,ha]) ?_);cases hq:wk s.data.toList with
  | none=>rfl
  | some w=>have:=yY hq;rw[ha]at this;cases this
 |_=>
  obtain⟨tp,p,hv⟩:=syn_ok hg;refine (num_syn s hs ha tp p w hv).mono (fin 0 false (by rw[yX,ha]) ?_);cases hq:wk s.data.toList with
  | none=>rfl
  | some w=>have:=yY hq;rw[ha]at this;cases this
def Bg : Ent Tryz.prog:=.of1 160 (fun s=>s.size<=1000000) (fun s:ByteArray=>.tup [enc (yX s.data.toList),enc (wk s.data.toList).isSome]) (fun _=>⟨trivial,trivial,trivial⟩) (fun s h=>num_c s h)
def wT : List (List UInt8)->Option (List Int)
 |[]=>some []
 | w :: ws=>(wk w).bind fun g=>(wT ws).map (g :: ·)
def wn (l:List UInt8):Option (List Int):=if l=[]then some []else wT (wh 32 l)
theorem yN (c:UInt8):∀ (l:List UInt8),(wh c l).length<=l.length+1/\∀ w∈wh c l,w.length<=l.length
 |[]=>⟨zw _,fun w h=>by simp[wh]at h;subst h;exact zw _⟩
 | b :: l=>by
  obtain⟨h1,h2⟩:=yN c l;rw[wh];split
  . refine⟨by simp;omega,fun w h=>?_⟩;rcases zl.1 h with rfl | h
    . exact yF _
    . have:=h2 w h;simp;omega
  . split
    . rename_i p ps hq;rw[hq]at h1 h2;refine⟨by simp at *;omega,fun w h=>?_⟩;rcases zl.1 h with rfl | h
      . have:=h2 p zq;simp;omega
      . have:=h2 w (zo _ h);simp;omega
    . refine⟨by simp,fun w h=>?_⟩;simp only[zg]at h;subst h;simp
theorem BE : ∀ {ws:List (List UInt8)} {i:Nat},i < ws.length->wk (ws.getD i [])=none->wT ws=none
 | w :: ws,0,_,h=>by
  have h:wk w=none:=by simpa using h
  rw[wT,h];rfl
 | w :: ws,i+1,hi,h=>by
  have:=BE (ws:=ws) (i:=i) (by simpa using hi) (by simpa using h);rw[wT,this];cases wk w <;> rfl
theorem BF : ∀ {ws:List (List UInt8)},(∀ i,i < ws.length->(wk (ws.getD i [])).isSome=true)->wT ws=some (ws.map fun w=>(wk w).getD 0)
 |[],_=>rfl
 | w :: ws,h=>by
  have h0:=h 0 (by simp);have ih:=BF (ws:=ws) (fun i hi=>by have:=h (i+1) (by simpa using hi);simpa using this);have h0:(wk w).isSome=true:=by simpa using h0
  cases hq:wk w with
  | none=>rw[hq]at h0;cases h0
  | some g=>rw[wT,hq,ih];simp[hq]
def xh (ws:List (List UInt8)) (i:Nat):List Int:=(ws.take i).map fun w=>(wk w).getD 0
theorem BQ {ws:List (List UInt8)} {i:Nat} (h:i<=ws.length):(xh ws i).length=i:=by rw[xh,zy,qp];omega
theorem DL {ws:List (List UInt8)} {i:Nat} (h:i < ws.length):xh ws (i+1)=xh ws i++[(wk (ws.getD i [])).getD 0]:=by
 rw[xh,xh,zb,ze h,zN,<- List.take_append_getElem h,yg];rfl
theorem EH (ws:List (List UInt8)) (h0:ws≠[]):∃ (N:Nat) (fin:Bool),0 < N/\N<=ws.length/\(fin=true->N=ws.length)/\(fin=true->∀ i,i < ws.length->(wk (ws.getD i [])).isSome=true) /\
 (∀ i,i < N->wk (ws.getD i [])≠none->i+1 < N\/fin=true):=by
 by_cases h:∀ i,i < ws.length->(wk (ws.getD i [])).isSome=true
 . exact⟨ws.length,true,List.length_pos_iff.2 h0,zw _,fun _=>rfl,fun _=>h,fun _ _ _=>.inr rfl⟩
 . have h':∃ i,i < ws.length/\wk (ws.getD i [])=none:=by
    refine Classical.byContradiction fun hc=>h fun i hi=>?_
    cases hq:wk (ws.getD i [])with
    | none=>exact absurd ⟨i,hi,hq⟩ hc
    | some g=>rfl
   obtain⟨m,hm,hn⟩:=h';refine⟨m+1,false,by omega,by omega,fun h=>(by cases h),fun h=>(by cases h),fun i hi hne=>?_⟩;rcases Nat.lt_succ_iff_lt_or_eq.1 hi with h | rfl
   . exact .inl (by omega)
   . exact absurd hn hne
theorem Dy {s:ByteArray}:(s=⟨#[]⟩)=(s.data.toList=[]):=by
 refine propext ⟨fun h=>by rw[h],fun h=>?_⟩;have:=CL s;rw[<- this,h];rfl
def xe (s:ByteArray):C:=.tup [enc ((wn s.data.toList).getD []),enc (wn s.data.toList).isSome]
theorem Ey (s:ByteArray) (hs:s.size<=100000):FC Tryz.prog 127 [enc s] [] (xe s) []:=by
 unfold xe;by_cases h0:s.data.toList=[]
 . have h0':(s=⟨#[]⟩)=True:=by rw[Dy];exact eq_true h0
   have hn:wn s.data.toList=some []:=by rw[wn,qb h0]
   rw[hn];refine dD [] is127 (by simp) trivial trivial trivial trivial (fun cx hcx hl _=>dC [] 800 ?_);delta c127 oO oA oM oR oS oK oL oW oY oI oX o0;simp only[y5,h0',zN,qm,V,W3,seval]
 have h0':(s=⟨#[]⟩)=False:=by rw[Dy];exact eq_false h0
 refine dD [] is127 (by simp) trivial trivial trivial trivial (fun cx hcx hl _=>dC [Eg] 800 ?_);delta c127 oO oA oM oR oS oK oL oW oY oI oX o0;simp only[y5,Eg,h0',V,W3,seval];obtain⟨c1,c2⟩:=yN 32 s.data.toList;have hne:=xz 32 s.data.toList;rw[wL]at c1 c2;obtain⟨N,fin,n1,n2,n3,n4,n5w⟩:=EH _ hne;have hit:ItC Tryz.prog 192 [] [.ptr 201011 0,.ptr 200011 0,.ptr 202011 0] [(200011,.box [.s (.string s)]),(201011,.box [.s (.string ⟨#[32]⟩)]),(202011,.box [.s (.int .i64 0)])] 100000 (xC s.data.toList) N fin:=
  split_c s.data.toList (by rw[wL];omega) N fin n1 n2 n3
 have hpv:∀ i,xC s.data.toList i=[.s (.string (mkB ((wh 32 s.data.toList).getD i [])))]:=fun i=>rfl
 have hR:wn s.data.toList=wT (wh 32 s.data.toList):=by rw[wn,qa h0]
 rw[hR];generalize xC s.data.toList=pvw at *;generalize wh 32 s.data.toList=ws at *;refine S_sh 200000 (by rw[hcx.2.2];exact zw _) (by rfl) ?_;simp only[V,W3,seval];refine rH (f:=192) (first:=[]) (caps:=[.ptr 201011 0,.ptr 200011 0,.ptr 202011 0]) (ich:=[(200011,.box [.s (.string s)]),(201011,.box [.s (.string ⟨#[32]⟩)]),(202011,.box [.s (.int .i64 0)])]) (kr:=100000) (vals:=pvw) (N:=N) (fin:=fin) [200002,200003,200004]
  (fun i=>[(200002,.box [.s (.slice none 0 0)]),(200003,.box [.s (.bool false)]),(200004,.box [if i=0 then .s (.slice none 0 0)else .isl 1 3 ((xh ws i).map cells)])])
  hcx.2.1 rfl hit ⟨?_,?_⟩ ⟨fun c hc=>?_,fun k c hc=>?_⟩ ?_ (fun i hi=>?_) (fun k hk=>?_) (fun i hi=>?_) (fun i hi cx' _ hcx'=>dC [] 800 ?_) (fun hfin=>?_)
 . simp only[V,W3,seval]
 . simp only[V,W3,seval]
 . simp only[yb,zl,zA,qk]at hc;rcases hc with rfl | rfl | rfl <;> simp[dG,ag]
 . simp only[zl,zf,zA,qk]at hc;rcases hc with⟨rfl,rfl⟩ | ⟨rfl,rfl⟩ | ⟨rfl,rfl⟩ <;> exact⟨trivial,trivial⟩
 . simp only[V,W3,seval]
 . simp only[V,W3,seval];simp
 . rw[hcx.2.2];simp only[zl,zA,qk]at hk;omega
 . rw[hpv];refine⟨rfl,fun c hc=>?_⟩;simp only[zg]at hc;subst hc;trivial
 . simp only[hpv,V,W3,seval];intro cx'' _ _;refine dC [Bg] 800 ?_;have hiw:i < ws.length:=by omega
   have hwl:=c2 (ws.getD i []) (by rw[zb,ze hiw];exact yy hiw);have hos:=DL hiw;have hol:=BQ (Nat.le_of_lt hiw);have hbad:=BE hiw;have hnx:=n5w i hi;generalize hww:ws.getD i []=w at *;have hws:(mkB w).size<=1000000:=by rw[wy];omega
   cases hA:wk w with
   | none=>
    have hn:=hbad hA;rw[hn];delta Bd oO oA oM oR oS oK oL oC oY oI oX o1 o8;simp only[y5,Bg,hws,hA,wi,qn,Option.getD_none,InR,Ent.of1,V,W3,seval];exact .inr trivial
   | some x=>
    have hx:=Ex hA;have hnx2:=hnx (by rw[hA];simp);cases i with
    | zero=>
     have h1:[[C.s (.int .i64 x)]]=(xh ws 1).map cells:=by rw[hos,hA];rfl
     delta Bd oO oA oM oR oS oK oL oC oY oI oX o1 o8;simp only[y5,Bg,hws,hA,hx,h1,wi,qn,qm,InR,Ent.of1,V,W3,seval];have hol1:=BQ (ws:=ws) (i:=1) (by omega);exact⟨⟨by omega,by omega⟩,by decide,hnx2⟩
    | succ i=>
     have h1:(xh ws (i+1)).map cells++[[C.s (.int .i64 x)]]=(xh ws (i+1+1)).map cells:=by rw[hos,hA,yg];rfl
     delta Bd oO oA oM oR oS oK oL oC oY oI oX o1 o8;simp only[y5,Bg,hws,hA,hx,h1,hol,Nat.succ_ne_zero,wi,qn,qm,InR,Ent.of1,V,W3,seval];exact⟨⟨by decide,by omega,by omega⟩,by decide,hnx2⟩
 . have hall:=BF (n4 hfin);have hNl:=n3 hfin;have ho:xh ws ws.length=ws.map fun w=>(wk w).getD 0:=by rw[xh,yo]
   rw[hall,<- ho];rw[qa (by omega:¬ N=0),hNl];refine S_fzb 200004 rfl (dC [] 800 ?_);simp only[y5,qm,zN,InR,V,W3,seval]
def wN : Ent Tryz.prog:=.of1 127 (fun s=>s.size<=100000) (fun s:ByteArray=>xe s) (fun _=>⟨trivial,trivial,trivial⟩) (fun s h=>Ey s h)
theorem getD_i0 (l:List Int) (i:Nat) (h:i < l.length):List.getD (l.map Dat.cells) i [C.s (.int .i64 0)]=[C.s (.int .i64 (l.getD i 0))]:=by
 rw[zb,zb,zh,ze h];rfl
theorem AV (a b:ByteArray):(a++b).size=a.size+b.size:=by simp
theorem xJ (l:List Int) (h:∀ x∈l,InR .i64 x):(jY l).size<=l.length*22:=by
 rw[<- wL];exact mG l h
def wv : List (List UInt8):=[[100,97,116,97],[115,101,110,100],[97,99,107],[112,114,101,112,97,114,101],[99,97,110,99,101,108],[99,111,109,109,97,110,100],[99,111,109,112,108,101,116,101],[102,111,114,119,97,114,100],[115,119,105,116,99,104],[102,97,105,108],[114,101,99,111,118,101,114],[112,97,115,115]]
def xl (e:T3):List Int:=if iy e.x=true then [e.y,e.z]else [e.y]
def xm (e:T3):ByteArray:=if 0<=e.x/\e.x<=11 then mkB (wv.getD e.x.toNat [])++⟨#[32]⟩++jY (xl e)else ⟨#[]⟩
theorem sz3 (a b c:Nat) (h:a+b<=100) (hc:c<=50):((a+b+c:Nat):Int)<=9223372036854775807:=by omega
theorem B3 (e:T3) (hy:InR .i64 e.y) (hz:InR .i64 e.z):FC Tryz.prog 79 [enc e] [] (enc (xm e)) []:=by
 obtain⟨x,y,z⟩:=e;simp only at hy hz;refine dD [] E7.is79 (by simp) trivial trivial trivial trivial (fun cx _ hl _=>dC [gi,nq] 1500 ?_);by_cases hx:0<=x/\x<=11
 rotate_left
 . have he:xm ⟨x,y,z⟩=⟨#[]⟩:=by rw[xm,qa hx]
   rw[he];delta E7.c79 oO oN oA oM oT oR oQ oS oK oF oL oC oW oI oX o1 o5 o7;simp only[E7.rv79,dV,gi,hx,qc,qd,WU,Ent.of3,V,W3,seval]
 have hn1:(jY [y]).size<=22:=xJ [y] (fun v hv=>by simp only[zg]at hv;subst hv;exact hy);have hn2:(jY [y,z]).size<=44:=xJ [y,z] (fun v hv=>by simp only[zl,zA,qk]at hv;rcases hv with rfl | rfl;exact hy;exact hz);have glq:=glk;unfold Glob.gl at glq;have he:xm ⟨x,y,z⟩=mkB (wv.getD x.toNat [])++⟨#[32]⟩++jY (xl ⟨x,y,z⟩):=by rw[xm,qb hx]
 rw[he];have h1:([y]:List Int).length<=1000:=by simp
 have hm1:(∀ v∈[y],InR .i64 v):=fun v hv=>by simp only[zg]at hv;subst hv;exact hy
 have hm2:(∀ v∈[y,z],InR .i64 v):=fun v hv=>by simp only[zl,zA,qk]at hv;rcases hv with rfl | rfl;exact hy;exact hz
 rcases nI hx with k | k | k | k | k | k | k | k | k | k | k | k <;> subst k
 all_goals
  delta E7.c79 oO oN oA oM oT oR oQ oS oK oF oL oC oW oI oX o1 o5 o7;simp only[E7.rv79,dV,gi,nq,glq,jf,hm1,hm2,yw,yB,yc,AV,InR,qc,qd,WU,Ent.of1,Ent.of3,V,W3,seval]
 all_goals
  first
  | exact⟨by decide,fun x hx=>(by simpa[InR]using hm1 x hx),sz3 _ _ _ (by decide) (by omega),rfl⟩
  | exact⟨by decide,fun x hx=>(by simpa[InR]using hm2 x hx),sz3 _ _ _ (by decide) (by omega),rfl⟩
  | trace_state
def ent79 : Ent Tryz.prog:=.of1 79 (fun e:T3=>InR .i64 e.y/\InR .i64 e.z) (fun e=>enc (xm e)) (fun _=>trivial) (fun e h=>B3 e h.1 h.2)
theorem Fr : ∀ k,k < 12->(mkB (wv.getD k [])).size<=8:=by
 intro k hk;rw[wy];have:∀ k:Fin 12,(wv.getD k.1 []).length<=8:=by decide
 exact this ⟨k,hk⟩
def wx (c:UInt8) (l:List UInt8):Nat->List UInt8
 | 0=>l
 | i+1=>(wx c l i).drop ((Lib.indexByte (wx c l i) c).toNat+1)
theorem BV (c:UInt8) (l:List UInt8):∀ i,(wx c l i).length<=l.length
 | 0=>zw _
 | i+1=>by have:=BV c l i;rw[wx,List.length_drop];omega
theorem EG (c:UInt8) (l:List UInt8):∀ i,i < (wh c l).length->wh c (wx c l i)=(wh c l).drop i /\
 ((i+1 < (wh c l).length/\∃ j:Nat,Lib.indexByte (wx c l i) c=(j:Int)/\j < (wx c l i).length/\(wh c l).getD i []=(wx c l i).take j/\wx c l (i+1)=(wx c l i).drop (j+1)) \/
  (i+1=(wh c l).length/\Lib.indexByte (wx c l i) c=-1/\(wh c l).getD i []=wx c l i)):=by
 intro i
 induction i with
 | zero=>
  intro h0;refine⟨rfl,?_⟩;rcases xB l c with⟨h1,h2⟩ | ⟨j,h1,h2,h3,h4⟩
  . have e:=wW h2;exact .inr ⟨by rw[e];rfl,h1,by rw[e];rfl⟩
  . have hm:=xc (l:=l) (c:=c) (f:=0) (n:=j) (fun k _ b=>h4 k (by omega));have e0:=wJ (l:=l) (c:=c) (f:=0) (i:=j) (yF _) h2 h3;simp only[yB,Nat.sub_zero]at hm e0;have e:wh c l=l.take j :: wh c (l.drop (j+1)):=(congrArg _ e0).trans (wR hm);have hp:0 < (wh c (l.drop (j+1))).length:=List.length_pos_iff.2 (xz _ _);refine .inl ⟨by rw[e,zQ];omega,j,h1,h2,by rw[e];rfl,?_⟩;show (wx c l 0).drop ((Lib.indexByte (wx c l 0) c).toNat+1)=l.drop (j+1)
    rw[show wx c l 0=l from rfl,h1,z5]
 | succ i ih=>
  intro h0;obtain⟨g1,g2⟩:=ih (by omega);rcases g2 with⟨_,j,q1,q2,q3,q4⟩ | ⟨q1,_,_⟩
  rotate_left
  . omega
  generalize hR:wx c l i=R at *;rcases xB R c with⟨k1,k2⟩ | ⟨j',k1,k2,k3,k4⟩
  . rw[k1]at q1;omega
  have hjj:j'=j:=by rw[k1]at q1;omega
  subst hjj;have hm:=xc (l:=R) (c:=c) (f:=0) (n:=j') (fun k _ b=>k4 k (by omega));have e0:=wJ (l:=R) (c:=c) (f:=0) (i:=j') (yF _) k2 k3;simp only[yB,Nat.sub_zero]at hm e0;have e:wh c R=R.take j' :: wh c (R.drop (j'+1)):=(congrArg _ e0).trans (wR hm);have hR1:wh c (wx c l (i+1))=(wh c l).drop (i+1):=by
   have:(wh c l).drop (i+1)=((wh c l).drop i).drop 1:=by rw[List.drop_drop]
   rw[this,<- g1,e,q4];rfl
  refine⟨hR1,?_⟩;have hg:(wh c l).getD (i+1) []=(wh c (wx c l (i+1))).getD 0 []:=by
   rw[hR1,zb,zb,zO]
  have hlen:(wh c (wx c l (i+1))).length=(wh c l).length - (i+1):=by rw[hR1,List.length_drop]
  rw[hg];clear hg g1 q1 q3 k1 k2 k3 k4 hm e0 e;generalize hS:wx c l (i+1)=S at *;rcases xB S c with⟨h1,h2⟩ | ⟨j,h1,h2,h3,h4⟩
  . have e:=wW h2;rw[e]at hlen ⊢;exact .inr ⟨by simp at hlen;omega,h1,rfl⟩
  . have hm:=xc (l:=S) (c:=c) (f:=0) (n:=j) (fun k _ b=>h4 k (by omega));have e0:=wJ (l:=S) (c:=c) (f:=0) (i:=j) (yF _) h2 h3;simp only[yB,Nat.sub_zero]at hm e0;have e:wh c S=S.take j :: wh c (S.drop (j+1)):=(congrArg _ e0).trans (wR hm);have hp:0 < (wh c (S.drop (j+1))).length:=List.length_pos_iff.2 (xz _ _);rw[e]at hlen ⊢;refine .inl ⟨by simp at hlen;omega,j,h1,h2,rfl,?_⟩;show (wx c l (i+1)).drop ((Lib.indexByte (wx c l (i+1)) c).toNat+1)=_
    rw[hS,h1,z5]
theorem BI (c:UInt8):∀ l:List UInt8,(wh c l).length=Lib.countByte l c+1
 |[]=>rfl
 | b :: l=>by
  have ih:=BI c l;rw[wh];by_cases hb:b=c
  . rw[qb hb,zQ,ih];simp[Lib.countByte,hb]
  . rw[qa hb];have e:Lib.countByte (b :: l) c=Lib.countByte l c:=by simp[Lib.countByte,hb]
    rw[e];cases hq:wh c l with
    | nil=>exact absurd hq (xz _ _)
    | cons p ps=>rw[hq]at ih;exact ih
theorem Count_c (s:ByteArray) (c:UInt8):FC Tryz.prog 177 [enc s,enc (⟨#[c]⟩:ByteArray)] [] (enc ((Lib.countByte s.data.toList c:Nat):Int)) []:=by
 refine FC.scal (vs:=[.string s,.string ⟨#[c]⟩]) ⟨_,Tryz.func177,by kernel_rfl,by kernel_rfl⟩ (fun U w hg hU=>?_);refine (Any.strings_Count_one Tryz.lays138 s c w).mono ?_
 rintro e w' ⟨rfl,rfl⟩
 exact⟨_,rfl,fun E U h=>.d (.s _),.refl _ _⟩
def Ek : Ent Tryz.prog:=.of2 177 (fun _ p=>p=barB) (fun (s p:ByteArray)=>enc ((Lib.countByte s.data.toList 124:Nat):Int)) (fun _ _=>trivial) (fun s p h=>by subst h;exact Count_c s 124)
def Bw : Ent Tryz.prog:=.of2 178 (fun _ p=>p=barB) (fun (s p:ByteArray)=>enc (Lib.indexByte s.data.toList 124)) (fun _ _=>trivial) (fun s p h=>by subst h;exact Dg s 124)
def xo (ws:List (List UInt8)) (k i:Nat):List ByteArray:=(ws.take i).map mkB++List.replicate (k - i) ⟨#[]⟩
theorem Fl {ws:List (List UInt8)} {k i:Nat} (h:i<=ws.length) (hk:i<=k):(xo ws k i).length=k:=by
 rw[xo,zK,zy,qp,List.length_replicate];omega
theorem Fm {ws:List (List UInt8)} {k i:Nat} (h:i < ws.length) (hk:i < k):((xo ws k i).map cells).set i [C.s (.string (mkB (ws.getD i [])))]=(xo ws k (i+1)).map cells:=by
 have e:[C.s (.string (mkB (ws.getD i [])))]=cells (mkB (ws.getD i [])):=rfl;rw[e,<- List.map_set]
 congr 1
 have hl:((ws.take i).map mkB).length=i:=by rw[zy,qp];omega
 rw[xo,List.set_append_right _ _ (by omega),hl,Nat.sub_self,xo,yI h,yg,ye]
 congr 1
 rw[show k - i=(k - (i+1))+1 by omega,List.replicate_succ,List.set_cons_zero,zb,ze h];rfl
theorem DH (s:ByteArray) (hs:s.size<=100000):FC Tryz.prog 161 [enc s,enc barB,enc (0:Int),enc (-1:Int)] [] (enc (cutB 124 s)) []:=by
 refine dD [] E8.is161 (by simp) (by simp[bn]) (by simp[ap,ag]) (by simp[ap,ag]) (by simp[aC]) (fun cx _ hl _=>dC [Ek] 1200 ?_);have hcc:=BI 124 s.data.toList;obtain⟨d1,d2⟩:=yN 124 s.data.toList;rw[wL]at d1 d2;have hcb:cutB 124 s=(wh 124 s.data.toList).map mkB:=rfl;rw[hcb];generalize hN:Lib.countByte s.data.toList 124=N at *;have hb0:(barB=⟨#[]⟩)=False:=eq_false (by decide);have hmn:(if ((s.size:Int)+1) < ((N:Int)+1)then ((s.size:Int)+1)else ((N:Int)+1))=(N:Int)+1:=by split <;> omega
 have hn1:(N:Int)+1 - 1=(N:Int):=by omega
 have hn2:((N:Int)+1).toNat=N+1:=by omega
 delta E8.c161 oO oN oA oM oR oS oK oV oC oW oI oX oB;simp only[E8.rv161,Ek,hN,hb0,hmn,hn1,hn2,InR,qc,qd,WU,Ent.of2,V,W3,seval];refine⟨by omega,by omega,by omega,by omega,?_⟩;have hrl:=BV 124 s.data.toList;have hrc:=EG 124 s.data.toList;rw[wL]at hrl;have h00:s=mkB (wx 124 s.data.toList 0):=(CL s).symm;have hr0:∀ ws:List (List UInt8),([C.s (.string ⟨#[]⟩)] :: List.replicate N [C.s (.string ⟨#[]⟩)])=(xo ws (N+1) 0).map cells:=fun ws=>by
  rw[<- List.replicate_succ,xo,List.take_zero,zR,yb,Nat.sub_zero,List.map_replicate];rfl
 generalize wx 124 s.data.toList=R at *;generalize wh 124 s.data.toList=ws at *;have hbs:barB.size=1:=rfl;refine fH N (fun i=>[(10,.s (.int .i64 (i:Int))),(0,.s (.string (mkB (R i))))]) (fun i=>[(31,.row 1 9 ((xo ws (N+1) i).map cells))]) (fun _=>True) trivial ?_ (fun i hi _=>dC [Bw] 800 ?_)
 . rw[hr0 ws,<- h00];simp only[V,W3,seval]
   all_goals simp
 . obtain⟨g1,g2⟩:=hrc i (by omega);have hri:=hrl i;have hpl:(xo ws (N+1) i).length=N+1:=Fl (by omega) (by omega);have hdp:List.drop 1 (List.getD ((xo ws (N+1) i).map cells) i [])=[]:=by
    rw[zb,zh];cases (xo ws (N+1) i)[i]? <;> rfl
   have hst:=Fm (ws:=ws) (k:=N+1) (i:=i) (by omega) (by omega);by_cases hlt:i < N
   . have hi2:(i:Int) < (N:Int):=by omega
     have hi0:(0:Int)<=i:=by omega
     have hi3:(i:Int) < (N:Int)+1:=by omega
     have hi4:i < N+1:=by omega
     rcases g2 with⟨_,j,q1,q2,q3,q4⟩ | ⟨q1,_,_⟩
     rotate_left
     . omega
     have e1:=xa (mkB (R i)) 0 j (by rw[wy];omega);have e2:=xa (mkB (R i)) (j+1) (mkB (R i)).size (zw _);rw[wy,wi]at e2;rw[wi]at e1;rw[qo (by rw[List.length_drop];omega),<- q4]at e2;rw[yB,Nat.sub_zero,<- q3]at e1;have hj0:¬ (j:Int) < 0:=by omega
     have hj1:(0:Int)<=(j:Int):=by omega
     have hj2:((j:Int)+1).toNat=j+1:=by omega
     have hj3:(j:Int)+0=j:=by omega
     have hone:((1:Nat):Int)=1:=rfl;delta E8.c161l1 oO oN oA oM oR oS oK oC oW oI oX oB;simp only[E8.rv161,Bw,hi2,hi0,hi3,hi4,hpl,hdp,hst,wi,wy,q1,e1,e2,hj0,hj1,hj2,hj3,hbs,hone,z5,zy,InR,qc,qd,WU,Ent.of2,V,W3,seval];exact⟨⟨by omega,by omega⟩,by omega,by omega,⟨by omega,by omega⟩,⟨by omega,by omega,by omega⟩,⟨by omega,by omega⟩,hlt,by omega⟩
   . have hie:i=N:=by omega
     subst hie;have hi2:¬ (i:Int) < (i:Int):=by omega
     rcases g2 with⟨q1,_⟩ | ⟨_,q1,q2⟩
     . omega
     rw[q2]at hst;have hpf:xo ws (i+1) (i+1)=ws.map mkB:=by
      rw[xo,Nat.sub_self,List.replicate_zero,z4,<- hcc,yo]
     rw[hpf]at hst;have hit:((i:Int)+1).toNat=i+1:=by omega
     have htk:List.take (i+1) ((ws.map mkB).map cells)=(ws.map mkB).map cells:=qo (by rw[zy,zy];omega);have hwl:ws.length=i+1:=hcc;delta E8.c161l1 oO oN oA oM oR oS oK oC oW oI oX oB;simp only[E8.rv161,Bw,hi2,hpl,hdp,hst,hit,htk,hwl,wi,q1,zy,InR,qc,qd,WU,Ent.of2,V,W3,seval];exact⟨⟨by omega,by omega⟩,by omega,⟨by omega,by omega⟩,by omega,by omega⟩
def Eh : Ent Tryz.prog:=.mk3 161 (fun args chs=>match args,chs with
 |[.s (.string s),.s (.string p),.s (.int .i64 a),.s (.int .i64 b)],[]=>some (s.size<=100000/\p=barB/\a=0/\b=-1,enc (cutB 124 s),[],[])
 |_,_=>none) (by
 intro args chs p r chs' nk hs hp;split at hs
 . simp only[zn,zf]at hs;obtain⟨rfl,rfl,rfl,rfl⟩:=hs;obtain⟨h1,rfl,rfl,rfl⟩:=hp;exact⟨DH _ h1,.plain trivial⟩
 . cases hs)
theorem Split_c (s:ByteArray) (hs:s.size<=100000):FC Tryz.prog 128 [enc s,enc barB] [] (enc (cutB 124 s)) []:=by
 refine dD [] is128 (by simp) (by simp[bn]) (by simp[ap,ag]) (by simp[ap,ag]) (by simp[aC]) (fun cx _ hl _=>dC [Eh] 1200 ?_);delta c128 oO oN oA oM oC oX;simp only[rv128,Eh,hs,qc,qd,WU,V,W3,seval]
def y9 : Ent Tryz.prog:=.of2 128 (fun s p=>s.size<=100000/\p=barB) (fun (s p:ByteArray)=>enc (cutB 124 s)) (fun _ _=>trivial) (fun s p h=>by obtain⟨h1,rfl⟩:=h;exact Split_c s h1)
def xv : List (List UInt8)->Option (List (List Int))
 |[]=>some []
 | w :: ws=>(wn w).bind fun g=>(xv ws).map (g :: ·)
theorem Ba : ∀ {ws:List (List UInt8)} {i:Nat},i < ws.length->wn (ws.getD i [])=none->xv ws=none
 | w :: ws,0,_,h=>by
  have h:wn w=none:=by simpa using h
  rw[xv,h];rfl
 | w :: ws,i+1,hi,h=>by
  have:=Ba (ws:=ws) (i:=i) (by simpa using hi) (by simpa using h);rw[xv,this];cases wn w <;> rfl
theorem Bb : ∀ {ws:List (List UInt8)},(∀ i,i < ws.length->(wn (ws.getD i [])).isSome=true)->xv ws=some (ws.map fun w=>(wn w).getD [])
 |[],_=>rfl
 | w :: ws,h=>by
  have h0:=h 0 (by simp);have ih:=Bb (ws:=ws) (fun i hi=>by have:=h (i+1) (by simpa using hi);simpa using this);have h0:(wn w).isSome=true:=by simpa using h0
  cases hq:wn w with
  | none=>rw[hq]at h0;cases h0
  | some g=>rw[xv,hq,ih];simp[hq]
def wS (ws:List (List UInt8)) (i:Nat):List (List Int):=(ws.take i).map fun w=>(wn w).getD []
theorem BP {ws:List (List UInt8)} {i:Nat} (h:i<=ws.length):(wS ws i).length=i:=by rw[wS,zy,qp];omega
theorem DK {ws:List (List UInt8)} {i:Nat} (h:i < ws.length):wS ws (i+1)=wS ws i++[(wn (ws.getD i [])).getD []]:=by
 rw[wS,wS,zb,ze h,zN,<- List.take_append_getElem h,yg];rfl
def stOf (p:List Int) (bs:List (List Int)):Ms:=⟨p.getD 0 0,p.getD 1 0,p.getD 2 0,p.getD 3 0,p.getD 4 0,p.getD 5 0,p.getD 6 0,p.getD 7 0,p.getD 8 0,bs⟩
def psF (h:List UInt8) (r:List (List UInt8)):Option Ms:=match wn h with
 | none=>none
 | some p=>if p.length≠9\/r=[]then none else (xv r).map (stOf p)
def psO (l:List UInt8):Option Ms:=psF ((wh 124 l).headD []) (wh 124 l).tail
def psC (o:Option Ms):C:=.tup [enc (o.getD ms0),enc (if o.isSome=true then (0:Int)else 7)]
theorem AK : ∀ (ws:List (List UInt8)) (p:List Int),wT ws=some p->p.length=ws.length
 |[],p,h=>by simp[wT]at h;subst h;rfl
 | w :: ws,p,h=>by
  rw[wT]at h;cases hw:wk w with
  | none=>rw[hw]at h;cases h
  | some v=>
   cases hq:wT ws with
   | none=>rw[hw,hq]at h;cases h
   | some q=>
    rw[hw,hq]at h;simp at h;subst h;rw[zQ,zQ,AK ws q hq]
theorem EA {l:List UInt8} {p:List Int} (h:wn l=some p):p.length<=l.length+1:=by
 unfold wn at h;split at h
 . cases h;exact yF _
 . have:=AK _ _ h;have:=(yN 32 l).1;omega
theorem p9w (p:List Int) (h:p.length=9):∃ a b c d e f g i j,p=[a,b,c,d,e,f,g,i,j]:=by
 match p,h with
 |[a,b,c,d,e,f,g,i,j],_=>exact⟨a,b,c,d,e,f,g,i,j,rfl⟩
theorem Fi (o:Option Ms):dG [] (psC o):=by
 unfold psC;exact⟨by rw[qT];simp[dG,dG.keysIns],trivial,trivial⟩
def cBw (p:List Int) (i:Nat):List C:=(p.take i++List.replicate (9 - i) 0).map (fun v=>C.s (.int .i64 v))++[.s (.slice none 0 0)]
theorem EW (p:List Int) (h:p.length=9):∀ i,i < 9->(cBw p i).length=10/\(((cBw p i).drop i).take 1).all aL=true/\(cBw p i).take i++[C.s (.int .i64 (p.getD i 0))]++(cBw p i).drop (i+1)=cBw p (i+1):=by
 obtain⟨v0,v1,v2,v3,v4,v5,v6w,v7w,v8w,rfl⟩:=p9w p h;intro i hi
 match i,hi with
 | 0,_=>exact⟨rfl,rfl,rfl⟩
 | 1,_=>exact⟨rfl,rfl,rfl⟩
 | 2,_=>exact⟨rfl,rfl,rfl⟩
 | 3,_=>exact⟨rfl,rfl,rfl⟩
 | 4,_=>exact⟨rfl,rfl,rfl⟩
 | 5,_=>exact⟨rfl,rfl,rfl⟩
 | 6,_=>exact⟨rfl,rfl,rfl⟩
 | 7,_=>exact⟨rfl,rfl,rfl⟩
 | 8,_=>exact⟨rfl,rfl,rfl⟩
 | n+9,h=>exact absurd h (by omega)
theorem Cg (s:ByteArray) (hs:s.size<=50000):FC Tryz.prog 82 [enc s] [] (psC (psO s.data.toList)) []:=by
 have hs6:s.size<=100000:=by omega
 obtain⟨d1,d2⟩:=yN 124 s.data.toList;rw[wL]at d1 d2;have hcb:cutB 124 s=(wh 124 s.data.toList).map mkB:=rfl;have hne:=xz 124 s.data.toList;have hbr:(⟨#[124]⟩:ByteArray)=barB:=rfl;unfold psO;obtain⟨h,r,hw⟩:∃ h r,wh 124 s.data.toList=h :: r:=by
  cases hq:wh 124 s.data.toList with
  | nil=>exact absurd hq hne
  | cons h r=>exact⟨h,r,rfl⟩
 rw[hw]at hcb d1 d2 ⊢;simp only[yc,List.tail_cons];have d3:r.length<=s.size:=by rw[zQ]at d1;omega
 have hsh:(mkB h).size<=100000:=by have:=d2 h (by simp);rw[wy];omega
 refine dD [] is82 (by simp) (by simp[bn]) (by simp[ap,ag]) (by simp[ap,ag]) (by simp[aC]) (fun cx _ hl _=>dC [y9,wN] 1200 ?_);unfold psF;cases hp:wn h with
 | none=>
  delta c82 oO oN oA oM oG oS oK oF oL oV oC oW oI oX oH oD oZ o4 o5 o8;simp only[xV,y9,wN,xe,hs6,hbr,hcb,hsh,hp,psC,ms0,qT,wi,zt,Option.getD_none,qn,qc,qd,WU,Ent.of1,Ent.of2,V,W3,seval];omega
 | some p=>
  by_cases h9:p.length=9
  rotate_left
  . have h9':¬ (p.length:Int)=9:=by omega
    simp only[h9,ne_eq,qd,true_or,qj];delta c82 oO oN oA oM oG oS oK oF oL oV oC oW oI oX oH oD oZ o4 o5 o8;simp only[xV,y9,wN,xe,hs6,hbr,hcb,hsh,hp,h9',psC,ms0,qT,wi,zt,Option.getD_none,qn,zN,qm,qc,qd,WU,Ent.of1,Ent.of2,V,W3,seval];omega
  have h9':(p.length:Int)=9:=by omega
  by_cases hr:r=[]
  . subst hr;simp only[or_true,qj];delta c82 oO oN oA oM oG oS oK oF oL oV oC oW oI oX oH oD oZ o4 o5 o8;simp only[xV,y9,wN,xe,hs6,hbr,hcb,hsh,hp,h9',psC,ms0,qT,wi,zt,zR,Option.getD_none,qn,zN,qm,qc,qd,WU,Ent.of1,Ent.of2,V,W3,seval]
  have hrl:0 < r.length:=List.length_pos_iff.2 hr;have hrl2:¬ ((r.length+1:Nat):Int) < 2:=by omega
  simp only[h9,ne_eq,qc,hr,or_self,qi];delta c82 oO oN oA oM oG oS oK oF oL oV oC oW oI oX oH oD oZ o4 o5 o8;simp only[xV,y9,wN,xe,hs6,hbr,hcb,hsh,hp,h9',hrl2,wi,zt,zR,zQ,yh,zN,qm,qc,qd,WU,Ent.of1,Ent.of2,V,W3,seval];refine⟨by omega,?_⟩;obtain⟨v0,v1,v2,v3,v4,v5,v6w,v7w,v8w,hp9⟩:=p9w p h9;have hlen:p.length=9:=h9;refine fH 9 (fun i=>[(48,.s (.int .i64 (i:Int)))]) (fun i=>[(5,.box (cBw p i))]) (fun _=>True) trivial ?_ (fun i hi _=>dC [] 800 ?_)
  . simp only[V,W3,seval]
    all_goals first | rfl | simp[cBw]
  . by_cases hlt:i < 9
    . have hi2:=eq_true (show (i:Int) < 9 by omega);delta c82l1 oO oN oA oM oR oS oK oL oW oX oB o1 o6;simp only[xV,hi2,WU,V,W3,seval];have hcs:[C.ptr 5 0,C.ptr 5 1,C.ptr 5 2,C.ptr 5 3,C.ptr 5 4,C.ptr 5 5,C.ptr 5 6,C.ptr 5 7,C.ptr 5 8][(i:Int).toNat]? = some (.ptr 5 i):=by
       rw[z5]
       match i,hlt with
       | 0,_=>rfl
       | 1,_=>rfl
       | 2,_=>rfl
       | 3,_=>rfl
       | 4,_=>rfl
       | 5,_=>rfl
       | 6,_=>rfl
       | 7,_=>rfl
       | 8,_=>rfl
       | n+9,h=>exact absurd h (by omega)
      refine oh rfl (OpM.arrIx1 (e:=181) (n:=(i:Int)) (k:=.i64) (len:=9) (by kernel_rfl) (by kernel_rfl) (by kernel_rfl) rfl rfl ⟨by omega,by omega⟩ hcs) (fun ef he=>?_);subst he;refine pW [] 800 ?_;have hi0:(0:Int)<=i:=by omega
      have hi3:(i:Int) < (p.length:Int):=by omega
      have hi4:i < p.length:=by omega
      have hgd:=getD_i0 p i hi4;obtain⟨f1,f2,f3⟩:=EW p hlen i hlt;simp only[hi0,hi3,hi4,hgd,f1,f2,f3,hlen,zy,InR,WU,V,W3,seval];exact⟨by omega,by omega,⟨by omega,by omega⟩,hlt,by omega⟩
    . have hie:i=9:=by omega
      subst hie;have htk:List.take r.length ((r.map mkB).map cells)=(r.map mkB).map cells:=qo (by rw[zy,zy];exact zw _);have hc9:cBw p 9=[.s (.int .i64 v0),.s (.int .i64 v1),.s (.int .i64 v2),.s (.int .i64 v3),.s (.int .i64 v4),.s (.int .i64 v5),.s (.int .i64 v6w),.s (.int .i64 v7w),.s (.int .i64 v8w),.s (.slice none 0 0)]:=by subst hp9;rfl
      rw[hc9];delta c82l1 oO oN oA oM oR oS oK oL oW oX oB o1 o6;simp only[xV,htk,zy,zQ,InR,WU,V,W3,seval];refine⟨by omega,?_⟩;have hB:∀ i,i < r.length->wn (r.getD i [])=none->xv r=none:=fun i=>Ba (ws:=r) (i:=i)
      have hS:=Bb (ws:=r);refine fH r.length (fun k=>[(62,.s (.int .i64 (k:Int)))]) (fun k=>[(5,.box [.s (.int .i64 v0),.s (.int .i64 v1),.s (.int .i64 v2),.s (.int .i64 v3),.s (.int .i64 v4),.s (.int .i64 v5),.s (.int .i64 v6w),.s (.int .i64 v7w),.s (.int .i64 v8w),if k=0 then .s (.slice none 0 0)else .isl 1 24 ((wS r k).map cells)])]) (fun k=>∀ j,j < k->(wn (r.getD j [])).isSome=true) (fun j hj=>by omega) ?_ (fun k hk hv=>?_)
      . simp only[V,W3,seval]
        all_goals simp
      . by_cases hlt:k < r.length
        . have hi2:(k:Int) < (r.length:Int):=by omega
          have hi0:(0:Int)<=(k:Int):=by omega
          have hwl:=d2 (r.getD k []) (by rw[zb,ze hlt];exact zo _ (yy hlt));have hgd:List.getD ((r.map mkB).map cells) k [C.s (.string ⟨#[]⟩)]=[C.s (.string (mkB (r.getD k [])))]:=by
           rw[zT,zb,zb,zh,ze hlt];rfl
          have hos:=DK hlt;have hol:=BP hk;have hbad:=hB k hlt;generalize hww:r.getD k []=w at *;have hws:(mkB w).size<=100000:=by rw[wy];omega
          have hnl:=fun p=>EA (l:=w) (p:=p)
          refine dC [wN] 800 ?_;cases hA:wn w with
          | none=>
           have hn:=hbad hA;rw[hn];delta Be oO oN oA oM oR oS oK oF oL oV oC oW oY oI oX oB o0 oZ o8;simp only[xV,wN,xe,hi2,hi0,hlt,hgd,hws,hA,psC,ms0,qT,wi,zy,zQ,Option.map_none,qn,Option.getD_none,InR,qc,qd,WU,Ent.of1,V,W3,seval]
          | some q=>
           have hql:=hnl q hA;cases k with
           | zero=>
            have h1:[[C.sl 1 (q.map cells)]]=(wS r 1).map cells:=by rw[hos,hA];rfl
            delta Be oO oN oA oM oR oS oK oF oL oV oC oW oY oI oX oB o0 oZ o8;simp only[xV,wN,xe,hi2,hi0,hlt,hgd,hws,hA,h1,wi,zy,zQ,qm,zN,InR,qc,qd,WU,Ent.of1,V,W3,seval];have hol1:=BP (ws:=r) (i:=1) (by omega);rw[qb (by omega)];exact⟨by omega,⟨by omega,by omega⟩,fun j hj=>(by rcases Nat.lt_succ_iff_lt_or_eq.1 hj with h | rfl;exact hv j h;rw[hww,hA];rfl)⟩
           | succ k=>
            have h1:(wS r (k+1)).map cells++[[C.sl 1 (q.map cells)]]=(wS r (k+1+1)).map cells:=by rw[hos,hA,yg];rfl
            delta Be oO oN oA oM oR oS oK oF oL oV oC oW oY oI oX oB o0 oZ o8;simp only[xV,wN,xe,hi2,hi0,hlt,hgd,hws,hA,h1,hol,Nat.succ_ne_zero,wi,zy,zQ,qm,zN,InR,qc,qd,WU,Ent.of1,V,W3,seval];exact⟨⟨by omega,by omega⟩,⟨by omega,by omega⟩,fun j hj=>(by rcases Nat.lt_succ_iff_lt_or_eq.1 hj with h | rfl;exact hv j h;rw[hww,hA];rfl),by omega⟩
        . have hke:k=r.length:=by omega
          subst hke;have hi2:¬ ((r.length:Nat):Int) < (r.length:Int):=by omega
          rw[qa (by omega:¬ r.length=0),hS hv];have ho:wS r r.length=r.map fun w=>(wn w).getD []:=by rw[wS,yo]
          rw[<- ho];refine S_fzb 5 rfl (dC [] 800 ?_);have hst:stOf p (wS r r.length)=⟨v0,v1,v2,v3,v4,v5,v6w,v7w,v8w,wS r r.length⟩:=by subst hp9;rfl
          delta Be oO oN oA oM oR oS oK oF oL oV oC oW oY oI oX oB o0 oZ o8;simp only[xV,hi2,psC,hst,qT,zU,zN,qm,zy,zQ,InR,qc,qd,WU,V,W3,seval]
def kUp (l:List UInt8):Nat->Int
 | 0=>-1
 | i+1=>if wv.getD i []=l then (i:Int)else kUp l i
theorem Df : ∀ i j,i < 12->j < 12->wv.getD i []=wv.getD j []->i=j:=by
 have:∀ i j:Fin 12,wv.getD i.1 []=wv.getD j.1 []->i=j:=by decide
 intro i j hi hj h;exact congrArg Fin.val (this ⟨i,hi⟩ ⟨j,hj⟩ h)
theorem By {l:List UInt8} {i:Nat} (h:wv.getD i []=l):∀ n,i < n->n<=12->kUp l n=(i:Int)
 | n+1,h1,h2=>by
  rw[kUp];by_cases hn:wv.getD n []=l
  . rw[qb hn];have:=Df i n (by omega) (by omega) (h.trans hn.symm);subst this;rfl
  . rw[qa hn];refine By h n ?_ (by omega);rcases Nat.lt_succ_iff_lt_or_eq.1 h1 with q | q
    . exact q
    . subst q;exact absurd h hn
theorem CJ {l:List UInt8}:∀ n,(∀ j,j < n->wv.getD j []≠l)->kUp l n=-1
 | 0,_=>rfl
 | n+1,h=>by rw[kUp,qa (h n (by omega)),CJ n (fun j hj=>h j (by omega))]
theorem Dp (l:List UInt8):∀ n,-1<=kUp l n/\kUp l n < n
 | 0=>⟨Int.le_refl _,by show (-1:Int) < 0;decide⟩
 | n+1=>by
  have:=Dp l n;rw[kUp];split <;> omega
theorem mkB_eq (k l:List UInt8):(mkB k=mkB l)=(k=l):=propext ⟨fun h=>by have:=congrArg (fun b=>b.data.toList) h;exact this,fun h=>by rw[h]⟩
theorem DJ : ∀ i,i < 12->∃ b f,List.getD (wY jf 3 12) i [C.s (.string ⟨#[]⟩),.s (.bool false),.s .nilFunc]=[.s (.string (mkB (wv.getD i []))),.s (.bool b),.s (.func (.func f) #[] #[])]
 | 0,_=>⟨_,_,rfl⟩
 | 1,_=>⟨_,_,rfl⟩
 | 2,_=>⟨_,_,rfl⟩
 | 3,_=>⟨_,_,rfl⟩
 | 4,_=>⟨_,_,rfl⟩
 | 5,_=>⟨_,_,rfl⟩
 | 6,_=>⟨_,_,rfl⟩
 | 7,_=>⟨_,_,rfl⟩
 | 8,_=>⟨_,_,rfl⟩
 | 9,_=>⟨_,_,rfl⟩
 | 10,_=>⟨_,_,rfl⟩
 | 11,_=>⟨_,_,rfl⟩
 | n+12,h=>absurd h (by omega)
def chW (l:List UInt8):Chs:=[(100000,.box [.s (.string (mkB l))])]
theorem clo126 (l k:List UInt8) (b:Bool) (f:FuncId):FC Tryz.prog 126 [.agg [.s (.string (mkB k)),.s (.bool b),.s (.func (.func f) #[] #[])],.ptr 100000 0] (chW l) (enc (decide (k=l))) (chW l):=by
 have hk:=mkB_eq k l;refine dD [100000] is126 (by simp) (by simp[chW,bn]) (by simp[chW,ap,ag,av]) (by simp[chW,ap,ag,av]) (by simp[chW,aC,lk]) (fun cx _ hl _=>dC [] 800 ?_);delta c126 oO oM oF oL oX oB o7 o9;simp only[rv126,chW,hk,WU,V,W3,seval]
def entW (f:FuncId) (l:List UInt8) (as0:List C) (r:C) (hr:dG [100000] r) (h:FC Tryz.prog f as0 (chW l) r (chW l)):Ent Tryz.prog:=.mk3 f (fun args chs=>some (args=as0/\chs=chW l,r,chW l,[])) (by
 intro args chs pp r' chs' nk hs hp;simp only[zn,zf]at hs;obtain⟨rfl,rfl,rfl,rfl⟩:=hs;obtain⟨rfl,rfl⟩:=hp;refine⟨h,⟨fun k c hm=>.inr ⟨c,hm⟩,fun k cs hm=>⟨cs,hm⟩,hr,fun k c hm=>?_⟩⟩;simp only[chW,zl,zA,qk,zf]at hm;obtain⟨rfl,rfl⟩:=hm
 simp[gd,dG,dG.keysIns])
theorem Da (l:List UInt8):FC Tryz.prog 125 [.sl 3 (wY jf 3 12),.fn (.func 126) [] [.ptr 100000 0]] (chW l) (enc (kUp l 12)) (chW l):=by
 refine dD [100000] is125 (by simp) (by simp[chW,bn]) (by simp[chW,ap,ag,av]) (by simp[chW,ap,ag,av]) (by simp[chW,aC,lk]) (fun cx _ hl _=>dC [] 800 ?_);have hkl:(wY jf 3 12).length=12:=rfl;have hkw:=DJ;generalize wY jf 3 12=K at *;delta c125 oM oS oK oV oX o4;simp only[Bp,chW,hkl,WU,V,W3,seval];refine fH 12 (fun i=>[(8,.s (.int .i64 (i:Int)))]) (fun _=>[]) (fun i=>∀ j,j < i->wv.getD j []≠l) (fun j hj=>by omega) ?_ (fun i hi hv=>?_)
 . simp only[V,W3,seval]
 . by_cases hlt:i < 12
   . have hi2:=eq_true (show (i:Int) < 12 by omega);have hi0:(0:Int)<=i:=by omega
     obtain⟨b,f,hw⟩:=hkw i hlt;have hclo:=clo126 l (wv.getD i []) b f;refine dC [entW 126 l _ _ (by exact trivial) hclo] 800 ?_;by_cases hq:wv.getD i []=l
     . have hk:=By hq 12 hlt (zw _);delta Bc oO oN oA oM oR oS oK oI oX oB o5;simp only[Bp,hi2,hi0,hlt,hw,hkl,entW,chW,hq,hk,InR,WU,V,W3,seval]
     . delta Bc oO oN oA oM oR oS oK oI oX oB o5;simp only[Bp,hi2,hi0,hlt,hw,hkl,entW,chW,hq,InR,WU,V,W3,seval];exact⟨⟨by omega,by omega⟩,fun j hj=>(by rcases Nat.lt_succ_iff_lt_or_eq.1 hj with h | rfl;exact hv j h;exact hq),by omega⟩
   . have hie:i=12:=by omega
     subst hie;have hk:=CJ 12 hv;refine dC [] 800 ?_;delta Bc oO oN oA oM oR oS oK oI oX oB o5;simp only[Bp,chW,hk,WU,V,W3,seval]
def xI (k:Int) (r:List (List UInt8)):Option T3:=
 if iy k=true then (match r with
  |[a,b]=>(wk a).bind fun x=>(wk b).map fun y=>⟨k,x,y⟩
  |_=>none)
 else (match r with
  |[a]=>(wk a).map fun x=>⟨k,x,0⟩
  |_=>none)
def peO (l:List UInt8):Option T3:=if kUp ((wh 32 l).headD []) 12 < 0 then none else xI (kUp ((wh 32 l).headD []) 12) (wh 32 l).tail
def peC (o:Option T3):C:=.tup [enc (o.getD ⟨0,0,0⟩),enc (if o.isSome=true then (0:Int)else 7)]
def xu (k:Int) (o:Option (List Int)):Option T3:=match o with
 | none=>none
 | some p=>if iy k=true then (if p.length=2 then some ⟨k,p.getD 0 0,p.getD 1 0⟩else none)else (if p.length=1 then some ⟨k,p.getD 0 0,0⟩else none)
theorem Cv (l:List UInt8):wh 32 l=(wF l).1 :: (if xf l=true then wh 32 (wF l).2 else []):=by
 rcases xB l 32 with⟨h1,h2⟩ | ⟨j,h1,h2,h3,h4⟩
 . rw[wW h2];simp[wF,xf,h1]
 . have hm:=xc (l:=l) (c:=32) (f:=0) (n:=j) (fun k _ b=>h4 k (by omega));have e0:=wJ (l:=l) (c:=32) (f:=0) (i:=j) (yF _) h2 h3;simp only[yB,Nat.sub_zero]at hm e0;have e:wh 32 l=l.take j :: wh 32 (l.drop (j+1)):=(congrArg _ e0).trans (wR hm);have hj:¬ (j:Int)=-1:=by omega
   rw[e];simp[wF,xf,h1,hj]
theorem args_eq (k:Int) (l:List UInt8):xu k (wn (wF l).2)=xI k (wh 32 l).tail:=by
 rw[Cv l,List.tail_cons];have hn0:wk []=none:=rfl;cases hb:xf l
 . have h2:(wF l).2=[]:=by
    unfold xf at hb;unfold wF;rw[qb (by simpa using hb)]
   rw[h2];simp[wn,xu,xI]
 . rw[qb rfl];generalize (wF l).2=q;by_cases hq:q=[]
   . subst hq;simp[wn,xu,xI,wh,hn0]
   . rw[wn,qa hq];have hne:=xz 32 q;generalize wh 32 q=ws at *
     match ws,hne with
     |[a],_=>
      cases ha:wk a <;> simp[wT,xu,xI,ha]
     |[a,b],_=>
      cases ha:wk a <;> cases hb:wk b <;> simp[wT,xu,xI,ha,hb]
     | a :: b :: c :: r,_=>
      have hE:xI k (a :: b :: c :: r)=none:=by unfold xI;split <;> rfl
      rw[hE];cases hA:wT (a :: b :: c :: r)with
      | none=>rfl
      | some p=>
       have hp:=AK _ _ hA;simp only[zQ]at hp;have h1:¬ p.length=1:=by omega
       have h2:¬ p.length=2:=by omega
       simp[xu,h1,h2]
theorem EZ (w:List UInt8):(wF w).1.length<=w.length/\(wF w).2.length<=w.length:=by
 unfold wF;split
 . exact⟨zw _,yF _⟩
 . exact⟨by simp[qp];omega,by simp⟩
theorem pe_k (W:List UInt8) (k:Int) (p:List Int) (hx:0<=k/\k<=11) (cx:Cx):SG Tryz.prog cx (cz [RV.cell 2 true 3,RV.tmp 3] [] (peC (xu k (some p))) []) [It.c F1.c81k1.cut] ⟨[(2,.ptr 2 0),(7,.s (.int .i64 k)),(8,.sl 1 (p.map Dat.cells))],[(4,.box [.s (.string (mkB W))]),(2,.box [.s (.int .i64 0),.s (.int .i64 0),.s (.int .i64 0)])]⟩:=by
 have glq:=glk;unfold Glob.gl at glq;refine iI ?_;delta F1.c81k1 oO oN oA oM oT oG oR oS oK oF oL oV oW oX oP oD o1 o3 o5;refine dC [] 900 ?_;by_cases hc:iy k=true
 . have hk:k=3\/k=10:=by simpa[iy]using hc
   unfold xu;simp only[hc,qj];by_cases h2:p.length=2
   . obtain⟨a,b,rfl⟩:∃ a b,p=[a,b]:=by
      match p,h2 with
      |[a,b],_=>exact⟨a,b,rfl⟩
     rcases hk with rfl | rfl
     all_goals
      simp only[F1.rv81,glq,jf,peC,dV,zt,zR,zQ,yh,yw,yB,yc,zN,qm,InR,qc,qd,WU,V,W3,seval];refine kh [] 800 ?_;simp only[drM,mFin,j6,kU,gQ,reM,ic,gJ,gA,ndE,ap,ag,av,aU,aE,zQ,yh,WU,V,W3,seval];refine dC [] 400 ?_;simp only[F1.rv81,peC,dV,zN,qm,WU,V,W3,seval]
     all_goals (try trace_state)
   . have h2':¬ (p.length:Int)=2:=by omega
     simp only[h2,qi];rcases hk with rfl | rfl
     all_goals
      simp only[F1.rv81,h2',glq,jf,peC,dV,zy,yw,yB,yc,zN,qm,Option.getD_none,qn,InR,qc,qd,WU,V,W3,seval]
     all_goals (try trace_state)
 . have hk:k≠3/\k≠10:=by simpa[iy]using hc
   unfold xu;simp only[hc,qi];by_cases h1:p.length=1
   . obtain⟨a,rfl⟩:∃ a,p=[a]:=by
      match p,h1 with
      |[a],_=>exact⟨a,rfl⟩
     rcases nI hx with k | k | k | k | k | k | k | k | k | k | k | k <;> subst k <;> first | exact absurd rfl hk.1 | exact absurd rfl hk.2 | skip
     all_goals
      simp only[F1.rv81,glq,jf,peC,dV,zt,zR,zQ,yh,yw,yB,yc,zN,qm,InR,qc,qd,WU,V,W3,seval]
     all_goals (try trace_state)
   . have h1':¬ (p.length:Int)=1:=by omega
     simp only[h1,qi];rcases nI hx with k | k | k | k | k | k | k | k | k | k | k | k <;> subst k <;> first | exact absurd rfl hk.1 | exact absurd rfl hk.2 | skip
     all_goals
      simp only[F1.rv81,h1',glq,jf,peC,dV,zy,yw,yB,yc,zN,qm,Option.getD_none,qn,InR,qc,qd,WU,V,W3,seval]
     all_goals (try trace_state)
theorem Cf (s:ByteArray) (hs:s.size<=50000):FC Tryz.prog 81 [enc s] [] (peC (peO s.data.toList)) []:=by
 have hs6:s.size<=1000000:=by omega
 obtain⟨d1,d2⟩:=EZ s.data.toList;rw[wL]at d1 d2;have hae:=fun k=>args_eq k s.data.toList
 have hhd:(wh 32 s.data.toList).headD []=(wF s.data.toList).1:=by rw[Cv];rfl
 unfold peO;rw[hhd,<- hae];have hsp:(⟨#[32]⟩:ByteArray)=wP:=rfl;have glq:=glk;unfold Glob.gl at glq;refine dD [] F1.is81 (by simp) (by simp[bn]) (by simp[ap,ag]) (by simp[ap,ag]) (by simp[aC]) (fun cx _ hl _=>dC [Ef] 1500 ?_);delta F1.c81 oO oN oA oM oG oS oK oV oC oW oI oX oH oB oD o3 o8;simp only[F1.rv81,Ef,hsp,hs6,qc,qd,WU,Ent.of2,V,W3,seval];generalize (wF s.data.toList).1=W at *;generalize (wF s.data.toList).2=R at *;generalize xf s.data.toList=B at *;have hrs:(mkB R).size<=100000:=by rw[wy];omega
 have hI:=Da W;have hkr:=Dp W 12;refine oh rfl (OpM.sliceRef (e:=169) (sz:=3) (len:=12) (cs:=jf) (by kernel_rfl) (by kernel_rfl) rfl rfl (by decide)) (fun ef he=>?_);subst he;refine pW [entW 125 W _ _ (by exact trivial) hI,wN] 1500 ?_;cases hp:wn R with
 | none=>
  have hE:(if kUp W 12 < 0 then none else xu (kUp W 12) none)=none:=by split <;> rfl
  rw[hE];simp only[F1.rv81,entW,chW,wN,xe,hrs,hp,peC,dV,wi,Option.getD_none,qn,InR,qc,qd,WU,Ent.of1,V,W3,seval];split <;> trivial
 | some p=>
  by_cases hk0:kUp W 12 < 0
  . rw[qb hk0];simp only[F1.rv81,entW,chW,wN,xe,hrs,hp,hk0,peC,dV,wi,Option.getD_none,qn,zN,qm,InR,qc,qd,WU,Ent.of1,V,W3,seval]
  rw[qa hk0];have hfin:=pe_k W (kUp W 12) p (by omega);simp only[F1.rv81,entW,chW,wN,xe,hrs,hp,hk0,wi,zN,qm,InR,qc,qd,WU,Ent.of1,V,W3,seval];exact hfin cx
theorem Ff (o:Option T3):dG [] (peC o):=by
 unfold peC;exact⟨by rw[dV];simp[dG,dG.keysIns],trivial,trivial⟩
theorem D8 (v:Int):wj (Lib.itoa v)=Lib.decDigits v.natAbs:=by
 by_cases hv:v < 0
 . have hi:Lib.itoa v=45 :: Lib.decDigits v.natAbs:=by rw[Lib.itoa,qb hv]
   rw[wj,hi];rfl
 . have hi:Lib.itoa v=Lib.decDigits v.toNat:=by rw[Lib.itoa,qa hv]
   have hdg:=yO _ _ (zw v.toNat);have h45:¬ (Lib.itoa v).head? = some 45:=by
    rw[hi];intro e;cases hq:Lib.decDigits v.toNat with
    | nil=>exact yP _ hq
    | cons b r=>
     rw[hq]at e hdg;have e:b=45:=by simpa using e
     subst e;simp[wK]at hdg
   rw[wj,qa h45,hi,show v.toNat=v.natAbs by omega]
theorem Ae {v:Int} (h:-1<=v/\v<=1000000000):wk (Lib.itoa v)=some v:=by
 refine CI ?_;rw[D8];exact xE 9 _ (by omega)
theorem Bx {v:Int} {c:UInt8} (h1:wK c=false) (h2:c≠45):∀ b∈Lib.itoa v,b≠c:=by
 intro b hb e;subst e;have hd:∀ u,b∈Lib.decDigits u->False:=fun u hu=>by
  have:=zx.1 (yO u u (zw _)) b hu;rw[h1]at this;cases this
 rw[Lib.itoa]at hb;split at hb
 . rcases zl.1 hb with e | hb
   . exact h2 e
   . exact hd _ hb
 . exact hd _ hb
theorem yV (c:UInt8):∀ (r:List (List UInt8)) (x:List UInt8),(∀ w∈x :: r,∀ b∈w,b≠c)->wh c (Lib.join (x :: r) [c])=x :: r
 |[],x,h=>by rw[Lib.join_one,wW (h x zq)]
 | y :: r,x,h=>by
  have e:Lib.join (x :: y :: r) [c]=x++c :: Lib.join (y :: r) [c]:=by
   rw[Lib.join_cons,Lib.join_cons];rfl
  rw[e,wR (h x zq),yV c r y (fun w hw=>h w (zo _ hw))]
def smI (l:List Int):Prop:=∀ x∈l,-1<=x/\x<=1000000000
theorem BD : ∀ (l:List Int),smI l->wT (l.map Lib.itoa)=some l
 |[],_=>rfl
 | g :: l,h=>by
  rw[zt,wT,Ae (h g zq),BD l (fun x hx=>h x (zo _ hx))];rfl
theorem yZ (l:List Int):(jY l).data.toList=Lib.join (l.map Lib.itoa) [32]:=by
 show Lib.join ((l.map iV).map (·.data.toList)) [32]=_
 rw[zT];rfl
theorem join_ne {x:List UInt8} {r:List (List UInt8)} {s:List UInt8} (h:x≠[]):Lib.join (x :: r) s≠[]:=by
 rw[Lib.join_cons];cases x with
 | nil=>exact absurd rfl h
 | cons b x=>simp
theorem itoa_ne (v:Int):Lib.itoa v≠[]:=by
 rw[Lib.itoa];split
 . simp
 . exact yP _
theorem Bj (l:List Int) (h:smI l):wn (jY l).data.toList=some l:=by
 rw[yZ];cases l with
 | nil=>rfl
 | cons x l=>
  rw[zt,wn,qa (join_ne (itoa_ne x)),yV 32 _ _ (fun w hw=>by
   rw[<- zt]at hw;obtain⟨v,_,rfl⟩:=zu.1 hw
   exact Bx (by decide) (by decide))]
  exact BD (x :: l) h
theorem Af {b:UInt8} {s:List UInt8}:∀ {xs:List (List UInt8)},b∈Lib.joinTail s xs->b∈s\/∃ x∈xs,b∈x
 |[],h=>by simp[Lib.joinTail]at h
 | x :: xs,h=>by
  have e:Lib.joinTail s (x :: xs)=(s++x)++Lib.joinTail s xs:=by simp[Lib.joinTail]
  rw[e,zW,zW]at h;rcases h with (h | h) | h
  . exact .inl h
  . exact .inr ⟨x,zq,h⟩
  . rcases Af h with q | ⟨y,hy,q⟩
    . exact .inl q
    . exact .inr ⟨y,zo _ hy,q⟩
theorem Fb {b:UInt8} {s:List UInt8} {xs:List (List UInt8)} (h:b∈Lib.join xs s):b∈s\/∃ x∈xs,b∈x:=by
 cases xs with
 | nil=>simp[Lib.join]at h
 | cons x xs=>
  rw[Lib.join_cons,zW]at h;rcases h with h | h
  . exact .inr ⟨x,zq,h⟩
  . rcases Af h with q | ⟨y,hy,q⟩
    . exact .inl q
    . exact .inr ⟨y,zo _ hy,q⟩
theorem CQ (l:List Int):∀ b∈(jY l).data.toList,b≠124:=by
 intro b hb;rw[yZ]at hb;rcases Fb hb with h | ⟨x,hx,h⟩
 . simp at h;subst h;decide
 . obtain⟨v,_,rfl⟩:=zu.1 hx;exact Bx (by decide) (by decide) b h
theorem AZ : ∀ (bs:List (List Int)),(∀ l∈bs,smI l)->xv (bs.map fun l=>(jY l).data.toList)=some bs
 |[],_=>rfl
 | l :: bs,h=>by
  rw[zt,xv,Bj l (h l zq),AZ bs (fun x hx=>h x (zo _ hx))];rfl
theorem DP {n:Nw} {m:Ms} (net:NetOk n) (g:dN n m):psO (fmtS m).data.toList=some m:=by
 have e1:(fmtS m).data.toList=Lib.join ((jY (l4 m)).data.toList :: m.buf.map fun l=>(jY l).data.toList) [124]:=by
  show Lib.join ((fd m).map (·.data.toList)) [124]=_
  rw[fd,zt,zT];rfl
 have hc:wh 124 (fmtS m).data.toList=(jY (l4 m)).data.toList :: m.buf.map fun l=>(jY l).data.toList:=by
  rw[e1]
  exact yV 124 _ _ (fun w hw=>by
   rcases zl.1 hw with rfl | hw
   . exact CQ _
   . obtain⟨l,_,rfl⟩:=zu.1 hw
     exact CQ _)
 have h1:=net.len;have h2:m.buf.length=n.cells.length:=g.len;have hne:(m.buf.map fun l=>(jY l).data.toList)≠[]:=fun q=>by
  have:=congrArg List.length q;rw[zy,yh]at this;omega
 have hc2:∀ c,isC n c=true->0<=c/\c<=5:=fun c hc=>by
  simp only[isC,qf]at hc;omega
 have h9:smI (l4 m):=by
  have a1:=g.at_;have a2:=g.since;have a3:=g.vP;have a4:=hc2 _ g.srv;have a5:-1<=m.target/\m.target<=5:=by
   by_cases q:m.target=-1
   . omega
   . have:=hc2 _ (g.tgt q);omega
  have a6w:-1<=m.vS/\m.vS<=5:=by
   by_cases q:m.vS=-1
   . omega
   . have:=hc2 _ (g.src q);omega
  have a7w:=hc2 _ g.pth;have a8w:=g.fresh;have a9:=g.got;intro x hx;simp only[l4,zl,zA,qk]at hx;rcases hx with rfl | rfl | rfl | rfl | rfl | rfl | rfl | rfl | rfl <;> omega
 have hb:∀ l∈m.buf,smI l:=fun l hl x hx=>by
  have:=g.rng x (List.mem_flatten.2 ⟨l,hl,hx⟩);have:=g.fresh;omega
 unfold psO;rw[hc,yc,List.tail_cons,psF,Bj _ h9];have hl9:(l4 m).length=9:=rfl;simp only[hl9,ne_eq,qc,hne,or_self,qi];rw[AZ _ hb];rfl
theorem word_no : ∀ k,k < 12->∀ b∈wv.getD k [],b≠32:=by
 have:∀ k:Fin 12,∀ b∈wv.getD k.1 [],b≠32:=by decide
 exact fun k hk=>this ⟨k,hk⟩
theorem DE {n:Nw} {e:T3} (net:NetOk n) (h:evE n e=0):peO (xm e).data.toList=some e:=by
 obtain⟨x,y,z⟩:=e;obtain⟨hx,hy,hcz⟩:=ev_ok h;simp only at hx hy hcz;have hl:=net.len;obtain⟨k,rfl⟩:∃ k:Nat,x=(k:Int):=⟨x.toNat,by omega⟩;have hk:k < 12:=by omega
 have e1:(xm ⟨(k:Int),y,z⟩).data.toList=Lib.join (wv.getD k [] :: (xl ⟨(k:Int),y,z⟩).map Lib.itoa) [32]:=by
  rw[xm,qb hx,ByteArray.data_append,ByteArray.data_append,Array.toList_append,Array.toList_append,yZ,z5,wi];have:∃ v r,xl ⟨(k:Int),y,z⟩=v :: r:=by unfold xl;split <;> exact⟨_,_,rfl⟩
  obtain⟨v,r,hv⟩:=this;rw[hv,zt,Lib.join_cons,Lib.join_cons];simp[Lib.joinTail]
 have e2:wh 32 (xm ⟨(k:Int),y,z⟩).data.toList=wv.getD k [] :: (xl ⟨(k:Int),y,z⟩).map Lib.itoa:=by
  rw[e1]
  exact yV 32 _ _ (fun w hw=>by
   rcases zl.1 hw with rfl | hw
   . exact word_no k hk
   . obtain⟨v,_,rfl⟩:=zu.1 hw
     exact Bx (by decide) (by decide))
 have hu:=By (l:=wv.getD k []) (i:=k) rfl 12 hk (zw _);have hy1:=Ae (v:=y) (by omega);unfold peO;rw[e2,yc,List.tail_cons,hu,qa (by omega)];unfold xI xl;cases hc:iy (k:Int)
 . have hz:z=0:=by
    rcases qh (z=0)with q | q
    . exact q
    . have ht:gc y=true:=by simp only[gc,qf];omega
      rw[evE,qa (by simp[hx]),qa (by simp[ht]),qa (by simp[hc]),qa q]at h;cases h
   subst hz;simp only[zr,qi,zt,zR,hy1,zU]
 . have hz:=hcz hc;simp only[isC,qf]at hz;have hz1:=Ae (v:=z) (by omega);simp only[qj,zt,zR,hy1,hz1,Option.bind_some,zU]
structure Wd where
 e:T3
 t:ByteArray
instance : DatL Wd where
 sz:=4
 agg:=true
 cells w:=[.s (.int .i64 w.e.x),.s (.int .i64 w.e.y),.s (.int .i64 w.e.z),.s (.string w.t)]
 dec | [.s (.int .i64 x),.s (.int .i64 y),.s (.int .i64 z),.s (.string t)]=>some ⟨⟨x,y,z⟩,t⟩ | _=>none
 ok:=by intro l a h;split at h <;> cases h;rfl
 data:=fun a=>rfl
 one:=fun h=>by cases h
 dec_cells:=fun a=>rfl
def peV (s:ByteArray):T3:=(peO s.data.toList).getD ⟨0,0,0⟩
def peI (s:ByteArray):Int:=if (peO s.data.toList).isSome=true then 0 else 7
def psV (s:ByteArray):Ms:=(psO s.data.toList).getD ms0
def psI (s:ByteArray):Int:=if (psO s.data.toList).isSome=true then 0 else 7
def Em : Ent Tryz.prog:=.of1 81 (fun s=>s.size<=50000) (fun s:ByteArray=>.tup [enc (peV s),enc (peI s)]) (fun s=>Ff _) (fun s h=>Cf s h)
def En : Ent Tryz.prog:=.of1 82 (fun s=>s.size<=50000) (fun s:ByteArray=>.tup [enc (psV s),enc (psI s)]) (fun s=>Fi _) (fun s h=>Cg s h)
theorem sm_prt {m:Ms} (h:smB m=true) (h9:∀ x∈l4 m,InR .i64 x) (hI:∀ a∈m.buf,∀ b∈a,-9223372036854775808<=b/\b<=9223372036854775807):Prt m/\(fmtS m).size<=50000:=by
 simp only[smB,zm,qf,zx]at h;have hr:∀ l∈m.buf,l.length<=64/\∀ x∈l,InR .i64 x:=fun l hl=>⟨h.2 l hl,fun x hx=>by have:=hI l hl x hx;simp only[InR];omega⟩
 refine⟨⟨h9,by omega,fun l hl=>⟨by have:=(hr l hl).1;omega,(hr l hl).2⟩⟩,?_⟩
 have:=sd 1408 ((fd m).map (·.data.toList)) barB.data.toList (fun y hy=>by
  simp only[fd,zt,zT,zl,zu,Function.comp]at hy;rcases hy with rfl | ⟨l,hl,rfl⟩
  . have:(jY (l4 m)).data.toList.length<=(l4 m).length*22:=mG _ h9;have e:(l4 m).length=9:=rfl;omega
  . have h2:=hr l hl;have:(jY l).data.toList.length<=l.length*22:=mG _ h2.2
    omega)
 have e:((fd m).map (·.data.toList)).length=m.buf.length+1:=by simp[fd]
 have e2:barB.data.toList.length=1:=rfl;rw[e,e2]at this;have hl:=h.1;have e3:(fmtS m).data.toList.length<=(m.buf.length+1)*1409:=this;rw[wL]at e3;omega
theorem Ep {e:T3} (hy:InR .i64 e.y) (hz:InR .i64 e.z):(xm e).size<=50000:=by
 rw[xm];split
 . rename_i h;rw[AV,AV];have h1:=Fr e.x.toNat (by omega);have h2:(jY (xl e)).size<=44:=by
    unfold xl;split
    . exact xJ [e.y,e.z] (fun v hv=>by simp only[zl,zA,qk]at hv;rcases hv with rfl | rfl;exact hy;exact hz)
    . have:=xJ [e.y] (fun v hv=>by simp only[zg]at hv;subst hv;exact hy);simp only[zQ,yh]at this;omega
   have h3:(⟨#[32]⟩:ByteArray).size=1:=rfl;omega
 . exact yF _
theorem Fg {n:Nw} {e:T3} (net:NetOk n) (h:evE n e=0):peV (xm e)=e/\peI (xm e)=0:=by
 unfold peV peI;rw[DE net h];exact⟨rfl,rfl⟩
theorem Fj {n:Nw} {m:Ms} (net:NetOk n) (g:dN n m):psV (fmtS m)=m/\psI (fmtS m)=0:=by
 unfold psV psI;rw[DP net g];exact⟨rfl,rfl⟩
theorem BY (n:Nw):∀ (l:List T3) (m:Ms) (i:Int),(iG n m l i).2=0->∀ k,(iG n m (l.take k) i).2=0
 |[],m,i,h,k=>by simpa using h
 | e :: l,m,i,h,0=>rfl
 | e :: l,m,i,h,k+1=>by
  rw[yD,iG];rw[iG]at h;by_cases h0:fY n m e=0
  . rw[qb h0]at h ⊢;exact BY n l _ _ h k
  . rw[qa h0]at h;exact absurd h h0
theorem CY (n:Nw):∀ (l:List T3) (m:Ms) (i:Int),(iG n m l i).2=0->∀ k,k < l.length->fY n ((l.take k).foldl (qE n) m) (l.getD k ⟨0,0,0⟩)=0
 |[],m,i,h,k,hk=>absurd hk (by simp)
 | e :: l,m,i,h,k,hk=>by
  rw[iG]at h;by_cases h0:fY n m e=0
  . cases k with
    | zero=>exact h0
    | succ k=>rw[qb h0]at h;exact CY n l _ _ h k (by simpa using hk)
  . rw[qa h0]at h;exact absurd h h0
theorem DW {n:Nw} {m:Ms} {e:T3} (h:fY n m e=0):evE n e=0:=by
 unfold fY at h;by_cases q:evE n e=0
 . exact q
 . rw[qb q]at h;exact absurd h q
def stK (n:Nw) (c:Int) (l:List T3) (k:Nat):Ms:=(l.take k).foldl (qE n) (eM n c)
theorem Fp (n:Nw) (c:Int) (l:List T3) {k:Nat} (h:k < l.length):stK n c l (k+1)=qE n (stK n c l k) (l.getD k ⟨0,0,0⟩):=by
 unfold stK;rw[xy ⟨0,0,0⟩ h,List.foldl_append];rfl
theorem Bm (F:T3->Int) (at_:Int) (k:Nat) (h:F ⟨(k:Int),at_,0⟩=0):∀ c,1<=c->0 < (wz F at_ k c).length
 | 0,hc=>by omega
 | 1,_=>by rw[wz];simp[wz,h]
 | c+2,_=>by
  have:=Bm F at_ k h (c+1) (by omega);rw[wz,zK];omega
theorem Fh {n:Nw} {m:Ms} (net:NetOk n) (g:dN n m):0 < (posL n m m.at_).length:=by
 have hf:fY n m ⟨((11:Nat):Int),m.at_,0⟩=0:=by
  have ht:gc m.at_=true:=by have:=g.at_;simpa[gc]using this
  have he:evE n ⟨11,m.at_,0⟩=0:=by unfold evE;simp[ht,iy]
  show fY n m ⟨11,m.at_,0⟩=0
  unfold fY qw et;rw[qa (by simp[he])];simp
 have:=Bm (fY n m) m.at_ 11 hf n.cells.length (by have:=net.len;omega);unfold posL;rw[wD,zK];omega
theorem CD {n:Nw} {m:Ms} (net:NetOk n) (g:dN n m):(∀ x∈l4 m,InR .i64 x)/\(∀ a∈m.buf,∀ b∈a,-9223372036854775808<=b/\b<=9223372036854775807):=by
 have h1:=net.len;have hc:∀ c,isC n c=true->0<=c/\c < 6:=fun c h=>by have:=fG h;omega
 have hs:=hc _ g.srv;have hp:=hc _ g.pth;have ht:m.target=-1\/(0<=m.target/\m.target < 6):=by
  rcases qh (m.target=-1)with h | h
  . exact .inl h
  . exact .inr (hc _ (g.tgt h))
 have hr:m.vS=-1\/(0<=m.vS/\m.vS < 6):=by
  rcases qh (m.vS=-1)with h | h
  . exact .inl h
  . exact .inr (hc _ (g.src h))
 have a1:=g.vP;have a2:=g.at_;have a3:=g.since;have a4:=g.fresh;have a5:=g.got;refine⟨fun x hx=>?_,fun a ha b hb=>?_⟩
 . simp only[l4,zl,zA,qk]at hx;simp only[InR];omega
 . have:=g.rng b (List.mem_flatten.2 ⟨a,ha,hb⟩);omega
theorem E5 {n:Nw} {m:Ms} (net:NetOk n) (g:dN n m):Prt m/\(fmtS m).size<=50000:=by
 have h1:=net.len;have h2:m.buf.length=n.cells.length:=g.len;have h3:m.buf.flatten.length<=60:=g.large;refine sm_prt ?_ (CD net g).1 (CD net g).2;simp only[smB,zm,qf,zx];refine⟨by omega,fun x hx=>?_⟩;have:=(List.sublist_flatten_of_mem hx).length_le;omega
theorem BU {n:Nw} {c:Int} {l:List T3} (h:(gH n c l).2=0):gH n c l=(0,0):=by
 by_cases hd:wI n c=0
 . rw[Bz n c l hd]at h ⊢;exact (rpE_ok h).1
 . obtain⟨hN,hc,_⟩:=BS h;exact absurd (by unfold wI;rw[qa (by simp[hN]),qb hc]) hd
structure TlOk (n:Nw) (c:Int) (l:List T3):Prop where
 N:(gO n).2=0
 net:NetOk n
 g:∀ k,dN n (stK n c l k)
 r:∀ k,(gH n c (l.take k)).2=0
 e:∀ k,(lu n c (l.take k)).m=stK n c l k
 a:∀ k,k < l.length->fY n (stK n c l k) (l.getD k ⟨0,0,0⟩)=0
end Go.Proofs.YtcbabnbiinkafaaGreatDoor
end
