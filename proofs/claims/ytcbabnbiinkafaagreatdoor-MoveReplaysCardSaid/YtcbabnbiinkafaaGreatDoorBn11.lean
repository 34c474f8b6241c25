/- Part 11 of the proof of: the statements about chapter 8 -/
import Derived.Test.YtcbabnbiinkafaaGreatDoorBn10
set_option linter.all false
section
open Go Go.Am
open Go.Am.Dat (cells)
namespace Go.Proofs.YtcbabnbiinkafaaGreatDoor
set_option maxHeartbeats 4000000
set_option maxRecDepth 100000
theorem vn (l:List ByteArray) (v:ByteArray):FC Tryz.prog 140 [enc l,enc v] [] (enc (i6 (fun x=>decide (v=x)) l)) []:=by
 refine eg is140 (by simp) (fun cx hl=>dB [] 800 ?_)
 simp only [V,W3,↓reduceIte,seval,reduceCtorEq] at hl
 have hl1:=hl.list
 delta c140 oO oN oA oM oT oG oR oQ oS oK oF oL
 simp (maxSteps:=4000000) -implicitDefEqProofs only [oJ,Ent.of0,Ent.of1,Ent.of2,Ent.of3,Ent.of4,V,W3,↓reduceIte,seval,reduceCtorEq]
 refine eM l.length (fun i=>[(8,.s (.int .i64 (i:Int)))]) (fun _=>[]) (fun i=>∀ j,j < i→decide (v=l.getD j ⟨#[]⟩)=false) (by omega) ?_ (fun i hi hv=>dB [] 800 ?_)
 · simp (maxSteps:=4000000) -implicitDefEqProofs only [Ent.of0,Ent.of1,Ent.of2,Ent.of3,Ent.of4,V,W3,↓reduceIte,seval,reduceCtorEq]
   all_goals simp
 · by_cases h:i < l.length
   · have hi2:(i:Int) < (l.length:Int):=by omega
     cases hx:decide (v=l.getD i ⟨#[]⟩)
     · delta nK oO oN oA oM oT oG oR oQ oS oK oF oL
       simp (maxSteps:=4000000) -implicitDefEqProofs only [oJ,hi2,h,hx,InR,WU,Ent.of0,Ent.of1,Ent.of2,Ent.of3,Ent.of4,V,W3,↓reduceIte,seval,reduceCtorEq]
       refine ⟨by omega,by omega,fun j hj=>?_,by omega⟩
       by_cases hj2:j=i
       · rw [hj2]; simpa using hx
       · simpa using hv j (by omega)
     · have:=nh (p:=fun x=>decide (v=x)) ⟨#[]⟩ h hx hv
       delta nK oO oN oA oM oT oG oR oQ oS oK oF oL
       simp (maxSteps:=4000000) -implicitDefEqProofs only [oJ,hi2,h,hx,InR,WU,Ent.of0,Ent.of1,Ent.of2,Ent.of3,Ent.of4,V,W3,↓reduceIte,seval,reduceCtorEq]
       simp [this]
   · have hi2:¬ (i:Int) < (l.length:Int):=by omega
     have:=l5 (p:=fun x=>decide (v=x)) (l:=l) ⟨#[]⟩ (fun j hj=>hv j (by omega))
     delta nK oO oN oA oM oT oG oR oQ oS oK oF oL
     simp (maxSteps:=4000000) -implicitDefEqProofs only [oJ,hi2,WU,Ent.of0,Ent.of1,Ent.of2,Ent.of3,Ent.of4,V,W3,↓reduceIte,seval,reduceCtorEq]
     simp [this]
def uh : Ent Tryz.prog:=.of2 140 (fun _ _=>True) (fun (l:List ByteArray) (v:ByteArray)=>enc (i6 (fun x=>decide (v=x)) l)) (fun _ _=>trivial) (fun l v _=>vn l v)
theorem rS (l:List ByteArray) (v:ByteArray):FC Tryz.prog 104 [enc l,enc v] [] (enc (l.any fun x=>decide (v=x))) []:=by
 refine eg is104 (by simp) (fun cx hl=>dB [uh] 800 ?_)
 rw [← ng]
 delta c104 oO oN oA oM oT oG oR oQ oS oK oF oL
 simp (maxSteps:=4000000) -implicitDefEqProofs only [rv104,uh,Ent.of0,Ent.of1,Ent.of2,Ent.of3,Ent.of4,V,W3,↓reduceIte,seval,reduceCtorEq]
def ud : Ent Tryz.prog:=.of2 104 (fun _ _=>True) (fun (l:List ByteArray) (v:ByteArray)=>enc (l.any fun x=>decide (v=x))) (fun _ _=>trivial) (fun l v _=>rS l v)
theorem pK (a b:Gs):(decide (a.re=b.re) && decide (a.im=b.im))=decide (a=b):=by
 rw [Bool.eq_iff_iff]
 cases a; cases b
 simp
theorem vl (l:List Gs) (v:Gs):FC Tryz.prog 141 [enc l,enc v] [] (enc (i6 (fun x=>decide (v=x)) l)) []:=by
 refine eg is141 (by simp) (fun cx hl=>dB [] 800 ?_)
 simp only [V,W3,↓reduceIte,seval,reduceCtorEq] at hl
 have hl1:=hl.list
 delta c141 oO oN oA oM oT oG oR oQ oS oK oF oL
 simp (maxSteps:=4000000) -implicitDefEqProofs only [oP,Ent.of0,Ent.of1,Ent.of2,Ent.of3,Ent.of4,V,W3,↓reduceIte,seval,reduceCtorEq]
 refine eM l.length (fun i=>[(8,.s (.int .i64 (i:Int)))]) (fun _=>[]) (fun i=>∀ j,j < i→decide (v=l.getD j ⟨0,0⟩)=false) (by omega) ?_ (fun i hi hv=>dB [] 800 ?_)
 · simp (maxSteps:=4000000) -implicitDefEqProofs only [Ent.of0,Ent.of1,Ent.of2,Ent.of3,Ent.of4,V,W3,↓reduceIte,seval,reduceCtorEq]
   all_goals simp
 · by_cases h:i < l.length
   · have hi2:(i:Int) < (l.length:Int):=by omega
     have hgd:=pK v (l.getD i ⟨0,0⟩)
     cases hx:decide (v=l.getD i ⟨0,0⟩)
     · rw [hx] at hgd
       delta nL oO oN oA oM oT oG oR oQ oS oK oF oL
       simp (maxSteps:=4000000) -implicitDefEqProofs only [oP,hi2,h,hx,hgd,Bool.and_true,InR,WU,Ent.of0,Ent.of1,Ent.of2,Ent.of3,Ent.of4,V,W3,↓reduceIte,seval,reduceCtorEq]
       refine ⟨by omega,by omega,fun j hj=>?_,by omega⟩
       by_cases hj2:j=i
       · rw [hj2]; simpa using hx
       · simpa using hv j (by omega)
     · rw [hx] at hgd
       have:=nh (p:=fun x=>decide (v=x)) ⟨0,0⟩ h hx hv
       delta nL oO oN oA oM oT oG oR oQ oS oK oF oL
       simp (maxSteps:=4000000) -implicitDefEqProofs only [oP,hi2,h,hx,hgd,Bool.and_true,InR,WU,Ent.of0,Ent.of1,Ent.of2,Ent.of3,Ent.of4,V,W3,↓reduceIte,seval,reduceCtorEq]
       simp [this]
   · have hi2:¬ (i:Int) < (l.length:Int):=by omega
     have:=l5 (p:=fun x=>decide (v=x)) (l:=l) ⟨0,0⟩ (fun j hj=>hv j (by omega))
     delta nL oO oN oA oM oT oG oR oQ oS oK oF oL
     simp (maxSteps:=4000000) -implicitDefEqProofs only [oP,hi2,WU,Ent.of0,Ent.of1,Ent.of2,Ent.of3,Ent.of4,V,W3,↓reduceIte,seval,reduceCtorEq]
     simp [this]
def ui : Ent Tryz.prog:=.of2 141 (fun _ _=>True) (fun (l:List Gs) (v:Gs)=>enc (i6 (fun x=>decide (v=x)) l)) (fun _ _=>trivial) (fun l v _=>vl l v)
theorem rQ (l:List Gs) (v:Gs):FC Tryz.prog 106 [enc l,enc v] [] (enc (l.any fun x=>decide (v=x))) []:=by
 refine eg is106 (by simp) (fun cx hl=>dB [ui] 800 ?_)
 rw [← ng]
 delta c106 oO oN oA oM oT oG oR oQ oS oK oF oL
 simp (maxSteps:=4000000) -implicitDefEqProofs only [rv106,ui,Ent.of0,Ent.of1,Ent.of2,Ent.of3,Ent.of4,V,W3,↓reduceIte,seval,reduceCtorEq]
def lR : Ent Tryz.prog:=.of2 106 (fun _ _=>True) (fun (l:List Gs) (v:Gs)=>enc (l.any fun x=>decide (v=x))) (fun _ _=>trivial) (fun l v _=>rQ l v)
structure Nw where
 cells:List ByteArray
 nb:List Gs
 limit:Int
instance : DatL Nw where
 sz:=3
 agg:=true
 cells n:=[.sl 1 (n.cells.map Dat.cells),.sl 2 (n.nb.map Dat.cells),.s (.int .i64 n.limit)]
 dec | [.sl 1 a,.sl 2 b,.s (.int .i64 c)]=>(fg a).bind fun a'=>(fg b).map fun b'=>⟨a',b',c⟩ | _=>none
 ok:=by
  intro l a h
  split at h
  · simp only [Option.bind_eq_some_iff,Option.map_eq_some_iff] at h
    obtain ⟨t',h1,s',h2,rfl⟩:=h
    rw [gi h1,gi h2]
  · cases h
 data:=fun a=>rfl
 one:=fun h=>by cases h
 dec_cells:=fun a=>by simp [fm]
theorem ec (n:Nw):enc n=.agg [.sl 1 (n.cells.map Dat.cells),.sl 2 (n.nb.map Dat.cells),.s (.int .i64 n.limit)]:=rfl
theorem vC (n:Nw):Dat.cells n=[.sl 1 (n.cells.map Dat.cells),.sl 2 (n.nb.map Dat.cells),.s (.int .i64 n.limit)]:=rfl
theorem ss (a:List (List C)) (b:List (List C)) (c:Int):fw (.agg [C.sl 1 a,.sl 2 b,.s (.int .i64 c)])=(fg a).bind fun a'=>(fg b).map fun b'=>(⟨a',b',c⟩:Nw):=by
 unfold fw
 have:Dat.dec (α:=Nw) [C.sl 1 a,.sl 2 b,.s (.int .i64 c)]=(fg a).bind fun a'=>(fg b).map fun b'=>(⟨a',b',c⟩:Nw):=rfl
 simp only [this]
 rw [if_pos (show (Dat.agg Nw)=true from rfl)]
 cases (fg a).bind fun a'=>(fg b).map fun b'=>(⟨a',b',c⟩:Nw) <;> rfl
structure NwS (n:Nw):Prop where
 c:n.cells.length≤1000000
 b:n.nb.length≤1000000
 s:∀ x∈n.cells,x.size≤1000000
theorem NwS.get {n:Nw} (h:NwS n) {i:Nat} (hi:i < n.cells.length):(n.cells.getD i ⟨#[]⟩).size≤9223372036854775807:=by
 rw [List.getD_eq_getElem?_getD,List.getElem?_eq_getElem hi]
 have:=h.s _ (List.getElem_mem hi)
 simp only [Option.getD_some]; omega
def isC (n:Nw) (c:Int):Bool:=decide (0≤c∧c≤(n.cells.length:Int) - 1)
theorem isC_c (n:Nw) (c:Int) (h:NwS n):FC Tryz.prog 99 [enc n,enc c] [] (enc (isC n c)) []:=by
 have hb:=h.c
 obtain ⟨cs,nb,lim⟩:=n
 simp only at hb
 refine dC [] is99 (by simp) trivial trivial trivial trivial (fun cx _ hl _=>dB [n9] 800 ?_)
 delta c99 oO oN oA oM oT oG oR oQ oS oK oF oL
 simp (maxSteps:=4000000) -implicitDefEqProofs only [rv99,n9,ec,InR,isC,Ent.of0,Ent.of1,Ent.of2,Ent.of3,Ent.of4,V,W3,↓reduceIte,seval,reduceCtorEq]
 omega
def mw : Ent Tryz.prog:=.of2 99 (fun n _=>NwS n) (fun (n:Nw) (c:Int)=>enc (isC n c)) (fun _ _=>trivial) (fun n c h=>isC_c n c h)
theorem vZ (n:Nw) (c:Int) (h:NwS n):FC Tryz.prog 105 [enc c,.ptr 100000 0] [(100000,.box (Dat.cells n))] (enc (isC n c)) [(100000,.box (Dat.cells n))]:=by
 have hb:=h.c
 obtain ⟨cs,nb,lim⟩:=n
 simp only at hb
 refine dC [] is105 (by simp) (by simp [bj]) (by simp [an,ag,av]) (by simp [an,ag,av]) (by simp [aB,lk]) (fun cx _ _ _=>dB [eY] 800 ?_)
 delta c105 oO oN oA oM oT oG oR oQ oS oK oF oL
 simp (maxSteps:=4000000) -implicitDefEqProofs only [rv105,eY,vC,InR,isC,Ent.of0,Ent.of1,Ent.of2,Ent.of3,Ent.of4,V,W3,↓reduceIte,seval,reduceCtorEq]
 omega
def nU (n:Nw) (h:NwS n):Ent Tryz.prog where
 id:=105
 sp:=fun _ _=>none
 ok:=by intro _ _ _ _ _ _ h; cases h
 kp:=fun args chs=>match args,chs with
  | [.s (.int .i64 c),.ptr k o],[(k',.box [.sl 1 a,.sl 2 b,.s (.int .i64 l)])]=>some (k=100000∧o=0∧k'=100000∧a=n.cells.map Dat.cells∧b=n.nb.map Dat.cells∧l=n.limit,enc (isC n c))
  | _,_=>none
 kpok:=by
  intro args chs p r hs hp
  split at hs
  · cases hs
    obtain ⟨rfl,rfl,rfl,rfl,rfl,rfl⟩:=hp
    exact ⟨vZ n _ h,rfl,trivial⟩
  · cases hs
def fI (all:List ByteArray):Nat→List ByteArray→Option (Nat×Int)
 | _,[]=>none
 | i,c :: l=>if gx c=false then some (i,4) else if ((all.take i).any fun x=>decide (c=x))=true then some (i,5) else fI all (i+1) l
def nbE (n:Nw):Nat→List Gs→Option (Nat×Int)
 | _,[]=>none
 | i,p :: l=>if (isC n p.re && isC n p.im)=false then some (i,6) else if ¬ p.re < p.im then some (i,9) else if ((n.nb.take i).any fun x=>decide (p=x))=true then some (i,26) else nbE n (i+1) l
def limE (n:Nw):Int:=if 1≤n.limit∧n.limit≤100000 then 0 else 2
def eV (n:Nw):Nat×Int:=
 if n.cells.length=0 then (0,10) else if 6 < n.cells.length then (0,8) else
 match fI n.cells 0 n.cells with
 | some q=>q
 | none=>match nbE n 0 n.nb with
  | some q=>q
  | none=>(0,limE n)
def netI (n:Nw):Int:=((eV n).1:Int)
def mc (n:Nw):C:=.tup [enc (netI n),enc (eV n).2]
theorem o5 (n:Nw) (h:NwS n):FC Tryz.prog 49 [enc n] [] (mc n) []:=by
 have hbc:=h.c
 have hbb:=h.b
 have hgs:=fun i hi=>h.get (i:=i) hi
 have hcell:=nU n h
 generalize hR:eV n=R
 have hrR:mc n=.tup [.s (.int .i64 (R.1:Int)),.s (.int .i64 R.2)]:=by rw [← hR]; rfl
 rw [hrR]
 obtain ⟨cs,nb,lim⟩:=n
 simp only at hbc hbb hgs
 refine dC [] is49 (by simp) trivial trivial trivial trivial (fun cx _ hl _=>dB [dS,dR] 800 ?_)
 by_cases h1:0 < cs.length
 rotate_left
 · have h1':¬ (0:Int) < cs.length:=by omega
   have h0:cs.length=0:=by omega
   have hRe:R=(0,10):=by rw [← hR,eV]; simp [h0]
   by_cases h2:(cs.length:Int)≤6
   · delta c49 oO oN oA oM oT oG oR oQ oS oK oF oL
     simp (maxSteps:=4000000) -implicitDefEqProofs only [rv49,dS,dR,dL,ec,h1',h2,hRe,WU,Ent.of0,Ent.of1,Ent.of2,Ent.of3,Ent.of4,V,W3,↓reduceIte,seval,reduceCtorEq]
     try simp
   · omega
 have h1':(0:Int) < cs.length:=by omega
 have h0:¬ cs.length=0:=by omega
 by_cases h2:cs.length≤6
 rotate_left
 · have h2':¬ (cs.length:Int)≤6:=by omega
   have h3:6 < cs.length:=by omega
   have hRe:R=(0,8):=by rw [← hR,eV]; simp [h0,h3]
   delta c49 oO oN oA oM oT oG oR oQ oS oK oF oL
   simp (maxSteps:=4000000) -implicitDefEqProofs only [rv49,dS,dR,dL,ec,h1',h2',hRe,WU,Ent.of0,Ent.of1,Ent.of2,Ent.of3,Ent.of4,V,W3,↓reduceIte,seval,reduceCtorEq]
   try simp
 have h2':(cs.length:Int)≤6:=by omega
 have h3:¬ 6 < cs.length:=by omega
 have hRe:R=(match fI cs 0 cs with | some q=>q | none=>match nbE ⟨cs,nb,lim⟩ 0 nb with | some q=>q | none=>(0,limE ⟨cs,nb,lim⟩)):=by rw [← hR,eV]; simp only [h0,h3,if_false]
 clear hR
 delta c49 oO oN oA oM oT oG oR oQ oS oK oF oL
 simp (maxSteps:=4000000) -implicitDefEqProofs only [rv49,dS,dR,dL,ec,h1',h2',not_true_eq_false,WU,Ent.of0,Ent.of1,Ent.of2,Ent.of3,Ent.of4,V,W3,↓reduceIte,seval,reduceCtorEq]
 generalize hN:(⟨cs,nb,lim⟩:Nw)=n at *
 have hNc:n.cells=cs∧n.nb=nb∧n.limit=lim:=by rw [← hN]; exact ⟨rfl,rfl,rfl⟩
 have hmt:∀ i,List.take i (List.map Dat.cells cs)=List.map Dat.cells (cs.take i):=fun i=>List.map_take.symm
 have hmt2:∀ i,List.take i (List.map Dat.cells nb)=List.map Dat.cells (nb.take i):=fun i=>List.map_take.symm
 refine eM cs.length (fun i=>[(30,.s (.int .i64 (i:Int)))]) (fun _=>[]) (fun i=>fI cs 0 cs=fI cs i (cs.drop i)) rfl ?_ (fun i hi hv=>dB [uc,dS,dR,ud] 800 ?_)
 · simp (maxSteps:=4000000) -implicitDefEqProofs only [Ent.of0,Ent.of1,Ent.of2,Ent.of3,Ent.of4,V,W3,↓reduceIte,seval,reduceCtorEq]
   all_goals simp
 · by_cases h4:i < cs.length
   · have hi2:(i:Int) < (cs.length:Int):=by omega
     have hname:=hgs i h4
     have hi0:(0:Int)≤i:=by omega
     have hi5:(i:Int)≤cs.length:=by omega
     rw [ee ⟨#[]⟩ h4,fI] at hv
     cases hx:gx (cs.getD i ⟨#[]⟩) <;> cases hy:((cs.take i).any fun x=>decide (cs.getD i ⟨#[]⟩=x))
     all_goals
      simp only [hx,hy,if_true,if_false,Bool.false_eq_true,Bool.true_eq_false] at hv
      have hRe2:=hRe
      rw [hv] at hRe2
      try simp only at hRe2
      delta c49l1 oO oN oA oM oT oG oR oQ oS oK oF oL
      simp (maxSteps:=4000000) -implicitDefEqProofs only [uc,dS,dR,ud,dL,hi2,hi0,hi5,h4,hname,hmt,hx,hy,Int.toNat_natCast,Int.toNat_zero,List.drop_zero,InR,not_true_eq_false,WU,Ent.of0,Ent.of1,Ent.of2,Ent.of3,Ent.of4,V,W3,↓reduceIte,seval,reduceCtorEq]
      first | (rw [hRe2]; done) | (rw [hRe2]; simp; done) | exact ⟨by omega,hv,by omega⟩
   · have hi2:¬ (i:Int) < (cs.length:Int):=by omega
     rw [List.drop_eq_nil_of_le (by omega),fI] at hv
     rw [hv] at hRe
     simp only at hRe
     delta c49l1 oO oN oA oM oT oG oR oQ oS oK oF oL
     simp (maxSteps:=4000000) -implicitDefEqProofs only [hi2,WU,Ent.of0,Ent.of1,Ent.of2,Ent.of3,Ent.of4,V,W3,↓reduceIte,seval,reduceCtorEq]
     refine eM nb.length (fun i=>[(57,.s (.int .i64 (i:Int)))]) (fun _=>[]) (fun i=>nbE n 0 nb=nbE n i (nb.drop i)) rfl ?_ (fun i hi hw=>dB [nU n h,dS,dR,lR,eY] 800 ?_)
     · simp (maxSteps:=4000000) -implicitDefEqProofs only [Ent.of0,Ent.of1,Ent.of2,Ent.of3,Ent.of4,V,W3,↓reduceIte,seval,reduceCtorEq]
       all_goals simp
     · by_cases h5:i < nb.length
       · have hi2:(i:Int) < (nb.length:Int):=by omega
         have hi0:(0:Int)≤i:=by omega
         have hi5:(i:Int)≤nb.length:=by omega
         have hi6:i≤nb.length:=by omega
         rw [ee ⟨0,0⟩ h5,nbE,hNc.2.1] at hw
         delta c49l2 oO oN oA oM oT oG oR oQ oS oK oF oL
         simp (maxSteps:=4000000) -implicitDefEqProofs only [nU,dS,dR,lR,dL,hi2,hi0,hi5,hi6,h5,hmt,hmt2,hNc,Int.toNat_natCast,Int.toNat_zero,List.drop_zero,InR,not_true_eq_false,WU,Ent.of0,Ent.of1,Ent.of2,Ent.of3,Ent.of4,V,W3,↓reduceIte,seval,reduceCtorEq]
         cases hx:isC n (nb.getD i ⟨0,0⟩).re <;> cases hy:isC n (nb.getD i ⟨0,0⟩).im <;> by_cases hq:(nb.getD i ⟨0,0⟩).re < (nb.getD i ⟨0,0⟩).im <;> cases hz:((nb.take i).any fun x=>decide (nb.getD i ⟨0,0⟩=x))
         all_goals
          simp only [hx,hy,hz,hq,Bool.and_true,Bool.and_false,Bool.true_and,Bool.false_and,if_true,if_false,not_true_eq_false,not_false_eq_true,Bool.false_eq_true,Bool.true_eq_false] at hw
          have hRe2:=hRe
          rw [hw] at hRe2
          try simp only at hRe2
          simp only [hx,hy,hz,hq,if_true,if_false,not_true_eq_false,not_false_eq_true,Bool.false_eq_true,Bool.true_eq_false]
          first | (rw [hRe2]; simp; done) | exact ⟨by omega,hw,by omega⟩ | (simp; exact ⟨by omega,hw⟩)
       · have hi2:¬ (i:Int) < (nb.length:Int):=by omega
         rw [List.drop_eq_nil_of_le (by omega),nbE] at hw
         rw [hw] at hRe
         simp only at hRe
         delta c49l2 oO oN oA oM oT oG oR oQ oS oK oF oL
         simp (maxSteps:=4000000) -implicitDefEqProofs only [nU,dR,lR,eY,dS,hi2,WU,Ent.of0,Ent.of1,Ent.of2,Ent.of3,Ent.of4,V,W3,↓reduceIte,seval,reduceCtorEq]
         rw [hRe,limE,hNc.2.2]
         by_cases h6:1≤lim∧lim≤100000 <;> simp [h6]
def ent49 : Ent Tryz.prog:=.of1 49 NwS mc (fun _=>⟨trivial,trivial,trivial⟩) o5
theorem nA (n:Nw) (h:NwS n):FC Tryz.prog 51 [enc n] [] (mc n) []:=by
 have hbc:=h.c
 have hbb:=h.b
 have hgs:=fun i hi=>h.get (i:=i) hi
 generalize hR:eV n=R
 have hrR:mc n=.tup [.s (.int .i64 (R.1:Int)),.s (.int .i64 R.2)]:=by rw [← hR]; rfl
 rw [hrR]
 obtain ⟨cs,nb,lim⟩:=n
 simp only at hbc hbb hgs
 refine dC [] is51 (by simp) trivial trivial trivial trivial (fun cx _ hl _=>dB [] 800 ?_)
 by_cases h1:cs.length=0
 · have h1':(cs.length:Int)=0:=by omega
   have hRe:R=(0,10):=by rw [← hR,eV]; simp [h1]
   delta c51 oO oN oA oM oT oG oR oQ oS oK oF oL
   simp (maxSteps:=4000000) -implicitDefEqProofs only [rv51,ec,h1',hRe,WU,Ent.of0,Ent.of1,Ent.of2,Ent.of3,Ent.of4,V,W3,↓reduceIte,seval,reduceCtorEq]
   try simp
 have h1':¬ (cs.length:Int)=0:=by omega
 by_cases h2:6 < cs.length
 · have h2':(6:Int) < cs.length:=by omega
   have hRe:R=(0,8):=by rw [← hR,eV]; simp [h1,h2]
   delta c51 oO oN oA oM oT oG oR oQ oS oK oF oL
   simp (maxSteps:=4000000) -implicitDefEqProofs only [rv51,ec,h1',h2',hRe,WU,Ent.of0,Ent.of1,Ent.of2,Ent.of3,Ent.of4,V,W3,↓reduceIte,seval,reduceCtorEq]
   try simp
 have h2':¬ (6:Int) < cs.length:=by omega
 have hRe:R=(match fI cs 0 cs with | some q=>q | none=>match nbE ⟨cs,nb,lim⟩ 0 nb with | some q=>q | none=>(0,limE ⟨cs,nb,lim⟩)):=by rw [← hR,eV]; simp only [h1,h2,if_false] <;> rfl
 clear hR
 delta c51 oO oN oA oM oT oG oR oQ oS oK oF oL
 simp (maxSteps:=4000000) -implicitDefEqProofs only [rv51,ec,h1',h2',not_true_eq_false,WU,Ent.of0,Ent.of1,Ent.of2,Ent.of3,Ent.of4,V,W3,↓reduceIte,seval,reduceCtorEq]
 generalize hN:(⟨cs,nb,lim⟩:Nw)=n at *
 have hNc:n.cells=cs∧n.nb=nb∧n.limit=lim:=by rw [← hN]; exact ⟨rfl,rfl,rfl⟩
 have hmt:∀ i,List.take i (List.map Dat.cells cs)=List.map Dat.cells (cs.take i):=fun i=>List.map_take.symm
 refine eM cs.length (fun i=>[(4,.s (.int .i64 (i:Int)))]) (fun _=>[]) (fun i=>fI cs 0 cs=fI cs i (cs.drop i)) rfl ?_ (fun i hi hv=>dB [rc,rf] 800 ?_)
 · simp (maxSteps:=4000000) -implicitDefEqProofs only [Ent.of0,Ent.of1,Ent.of2,Ent.of3,Ent.of4,V,W3,↓reduceIte,seval,reduceCtorEq]
   all_goals simp
 · by_cases h4:i < cs.length
   · have hi2:(i:Int) < (cs.length:Int):=by omega
     have hname:=hgs i h4
     have hi0:(0:Int)≤i:=by omega
     have hi5:(i:Int)≤cs.length:=by omega
     rw [ee ⟨#[]⟩ h4,fI] at hv
     have han:((cs.take i).any fun x=>decide (x=cs.getD i ⟨#[]⟩))=((cs.take i).any fun x=>decide (cs.getD i ⟨#[]⟩=x)):=by
      congr 1; funext x; simp [eq_comm]
     cases hx:gx (cs.getD i ⟨#[]⟩) <;> cases hy:((cs.take i).any fun x=>decide (cs.getD i ⟨#[]⟩=x))
     all_goals
      rw [hy] at han
      simp only [hx,hy,if_true,if_false,Bool.false_eq_true,Bool.true_eq_false] at hv
      have hRe2:=hRe
      rw [hv] at hRe2
      try simp only at hRe2
      delta c51l1 oO oN oA oM oT oG oR oQ oS oK oF oL
      simp (maxSteps:=4000000) -implicitDefEqProofs only [rc,rf,hi2,hi0,hi5,h4,hname,hmt,hx,han,Int.toNat_natCast,Int.toNat_zero,List.drop_zero,InR,not_true_eq_false,WU,Ent.of0,Ent.of1,Ent.of2,Ent.of3,Ent.of4,V,W3,↓reduceIte,seval,reduceCtorEq]
      first | (rw [hRe2]; done) | (rw [hRe2]; simp; done) | exact ⟨by omega,hv,by omega⟩
   · have hi2:¬ (i:Int) < (cs.length:Int):=by omega
     rw [List.drop_eq_nil_of_le (by omega),fI] at hv
     rw [hv] at hRe
     simp only at hRe
     delta c51l1 oO oN oA oM oT oG oR oQ oS oK oF oL
     simp (maxSteps:=4000000) -implicitDefEqProofs only [rc,rf,hi2,WU,Ent.of0,Ent.of1,Ent.of2,Ent.of3,Ent.of4,V,W3,↓reduceIte,seval,reduceCtorEq]
     refine eM nb.length (fun i=>[(5,.s (.int .i64 (i:Int)))]) (fun _=>[]) (fun i=>nbE n 0 nb=nbE n i (nb.drop i)) rfl ?_ (fun i hi hw=>dB [mw,n9] 800 ?_)
     · simp (maxSteps:=4000000) -implicitDefEqProofs only [Ent.of0,Ent.of1,Ent.of2,Ent.of3,Ent.of4,V,W3,↓reduceIte,seval,reduceCtorEq]
       all_goals simp
     · by_cases h5:i < nb.length
       · have hi2:(i:Int) < (nb.length:Int):=by omega
         have hi0:(0:Int)≤i:=by omega
         have hi5:(i:Int)≤nb.length:=by omega
         have hi6:i≤nb.length:=by omega
         have hdn:fw (.agg [C.sl 1 (List.map Dat.cells cs),.sl 2 (List.map Dat.cells nb),.s (.int .i64 lim)])=some n:=by
          rw [ss,fm,fm,← hN]; rfl
         rw [ee ⟨0,0⟩ h5,nbE,hNc.2.1] at hw
         cases hx:isC n (nb.getD i ⟨0,0⟩).re <;> cases hy:isC n (nb.getD i ⟨0,0⟩).im <;> by_cases hq:(nb.getD i ⟨0,0⟩).re < (nb.getD i ⟨0,0⟩).im
         all_goals
          have hq2:(nb.getD i ⟨0,0⟩).im≤(nb.getD i ⟨0,0⟩).re↔¬ (nb.getD i ⟨0,0⟩).re < (nb.getD i ⟨0,0⟩).im:=by omega
          simp only [hx,hy,hq,Bool.and_true,Bool.and_false,Bool.true_and,Bool.false_and,if_true,if_false,not_true_eq_false,not_false_eq_true,Bool.false_eq_true,Bool.true_eq_false] at hw
          have hRe2:=hRe
          rw [hw] at hRe2
          try simp only at hRe2
          delta c51l3 oO oN oA oM oT oG oR oQ oS oK oF oL
          simp (maxSteps:=4000000) -implicitDefEqProofs only [mw,n9,hi2,hi0,hi5,hi6,h5,hdn,h,hx,hy,hq,hq2,hNc,Int.toNat_natCast,Int.toNat_zero,List.drop_zero,InR,not_true_eq_false,WU,Ent.of0,Ent.of1,Ent.of2,Ent.of3,Ent.of4,V,W3,↓reduceIte,seval,reduceCtorEq]
          try (rw [hRe2]; simp; done)
         generalize hp:nb.getD i ⟨0,0⟩=p at *
         refine eM i (fun j=>[(7,.s (.int .i64 (j:Int)))]) (fun _=>[]) (fun j=>((nb.take i).any fun x=>decide (p=x))=((nb.drop j).take (i - j)).any fun x=>decide (p=x)) (by simp) ?_ (fun j hj hu=>dB [] 800 ?_)
         · simp (maxSteps:=4000000) -implicitDefEqProofs only [Ent.of0,Ent.of1,Ent.of2,Ent.of3,Ent.of4,V,W3,↓reduceIte,seval,reduceCtorEq]
           all_goals simp
         · by_cases h6:j < i
           · have hj2:(j:Int) < i:=by omega
             have hj3:(j:Int) < nb.length:=by omega
             have hj4:j < nb.length:=by omega
             have hj0:(0:Int)≤j:=by omega
             have hgd:=pK (nb.getD j ⟨0,0⟩) p
             have hst:(nb.drop j).take (i - j)=nb.getD j ⟨0,0⟩ :: (nb.drop (j+1)).take (i - (j+1)):=by
              rw [ee ⟨0,0⟩ hj4,show i - j=(i - (j+1))+1 by omega,List.take_succ_cons]
             rw [hst,List.any_cons] at hu
             by_cases hx2:nb.getD j ⟨0,0⟩=p
             · rw [decide_eq_true hx2] at hgd
               rw [hx2,decide_eq_true (rfl:p=p),Bool.true_or] at hu
               rw [if_pos hu] at hRe2
               simp only at hRe2
               delta ql oO oN oA oM oT oG oR oQ oS oK oF oL
               simp (maxSteps:=4000000) -implicitDefEqProofs only [hj2,hj3,hj4,hj0,h5,hi2,hi0,hgd,Bool.and_true,Int.toNat_natCast,InR,not_true_eq_false,WU,Ent.of0,Ent.of1,Ent.of2,Ent.of3,Ent.of4,V,W3,↓reduceIte,seval,reduceCtorEq]
               rw [hRe2]; try simp
             · rw [decide_eq_false hx2] at hgd
               rw [decide_eq_false (fun e=>hx2 e.symm),Bool.false_or] at hu
               delta ql oO oN oA oM oT oG oR oQ oS oK oF oL
               simp (maxSteps:=4000000) -implicitDefEqProofs only [hj2,hj3,hj4,hj0,h5,hi2,hi0,hgd,Bool.and_true,Int.toNat_natCast,InR,not_true_eq_false,WU,Ent.of0,Ent.of1,Ent.of2,Ent.of3,Ent.of4,V,W3,↓reduceIte,seval,reduceCtorEq]
               exact ⟨by omega,by omega,hu,by omega⟩
           · have hj2:¬ (j:Int) < i:=by omega
             have:i - j=0:=by omega
             rw [this,List.take_zero,List.any_nil] at hu
             rw [hu] at hw
             simp only [Bool.false_eq_true,if_false] at hw
             delta ql oO oN oA oM oT oG oR oQ oS oK oF oL
             simp (maxSteps:=4000000) -implicitDefEqProofs only [hj2,InR,WU,Ent.of0,Ent.of1,Ent.of2,Ent.of3,Ent.of4,V,W3,↓reduceIte,seval,reduceCtorEq]
             exact ⟨by omega,h5,hw,by omega⟩
       · have hi2:¬ (i:Int) < (nb.length:Int):=by omega
         rw [List.drop_eq_nil_of_le (by omega),nbE] at hw
         rw [hw] at hRe
         simp only at hRe
         delta c51l3 oO oN oA oM oT oG oR oQ oS oK oF oL
         simp (maxSteps:=4000000) -implicitDefEqProofs only [mw,n9,hi2,WU,Ent.of0,Ent.of1,Ent.of2,Ent.of3,Ent.of4,V,W3,↓reduceIte,seval,reduceCtorEq]
         rw [hRe,limE,hNc.2.2]
         by_cases h6:1≤lim∧lim≤100000 <;> simp [h6]
def ent51 : Ent Tryz.prog:=.of1 51 NwS mc (fun _=>⟨trivial,trivial,trivial⟩) nA
theorem gN (n:Nw):fw (.agg [C.sl 1 (n.cells.map Dat.cells),.sl 2 (n.nb.map Dat.cells),.s (.int .i64 n.limit)])=some n:=by
 rw [ss,fm,fm]; rfl
theorem qc (n:Nw) (h:NwS n):FC Tryz.prog 46 [enc n] [] (enc (eV n).2) []:=by
 have hdn:=gN n
 refine dC [] is46 (by simp) trivial trivial trivial trivial (fun cx _ hl _=>dB [ent51] 800 ?_)
 delta c46 oO oN oA oM oT oG oR oQ oS oK oF oL
 simp (maxSteps:=4000000) -implicitDefEqProofs only [rv46,ent51,ec,hdn,h,mc,Ent.of0,Ent.of1,Ent.of2,Ent.of3,Ent.of4,V,W3,↓reduceIte,seval,reduceCtorEq]
def ent46 : Ent Tryz.prog:=.of1 46 NwS (fun n=>enc (eV n).2) (fun _=>trivial) qc
theorem rA (n:Nw) (h:NwS n):FC Tryz.prog 101 [enc n] [] (enc (eV n).2) []:=by
 have hdn:=gN n
 refine dC [] is101 (by simp) trivial trivial trivial trivial (fun cx _ hl _=>dB [ent49] 800 ?_)
 delta c101 oO oN oA oM oT oG oR oQ oS oK oF oL
 simp (maxSteps:=4000000) -implicitDefEqProofs only [rv101,ent49,ec,hdn,h,mc,Ent.of0,Ent.of1,Ent.of2,Ent.of3,Ent.of4,V,W3,↓reduceIte,seval,reduceCtorEq]
def jp : Ent Tryz.prog:=.of1 101 NwS (fun n=>enc (eV n).2) (fun _=>trivial) rA
def cellR (n:Nw) (c:Int):Int:=if (eV n).2≠0 then (eV n).2 else if isC n c then 0 else 6
theorem tE (n:Nw) (c:Int) (h:NwS n):FC Tryz.prog 40 [enc n,enc c] [] (enc (cellR n c)) []:=by
 have hdn:=gN n
 refine dC [] is40 (by simp) trivial trivial trivial trivial (fun cx _ hl _=>dB [ent46,mw] 800 ?_)
 unfold cellR
 by_cases h1:(eV n).2=0
 · cases h2:isC n c
   all_goals
    delta c40 oO oN oA oM oT oG oR oQ oS oK oF oL
    simp (maxSteps:=4000000) -implicitDefEqProofs only [rv40,ent46,mw,ec,hdn,h,h1,h2,not_true_eq_false,WU,Ent.of0,Ent.of1,Ent.of2,Ent.of3,Ent.of4,V,W3,↓reduceIte,seval,reduceCtorEq]
    try simp
 · delta c40 oO oN oA oM oT oG oR oQ oS oK oF oL
   simp (maxSteps:=4000000) -implicitDefEqProofs only [rv40,ent46,mw,ec,hdn,h,h1,not_true_eq_false,WU,Ent.of0,Ent.of1,Ent.of2,Ent.of3,Ent.of4,V,W3,↓reduceIte,seval,reduceCtorEq]
   try simp
def ent40 : Ent Tryz.prog:=.of2 40 (fun n _=>NwS n) (fun (n:Nw) (c:Int)=>enc (cellR n c)) (fun _ _=>trivial) (fun n c h=>tE n c h)
def nbr (n:Nw) (a b:Int):Bool:=n.nb.any fun x=>decide (x=⟨min a b,max a b⟩)
def few (n:Nw):Bool:=decide (n.cells.length≤8) && decide (n.nb.length≤20) && n.cells.all fun x=>decide (x.size≤20)
theorem Few_c (n:Nw):FC Tryz.prog 34 [enc n] [] (enc (few n)) []:=by
 refine dC [] is34 (by simp) trivial trivial trivial trivial (fun cx _ hl _=>dB [] 800 ?_)
 generalize hB:few n=B
 by_cases h1:8 < n.cells.length
 · have h1':(8:Int) < n.cells.length:=by omega
   have:B=false:=by rw [← hB,few]; simp; omega
   rw [this]
   delta c34 oO oN oA oM oT oG oR oQ oS oK oF oL
   simp (maxSteps:=4000000) -implicitDefEqProofs only [rv34,ec,h1',WU,Ent.of0,Ent.of1,Ent.of2,Ent.of3,Ent.of4,V,W3,↓reduceIte,seval,reduceCtorEq]
 have h1':¬ (8:Int) < n.cells.length:=by omega
 by_cases h2:20 < n.nb.length
 · have h2':(20:Int) < n.nb.length:=by omega
   have:B=false:=by rw [← hB,few]; simp; omega
   rw [this]
   delta c34 oO oN oA oM oT oG oR oQ oS oK oF oL
   simp (maxSteps:=4000000) -implicitDefEqProofs only [rv34,ec,h1',h2',WU,Ent.of0,Ent.of1,Ent.of2,Ent.of3,Ent.of4,V,W3,↓reduceIte,seval,reduceCtorEq]
 have h2':¬ (20:Int) < n.nb.length:=by omega
 have hBB:B=n.cells.all fun x=>decide (x.size≤20):=by
  have e1:n.cells.length≤8:=by omega
  have e2:n.nb.length≤20:=by omega
  rw [← hB,few,decide_eq_true e1,decide_eq_true e2]; rfl
 clear hB
 delta c34 oO oN oA oM oT oG oR oQ oS oK oF oL
 simp (maxSteps:=4000000) -implicitDefEqProofs only [rv34,ec,h1',h2',WU,Ent.of0,Ent.of1,Ent.of2,Ent.of3,Ent.of4,V,W3,↓reduceIte,seval,reduceCtorEq]
 refine eM n.cells.length (fun i=>[(3,.s (.int .i64 (i:Int)))]) (fun _=>[]) (fun i=>B=(n.cells.drop i).all fun x=>decide (x.size≤20)) (by rw [hBB]; rfl) ?_ (fun i hi hv=>dB [] 800 ?_)
 · simp (maxSteps:=4000000) -implicitDefEqProofs only [Ent.of0,Ent.of1,Ent.of2,Ent.of3,Ent.of4,V,W3,↓reduceIte,seval,reduceCtorEq]
   all_goals simp
 · by_cases h5:i < n.cells.length
   · have hi2:(i:Int) < (n.cells.length:Int):=by omega
     have hi0:(0:Int)≤i:=by omega
     rw [ee ⟨#[]⟩ h5,List.all_cons] at hv
     by_cases hx:20 < (n.cells.getD i ⟨#[]⟩).size
     · have hx2:(20:Int) < ((n.cells.getD i ⟨#[]⟩).size:Int):=by omega
       rw [decide_eq_false (by omega),Bool.false_and] at hv
       delta qj oO oN oA oM oT oG oR oQ oS oK oF oL
       simp (maxSteps:=4000000) -implicitDefEqProofs only [rv34,hi2,hi0,h5,hx2,InR,not_true_eq_false,WU,Ent.of0,Ent.of1,Ent.of2,Ent.of3,Ent.of4,V,W3,↓reduceIte,seval,reduceCtorEq]
       try simp [hv]
     · have hx2:¬ (20:Int) < ((n.cells.getD i ⟨#[]⟩).size:Int):=by omega
       rw [decide_eq_true (by omega),Bool.true_and] at hv
       delta qj oO oN oA oM oT oG oR oQ oS oK oF oL
       simp (maxSteps:=4000000) -implicitDefEqProofs only [rv34,hi2,hi0,h5,hx2,InR,not_true_eq_false,WU,Ent.of0,Ent.of1,Ent.of2,Ent.of3,Ent.of4,V,W3,↓reduceIte,seval,reduceCtorEq]
       exact ⟨by omega,hv,by omega⟩
   · have hi2:¬ (i:Int) < (n.cells.length:Int):=by omega
     rw [List.drop_eq_nil_of_le (by omega)] at hv
     delta qj oO oN oA oM oT oG oR oQ oS oK oF oL
     simp (maxSteps:=4000000) -implicitDefEqProofs only [rv34,hi2,WU,Ent.of0,Ent.of1,Ent.of2,Ent.of3,Ent.of4,V,W3,↓reduceIte,seval,reduceCtorEq]
     try simp [hv]
def ent34 : Ent Tryz.prog:=.of1 34 (fun _=>True) (fun n=>enc (few n)) (fun _=>trivial) (fun n _=>Few_c n)
structure T3 where
 x:Int
 y:Int
 z:Int
 deriving DecidableEq
instance : DatL T3 where
 sz:=3
 agg:=true
 cells r:=[.s (.int .i64 r.x),.s (.int .i64 r.y),.s (.int .i64 r.z)]
 dec | [.s (.int .i64 a),.s (.int .i64 b),.s (.int .i64 c)]=>some ⟨a,b,c⟩ | _=>none
 ok:=by intro l a h; split at h <;> cases h; rfl
 data:=fun a=>rfl
 one:=fun h=>by cases h
 dec_cells:=fun a=>rfl
theorem dX (r:T3):enc r=.agg [.s (.int .i64 r.x),.s (.int .i64 r.y),.s (.int .i64 r.z)]:=rfl
theorem fJ (r:T3):Dat.cells r=[.s (.int .i64 r.x),.s (.int .i64 r.y),.s (.int .i64 r.z)]:=rfl
theorem mr (a b c:Int):fw (.agg [C.s (.int .i64 a),.s (.int .i64 b),.s (.int .i64 c)])=some (⟨a,b,c⟩:T3):=rfl
theorem g9 : Dat.sz T3=3:=rfl
theorem gV (xs:List T3) (n:Nat):List.getD (xs.map Dat.cells) n [C.s (.int .i64 0),.s (.int .i64 0),.s (.int .i64 0)]=[.s (.int .i64 (xs.getD n ⟨0,0,0⟩).x),.s (.int .i64 (xs.getD n ⟨0,0,0⟩).y),.s (.int .i64 (xs.getD n ⟨0,0,0⟩).z)]:=by
 rw [List.getD_eq_getElem?_getD,List.getD_eq_getElem?_getD,List.getElem?_map]
 cases xs[n]? <;> rfl
def mI (n:Nw) (i:Nat) (p s:T3):Int:=
 if isC n s.x=false then 6 else if (eL s.y && eL s.z)=false then 2 else if ¬ (s.y≤s.z∧(i=0∨s.y=p.z)) then 9 else if i=0∨s.x≠p.x then 0 else 26
def stE (n:Nw) (all:List T3):Nat→List T3→Int
 | _,[]=>0
 | i,s :: l=>if mI n i (all.getD (i - 1) ⟨0,0,0⟩) s≠0 then mI n i (all.getD (i - 1) ⟨0,0,0⟩) s else stE n all (i+1) l
def jv (n:Nw) (l:List T3):Int:=if (eV n).2≠0 then (eV n).2 else if l.length > 200 then 8 else stE n l 0 l
def pp (l:List T3) (w:Int) (i:Nat):Bool:=decide ((l.getD i ⟨0,0,0⟩).z - (l.getD i ⟨0,0,0⟩).y≤w) && decide ((l.getD (i - 1) ⟨0,0,0⟩).x=(l.getD (i+1) ⟨0,0,0⟩).x)
def ppN (l:List T3) (w:Int):Nat→Nat→Int
 | 0,_=>0
 | k+1,i=>(if pp l w i then 1 else 0)+ppN l w k (i+1)
def ppE (n:Nw) (l:List T3) (w:Int):Int:=if jv n l≠0 then jv n l else if eL w then 0 else 2
def ppR (n:Nw) (l:List T3) (w:Int):Int:=if ppE n l w=0 then ppN l w (l.length - 2) 1 else 0
theorem rE (l:List T3) (w:Int):∀ k i,0≤ppN l w k i∧ppN l w k i≤k
 | 0,i=>by simp [ppN]
 | k+1,i=>by
  have:=rE l w k (i+1)
  rw [ppN]; push_cast; split <;> omega
theorem pZ (n:Nw) (all:List T3):∀ (l:List T3) (i:Nat),stE n all i l=0→∀ s∈l,eL s.y=true∧eL s.z=true
 | [],i,_,s,hs=>by cases hs
 | a :: l,i,h,s,hs=>by
  rw [stE] at h
  have h1:mI n i (all.getD (i - 1) ⟨0,0,0⟩) a=0:=by
   rcases Classical.em (mI n i (all.getD (i - 1) ⟨0,0,0⟩) a=0) with g | g
   · exact g
   · rw [if_pos g] at h; exact absurd h g
  rw [if_neg (fun g=>g h1)] at h
  rcases List.mem_cons.1 hs with rfl | hs
  · unfold mI at h1
    cases g1:isC n s.x <;> cases g2:(eL s.y && eL s.z) <;> simp [g1,g2] at h1
    simpa using g2
  · exact pZ n all l (i+1) h s hs
theorem rU (n:Nw) (l:List T3) (w:Int) (h:NwS n):FC Tryz.prog 44 [enc n,enc l,enc w] [] (.tup [enc (ppR n l w),enc (ppE n l w)]) []:=by
 have hbc:=h.c
 have hdn:=gN n
 generalize hE:ppE n l w=e
 generalize hR:ppR n l w=r
 refine dC [] is44 (by simp) trivial trivial trivial trivial (fun cx _ hl _=>dB [jp,dS,dR] 800 ?_)
 by_cases h0:(eV n).2=0
 rotate_left
 · have hs:jv n l=(eV n).2:=by rw [jv,if_pos h0]
   have he:e=(eV n).2:=by rw [← hE,ppE,hs,if_pos h0]
   have hr:r=0:=by rw [← hR,ppR,hE,he,if_neg h0]
   delta c44 oO oN oA oM oT oG oR oQ oS oK oF oL
   simp (maxSteps:=4000000) -implicitDefEqProofs only [rv44,g9,gV,fJ,jp,dS,dR,dL,ec,hdn,h,h0,he,hr,not_true_eq_false,WU,Ent.of0,Ent.of1,Ent.of2,Ent.of3,Ent.of4,V,W3,↓reduceIte,seval,reduceCtorEq]
 by_cases h1:l.length≤200
 rotate_left
 · have h1':¬ (l.length:Int)≤200:=by omega
   have hs:jv n l=8:=by rw [jv,if_neg (by simp [h0]),if_pos (by omega)]
   have he:e=8:=by rw [← hE,ppE,hs]; rfl
   have hr:r=0:=by rw [← hR,ppR,hE,he]; rfl
   delta c44 oO oN oA oM oT oG oR oQ oS oK oF oL
   simp (maxSteps:=4000000) -implicitDefEqProofs only [rv44,g9,gV,fJ,jp,dS,dR,dL,ec,hdn,h,h0,h1',he,hr,not_true_eq_false,WU,Ent.of0,Ent.of1,Ent.of2,Ent.of3,Ent.of4,V,W3,↓reduceIte,seval,reduceCtorEq]
 have h1':(l.length:Int)≤200:=by omega
 have hs:jv n l=stE n l 0 l:=by rw [jv,if_neg (by simp [h0]),if_neg (by omega)]
 have hbad:∀ v,v≠0→stE n l 0 l=v→e=v∧r=0:=fun v hv0 hv=>by
  have he:e=v:=by rw [← hE,ppE,hs,hv,if_pos hv0]
  exact ⟨he,by rw [← hR,ppR,hE,he,if_neg hv0]⟩
 delta c44 oO oN oA oM oT oG oR oQ oS oK oF oL
 simp (maxSteps:=4000000) -implicitDefEqProofs only [rv44,g9,gV,fJ,jp,dS,dR,dL,ec,hdn,h,h0,h1',not_true_eq_false,WU,Ent.of0,Ent.of1,Ent.of2,Ent.of3,Ent.of4,V,W3,↓reduceIte,seval,reduceCtorEq]
 refine eM l.length (fun i=>[(28,.s (.int .i64 (i:Int)))]) (fun _=>[]) (fun i=>stE n l 0 l=stE n l i (l.drop i)) rfl ?_ (fun i hi hv=>dB [eY,dS,dR,iP] 900 ?_)
 · simp (maxSteps:=4000000) -implicitDefEqProofs only [Ent.of0,Ent.of1,Ent.of2,Ent.of3,Ent.of4,V,W3,↓reduceIte,seval,reduceCtorEq]
   all_goals simp
 · by_cases h4:i < l.length
   · have hi2:(i:Int) < (l.length:Int):=by omega
     have hi0:(0:Int)≤i:=by omega
     have hmx:(if (i:Int) - 1 > 0 then (i:Int) - 1 else 0)=((i - 1:Nat):Int):=by omega
     have hm0:(0:Int)≤((i - 1:Nat):Int):=by omega
     have hm1:((i - 1:Nat):Int) < (l.length:Int):=by omega
     have hm2:i - 1 < l.length:=by omega
     rw [ee ⟨0,0,0⟩ h4,stE] at hv
     delta qk oO oN oA oM oT oG oR oQ oS oK oF oL
     simp (maxSteps:=4000000) -implicitDefEqProofs only [eY,dS,dR,iP,g9,gV,fJ,dL,hi2,hi0,h4,hmx,hm0,hm1,hm2,Int.toNat_natCast,InR,not_true_eq_false,WU,Ent.of0,Ent.of1,Ent.of2,Ent.of3,Ent.of4,V,W3,↓reduceIte,seval,reduceCtorEq]
     refine ⟨by omega,by omega,?_⟩
     generalize l.getD i ⟨0,0,0⟩=s at hv ⊢
     generalize l.getD (i - 1) ⟨0,0,0⟩=p at hv ⊢
     have hisC:isC n s.x=decide (0≤s.x∧s.x≤(n.cells.length:Int) - 1):=rfl
     unfold mI at hv
     rw [hisC] at hv
     have hok:(-9223372036854775808≤(i:Int)+1∧(i:Int)+1≤9223372036854775807):=by omega
     have hok2:(i:Int)+1=((i+1:Nat):Int):=by omega
     generalize eL s.y=ty at hv ⊢
     generalize eL s.z=tz at hv ⊢
     generalize hXE:stE n l (i+1) (List.drop (i+1) l)=X at *
     rcases Classical.propComplete (0≤s.x∧s.x≤(n.cells.length:Int) - 1) with hA | hA <;> cases ty <;> cases tz <;> rcases Classical.propComplete (s.y≤s.z) with hY | hY <;> rcases Classical.propComplete ((i:Int)=0) with hz | hz <;> rcases Classical.propComplete (s.y=p.z) with hP | hP <;> rcases Classical.propComplete (s.x=p.x) with hQ | hQ
     all_goals
      have hzn:(i=0)=((i:Int)=0):=by rw [Int.natCast_eq_zero]
      simp only [hA,hY,hz,hP,hQ,hzn,decide_true,decide_false,Bool.and_true,Bool.and_false,Bool.true_and,Bool.false_and,if_true,if_false,not_true_eq_false,not_false_eq_true,Bool.false_eq_true,Bool.true_eq_false,ne_eq,true_or,or_true,false_or,or_false,true_and,and_true,false_and,and_false,Int.reduceEq,reduceCtorEq] at hv ⊢
      first | (obtain ⟨q1,q2⟩:=hbad _ (by decide) hv; exact ⟨q2.symm,q1.symm⟩) | exact ⟨hok,hv,hok2⟩
   · have hi2:¬ (i:Int) < (l.length:Int):=by omega
     rw [List.drop_eq_nil_of_le (by omega),stE] at hv
     have htk:=pZ n l l 0 hv
     rw [hv] at hs
     cases hw:eL w
     · have he:e=2:=by rw [← hE,ppE,hs,hw]; rfl
       have hr:r=0:=by rw [← hR,ppR,hE,he]; rfl
       delta qk oO oN oA oM oT oG oR oQ oS oK oF oL
       simp (maxSteps:=4000000) -implicitDefEqProofs only [eY,dS,dR,iP,g9,gV,fJ,hi2,hw,not_true_eq_false,WU,Ent.of0,Ent.of1,Ent.of2,Ent.of3,Ent.of4,V,W3,↓reduceIte,seval,reduceCtorEq]
       try simp [he,hr]
     have he:e=0:=by rw [← hE,ppE,hs,hw]; rfl
     have hr:r=ppN l w (l.length - 2) 1:=by rw [← hR,ppR,hE,if_pos he]
     have htb:∀ j,j < l.length→0≤(l.getD j ⟨0,0,0⟩).y∧(l.getD j ⟨0,0,0⟩).y≤1000000000∧0≤(l.getD j ⟨0,0,0⟩).z∧(l.getD j ⟨0,0,0⟩).z≤1000000000:=fun j hj=>by
      rw [List.getD_eq_getElem?_getD,List.getElem?_eq_getElem hj]
      have:=htk _ (List.getElem_mem hj)
      simp only [eL,decide_eq_true_eq] at this
      simp only [Option.getD_some]; omega
     delta qk oO oN oA oM oT oG oR oQ oS oK oF oL
     simp (maxSteps:=4000000) -implicitDefEqProofs only [eY,dS,dR,iP,g9,gV,fJ,hi2,hw,not_true_eq_false,WU,Ent.of0,Ent.of1,Ent.of2,Ent.of3,Ent.of4,V,W3,↓reduceIte,seval,reduceCtorEq]
     refine eM (l.length - 2) (fun i=>[(13,.s (.int .i64 (r - ppN l w (l.length - 2 - i) (1+i)))),(14,.s (.int .i64 ((1+i:Nat):Int)))]) (fun _=>[]) (fun _=>True) trivial ?_ (fun i hi _=>dB [] 900 ?_)
     · simp (maxSteps:=4000000) -implicitDefEqProofs only [Ent.of0,Ent.of1,Ent.of2,Ent.of3,Ent.of4,V,W3,↓reduceIte,seval,reduceCtorEq]
       all_goals simp [hr]
     · have hpl:=rE l w (l.length - 2 - i) (1+i)
       have hrl:=rE l w (l.length - 2) 1
       rw [← hr] at hrl
       by_cases h5:i < l.length - 2
       · obtain ⟨k,hk⟩:∃ k,l.length - 2 - i=k+1:=⟨l.length - 2 - i - 1,by omega⟩
         have hk1:l.length - 2 - (i+1)=k:=by omega
         have hk2:1+(i+1)=1+i+1:=by omega
         rw [hk,ppN] at hpl
         have b1:=htb (1+i) (by omega)
         have f0:(0:Int)≤((1+i:Nat):Int):=by omega
         have c1':((1+i:Nat):Int) < (l.length:Int):=by omega
         have c2':((1+i:Nat):Int)+1 < (l.length:Int):=by omega
         have c3':((1+i:Nat):Int)+1=((1+i+1:Nat):Int):=by omega
         have c4':((1+i:Nat):Int) - 1=((i:Nat):Int):=by omega
         have c5':((1+i+1:Nat):Int) < (l.length:Int):=by omega
         have c6':(0:Int)≤((1+i+1:Nat):Int):=by omega
         have c7':(i:Int) < (l.length:Int):=by omega
         have c8':(0:Int)≤(i:Int):=by omega
         have d1:i < l.length:=by omega
         have d2:1+i < l.length:=by omega
         have d3:1+i+1 < l.length:=by omega
         have hpp:pp l w (1+i)=(decide ((l.getD (1+i) ⟨0,0,0⟩).z - (l.getD (1+i) ⟨0,0,0⟩).y≤w) && decide ((l.getD i ⟨0,0,0⟩).x=(l.getD (1+i+1) ⟨0,0,0⟩).x)):=by
          rw [pp,show 1+i - 1=i by omega]
         delta c44l2 oO oN oA oM oT oG oR oQ oS oK oF oL
         simp (maxSteps:=4000000) -implicitDefEqProofs only [g9,gV,fJ,c3',c4',c5',c6',c7',c8',f0,c1',c2',d1,d2,d3,hk,hk1,hk2,ppN,Int.toNat_natCast,InR,not_true_eq_false,WU,Ent.of0,Ent.of1,Ent.of2,Ent.of3,Ent.of4,V,W3,↓reduceIte,seval,reduceCtorEq]
         rcases Classical.propComplete ((l.getD (1+i) ⟨0,0,0⟩).z - (l.getD (1+i) ⟨0,0,0⟩).y≤w) with g1 | g1 <;> rcases Classical.propComplete ((l.getD i ⟨0,0,0⟩).x=(l.getD (1+i+1) ⟨0,0,0⟩).x) with g2 | g2
         all_goals
          simp only [g1,g2,decide_true,decide_false,Bool.and_true,Bool.and_false,Bool.true_and,Bool.false_and] at hpp
          simp only [g1,g2,hpp,if_true,if_false,Bool.false_eq_true,reduceCtorEq] at hpl ⊢
          omega
       · have c2':¬ ((1+i:Nat):Int)+1 < (l.length:Int):=by omega
         have hk:l.length - 2 - i=0:=by omega
         delta c44l2 oO oN oA oM oT oG oR oQ oS oK oF oL
         simp (maxSteps:=4000000) -implicitDefEqProofs only [c2',hk,ppN,InR,WU,Ent.of0,Ent.of1,Ent.of2,Ent.of3,Ent.of4,V,W3,↓reduceIte,seval,reduceCtorEq]
         exact ⟨by omega,by omega,he.symm⟩
structure PpOk (n:Nw) (l:List T3):Prop where
 e:stE n l 0 l=0
 len:l.length≤200
def cnA (S:Nat→Bool) (j:Nat) (c:C):C:=if S j=true then c else .any
def cnT (cs:List (List C)) (nb:List (List C)) (lim:Int) (S:Nat→Bool):ASt:=
 ⟨[(3,cnA S 0 (.ptr 1 0)),(4,cnA S 1 (.sl 1 cs)),(5,cnA S 2 (.sl 1 cs)),(6,if S 6=true then .any else cnA S 3 (.own 6)),(7,cnA S 4 (.ptr 1 1)),(8,cnA S 5 (.sl 2 nb)),(9,cnA S 6 (.sl 2 nb)),(10,cnA S 7 (.ptr 1 2)),(11,cnA S 8 (.s (.int .i64 lim))),(12,cnA S 9 (.agg [.sl 1 cs,.sl 2 nb,.s (.int .i64 lim)])),(1,.ptr 1 0),(2,.ptr 2 0)],
  (if S 3=true∧S 6=false then [(6,.row 2 40 [])] else [])++[(2,.box (if S 10=true then [.sl 1 cs,.sl 2 nb,.s (.int .i64 lim)] else [.s (.slice none 0 0),.s (.slice none 0 0),.s (.int .i64 0)])),(1,.box [.sl 1 cs,.sl 2 nb,.s (.int .i64 lim)])]⟩
theorem eX (cs nb:List (List C)) (lim:Int) (S:Nat→Bool):(cnT cs nb lim S).t=[(3,cnA S 0 (.ptr 1 0)),(4,cnA S 1 (.sl 1 cs)),(5,cnA S 2 (.sl 1 cs)),(6,if S 6=true then .any else cnA S 3 (.own 6)),(7,cnA S 4 (.ptr 1 1)),(8,cnA S 5 (.sl 2 nb)),(9,cnA S 6 (.sl 2 nb)),(10,cnA S 7 (.ptr 1 2)),(11,cnA S 8 (.s (.int .i64 lim))),(12,cnA S 9 (.agg [.sl 1 cs,.sl 2 nb,.s (.int .i64 lim)])),(1,.ptr 1 0),(2,.ptr 2 0)]:=rfl
theorem jS (cs nb:List (List C)) (lim:Int) (S:Nat→Bool):lk (cnT cs nb lim S).ch 1=some (.box [.sl 1 cs,.sl 2 nb,.s (.int .i64 lim)]):=by
 simp only [cnT]; split <;> simp [lk]
theorem sL {m:List (Nat×Sb)} {p:Prop} [Decidable p] {a b:C}:ah m (if p then a else b)=if p then ah m a else ah m b:=by split <;> rfl
theorem mm (cs nb:List (List C)) (lim:Int) (S:Nat→Bool):((cnT cs nb lim S).ch.map (·.1)).Nodup:=by
 simp only [cnT]; split <;> simp
theorem ka {P:Program} [Glob P] {cx:Cx} {cs nb:List (List C)} {lim:Int} {S:Nat→Bool} {j d:Nat} {v:C} {p:Prop} (hch:(cnT cs nb lim (fun i=>i == j || S i)).ch=(cnT cs nb lim S).ch)
 (ht:∀ x,gt (cnT cs nb lim (fun i=>i == j || S i)).t x=.any∨(if d=x then v else gt (cnT cs nb lim S).t x)=gt (cnT cs nb lim (fun i=>i == j || S i)).t x) :
 dW P cx (aw (some d) ⟨p,v,(cnT cs nb lim S).ch,[]⟩ (cnT cs nb lim S)) (cnT cs nb lim (fun i=>i == j || S i)):=.of_le ⟨fun x=>by
  show _∨gt (aT (some d) [] v (cnT cs nb lim S).t) x=_
  rw [fE,eF]
  have:=ht x
  by_cases hx:d=x
  · subst hx; simpa using this
  · have hx2:¬ (some d=some x):=fun e=>hx (Option.some.inj e)
    rw [if_neg hx] at this
    simpa [hx] using this,mm _ _ _ _,fun p hp=>by
  rw [hch] at hp
  exact eT (mm _ _ _ _) hp⟩
def cnRb : List Nat:=[1,2,6,9,10,102,106,109,110,206,209,210,306,309,310,405,406,409,410,506,509,510,609,610,708,709,710,809,810,910]
theorem qa (n:Nw) (h:NwS n):FC Tryz.prog 37 [enc n] [] (enc n) []:=by
 have hbc:=h.c
 have hbb:=h.b
 refine dC [] D2.is37 (by simp) trivial trivial trivial trivial (fun cx _ hl _=>dB [ent98] 800 ?_)
 delta D2.c37 oO oN oA oM oT oG oR oQ oS oK oF oL
 simp (maxSteps:=4000000) -implicitDefEqProofs only [D2.rv37,ec,hbc,WU,Ent.of0,Ent.of1,Ent.of2,Ent.of3,Ent.of4,V,W3,↓reduceIte,seval,reduceCtorEq]
 refine m7 (T:=cnT (n.cells.map Dat.cells) (n.nb.map Dat.cells) n.limit) ⟨fun x=>?_,mm _ _ _ _,?_⟩ (fun S j ao hj hSj hp hs=>?_) (fun S hS=>dB [] 800 ?_)
 · simp only [cnT,cnA,eH,Bool.false_eq_true,if_false]
   repeat' split
   all_goals first | exact .inl rfl | exact .inr rfl
 · simp [cnT,lk]
 · have hp':∀ c∈cnRb,c % 100=j→S (c / 100)=true:=hp
   have hs':∀ c∈cnRb,S (c % 100)=true→S (c / 100)=true:=hs
   clear hp hs
   rcases j with _|_|_|_|_|_|_|_|_|_|_|j <;> simp only [List.getElem?_cons_zero,List.getElem?_cons_succ,Nat.reduceAdd,List.getElem?_nil,reduceCtorEq,Option.some.injEq,Nat.zero_add] at hj
   all_goals
    subst hj
    simp [cnRb] at hp'
    try simp only [Nat.zero_add,Nat.reduceAdd] at hSj ⊢
   · refine ⟨⟨_,.ptr 1 0,_,[]⟩,.yes _ rfl (.f (by simp only [ai,aq,eX,eH,cnA,hp',jS,if_true,Nat.reduceEqDiff,if_false] <;> rfl) (by simp)),ka (by simp [cnT]) (fun x=>?_)⟩
     · rw [eX,eX]
       simp only [eH,cnA]
       by_cases hx:3=x
       · subst hx; simp [au]
       · simp [hx]
   · refine ⟨⟨_,.sl 1 (n.cells.map Dat.cells),_,[]⟩,.yes _ rfl (.f (by simp only [ai,aq,eX,eH,cnA,hp',jS,if_true,Nat.reduceEqDiff,if_false] <;> rfl) (by simp)),ka (by simp [cnT]) (fun x=>?_)⟩
     · rw [eX,eX]
       simp only [eH,cnA]
       by_cases hx:4=x
       · subst hx; simp [au]
       · simp [hx]
   · refine ⟨⟨True,.sl 1 (n.cells.map Dat.cells),_,[]⟩,.yes _ rfl (jt (L:=[ent98]) (ef:=⟨True,.sl 1 (n.cells.map Dat.cells),(cnT (n.cells.map Dat.cells) (n.nb.map Dat.cells) n.limit S).ch,[]⟩) ?_ trivial),ka (by simp [cnT]) (fun x=>?_)⟩
     · simp (maxSteps:=4000000) -implicitDefEqProofs only [ent98,eX,eH,cnA,hp',hbc,aF,Ent.of0,Ent.of1,Ent.of2,Ent.of3,Ent.of4,V,W3,↓reduceIte,seval,reduceCtorEq]
     · rw [eX,eX]
       simp only [eH,cnA]
       by_cases hx:5=x
       · subst hx; simp [au]
       · simp [hx]
   · have hS6:S 6=false:=by
      cases hc:S 6
      · rfl
      · have:=hs' 306 (by simp [cnRb]) hc
        rw [hSj] at this; exact this.symm ▸ rfl
     refine ⟨⟨_,.own 6,(6,.row 2 40 []) :: ae [(6,.c .any)] (af (cnT (n.cells.map Dat.cells) (n.nb.map Dat.cells) n.limit S).ch 6),[(6,.c .any)]⟩,.yes _ rfl (.f (by simp only [ai,aq,Option.getD_some,List.isEmpty_nil,if_true] <;> rfl) (by simp [Value.oneCell'])),.of_le ⟨fun x=>?_,mm _ _ _ _,?_⟩⟩
     · simp only [aw,fE,eX,eH,cnA,hSj,hS6]
       by_cases hx:6=x
       · subst hx; simp
       · right; simp [hx,sL,ah,ah.subCs,List.lookup,gt,lk]
     · simp [cnT,hSj,hS6,aw]
       cases hs10:S 10 <;> simp [af,ae,lk,ah]
   · refine ⟨⟨_,.ptr 1 1,_,[]⟩,.yes _ rfl (.f (by simp only [ai,aq,eX,eH,cnA,hp',jS,if_true,Nat.reduceEqDiff,if_false] <;> rfl) (by simp)),ka (by simp [cnT]) (fun x=>?_)⟩
     · rw [eX,eX]
       simp only [eH,cnA]
       by_cases hx:7=x
       · subst hx; simp [au]
       · simp [hx]
   · refine ⟨⟨_,.sl 2 (n.nb.map Dat.cells),_,[]⟩,.yes _ rfl (.f (by simp only [ai,aq,eX,eH,cnA,hp',jS,if_true,Nat.reduceEqDiff,if_false] <;> rfl) (by simp)),ka (by simp [cnT]) (fun x=>?_)⟩
     · rw [eX,eX]
       simp only [eH,cnA]
       by_cases hx:8=x
       · subst hx; simp [au]
       · simp [hx]
   · obtain ⟨k0,k1,k2,k3,k4,k5⟩:=hp'
     have hlk6:lk (cnT (n.cells.map Dat.cells) (n.nb.map Dat.cells) n.limit S).ch 6=some (.row 2 40 []):=by simp [cnT,k3,hSj,lk]
     have ho:∃ p,ai (aq Tryz.prog (cnT (n.cells.map Dat.cells) (n.nb.map Dat.cells) n.limit S).t) (cnT (n.cells.map Dat.cells) (n.nb.map Dat.cells) n.limit S).ch 9 (.app 45 40 2 16 [.int .i64 0,.int .i64 0] (.tmp 6) (.tmp 8))=some ⟨p,.own 6,am (ae [(6,.c .any)] (cnT (n.cells.map Dat.cells) (n.nb.map Dat.cells) n.limit S).ch) 6 (.row 2 40 ([]++n.nb.map Dat.cells)),[(6,.c .any)]⟩∧p:=by
      refine ⟨(([]:List (List C)).length+(n.nb.map Dat.cells).length)*16≤140737488355328∧([]:List (List C)).length+(n.nb.map Dat.cells).length≤9223372036854775807,?_,?_⟩
      · simp [ai,aq,eX,eH,cnA,k3,k5,hSj,hlk6,aU,cN]
      · simp only [List.length_nil,List.length_map]; omega
     obtain ⟨p,ho,hpp⟩:=ho
     refine ⟨_,.yes _ rfl (.f ho hpp),.fzle [6] ⟨fun x=>?_,mm _ _ _ _,?_⟩⟩
     · have hfz:be (am (ae [(6,.c .any)] (cnT (n.cells.map Dat.cells) (n.nb.map Dat.cells) n.limit S).ch) 6 (.row 2 40 ([]++n.nb.map Dat.cells))) [6]=[(6,.c (.sl 2 (n.nb.map Dat.cells)))]:=by
        simp [be,cnT,k3,hSj,ae,am,lk,bw]
       simp only [ce,aw,hfz,iy,fE,eX,eH,cnA,hSj,k3]
       by_cases hx:9=x
       · subst hx; simp [ah,List.lookup]
       · by_cases hx6:6=x
         · subst hx6; simp
         · right; simp [hx,hx6,sL,ah,ah.subCs,List.lookup,gt,lk]
     · have hfz:be (am (ae [(6,.c .any)] (cnT (n.cells.map Dat.cells) (n.nb.map Dat.cells) n.limit S).ch) 6 (.row 2 40 ([]++n.nb.map Dat.cells))) [6]=[(6,.c (.sl 2 (n.nb.map Dat.cells)))]:=by
        simp [be,cnT,k3,hSj,ae,am,lk,bw]
       simp only [ce,aw,hfz]
       simp [cnT,k3,hSj]
       cases hs10:S 10 <;> simp [ae,am,lk,ah,aC,af]
   · refine ⟨⟨_,.ptr 1 2,_,[]⟩,.yes _ rfl (.f (by simp only [ai,aq,eX,eH,cnA,hp',jS,if_true,Nat.reduceEqDiff,if_false] <;> rfl) (by simp)),ka (by simp [cnT]) (fun x=>?_)⟩
     · rw [eX,eX]
       simp only [eH,cnA]
       by_cases hx:10=x
       · subst hx; simp [au]
       · simp [hx]
   · refine ⟨⟨_,.s (.int .i64 n.limit),_,[]⟩,.yes _ rfl (.f (by simp only [ai,aq,eX,eH,cnA,hp',jS,if_true,Nat.reduceEqDiff,if_false] <;> rfl) (by simp)),ka (by simp [cnT]) (fun x=>?_)⟩
     · rw [eX,eX]
       simp only [eH,cnA]
       by_cases hx:11=x
       · subst hx; simp [au]
       · simp [hx]
   · refine ⟨⟨_,.agg [.sl 1 (n.cells.map Dat.cells),.sl 2 (n.nb.map Dat.cells),.s (.int .i64 n.limit)],_,[]⟩,.yes _ rfl (.f (by simp only [ai,aq,eX,eH,cnA,hp',jS,if_true,Nat.reduceEqDiff,if_false] <;> rfl) (by simp [Value.oneCell'])),ka (by simp [cnT]) (fun x=>?_)⟩
     · rw [eX,eX]
       simp only [eH,cnA]
       by_cases hx:12=x
       · subst hx; simp [au]
       · simp [hx]
   · obtain ⟨k0,k1,k2,k3,k4,k5,k6,k7,k8,k9⟩:=hp'
     have hlk2:lk (cnT (n.cells.map Dat.cells) (n.nb.map Dat.cells) n.limit S).ch 2=some (.box [.s (.slice none 0 0),.s (.slice none 0 0),.s (.int .i64 0)]):=by simp [cnT,k3,k6,hSj,lk]
     have ho:∃ p,ai (aq Tryz.prog (cnT (n.cells.map Dat.cells) (n.nb.map Dat.cells) n.limit S).t) (cnT (n.cells.map Dat.cells) (n.nb.map Dat.cells) n.limit S).ch 0 (.store false 3 (.tmp 2) (.tmp 12))=some ⟨p,.s undef,am (cnT (n.cells.map Dat.cells) (n.nb.map Dat.cells) n.limit S).ch 2 (.box [.sl 1 (n.cells.map Dat.cells),.sl 2 (n.nb.map Dat.cells),.s (.int .i64 n.limit)]),[]⟩∧p:=by
      refine ⟨_,by simp only [ai,aq,eX,eH,cnA,k9,hSj,hlk2,if_true,Nat.reduceEqDiff,if_false] <;> rfl,?_⟩
      simp [aj,aQ,aE,Value.oneCell']
     obtain ⟨p,ho,hpp⟩:=ho
     refine ⟨_,.yes _ rfl (.f ho hpp),.of_le ⟨fun x=>?_,mm _ _ _ _,?_⟩⟩
     · simp only [aw,eX,aT]
       right; rw [iy,eF]; simp [cnA]
     · simp [cnT,k3,k6,hSj,aw,am,lk]
 · simp (maxSteps:=4000000) -implicitDefEqProofs only [cnT,cnA,hS,WU,Ent.of0,Ent.of1,Ent.of2,Ent.of3,Ent.of4,V,W3,↓reduceIte,seval,reduceCtorEq]
def ent37 : Ent Tryz.prog:=.of1 37 NwS (fun n=>enc n) (fun n=>by simp [ec,dE,dE.keysIns]) qa
def Awake : Prop:=FC Tryz.prog 21 [] [] (enc true) []
def ent21 (h:Awake):Ent Tryz.prog:=.of0 21 (enc true) trivial h
theorem few_nws {n:Nw} (h:few n=true):NwS n:=by
 simp only [few,Bool.and_eq_true,decide_eq_true_eq,List.all_eq_true] at h
 exact ⟨by omega,by omega,fun x hx=>by have:=h.2 x hx; omega⟩
def kQ : C:=.agg [.s (.int .i64 30),.s (.int .i64 10),.s (.int .i64 2)]
theorem Rule_c : FC Tryz.prog 88 [] [] kQ []:=by
 refine eg is88 (by simp) (fun cx hl=>dB [] 800 ?_)
 delta c88 oO oN oA oM oT oG oR oQ oS oK oF oL
 simp (maxSteps:=4000000) -implicitDefEqProofs only [rv88,kQ,Ent.of0,Ent.of1,Ent.of2,Ent.of3,Ent.of4,V,W3,↓reduceIte,seval,reduceCtorEq]
def ent88 : Ent Tryz.prog:=.of0 88 kQ (by simp [kQ,dE,dE.keysIns]) Rule_c
def fa : Nw:=⟨[⟨#[97]⟩,⟨#[98]⟩,⟨#[99]⟩],[⟨0,1⟩,⟨1,2⟩],100⟩
theorem Net_c : FC Tryz.prog 89 [] [] (enc fa) []:=by
 refine eg is89 (by simp) (fun cx hl=>dB [] 800 ?_)
 delta c89 oO oN oA oM oT oG oR oQ oS oK oF oL
 simp (maxSteps:=4000000) -implicitDefEqProofs only [rv89,ec,fa,List.map_cons,List.map_nil,m9,Ent.of0,Ent.of1,Ent.of2,Ent.of3,Ent.of4,V,W3,↓reduceIte,seval,reduceCtorEq]
def ent89 : Ent Tryz.prog:=.of0 89 (enc fa) (by simp [ec,dE,dE.keysIns]) Net_c
def gB : List T3:=[⟨0,1,0⟩,⟨0,2,0⟩,⟨1,3,0⟩,⟨3,4,1⟩,⟨5,5,0⟩,⟨7,6,0⟩,⟨7,7,0⟩,⟨6,8,0⟩,⟨1,9,0⟩,⟨2,10,0⟩,⟨1,11,0⟩,⟨2,12,0⟩]
theorem Log_c : FC Tryz.prog 90 [] [] (enc gB) []:=by
 refine eg is90 (by simp) (fun cx hl=>dB [] 1200 ?_)
 delta c90 oO oN oA oM oT oG oR oQ oS oK oF oL
 simp (maxSteps:=4000000) -implicitDefEqProofs only [rv90,g9,gB,List.map_cons,List.map_nil,fJ,Ent.of0,Ent.of1,Ent.of2,Ent.of3,Ent.of4,V,W3,↓reduceIte,seval,reduceCtorEq]
def ent90 : Ent Tryz.prog:=.of0 90 (enc gB) trivial Log_c
theorem Lists_c (x y:List (List Int)):FC Tryz.prog 100 [enc x,enc y] [] (enc (decide (x=y))) []:=by
 refine dC [] is100 (by simp) trivial trivial trivial trivial (fun cx _ hl _=>dB [mu] 800 ?_)
 simp only [V,W3,↓reduceIte,seval,reduceCtorEq] at hl
 have hlx:=hl.1.list
 generalize hB:decide (x=y)=B
 by_cases h1:x.length=y.length
 rotate_left
 · have h1':¬ (x.length:Int)=y.length:=by omega
   have hb:B=false:=by rw [← hB]; exact decide_eq_false fun e=>h1 (by rw [e])
   delta c100 oO oN oA oM oT oG oR oQ oS oK oF oL
   simp (maxSteps:=4000000) -implicitDefEqProofs only [rv100,h1',hb,WU,Ent.of0,Ent.of1,Ent.of2,Ent.of3,Ent.of4,V,W3,↓reduceIte,seval,reduceCtorEq]
 have h1':(x.length:Int)=y.length:=by omega
 delta c100 oO oN oA oM oT oG oR oQ oS oK oF oL
 simp (maxSteps:=4000000) -implicitDefEqProofs only [rv100,h1',not_true_eq_false,WU,Ent.of0,Ent.of1,Ent.of2,Ent.of3,Ent.of4,V,W3,↓reduceIte,seval,reduceCtorEq]
 refine eM x.length (fun i=>[(5,.s (.int .i64 (i:Int)))]) (fun _=>[]) (fun i=>B=decide (x.drop i=y.drop i)) (by rw [← hB]; rfl) ?_ (fun i hi hv=>dB [mu] 800 ?_)
 · simp (maxSteps:=4000000) -implicitDefEqProofs only [Ent.of0,Ent.of1,Ent.of2,Ent.of3,Ent.of4,V,W3,↓reduceIte,seval,reduceCtorEq]
   all_goals simp
 · by_cases h:i < x.length
   · have hi2:(i:Int) < (x.length:Int):=by omega
     have hi3:(i:Int) < (y.length:Int):=by omega
     have h':i < y.length:=by omega
     have hi0:(0:Int)≤i:=by omega
     rw [ee [] h,ee [] h'] at hv
     have hgx:List.getD (x.map Dat.cells) i [C.sl 0 []]=[C.sl 1 ((x.getD i []).map Dat.cells)]:=by
      rw [List.getD_eq_getElem?_getD,List.getD_eq_getElem?_getD,List.getElem?_map,List.getElem?_eq_getElem h]; rfl
     have hgy:List.getD (y.map Dat.cells) i [C.sl 0 []]=[C.sl 1 ((y.getD i []).map Dat.cells)]:=by
      rw [List.getD_eq_getElem?_getD,List.getD_eq_getElem?_getD,List.getElem?_map,List.getElem?_eq_getElem h']; rfl
     have hxl:i < x.length:=h
     have hok:(-9223372036854775808≤(i:Int)+1∧(i:Int)+1≤9223372036854775807):=by omega
     generalize x.getD i []=p at *
     generalize y.getD i []=q at *
     cases hx:decide (p=q)
     all_goals
      delta qL oO oN oA oM oT oG oR oQ oS oK oF oL
      simp (maxSteps:=4000000) -implicitDefEqProofs only [mu,hi0,hi2,hi3,h,h',hgx,hgy,hx,InR,WU,Ent.of0,Ent.of1,Ent.of2,Ent.of3,Ent.of4,V,W3,↓reduceIte,seval,reduceCtorEq]
      have hx2:=hx
      simp only [decide_eq_true_eq,decide_eq_false_iff_not] at hx2
      first
       | exact ⟨hok,by rw [hv,hx2]; simp,by omega⟩
       | (rw [hv]; exact (decide_eq_false (fun e=>hx2 (List.cons.inj e).1)).symm)
   · have hi2:¬ (i:Int) < (x.length:Int):=by omega
     rw [List.drop_eq_nil_of_le (by omega),List.drop_eq_nil_of_le (by omega)] at hv
     delta qL oO oN oA oM oT oG oR oQ oS oK oF oL
     simp (maxSteps:=4000000) -implicitDefEqProofs only [mu,hi2,WU,Ent.of0,Ent.of1,Ent.of2,Ent.of3,Ent.of4,V,W3,↓reduceIte,seval,reduceCtorEq]
     try simp [hv]
def ub : Ent Tryz.prog:=.of2 100 (fun _ _=>True) (fun x y:List (List Int)=>enc (decide (x=y))) (fun _ _=>trivial) (fun x y _=>Lists_c x y)
structure Ms where
 at_:Int
 phase:Int
 since:Int
 serving:Int
 target:Int
 source:Int
 path:Int
 fresh:Int
 got:Int
 buf:List (List Int)
 deriving DecidableEq
instance : DatL Ms where
 sz:=10
 agg:=true
 cells m:=[.s (.int .i64 m.at_),.s (.int .i64 m.phase),.s (.int .i64 m.since),.s (.int .i64 m.serving),.s (.int .i64 m.target),.s (.int .i64 m.source),.s (.int .i64 m.path),.s (.int .i64 m.fresh),.s (.int .i64 m.got),.sl 1 (m.buf.map Dat.cells)]
 dec | [.s (.int .i64 a),.s (.int .i64 b),.s (.int .i64 c),.s (.int .i64 d),.s (.int .i64 e),.s (.int .i64 f),.s (.int .i64 g),.s (.int .i64 h),.s (.int .i64 i),.sl 1 r]=>(fg r).map fun r'=>⟨a,b,c,d,e,f,g,h,i,r'⟩ | _=>none
 ok:=by
  intro l a h
  split at h
  · simp only [Option.map_eq_some_iff] at h
    obtain ⟨t',h1,rfl⟩:=h
    rw [gi h1]
  · cases h
 decN | [.s (.int .i64 a),.s (.int .i64 b),.s (.int .i64 c),.s (.int .i64 d),.s (.int .i64 e),.s (.int .i64 f),.s (.int .i64 g),.s (.int .i64 h),.s (.int .i64 i),.s (.slice none 0 0)]=>some ⟨a,b,c,d,e,f,g,h,i,[]⟩ | _=>none
 okN:=by
  intro l a h
  split at h
  · cases h; simp [br,ca]
  · cases h
 data:=fun a=>rfl
 one:=fun h=>by cases h
 dec_cells:=fun a=>by simp [fm]
theorem kM (m:Ms):enc m=.agg [.s (.int .i64 m.at_),.s (.int .i64 m.phase),.s (.int .i64 m.since),.s (.int .i64 m.serving),.s (.int .i64 m.target),.s (.int .i64 m.source),.s (.int .i64 m.path),.s (.int .i64 m.fresh),.s (.int .i64 m.got),.sl 1 (m.buf.map Dat.cells)]:=rfl
theorem ms_eq (a b:Ms):decide (a=b)=(decide (a.at_=b.at_) && (decide (a.phase=b.phase) && (decide (a.since=b.since) && (decide (a.serving=b.serving) && (decide (a.target=b.target) && (decide (a.source=b.source) && (decide (a.path=b.path) && (decide (a.fresh=b.fresh) && (decide (a.got=b.got) && decide (a.buf=b.buf)))))))))):=by
 rw [Bool.eq_iff_iff]
 cases a; cases b
 simp
theorem Same_c (a b:Ms):FC Tryz.prog 41 [enc a,enc b] [] (enc (decide (a=b))) []:=by
 refine dC [] is41 (by simp) trivial trivial trivial trivial (fun cx _ hl _=>dB [ub] 1500 ?_)
 rw [ms_eq]
 delta c41 oO oN oA oM oT oG oR oQ oS oK oF oL
 simp (maxSteps:=4000000) -implicitDefEqProofs only [rv41,ub,kM,WU,Ent.of0,Ent.of1,Ent.of2,Ent.of3,Ent.of4,V,W3,↓reduceIte,seval,reduceCtorEq]
 repeat' split
 all_goals simp_all
def ent41 : Ent Tryz.prog:=.of2 41 (fun _ _=>True) (fun a b:Ms=>enc (decide (a=b))) (fun _ _=>trivial) (fun a b _=>Same_c a b)
def fi : List (List Int)→Int
 | []=>0
 | r :: l=>(r.length:Int)+fi l
theorem sH : ∀ l,0≤fi l
 | []=>by simp [fi]
 | r :: l=>by have:=sH l; rw [fi]; omega
def ei (m:Ms):Bool:=decide (m.phase=2) || decide (m.phase=3)
def dP (m:Ms) (c:Int):List Int:=m.buf.getD c.toNat []
def iM (k:Int):Bool:=decide (k=3) || decide (k=10)
def evE (n:Nw) (e:T3):Int:=
 if decide (0≤e.x∧e.x≤11)=false then 15 else if eL e.y=false then 2 else if iM e.x=true then (if isC n e.z=true then 0 else 6) else if e.z=0 then 0 else 3
def fZ : List Int→Int→List Int
 | [],n=>[n]
 | x :: l,n=>if x < n then x :: fZ l n else n :: x :: l
def frm (l:List Int) (g:Int):List Int:=l.filter fun x=>decide (g≤x)
def mrg (bs:List (List Int)):List Int:=bs.flatten.foldl fZ []
def iO (m:Ms) (c t:Int):Ms:={ m with phase:=0,since:=t,serving:=c,path:=c,target:=-1,source:=-1,buf:=(m.buf.map fun _=>[]).set c.toNat (frm (mrg m.buf) m.got) }
def jI (n:Nw) (m:Ms) (t:Int):Bool:=ei m && decide (m.since+n.limit≤t)
def qu (n:Nw) (m:Ms) (t:Int):Ms:=if jI n m t=true then iO m 0 (m.since+n.limit) else m
def lA (n:Nw) (m:Ms) (t:Int):Ms:={ qu n m t with at_:=t }
def fT (m:Ms):Bool:=decide (m.source≠-1) && decide (m.path=m.serving) && (dP m m.source).isEmpty
def settle (m:Ms):Ms:=if fT m=true then { m with source:=-1 } else m
def dV (m:Ms):Int:=if m.phase=2 then m.serving else m.source
def toC (m:Ms):Int:=if m.phase=2 then m.target else m.serving
def ez (n:Nw) (m:Ms) (e:T3):Int:=
 if e.x=0 then (if 60≤fi m.buf∨1000000≤m.fresh then 16 else 0)
 else if e.x=1 then (if ei m=true then 22 else if dP m m.serving=[] then 12 else if m.got < (dP m m.serving).headD 0 then 14 else 0)
 else if e.x=2 then (if ei m=true then 22 else 0)
 else if e.x=3 then (if m.phase≠0 then 22 else if m.source≠-1 then 17 else if nbr n e.z m.serving=true then 0 else 6)
 else if e.x=4 then (if m.phase≠1 then 22 else 0)
 else if e.x=5 then (if m.phase≠1 then 22 else 0)
 else if e.x=6 then (if m.phase≠2 then 22 else 0)
 else if e.x=7 then (if m.phase≠2∧(m.phase≠0∨m.source=-1) then 22 else if dP m (dV m)=[] then 12 else 0)
 else if e.x=8 then (if m.source=-1 then 12 else if m.phase=3 then 22 else if m.path=m.serving then 26 else 0)
 else if e.x=9 then (if m.phase=3 then 22 else 0)
 else if e.x=10 then (if m.phase≠3 then 22 else if e.z≠m.serving∧(m.target=-1∨e.z≠m.target)∧(m.source=-1∨e.z≠m.source) then 6 else 0)
 else 0
def eJ (m:Ms) (e:T3):Ms:=
 if e.x=0 then { m with buf:=m.buf.set m.path.toNat (dP m m.path++[m.fresh]),fresh:=m.fresh+1 }
 else if e.x=1 then (if (dP m m.serving).headD 0=m.got then { m with got:=m.got+1 } else m)
 else if e.x=2 then { m with buf:=m.buf.set m.serving.toNat (frm (dP m m.serving) m.got) }
 else if e.x=3 then { m with phase:=1,since:=e.y,target:=e.z }
 else if e.x=4 then { m with phase:=0,since:=e.y,target:=-1 }
 else if e.x=5 then { m with phase:=2,since:=e.y }
 else if e.x=6 then { m with phase:=0,since:=e.y,source:=m.serving,serving:=m.target,target:=-1 }
 else if e.x=7 then { m with buf:=(m.buf.set (toC m).toNat (fZ (dP m (toC m)) ((dP m (dV m)).headD 0))).set (dV m).toNat (dP m (dV m)).tail }
 else if e.x=8 then { m with path:=m.serving }
 else if e.x=9 then { m with since:=if m.phase=2 then m.since else e.y,phase:=3 }
 else m
def kb (m:Ms) (e:T3):Ms:=if e.x=10 then iO m e.z e.y else settle (eJ m e)
def ms0 : Ms:=⟨0,0,0,0,0,0,0,0,0,[]⟩
def qB (n:Nw) (m:Ms) (e:T3):Int:=if e.y < m.at_ then 9 else ez n (lA n m e.y) e
def gh (n:Nw) (m:Ms) (e:T3):Int:=if evE n e≠0 then evE n e else qB n m e
def qI (n:Nw) (m:Ms) (e:T3):Ms:=kb (lA n m e.y) e
def eQ (n:Nw) (c:Int):Ms:=⟨0,0,0,c,-1,-1,c,0,0,n.cells.map fun _=>[]⟩
theorem ki : ∀ (l:List Int) (n:Int),(fZ l n).Perm (n :: l)
 | [],n=>.refl _
 | x :: l,n=>by
  rw [fZ]
  split
  · exact ((ki l n).cons x).trans (.swap n x l)
  · exact .refl _
theorem kA : ∀ (l:List Int) (n:Int),l.Pairwise (·≤·)→(fZ l n).Pairwise (·≤·)
 | [],n,_=>by simp [fZ]
 | x :: l,n,h=>by
  rw [List.pairwise_cons] at h
  rw [fZ]
  split
  · rename_i hx
    rw [List.pairwise_cons]
    refine ⟨fun y hy=>?_,kA l n h.2⟩
    rcases List.mem_cons.1 ((ki l n).mem_iff.1 hy) with rfl | hy
    · omega
    · exact h.1 y hy
  · rename_i hx
    rw [List.pairwise_cons]
    refine ⟨fun y hy=>?_,List.pairwise_cons.2 h⟩
    rcases List.mem_cons.1 hy with rfl | hy
    · omega
    · have:=h.1 y hy; omega
theorem l0 : ∀ (l acc:List Int),(l.foldl fZ acc).Perm (acc++l)
 | [],acc=>by simp
 | x :: l,acc=>by
  rw [List.foldl_cons]
  refine (l0 l _).trans (((ki acc x).append_right l).trans ?_)
  simpa using (List.perm_middle (a:=x) (l₁:=acc) (l₂:=l)).symm
theorem kO : ∀ (l acc:List Int),acc.Pairwise (·≤·)→(l.foldl fZ acc).Pairwise (·≤·)
 | [],acc,h=>h
 | x :: l,acc,h=>kO l _ (kA acc x h)
theorem lw (bs:List (List Int)):(mrg bs).Perm bs.flatten:=by simpa [mrg] using l0 bs.flatten []
theorem ou (bs:List (List Int)):(mrg bs).Pairwise (·≤·):=kO _ [] .nil
theorem p6 {l:List Int} (h:l.Pairwise (·≤·)) (hn:l.Nodup):l.Pairwise (· < ·):=by
 refine (h.and hn).imp ?_
 intro a b ⟨h1,h2⟩; omega
theorem rJ {l:List Int} (h:l.Pairwise (· < ·)):l.Nodup:=by
 refine h.imp ?_
 intro a b h1 h2; omega
theorem p5 {l:List Int} (h:l.Pairwise (· < ·)):l.Pairwise (·≤·):=by
 refine h.imp ?_
 intro a b h1; omega
theorem fS : ∀ (bs:List (List Int)) (i:Nat),i < bs.length→bs.flatten.Perm (bs.getD i []++(bs.set i []).flatten)
 | [],i,h=>by simp at h
 | b :: bs,0,_=>by simp
 | b :: bs,i+1,h=>by
  have ih:=fS bs i (by simpa using h)
  simp only [List.flatten_cons,List.getD_cons_succ,List.set_cons_succ]
  refine (ih.append_left b).trans ?_
  rw [← List.append_assoc,← List.append_assoc]
  exact List.perm_append_comm.append_right _
theorem jX (bs:List (List Int)) (i:Nat) (l:List Int) (h:i < bs.length):(bs.set i l).flatten.Perm (l++(bs.set i []).flatten):=by
 have:=fS (bs.set i l) i (by simpa using h)
 rwa [List.set_set,List.getD_eq_getElem?_getD,List.getElem?_set_self h,Option.getD_some] at this
theorem vQ (bs:List (List Int)):(bs.map fun _=>([]:List Int)).flatten=[]:=by
 induction bs with
 | nil=>rfl
 | cons b bs ih=>simpa using ih
theorem nq : ∀ bs:List (List Int),fi bs=(bs.flatten.length:Int)
 | []=>by simp [fi]
 | b :: bs=>by rw [fi,nq bs,List.flatten_cons,List.length_append]; push_cast; rfl
theorem sC {l:List Int} {g x:Int}:x∈frm l g↔x∈l∧g≤x:=by simp [frm]
theorem fy (bs:List (List Int)) (i j:Nat) (l:List Int):(bs.set i l).getD j []=if i=j∧j < bs.length then l else bs.getD j []:=by
 rw [List.getD_eq_getElem?_getD,List.getD_eq_getElem?_getD,List.getElem?_set]
 by_cases h:i=j
 · subst h
   by_cases h2:i < bs.length
   · simp [h2]
   · simp [h2]
 · simp [h]
structure G0 (n:Nw) (m:Ms):Prop where
 len:m.buf.length=n.cells.length
 phase:0≤m.phase∧m.phase≤3
 at_:0≤m.at_∧m.at_≤1000000000
 since:0≤m.since∧m.since≤m.at_
 fresh:0≤m.fresh∧m.fresh≤1000000
 got:0≤m.got∧m.got≤m.fresh
 srv:isC n m.serving=true
 pth:isC n m.path=true
 tgt:m.target≠-1→isC n m.target=true
 src:m.source≠-1→isC n m.source=true
 f1:m.target≠-1→m.phase≠0
 f2:m.target=-1→m.phase≠1∧m.phase≠2
 f3:m.source≠-1→m.phase≠1∧m.phase≠2∧m.target=-1
 f4:m.path≠m.serving→m.source≠-1∧m.path=m.source
 c1:m.target≠-1→nbr n m.target m.serving=true
 c2:m.source≠-1→nbr n m.source m.serving=true
 due:ei m=true→m.at_ < m.since+n.limit
 large:m.buf.flatten.length≤60
 rng:∀ x∈m.buf.flatten,0≤x∧x < m.fresh
 asc:∀ b∈m.buf,b.Pairwise (· < ·)
 nd:m.buf.flatten.Nodup
 opn:∀ i:Nat,m.buf.getD i []≠[]→(i:Int)=m.serving∨(i:Int)=m.source∨(ei m=true∧(i:Int)=m.target)
 gap:∀ x,m.got≤x→x < m.fresh→x∈m.buf.flatten
structure dO (n:Nw) (m:Ms):Prop extends G0 n m where
 busy:m.source≠-1→m.path=m.serving→dP m m.source≠[]
structure NetOk (n:Nw):Prop where
 len:0 < n.cells.length∧n.cells.length≤6
 ne:∀ a b,nbr n a b=true→a≠b
 lim:1≤n.limit∧n.limit≤100000
theorem fR {n:Nw} {c:Int} (h:isC n c=true):0≤c∧c.toNat < n.cells.length∧(c.toNat:Int)=c:=by
 simp only [isC,decide_eq_true_eq] at h; omega
theorem G0.ix {n:Nw} {m:Ms} (g:G0 n m) {c:Int} (h:isC n c=true):c.toNat < m.buf.length:=by
 have:=fR h; have:=g.len; omega
theorem dO.begin {n:Nw} (hn:NetOk n) {c:Int} (hc:isC n c=true):dO n (eQ n c):=by
 have hf:(eQ n c).buf.flatten=[]:=by
  show (n.cells.map fun _=>([]:List Int)).flatten=[]
  induction n.cells with
  | nil=>rfl
  | cons b bs ih=>simpa using ih
 have hg:∀ i:Nat,(eQ n c).buf.getD i []=[]:=fun i=>by
  show (n.cells.map fun _=>([]:List Int)).getD i []=[]
  rw [List.getD_eq_getElem?_getD,List.getElem?_map]
  cases n.cells[i]? <;> rfl
 refine ⟨⟨by simp [eQ],by simp [eQ],by simp [eQ],by simp [eQ],by simp [eQ],by simp [eQ],hc,hc,fun h=>absurd rfl h,fun h=>absurd rfl h,fun h=>absurd rfl h,fun _=>by simp [eQ],fun h=>absurd rfl h,fun h=>absurd rfl h,fun h=>absurd rfl h,fun h=>absurd rfl h,fun h=>by simp [ei,eQ] at h,?_,?_,?_,?_,?_,?_⟩,fun h=>absurd rfl h⟩
 · rw [hf]; simp
 · rw [hf]; simp
 · intro b hb
   simp only [eQ,List.mem_map] at hb
   obtain ⟨_,_,rfl⟩:=hb
   exact .nil
 · rw [hf]; simp
 · intro i h; exact absurd (hg i) h
 · intro x h1 h2; simp [eQ] at h1 h2; omega
theorem dO.conn {n:Nw} {m:Ms} (g:dO n m) {c t u:Int} (hc:isC n c=true) (ht:0≤t∧t≤u) (hu:u≤1000000000):dO n { iO m c t with at_:=u }:=by
 have hN:(frm (mrg m.buf) m.got).Nodup:=((lw m.buf).nodup_iff.2 g.nd).filter _
 have hS:(frm (mrg m.buf) m.got).Pairwise (· < ·):=p6 ((ou m.buf).filter _) hN
 have hM:∀ x,x∈frm (mrg m.buf) m.got↔x∈m.buf.flatten∧m.got≤x:=fun x=>by rw [sC,(lw m.buf).mem_iff]
 have hi:c.toNat < (m.buf.map fun _=>([]:List Int)).length:=by rw [List.length_map]; exact g.ix hc
 have hF:((m.buf.map fun _=>([]:List Int)).set c.toNat (frm (mrg m.buf) m.got)).flatten.Perm (frm (mrg m.buf) m.got):=by
  have h1:=jX (m.buf.map fun _=>([]:List Int)) c.toNat (frm (mrg m.buf) m.got) hi
  have h2:((m.buf.map fun _=>([]:List Int)).set c.toNat [])=m.buf.map fun _=>([]:List Int):=by
   apply List.ext_getElem?
   intro j
   rw [List.getElem?_set]
   split
   · rename_i e; subst e
     first | rw [if_pos hi] | skip
     rw [List.getElem?_eq_getElem hi]
     simp
   · rfl
  rw [h2,vQ,List.append_nil] at h1
  exact h1
 have hL:(frm (mrg m.buf) m.got).length≤m.buf.flatten.length:=by
  rw [← (lw m.buf).length_eq]; exact List.length_filter_le _ _
 refine ⟨⟨by simp [iO,g.len],by simp [iO],⟨by show (0:Int)≤u; omega,hu⟩,ht,g.fresh,g.got,hc,hc,fun h=>absurd rfl h,fun h=>absurd rfl h,fun h=>absurd rfl h,fun _=>by simp [iO],fun h=>absurd rfl h,fun h=>absurd rfl h,fun h=>absurd rfl h,fun h=>absurd rfl h,fun h=>by simp [ei,iO] at h,?_,?_,?_,?_,?_,?_⟩,fun h=>absurd rfl h⟩
 · show ((m.buf.map fun _=>([]:List Int)).set c.toNat (frm (mrg m.buf) m.got)).flatten.length≤60
   rw [hF.length_eq]; have:=g.large; omega
 · intro x hx
   exact g.rng x ((hM x).1 (hF.mem_iff.1 hx)).1
 · intro b hb
   rcases List.mem_or_eq_of_mem_set hb with h | rfl
   · simp only [List.mem_map] at h
     obtain ⟨_,_,rfl⟩:=h
     exact .nil
   · exact hS
 · exact hF.nodup_iff.2 hN
 · intro i h
   refine .inl ?_
   have h':((m.buf.map fun _=>([]:List Int)).set c.toNat (frm (mrg m.buf) m.got)).getD i []≠[]:=h
   rw [fy] at h'
   split at h'
   · rename_i e
     have:=fR hc
     show (i:Int)=c
     omega
   · refine absurd ?_ h'
     rw [List.getD_eq_getElem?_getD,List.getElem?_map]
     cases m.buf[i]? <;> rfl
 · intro x h1 h2
   exact hF.mem_iff.2 ((hM x).2 ⟨g.gap x h1 h2,h1⟩)
theorem dO.pass {n:Nw} {m:Ms} (hn:NetOk n) (g:dO n m) {t:Int} (h1:m.at_≤t) (h2:t≤1000000000):dO n (lA n m t):=by
 unfold lA qu
 by_cases h:jI n m t=true
 · rw [if_pos h]
   simp only [jI,Bool.and_eq_true,decide_eq_true_eq] at h
   have hl:=hn.lim
   have hs:=g.since
   exact g.conn (by simp only [isC,decide_eq_true_eq]; have:=hn.len; omega) (by omega) h2
 · rw [if_neg h]
   refine { g with at_:=⟨?_,h2⟩,since:=⟨g.since.1,?_⟩,due:=fun ha=>?_ }
   · have:=g.at_; show (0:Int)≤t; omega
   · have:=g.since; show m.since≤t; omega
   · show t < m.since+n.limit
     have ha':ei m=true:=ha
     simp only [jI,ha',Bool.true_and,decide_eq_true_eq] at h
     omega
theorem G0.settle {n:Nw} {m:Ms} (g:G0 n m):dO n (settle m):=by
 unfold Go.Proofs.YtcbabnbiinkafaaGreatDoor.settle
 by_cases h:fT m=true
 · rw [if_pos h]
   simp only [fT,Bool.and_eq_true,decide_eq_true_eq,List.isEmpty_iff] at h
   obtain ⟨⟨h1,h2⟩,h3⟩:=h
   refine { toG0:={ g with src:=fun h=>absurd rfl h,f3:=fun h=>absurd rfl h,f4:=fun h=>absurd h2 h,c2:=fun h=>absurd rfl h,opn:=fun i hi=>?_ },busy:=fun h=>absurd rfl h }
   rcases g.opn i hi with q | q | q
   · exact .inl q
   · exfalso
     apply hi
     have:m.source.toNat=i:=by omega
     show m.buf.getD i []=[]
     rw [← this]; exact h3
   · exact .inr (.inr q)
 · rw [if_neg h]
   refine { toG0:=g,busy:=fun h1 h2 h3=>h ?_ }
   simp only [fT,Bool.and_eq_true,decide_eq_true_eq,List.isEmpty_iff]
   exact ⟨⟨h1,h2⟩,h3⟩
theorem wi (n:Nw) (a b:Int):nbr n a b=nbr n b a:=by
 unfold nbr; rw [Int.min_comm,Int.max_comm]
theorem G0.mem_flat {n:Nw} {m:Ms} (g:G0 n m) {i:Nat} {x:Int} (h:x∈m.buf.getD i []):x∈m.buf.flatten:=by
 rcases Nat.lt_or_ge i m.buf.length with hi | hi
 · exact (fS m.buf i hi).mem_iff.2 (List.mem_append_left _ h)
 · rw [List.getD_eq_getElem?_getD,List.getElem?_eq_none hi] at h; simp at h
theorem G0.asc_at {n:Nw} {m:Ms} (g:G0 n m) (i:Nat):(m.buf.getD i []).Pairwise (· < ·):=by
 rcases Nat.lt_or_ge i m.buf.length with hi | hi
 · rw [List.getD_eq_getElem?_getD,List.getElem?_eq_getElem hi]
   exact g.asc _ (List.getElem_mem hi)
 · rw [List.getD_eq_getElem?_getD,List.getElem?_eq_none hi]; exact .nil
theorem ml {bs:List (List Int)} {i:Nat} {l:List Int} (h:∀ b∈bs,b.Pairwise (· < ·)) (hl:l.Pairwise (· < ·)):∀ b∈bs.set i l,b.Pairwise (· < ·):=fun b hb=>by
 rcases List.mem_or_eq_of_mem_set hb with q | rfl
 · exact h b q
 · exact hl
theorem G0.act {n:Nw} {m:Ms} {e:T3} (hn:NetOk n) (g:G0 n m) (he:evE n e=0) (hat:e.y=m.at_) (hd:ez n m e=0) (h10:e.x≠10):G0 n (eJ m e):=by
 have hx:0≤e.x∧e.x≤11:=by
  rcases Classical.em (0≤e.x∧e.x≤11) with h | h
  · exact h
  · rw [evE,if_pos (by simpa using h)] at he; cases he
 have hc:e.x=3→isC n e.z=true:=fun h=>by
  rw [evE,if_neg (by simpa using hx)] at he
  split at he
  · cases he
  · rw [if_pos (by simp [iM,h])] at he
    rcases Classical.em (isC n e.z=true) with q | q
    · exact q
    · rw [if_neg q] at he; cases he
 have hs0:=fR g.srv
 have hp0:=fR g.pth
 have hlen:=g.len
 have k:e.x=0∨e.x=1∨e.x=2∨e.x=3∨e.x=4∨e.x=5∨e.x=6∨e.x=7∨e.x=8∨e.x=9∨e.x=11:=by omega
 unfold eJ
 unfold ez at hd
 rcases k with k | k | k | k | k | k | k | k | k | k | k <;> rw [k] at hd ⊢ <;> simp only [Int.reduceEq,if_true,if_false] at hd ⊢
 ·
  have hlt:¬ (60≤fi m.buf∨1000000≤m.fresh):=fun h=>by rw [if_pos h] at hd; cases hd
  rw [nq] at hlt
  have hi:=g.ix g.pth
  have hF:(m.buf.set m.path.toNat (dP m m.path++[m.fresh])).flatten.Perm (m.fresh :: m.buf.flatten):=by
   refine (jX _ _ _ hi).trans ?_
   refine List.Perm.trans ?_ ((fS m.buf _ hi).symm.cons _)
   rw [List.append_assoc]
   exact List.perm_middle
  have hnm:m.fresh∉m.buf.flatten:=fun h=>by have:=g.rng _ h; omega
  have hfr:=g.fresh
  have hgt:=g.got
  refine { g with len:=by simpa using hlen,fresh:=⟨?_,?_⟩,got:=⟨hgt.1,?_⟩,large:=?_,rng:=fun x hx=>?_,asc:=ml g.asc ?_,nd:=hF.nodup_iff.2 (List.nodup_cons.2 ⟨hnm,g.nd⟩),opn:=fun i hi2=>?_,gap:=fun x h1 h2=>?_ }
  · show 0≤m.fresh+1; omega
  · show m.fresh+1≤1000000; omega
  · show m.got≤m.fresh+1; omega
  · rw [hF.length_eq,List.length_cons]; omega
  · show 0≤x∧x < m.fresh+1
    rcases List.mem_cons.1 (hF.mem_iff.1 hx) with rfl | hx
    · omega
    · have:=g.rng x hx; omega
  · rw [List.pairwise_append]
    refine ⟨g.asc_at _,by simp,fun a ha b hb=>?_⟩
    simp only [List.mem_singleton] at hb
    subst hb
    exact (g.rng a (g.mem_flat ha)).2
  · have hi2':(m.buf.set m.path.toNat (dP m m.path++[m.fresh])).getD i []≠[]:=hi2
    rw [fy] at hi2'
    split at hi2'
    · rename_i q
      by_cases hps:m.path=m.serving
      · exact .inl (by show (i:Int)=m.serving; omega)
      · exact .inr (.inl (by have:=(g.f4 hps).2; show (i:Int)=m.source; omega))
    · exact g.opn i hi2'
  · refine hF.mem_iff.2 (List.mem_cons.2 ?_)
    have h2':x < m.fresh+1:=h2
    rcases Int.lt_or_eq_of_le (Int.le_of_lt_add_one h2') with q | q
    · exact .inr (g.gap x h1 q)
    · exact .inl q
 ·
  split
  · rename_i hgot
    have hne:dP m m.serving≠[]:=fun h=>by
     rw [h] at hd
     simp at hd
     split at hd <;> cases hd
    have hmem:m.got∈m.buf.flatten:=by
     refine g.mem_flat (i:=m.serving.toNat) ?_
     show m.got∈dP m m.serving
     rw [← hgot]
     cases hb:dP m m.serving with
     | nil=>exact absurd hb hne
     | cons a l=>simp
    have:=g.rng _ hmem
    have hgt:=g.got
    refine { g with got:=⟨?_,?_⟩,gap:=fun x h1 h2=>g.gap x ?_ h2 }
    · show 0≤m.got+1; omega
    · show m.got+1≤m.fresh; omega
    · have:m.got+1≤x:=h1
      omega
  · exact g
 ·
  have hi:=g.ix g.srv
  have hF:=jX m.buf m.serving.toNat (frm (dP m m.serving) m.got) hi
  have hG:=fS m.buf m.serving.toNat hi
  have hsub:(frm (dP m m.serving) m.got++(m.buf.set m.serving.toNat []).flatten).Sublist (m.buf.getD m.serving.toNat []++(m.buf.set m.serving.toNat []).flatten):=List.filter_sublist.append_right _
  refine { g with len:=by simpa using hlen,large:=?_,rng:=fun x hx=>?_,asc:=ml g.asc ((g.asc_at _).filter _),nd:=hF.nodup_iff.2 (hsub.nodup (hG.nodup_iff.1 g.nd)),opn:=fun i hi2=>?_,gap:=fun x h1 h2=>?_ }
  · rw [hF.length_eq]
    have:=hsub.length_le
    rw [← hG.length_eq] at this
    have:=g.large; omega
  · exact g.rng x (hG.mem_iff.2 (hsub.subset (hF.mem_iff.1 hx)))
  · have hi2':(m.buf.set m.serving.toNat (frm (dP m m.serving) m.got)).getD i []≠[]:=hi2
    rw [fy] at hi2'
    split at hi2'
    · rename_i q
      exact .inl (by show (i:Int)=m.serving; omega)
    · exact g.opn i hi2'
  · refine hF.mem_iff.2 ?_
    have:=hG.mem_iff.1 (g.gap x h1 h2)
    rw [List.mem_append] at this ⊢
    rcases this with q | q
    · exact .inl (sC.2 ⟨q,h1⟩)
    · exact .inr q
 ·
  have h0:m.phase=0:=by
   rcases Classical.em (m.phase=0) with q | q
   · exact q
   · rw [if_pos q] at hd; cases hd
  rw [if_neg (by simp [h0])] at hd
  have hs:m.source=-1:=by
   rcases Classical.em (m.source=-1) with q | q
   · exact q
   · rw [if_pos q] at hd; cases hd
  rw [if_neg (by simp [hs])] at hd
  have hnb:nbr n e.z m.serving=true:=by
   rcases Classical.em (nbr n e.z m.serving=true) with q | q
   · exact q
   · rw [if_neg q] at hd; cases hd
  have ha:ei m=false:=by simp [ei,h0]
  have hat2:=g.at_
  have hcz:=hc k
  have hz:=fR hcz
  refine { g with phase:=by simp,since:=⟨?_,?_⟩,tgt:=fun _=>hcz,f1:=fun _=>by simp,f2:=fun h=>?_,f3:=fun h=>absurd hs h,c1:=fun _=>hnb,due:=fun h=>by simp [ei] at h,opn:=fun i hi=>?_ }
  · show 0≤e.y; omega
  · show e.y≤m.at_; omega
  · exfalso
    have:e.z=-1:=h
    omega
  · rcases g.opn i hi with q | q | q
    · exact .inl q
    · exact .inr (.inl q)
    · rw [ha] at q; cases q.1
 ·
  have h1:m.phase=1:=by
   rcases Classical.em (m.phase=1) with q | q
   · exact q
   · rw [if_pos q] at hd; cases hd
  have ha:ei m=false:=by simp [ei,h1]
  have hat2:=g.at_
  have hsn:m.source=-1:=by
   rcases Classical.em (m.source=-1) with q | q
   · exact q
   · exact absurd h1 (g.f3 q).1
  refine { g with phase:=by simp,since:=⟨?_,?_⟩,tgt:=fun h=>absurd rfl h,f1:=fun h=>absurd rfl h,f2:=fun _=>by simp,f3:=fun h=>absurd hsn h,c1:=fun h=>absurd rfl h,due:=fun h=>by simp [ei] at h,opn:=fun i hi=>?_ }
  · show 0≤e.y; omega
  · show e.y≤m.at_; omega
  · rcases g.opn i hi with q | q | q
    · exact .inl q
    · exact .inr (.inl q)
    · rw [ha] at q; cases q.1
 ·
  have h1:m.phase=1:=by
   rcases Classical.em (m.phase=1) with q | q
   · exact q
   · rw [if_pos q] at hd; cases hd
  have ha:ei m=false:=by simp [ei,h1]
  have hat2:=g.at_
  have hl:=hn.lim
  have hsn:m.source=-1:=by
   rcases Classical.em (m.source=-1) with q | q
   · exact q
   · exact absurd h1 (g.f3 q).1
  have htn:m.target≠-1:=fun h=>(g.f2 h).1 h1
  refine { g with phase:=by simp,since:=⟨?_,?_⟩,f1:=fun h=>by simp,f2:=fun h=>absurd h htn,f3:=fun h=>absurd hsn h,due:=fun h=>?_,opn:=fun i hi=>?_ }
  · show 0≤e.y; omega
  · show e.y≤m.at_; omega
  · show m.at_ < e.y+n.limit; omega
  · rcases g.opn i hi with q | q | q
    · exact .inl q
    · exact .inr (.inl q)
    · rw [ha] at q; cases q.1
 ·
  have h2:m.phase=2:=by
   rcases Classical.em (m.phase=2) with q | q
   · exact q
   · rw [if_pos q] at hd; cases hd
  have hat2:=g.at_
  have htn:m.target≠-1:=fun h=>(g.f2 h).2 h2
  have hsn:m.source=-1:=by
   rcases Classical.em (m.source=-1) with q | q
   · exact q
   · exact absurd h2 (g.f3 q).2.1
  have hps:m.path=m.serving:=by
   rcases Classical.em (m.path=m.serving) with q | q
   · exact q
   · exact absurd hsn (g.f4 q).1
  have htc:=g.tgt htn
  refine { g with phase:=by simp,since:=⟨?_,?_⟩,srv:=htc,tgt:=fun h=>absurd rfl h,src:=fun _=>g.srv,f1:=fun h=>absurd rfl h,f2:=fun _=>by simp,f3:=fun _=>by simp,f4:=fun _=>⟨?_,hps⟩,c1:=fun h=>absurd rfl h,c2:=fun _=>?_,due:=fun h=>by simp [ei] at h,opn:=fun i hi=>?_ }
  · show 0≤e.y; omega
  · show e.y≤m.at_; omega
  · show m.serving≠-1; omega
  · show nbr n m.serving m.target=true
    rw [wi]; exact g.c1 htn
  · rcases g.opn i hi with q | q | q
    · exact .inr (.inl q)
    · omega
    · exact .inl q.2
 ·
  have hph:m.phase=2∨(m.phase≠2∧m.phase=0∧m.source≠-1):=by
   rcases Classical.em (m.phase=2) with q | q
   · exact .inl q
   · right
     rcases Classical.em (m.phase=0) with q0 | q0
     · rcases Classical.em (m.source=-1) with qs | qs
       · rw [if_pos ⟨q,.inr qs⟩] at hd; cases hd
       · exact ⟨q,q0,qs⟩
     · rw [if_pos ⟨q,.inl q0⟩] at hd; cases hd
  have hdd:dP m (dV m)≠[]:=fun h=>by
   rw [if_neg (by rintro ⟨q1,q2⟩; rcases hph with p | ⟨_,p1,p2⟩ <;> rcases q2 with q2 | q2 <;> first | exact q1 p | exact q2 p1 | exact p2 q2),if_pos h] at hd
   cases hd
  have hft:isC n (dV m)=true∧isC n (toC m)=true∧dV m≠toC m∧(toC m=m.serving∨(ei m=true∧toC m=m.target)):=by
   rcases hph with p | ⟨p0,p1,p2⟩
   · have htn:m.target≠-1:=fun h=>(g.f2 h).2 p
     refine ⟨by rw [dV,if_pos p]; exact g.srv,by rw [toC,if_pos p]; exact g.tgt htn,?_,.inr ⟨by simp [ei,p],by rw [toC,if_pos p]⟩⟩
     rw [dV,toC,if_pos p,if_pos p]
     exact fun h=>hn.ne _ _ (g.c1 htn) h.symm
   · refine ⟨by rw [dV,if_neg p0]; exact g.src p2,by rw [toC,if_neg p0]; exact g.srv,?_,.inl (by rw [toC,if_neg p0])⟩
     rw [dV,toC,if_neg p0,if_neg p0]
     exact hn.ne _ _ (g.c2 p2)
  obtain ⟨hf,ht,hne,hto⟩:=hft
  have hfi:=g.ix hf
  have hti:=g.ix ht
  have hf0:=fR hf
  have ht0:=fR ht
  have hij:(toC m).toNat≠(dV m).toNat:=by omega
  obtain ⟨x,B,hxB⟩:∃ x B,dP m (dV m)=x :: B:=by
   cases hb:dP m (dV m) with
   | nil=>exact absurd hb hdd
   | cons x B=>exact ⟨x,B,rfl⟩
  rw [hxB]
  simp only [List.headD_cons,List.tail_cons]
  have hasc:(x :: B).Pairwise (· < ·):=by rw [← hxB]; exact g.asc_at _
  have hA:=ki (dP m (toC m)) x
  have e1:=fS m.buf _ hfi
  have e2:=fS (m.buf.set (dV m).toNat []) (toC m).toNat (by simpa using hti)
  rw [fy,if_neg (fun q=>hij q.1.symm)] at e2
  have hO:m.buf.flatten.Perm (x :: (B++(dP m (toC m)++((m.buf.set (dV m).toNat []).set (toC m).toNat []).flatten))):=by
   refine e1.trans ?_
   show ((dP m (dV m))++_).Perm _
   rw [hxB]
   exact (e2.append_left B).cons x
  have hF:((m.buf.set (toC m).toNat (fZ (dP m (toC m)) x)).set (dV m).toNat B).flatten.Perm m.buf.flatten:=by
   refine (jX _ _ _ (by simpa using hfi)).trans ?_
   rw [List.set_comm _ _ hij]
   refine ((jX (m.buf.set (dV m).toNat []) (toC m).toNat _ (by simpa using hti)).append_left B).trans ?_
   refine ((hA.append_right _).append_left B).trans (List.Perm.trans ?_ hO.symm)
   exact List.perm_middle
  have hputS:(fZ (dP m (toC m)) x).Pairwise (· < ·):=by
   refine p6 (kA _ _ (p5 (g.asc_at _))) (hA.nodup_iff.2 ?_)
   have h1:=hO.nodup_iff.1 g.nd
   rw [List.nodup_cons] at h1
   refine List.nodup_cons.2 ⟨fun q=>h1.1 (List.mem_append_right _ (List.mem_append_left _ q)),rJ (g.asc_at _)⟩
  refine { g with len:=by simpa using hlen,large:=by rw [hF.length_eq]; exact g.large,rng:=fun y hy=>g.rng y (hF.mem_iff.1 hy),asc:=ml (ml g.asc hputS) (List.pairwise_cons.1 hasc).2,nd:=hF.nodup_iff.2 g.nd,opn:=fun i hi2=>?_,gap:=fun y h1 h2=>hF.mem_iff.2 (g.gap y h1 h2) }
  have hi2':((m.buf.set (toC m).toNat (fZ (dP m (toC m)) x)).set (dV m).toNat B).getD i []≠[]:=hi2
  rw [fy] at hi2'
  split at hi2'
  · rename_i q
    refine g.opn i ?_
    show m.buf.getD i []≠[]
    rw [← q.1]
    exact fun h=>hdd h
  · rw [fy] at hi2'
    split at hi2'
    · rename_i q
      have hit:(i:Int)=toC m:=by omega
      rcases hto with h | ⟨h1,h2⟩
      · exact .inl (hit.trans h)
      · exact .inr (.inr ⟨h1,hit.trans h2⟩)
    · exact g.opn i hi2'
 ·
  exact { g with pth:=g.srv,f4:=fun h=>absurd rfl h }
 ·
  have h3:m.phase≠3:=fun q=>by rw [if_pos q] at hd; cases hd
  have hat2:=g.at_
  have hl:=hn.lim
  have hsi:=g.since
  refine { g with phase:=by simp,since:=?_,f1:=fun _=>by simp,f2:=fun _=>by simp,f3:=fun h=>⟨by simp,by simp,(g.f3 h).2.2⟩,due:=fun _=>?_,opn:=fun i hi=>?_ }
  · show 0≤(if m.phase=2 then m.since else e.y)∧(if m.phase=2 then m.since else e.y)≤m.at_
    split <;> omega
  · show m.at_ < (if m.phase=2 then m.since else e.y)+n.limit
    split
    · rename_i q
      exact g.due (by simp [ei,q])
    · omega
  · rcases g.opn i hi with q | q | q
    · exact .inl q
    · exact .inr (.inl q)
    · exact .inr (.inr ⟨by simp [ei],q.2⟩)
 · exact g
theorem dO.done {n:Nw} {m:Ms} {e:T3} (hn:NetOk n) (g:dO n m) (he:evE n e=0) (hat:e.y=m.at_) (hd:ez n m e=0):dO n (kb m e):=by
 unfold kb
 by_cases h:e.x=10
 · rw [if_pos h]
   have hc:isC n e.z=true:=by
    rw [evE,if_neg (by simp [h])] at he
    split at he
    · cases he
    · rw [if_pos (by simp [iM,h])] at he
      rcases Classical.em (isC n e.z=true) with q | q
      · exact q
      · rw [if_neg q] at he; cases he
   have:=g.at_
   have q:=g.conn (t:=e.y) (u:=m.at_) hc (by omega) (by omega)
   exact q
 · rw [if_neg h]
   exact (g.toG0.act hn he hat hd h).settle
theorem dO.apply {n:Nw} {m:Ms} {e:T3} (hn:NetOk n) (g:dO n m) (h:gh n m e=0):dO n (qI n m e):=by
 unfold gh at h
 have he:evE n e=0:=by
  rcases Classical.em (evE n e=0) with q | q
  · exact q
  · rw [if_pos q] at h; exact h
 rw [if_neg (by simp [he]),qB] at h
 have hy:¬ e.y < m.at_:=fun q=>by rw [if_pos q] at h; cases h
 rw [if_neg hy] at h
 have ht:e.y≤1000000000:=by
  unfold evE at he
  split at he
  · cases he
  · split at he
    · cases he
    · rename_i q
      simp only [eL,Bool.not_eq_false,decide_eq_true_eq] at q
      exact q.2
 exact (g.pass hn (by omega) ht).done hn he rfl h
structure Ph where
 m:Ms
 recv:List Int
 stays:List T3
 out:Int
 longest:Int
def jK (l:List T3) (t:Int):List T3:=l.set (l.length - 1) ⟨(l.getD (l.length - 1) ⟨0,0,0⟩).x,(l.getD (l.length - 1) ⟨0,0,0⟩).y,t⟩
def chg (l:List T3) (a b t:Int):List T3:=if a=b then l else jK l t++[⟨b,t,0⟩]
def kV (out longest t:Int):Int:=if out=-1 then longest else max longest (t - out)
def kn (p:Ph) (c t:Int):Ph:={ p with m:={ p.m with serving:=c },stays:=chg p.stays p.m.serving c t }
def kW (p:Ph) (t:Int):Ph:={ p with out:=-1,longest:=kV p.out p.longest t }
def iR (p:Ph) (t:Int):Ph:={ p with out:=if p.out=-1 then t else p.out }
def lf (p:Ph) (c t:Int):Ph:={ m:=iO p.m c t,recv:=p.recv,stays:=chg p.stays p.m.serving c t,out:=-1,longest:=kV p.out p.longest t }
def eO (n:Nw) (p:Ph) (t:Int):Ph:=if jI n p.m t=true then lf p 0 (p.m.since+n.limit) else p
def doP (p:Ph) (e:T3):Ph:=
 if e.x=10 then lf p e.z e.y
 else { m:=settle (eJ p.m e),
        recv:=if e.x=1∧(dP p.m p.m.serving).headD 0=p.m.got then p.recv++[p.m.got] else p.recv,
        stays:=if e.x=6 then chg p.stays p.m.serving p.m.target e.y else p.stays,
        out:=if e.x=5∨e.x=9 then (if p.out=-1 then e.y else p.out) else if e.x=6 then -1 else p.out,
        longest:=if e.x=6 then kV p.out p.longest e.y else p.longest }
def atP (p:Ph) (t:Int):Ph:={ p with m:={ p.m with at_:=t } }
def kK (n:Nw) (p:Ph) (e:T3):Ph:=atP (doP (eO n p e.y) e) e.y
def gy (n:Nw) (c:Int):Ph:=⟨eQ n c,[],[⟨c,0,0⟩],-1,0⟩
def finP (p:Ph):Ph:={ p with stays:=jK p.stays p.m.at_,out:=-1,longest:=kV p.out p.longest p.m.at_ }
theorem tP (m:Ms) (t:Int):{ settle m with at_:=t }=settle { m with at_:=t }:=by
 unfold settle
 have h:fT { m with at_:=t }=fT m:=rfl
 rw [h]
 split <;> rfl
theorem at_act (m:Ms) (e:T3) (t:Int):{ eJ m e with at_:=t }=eJ { m with at_:=t } e:=by
 have key:∀ (p q:Prop) [Decidable p] (a b a' b':Ms),{ a with at_:=t }=a'→{ b with at_:=t }=b'→{ (if p then a else b) with at_:=t }=(if p then a' else b'):=by
  intro p q _ a b a' b' h1 h2
  split
  · exact h1
  · exact h2
 unfold eJ
 repeat' (first | refine key _ True _ _ _ _ ?_ ?_ | rfl)
theorem at_conn (m:Ms) (c u t:Int):{ iO m c u with at_:=t }=iO { m with at_:=t } c u:=rfl
theorem at_done (m:Ms) (e:T3) (t:Int):{ kb m e with at_:=t }=kb { m with at_:=t } e:=by
 unfold kb
 split
 · exact at_conn m _ _ t
 · rw [tP,at_act]
theorem doP_m (p:Ph) (e:T3):(doP p e).m=kb p.m e:=by
 unfold doP kb
 split <;> rfl
theorem pm (n:Nw) (p:Ph) (t:Int):(eO n p t).m=qu n p.m t:=by
 unfold eO qu
 split <;> rfl
theorem qH (n:Nw) (p:Ph) (e:T3):(kK n p e).m=qI n p.m e:=by
 show { (doP (eO n p e.y) e).m with at_:=e.y }=_
 rw [doP_m,pm,at_done]; rfl
end Go.Proofs.YtcbabnbiinkafaaGreatDoor
end
