/- Part 13 of the proof of: the statements about chapter 8 -/
import Derived.Test.YtcbabnbiinkafaaGreatDoorBq12
set_option linter.all false
section
open Go Go.Am
open Go.Am.Dat (cells)
namespace Go.Proofs.YtcbabnbiinkafaaGreatDoor
set_option maxHeartbeats 4000000
set_option maxRecDepth 100000
theorem begin_c (n:Nw) (c:Int) (hn:NwS n):FC Tryz.prog 107 [enc n,enc c] [] (.ptr 11 0) (phY n (gz n c) 11 18):=by
 have hb:=hn.c;have hdn:=gO n;refine dD [18] D3.is107 (by simp) (by simp[bk]) (by simp[an,ag]) (by simp[phY,an,ag,av]) (by simp[phY,aB,lk]) (fun cx _ hl _=>dC [] 1000 ?_);have hr:((List.replicate n.cells.length [C.s (.slice none 0 0)]).map fun _=>([]:List (List C)))=fP (n.cells.map fun _=>[]):=by
  rw[List.map_replicate,fP,zT];show List.replicate _ _=n.cells.map fun _=>[]
  exact List.map_const'.symm
 obtain⟨cs,nb,lim⟩:=n;simp only at hb hr;delta D3.c107 oO oN oA oM oF oL oW oX o0 o3 oZ o4 o5 o6 o7;simp (maxSteps:=9^7) -implicitDefEqProofs only[D3.rv107,ed,InR,WU,Ent.of0,Ent.of1,Ent.of2,Ent.of3,Ent.of4,V,W3,↓reduceIte,seval,reduceCtorEq];refine⟨by omega,?_⟩;refine fE (dX.deepen (kk:=18) (isz:=1) (ity:=3) (ty:=24) (es:=List.replicate cs.length [C.s (.slice none 0 0)]) rfl (fun e he=>List.eq_of_mem_replicate he)) ?_;rw[cC,hr];refine ud 13 11 13 (c0:=.row 1 3 []) (by decide) (by decide) rfl (by simp[ae,af,lk];rfl) rfl ?_;refine qZ 11 13 13 (n:=1) (ty:=3) (es:=[]) (by simp[oy,ae,af,lk,am,ah];rfl) rfl rfl (by decide) ?_;refine qZ 11 14 9 (n:=3) (ty:=138) (es:=[[.s (.int .i64 c),.s (.int .i64 0),.s (.int .i64 0)]]) (by simp[absS,oy,ae,af,lk,am,ah];rfl) rfl rfl (by decide) ?_;refine iw (dC [] 500 ?_);delta D3.c107k1 oM oX;simp (maxSteps:=9^7) -implicitDefEqProofs only[D3.rv107,absS,oy,phY,phC,gz,eR,Dat.cells,WU,Ent.of0,Ent.of1,Ent.of2,Ent.of3,Ent.of4,V,W3,↓reduceIte,seval,reduceCtorEq]
end Go.Proofs.YtcbabnbiinkafaaGreatDoor
end
