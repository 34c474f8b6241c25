/- Part 12 of the proof of: the statements about chapter 8 -/
import Derived.Test.YtcbabnbiinkafaaGreatDoorBu11
set_option linter.all false
set_option maxHeartbeats 8000000
set_option maxRecDepth 100000
section
open Go Go.Am
open Go.Am.Dat (cells)
namespace Go.Proofs.YtcbabnbiinkafaaGreatDoor
theorem begin_c (n:Nw) (c:Int) (hn:NwS n):FC Tryz.prog 107 [enc n,enc c] [] (.ptr 11 0) (phY n (gk n c) 11 18):=by
 have hb:=hn.c;have hdn:=jd n;refine dD [18] D3.is107 (by simp) (by simp[bn]) (by simp[ap,ag]) (by simp[phY,ap,ag,av]) (by simp[phY,aC,lk]) (fun cx _ hl _=>dC [] 1000 ?_);have hr:((List.replicate n.cells.length [C.s (.slice none 0 0)]).map fun _=>([]:List (List C)))=fB (n.cells.map fun _=>[]):=by
  rw[List.map_replicate,fB,zT];show List.replicate _ _=n.cells.map fun _=>[]
  exact List.map_const'.symm
 obtain⟨cs,nb,lim⟩:=n;simp only at hb hr;delta D3.c107 oO oN oA oM oF oL oW oX o0 o3 oZ o4 o5 o6 o7;simp only[D3.rv107,eO,InR,WU,V,W3,seval];refine⟨by omega,?_⟩;refine fE (dW.deepen (kk:=18) (isz:=1) (ity:=3) (ty:=24) (es:=List.replicate cs.length [C.s (.slice none 0 0)]) rfl (fun e he=>List.eq_of_mem_replicate he)) ?_;rw[cB,hr];refine tc 13 11 13 (c0:=.row 1 3 []) (by decide) (by decide) rfl (by simp[ae,af,lk];rfl) rfl ?_;refine qB 11 13 13 (n:=1) (ty:=3) (es:=[]) (by simp[nO,ae,af,lk,am,ah];rfl) rfl rfl (by decide) ?_;refine qB 11 14 9 (n:=3) (ty:=138) (es:=[[.s (.int .i64 c),.s (.int .i64 0),.s (.int .i64 0)]]) (by simp[absS,nO,ae,af,lk,am,ah];rfl) rfl rfl (by decide) ?_;refine iI (dC [] 500 ?_);delta D3.c107k1 oM oX;simp only[D3.rv107,absS,nO,phY,phC,gk,eM,Dat.cells,WU,V,W3,seval]
end Go.Proofs.YtcbabnbiinkafaaGreatDoor
end
